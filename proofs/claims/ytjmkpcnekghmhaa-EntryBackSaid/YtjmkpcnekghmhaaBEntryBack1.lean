/- Words, plain functions and contracts of the functions that the law of this claim reaches; no conditions. -/
import Derived.Test.YtjmkpcnekghmhaaBEntryBack0
import Derived.Test.YtjmkpcnekghmhaaProg
import Derived.Lib.SliceRun
import Derived.Lib.AppendZerosOnto
import Derived.Deep.DeepAppendWide
import Derived.ScopeJumps
import Derived.WalkMore
section
namespace Go.Proofs.Ytjmkpcnekghmhaa.PAll
open Go.RowKit Go.Proofs.YtjmkpcnekghmhaaW.PrintWords Go.Proofs.YtjmkpcnekghmhaaW.PrintLast Go.Proofs.YtjmkpcnekghmhaaW.PrintMore
attribute [local go_sem] max2_int min2_int max_two min_two max_three min_three max_four min_four   -- for this text's walks alone
set_option linter.unusedVariables false
set_option linter.unusedSimpArgs false



def errW : Option Int → Value
  | none => .nilIface
  | some c => .iface 0 (.int .i64 c)
theorem errW_none : errW none = .nilIface := rfl
theorem errW_some (c : Int) : errW (some c) = .iface 0 (.int .i64 c) := rfl

theorem goesV_ {P : Program} {ops : Array Oper} {Q : Exit → Act → World → Prop} {oi : Oper} {N : Option Tmp} {a : Act} {w : World} {K : Act → World → Prop} {f : FuncId} {fn : Func} {c : Operand} {as_ : Array Operand} {ts : Array TypeId} (hf : P.funcs[f]? = some fn) (hname : (fn.name == "runtime.NumGoroutine") = false) (hb : fn.body.isSome = true) (args : Array Value)
    (hw : Region.wanted oi (yielded ops a.tmps) = true) (hN : oi.dst = N) (hop : oi.op = .call { callee := .value c, args := as_, argTypes := ts }) (hargs : as_.map a.eval = args)
    (hc : a.eval c = .func (.func f) #[] #[])
    (h : Calls P f args w fun e w' => ∃ v, e = .returned v ∧ K (a.put N v) w') : if Region.wanted oi (yielded ops a.tmps) = true then Oper.wp P oi a w K Q else K (a.put N undef) w := by
  refine call_ f args hw hN ?_ h
  have he := enters_ hf hname hb args w
  unfold execOp
  simp [hop, resolve, Deferred.ofValue, invoke, hc, hargs, he]
theorem info3 : (Try.prog.info? 3).map (fun i => (i.zero, i.size, i.bytes)) = some (some (.int .i64 0), 1, 8) := by kernel_rfl
theorem info5 : (Try.prog.info? 5).map (fun i => (i.zero, i.size, i.bytes)) = some (some (.int .u8 0), 1, 1) := by kernel_rfl
theorem info87 : (Try.prog.info? 87).map (fun i => (i.zero, i.size, i.bytes)) = some (some (.agg #[(.int .i64 0), (.int .i64 0)]), 2, 16) := by kernel_rfl
-- the values' own types
def rd_L1 (xs : List (List Int)) (i : Int) : (List Int) := xs.getD i.toNat ([] : List Int)
theorem at_L1 {w : World} {A : Option Addr} {n : Nat} {xs : List (List Int)} (h : Kd.C (Kd.slice 5 (Kd.int .u8)) w A n xs) (i : Int) (h0 : 0 ≤ i) (h1 : i < n) : ∃ ad A0 c0, A = some ad ∧ w.cell? (ad.add i.toNat) = some (.slice A0 (rd_L1 xs i).length c0) ∧ (rd_L1 xs i).length ≤ c0 ∧ (Kd.int .u8).C w A0 (rd_L1 xs i).length (rd_L1 xs i) := by
  obtain ⟨ad, c, e, _, hK, hc0⟩ := Kd.C_get h ([] : List Int) i h0 h1
  have hc : ∀ j u, c[j]? = some u → w.cell? (ad.add (i.toNat * 1 + j)) = some u := hc0
  obtain ⟨A0, c0, rfl, l0, g0⟩ := hK
  exact ⟨ad, A0, c0, e, by have hq := hc 0 _ rfl; rwa [Nat.mul_one, Nat.add_zero] at hq, l0, g0⟩

/-! #### struct type 34 -/
structure S34 where
  f0 : Bool
  f1 : Int
def z34 : S34 := ⟨false, (0 : Int)⟩
def k34 : Kd S34 := Kd.iso (Kd.pair Kd.bool (Kd.int .i64)) (fun x : S34 => (x.f0, x.f1))
theorem k34_heap : Kd.Heap k34 := Kd.heap_iso _ (Kd.heap_pair Kd.heap_bool (Kd.heap_int .i64))
theorem k34_open {w : World} {x : S34} {cs : List Value} (h : k34.K w x cs) : cs = [.bool x.f0, .int .i64 x.f1] := by
  obtain ⟨_, _, rfl, rfl, rfl⟩ := h
  exact rfl
theorem k34_openM {w : World} {base : Nat} {ok : Nat → Prop} {x : S34} {cs : List Value} (h : k34.M w base ok x cs) : cs = [.bool x.f0, .int .i64 x.f1] := by
  obtain ⟨_, _, rfl, rfl, rfl⟩ := h
  exact rfl
theorem k34_mk (w : World) (x : S34)  : k34.K w x [.bool x.f0, .int .i64 x.f1] := ⟨[.bool x.f0], [.int .i64 x.f1], rfl, rfl, rfl⟩
theorem k34_mkM (w : World) (base : Nat) (ok : Nat → Prop) (x : S34)  : k34.M w base ok x [.bool x.f0, .int .i64 x.f1] := ⟨[.bool x.f0], [.int .i64 x.f1], rfl, rfl, rfl⟩
theorem k34_mkF (W : World) (ok : Nat → Prop) (x : S34) : Kd.FK k34 W ok x [.bool x.f0, .int .i64 x.f1] := fun W2 _ => k34_mk W2 x
def rd_T34 (xs : List S34) (i : Int) : S34 := xs.getD i.toNat z34
theorem at_T34 {w : World} {A : Option Addr} {n : Nat} {xs : List S34} (h : Kd.C k34 w A n xs) (i : Int) (h0 : 0 ≤ i) (h1 : i < n) : ∃ ad , A = some ad ∧ w.cell? (ad.add (i.toNat * 2)) = some (.bool (rd_T34 xs i).f0) ∧ w.cell? ⟨(ad.add (i.toNat * 2)).block, (ad.add (i.toNat * 2)).off + 1, none⟩ = some (.int .i64 (rd_T34 xs i).f1) := by
  obtain ⟨ad, c, e, _, hK, hc0⟩ := Kd.C_get h z34 i h0 h1
  have hc : ∀ j u, c[j]? = some u → w.cell? (ad.add (i.toNat * 2 + j)) = some u := hc0
  obtain rfl := k34_open hK
  exact ⟨ad, e, hc 0 _ rfl, by rw [← add_field _ _ 1 (by omega)]; exact hc 1 _ rfl⟩

def rd_L6 (xs : List (List S34)) (i : Int) : (List S34) := xs.getD i.toNat ([] : List S34)
theorem at_L6 {w : World} {A : Option Addr} {n : Nat} {xs : List (List S34)} (h : Kd.C (Kd.slice 34 k34) w A n xs) (i : Int) (h0 : 0 ≤ i) (h1 : i < n) : ∃ ad A0 c0, A = some ad ∧ w.cell? (ad.add i.toNat) = some (.slice A0 (rd_L6 xs i).length c0) ∧ (rd_L6 xs i).length ≤ c0 ∧ k34.C w A0 (rd_L6 xs i).length (rd_L6 xs i) := by
  obtain ⟨ad, c, e, _, hK, hc0⟩ := Kd.C_get h ([] : List S34) i h0 h1
  have hc : ∀ j u, c[j]? = some u → w.cell? (ad.add (i.toNat * 1 + j)) = some u := hc0
  obtain ⟨A0, c0, rfl, l0, g0⟩ := hK
  exact ⟨ad, A0, c0, e, by have hq := hc 0 _ rfl; rwa [Nat.mul_one, Nat.add_zero] at hq, l0, g0⟩

def rd_L7 (xs : List (List Int)) (i : Int) : (List Int) := xs.getD i.toNat ([] : List Int)
theorem at_L7 {w : World} {A : Option Addr} {n : Nat} {xs : List (List Int)} (h : Kd.C (Kd.slice 3 (Kd.int .i64)) w A n xs) (i : Int) (h0 : 0 ≤ i) (h1 : i < n) : ∃ ad A0 c0, A = some ad ∧ w.cell? (ad.add i.toNat) = some (.slice A0 (rd_L7 xs i).length c0) ∧ (rd_L7 xs i).length ≤ c0 ∧ (Kd.int .i64).C w A0 (rd_L7 xs i).length (rd_L7 xs i) := by
  obtain ⟨ad, c, e, _, hK, hc0⟩ := Kd.C_get h ([] : List Int) i h0 h1
  have hc : ∀ j u, c[j]? = some u → w.cell? (ad.add (i.toNat * 1 + j)) = some u := hc0
  obtain ⟨A0, c0, rfl, l0, g0⟩ := hK
  exact ⟨ad, A0, c0, e, by have hq := hc 0 _ rfl; rwa [Nat.mul_one, Nat.add_zero] at hq, l0, g0⟩

def rd_L8 (xs : List (List ByteArray)) (i : Int) : (List ByteArray) := xs.getD i.toNat ([] : List ByteArray)
theorem at_L8 {w : World} {A : Option Addr} {n : Nat} {xs : List (List ByteArray)} (h : Kd.C (Kd.slice 9 Kd.string) w A n xs) (i : Int) (h0 : 0 ≤ i) (h1 : i < n) : ∃ ad A0 c0, A = some ad ∧ w.cell? (ad.add i.toNat) = some (.slice A0 (rd_L8 xs i).length c0) ∧ (rd_L8 xs i).length ≤ c0 ∧ Kd.string.C w A0 (rd_L8 xs i).length (rd_L8 xs i) := by
  obtain ⟨ad, c, e, _, hK, hc0⟩ := Kd.C_get h ([] : List ByteArray) i h0 h1
  have hc : ∀ j u, c[j]? = some u → w.cell? (ad.add (i.toNat * 1 + j)) = some u := hc0
  obtain ⟨A0, c0, rfl, l0, g0⟩ := hK
  exact ⟨ad, A0, c0, e, by have hq := hc 0 _ rfl; rwa [Nat.mul_one, Nat.add_zero] at hq, l0, g0⟩

/-! #### struct type 87 -/
structure S87 where
  f0 : Int
  f1 : Int
def z87 : S87 := ⟨(0 : Int), (0 : Int)⟩
def k87 : Kd S87 := Kd.iso (Kd.pair (Kd.int .i64) (Kd.int .i64)) (fun x : S87 => (x.f0, x.f1))
theorem k87_heap : Kd.Heap k87 := Kd.heap_iso _ (Kd.heap_pair (Kd.heap_int .i64) (Kd.heap_int .i64))
theorem k87_open {w : World} {x : S87} {cs : List Value} (h : k87.K w x cs) : cs = [.int .i64 x.f0, .int .i64 x.f1] := by
  obtain ⟨_, _, rfl, rfl, rfl⟩ := h
  exact rfl
theorem k87_openM {w : World} {base : Nat} {ok : Nat → Prop} {x : S87} {cs : List Value} (h : k87.M w base ok x cs) : cs = [.int .i64 x.f0, .int .i64 x.f1] := by
  obtain ⟨_, _, rfl, rfl, rfl⟩ := h
  exact rfl
theorem k87_mk (w : World) (x : S87)  : k87.K w x [.int .i64 x.f0, .int .i64 x.f1] := ⟨[.int .i64 x.f0], [.int .i64 x.f1], rfl, rfl, rfl⟩
theorem k87_mkM (w : World) (base : Nat) (ok : Nat → Prop) (x : S87)  : k87.M w base ok x [.int .i64 x.f0, .int .i64 x.f1] := ⟨[.int .i64 x.f0], [.int .i64 x.f1], rfl, rfl, rfl⟩
theorem k87_mkF (W : World) (ok : Nat → Prop) (x : S87) : Kd.FK k87 W ok x [.int .i64 x.f0, .int .i64 x.f1] := fun W2 _ => k87_mk W2 x
def rd_T87 (xs : List S87) (i : Int) : S87 := xs.getD i.toNat z87
theorem at_T87 {w : World} {A : Option Addr} {n : Nat} {xs : List S87} (h : Kd.C k87 w A n xs) (i : Int) (h0 : 0 ≤ i) (h1 : i < n) : ∃ ad , A = some ad ∧ w.cell? (ad.add (i.toNat * 2)) = some (.int .i64 (rd_T87 xs i).f0) ∧ w.cell? ⟨(ad.add (i.toNat * 2)).block, (ad.add (i.toNat * 2)).off + 1, none⟩ = some (.int .i64 (rd_T87 xs i).f1) := by
  obtain ⟨ad, c, e, _, hK, hc0⟩ := Kd.C_get h z87 i h0 h1
  have hc : ∀ j u, c[j]? = some u → w.cell? (ad.add (i.toNat * 2 + j)) = some u := hc0
  obtain rfl := k87_open hK
  exact ⟨ad, e, hc 0 _ rfl, by rw [← add_field _ _ 1 (by omega)]; exact hc 1 _ rfl⟩

def rd_L11 (xs : List (List S87)) (i : Int) : (List S87) := xs.getD i.toNat ([] : List S87)
theorem at_L11 {w : World} {A : Option Addr} {n : Nat} {xs : List (List S87)} (h : Kd.C (Kd.slice 87 k87) w A n xs) (i : Int) (h0 : 0 ≤ i) (h1 : i < n) : ∃ ad A0 c0, A = some ad ∧ w.cell? (ad.add i.toNat) = some (.slice A0 (rd_L11 xs i).length c0) ∧ (rd_L11 xs i).length ≤ c0 ∧ k87.C w A0 (rd_L11 xs i).length (rd_L11 xs i) := by
  obtain ⟨ad, c, e, _, hK, hc0⟩ := Kd.C_get h ([] : List S87) i h0 h1
  have hc : ∀ j u, c[j]? = some u → w.cell? (ad.add (i.toNat * 1 + j)) = some u := hc0
  obtain ⟨A0, c0, rfl, l0, g0⟩ := hK
  exact ⟨ad, A0, c0, e, by have hq := hc 0 _ rfl; rwa [Nat.mul_one, Nat.add_zero] at hq, l0, g0⟩

/-! #### struct type 50 -/
structure S50 where
  f0 : Int
  f1 : Int
  f2 : Int
  f3 : ByteArray
  f4 : ByteArray
  f5 : (List Int)
  f6 : (List S87)
def z50 : S50 := ⟨(0 : Int), (0 : Int), (0 : Int), (⟨#[]⟩ : ByteArray), (⟨#[]⟩ : ByteArray), ([] : List Int), ([] : List S87)⟩
def k50 : Kd S50 := Kd.iso (Kd.pair (Kd.int .i64) (Kd.pair (Kd.int .i64) (Kd.pair (Kd.int .i64) (Kd.pair Kd.string (Kd.pair Kd.string (Kd.pair (Kd.slice 3 (Kd.int .i64)) (Kd.slice 87 k87))))))) (fun x : S50 => (x.f0, x.f1, x.f2, x.f3, x.f4, x.f5, x.f6))
theorem k50_heap : Kd.Heap k50 := Kd.heap_iso _ (Kd.heap_pair (Kd.heap_int .i64) (Kd.heap_pair (Kd.heap_int .i64) (Kd.heap_pair (Kd.heap_int .i64) (Kd.heap_pair Kd.heap_string (Kd.heap_pair Kd.heap_string (Kd.heap_pair (Kd.heap_slice 3 (Kd.heap_int .i64)) (Kd.heap_slice 87 k87_heap)))))))
theorem k50_open {w : World} {x : S50} {cs : List Value} (h : k50.K w x cs) : ∃ A5 c5 A6 c6, cs = [.int .i64 x.f0, .int .i64 x.f1, .int .i64 x.f2, .string x.f3, .string x.f4, .slice A5 x.f5.length c5, .slice A6 x.f6.length c6] ∧ x.f5.length ≤ c5 ∧ (Kd.int .i64).C w A5 x.f5.length x.f5 ∧ x.f6.length ≤ c6 ∧ k87.C w A6 x.f6.length x.f6 := by
  obtain ⟨_, _, rfl, rfl, ⟨_, _, rfl, rfl, ⟨_, _, rfl, rfl, ⟨_, _, rfl, rfl, ⟨_, _, rfl, rfl, ⟨_, _, rfl, ⟨A5, c5, rfl, l5, g5⟩, ⟨A6, c6, rfl, l6, g6⟩⟩⟩⟩⟩⟩⟩ := h
  exact ⟨A5, c5, A6, c6, rfl, l5, g5, l6, g6⟩
theorem k50_openM {w : World} {base : Nat} {ok : Nat → Prop} {x : S50} {cs : List Value} (h : k50.M w base ok x cs) : ∃ v5 v6, cs = [.int .i64 x.f0, .int .i64 x.f1, .int .i64 x.f2, .string x.f3, .string x.f4, v5, v6] ∧ (Kd.int .i64).R 3 w base ok v5 x.f5 ∧ k87.R 87 w base ok v6 x.f6 := by
  obtain ⟨_, _, rfl, rfl, ⟨_, _, rfl, rfl, ⟨_, _, rfl, rfl, ⟨_, _, rfl, rfl, ⟨_, _, rfl, rfl, ⟨_, _, rfl, ⟨v5, rfl, g5⟩, ⟨v6, rfl, g6⟩⟩⟩⟩⟩⟩⟩ := h
  exact ⟨v5, v6, rfl, g5, g6⟩
theorem k50_mk (w : World) (x : S50) {A5 : Option Addr} {c5 : Nat} (l5 : x.f5.length ≤ c5) (g5 : (Kd.int .i64).C w A5 x.f5.length x.f5) {A6 : Option Addr} {c6 : Nat} (l6 : x.f6.length ≤ c6) (g6 : k87.C w A6 x.f6.length x.f6) : k50.K w x [.int .i64 x.f0, .int .i64 x.f1, .int .i64 x.f2, .string x.f3, .string x.f4, .slice A5 x.f5.length c5, .slice A6 x.f6.length c6] := ⟨[.int .i64 x.f0], [.int .i64 x.f1, .int .i64 x.f2, .string x.f3, .string x.f4, .slice A5 x.f5.length c5, .slice A6 x.f6.length c6], rfl, rfl, ⟨[.int .i64 x.f1], [.int .i64 x.f2, .string x.f3, .string x.f4, .slice A5 x.f5.length c5, .slice A6 x.f6.length c6], rfl, rfl, ⟨[.int .i64 x.f2], [.string x.f3, .string x.f4, .slice A5 x.f5.length c5, .slice A6 x.f6.length c6], rfl, rfl, ⟨[.string x.f3], [.string x.f4, .slice A5 x.f5.length c5, .slice A6 x.f6.length c6], rfl, rfl, ⟨[.string x.f4], [.slice A5 x.f5.length c5, .slice A6 x.f6.length c6], rfl, rfl, ⟨[.slice A5 x.f5.length c5], [.slice A6 x.f6.length c6], rfl, ⟨A5, c5, rfl, l5, g5⟩, ⟨A6, c6, rfl, l6, g6⟩⟩⟩⟩⟩⟩⟩
theorem k50_mkM (w : World) (base : Nat) (ok : Nat → Prop) (x : S50) {v5 : Value} (g5 : (Kd.int .i64).R 3 w base ok v5 x.f5) {v6 : Value} (g6 : k87.R 87 w base ok v6 x.f6) : k50.M w base ok x [.int .i64 x.f0, .int .i64 x.f1, .int .i64 x.f2, .string x.f3, .string x.f4, v5, v6] := ⟨[.int .i64 x.f0], [.int .i64 x.f1, .int .i64 x.f2, .string x.f3, .string x.f4, v5, v6], rfl, rfl, ⟨[.int .i64 x.f1], [.int .i64 x.f2, .string x.f3, .string x.f4, v5, v6], rfl, rfl, ⟨[.int .i64 x.f2], [.string x.f3, .string x.f4, v5, v6], rfl, rfl, ⟨[.string x.f3], [.string x.f4, v5, v6], rfl, rfl, ⟨[.string x.f4], [v5, v6], rfl, rfl, ⟨[v5], [v6], rfl, ⟨v5, rfl, g5⟩, ⟨v6, rfl, g6⟩⟩⟩⟩⟩⟩⟩
theorem k50_openF {W : World} {ok : Nat → Prop} {x : S50} {cs : List Value} (h : Kd.FK k50 W ok x cs) : ∃ A5 c5 A6 c6, cs = [.int .i64 x.f0, .int .i64 x.f1, .int .i64 x.f2, .string x.f3, .string x.f4, .slice A5 x.f5.length c5, .slice A6 x.f6.length c6] ∧ x.f5.length ≤ c5 ∧ Kd.F (Kd.int .i64) W ok A5 x.f5.length x.f5 ∧ x.f6.length ≤ c6 ∧ Kd.F k87 W ok A6 x.f6.length x.f6 := by
  obtain ⟨A5, c5, A6, c6, rfl, l5, _, l6, _⟩ := k50_open (Kd.FK_now h)
  exact ⟨A5, c5, A6, c6, rfl, l5, (fun W' hW => by obtain ⟨A5_, c5_, A6_, c6_, he, l5_, g5_, l6_, g6_⟩ := k50_open (h W' hW); injection (Option.some.inj (show some (Value.slice A5 x.f5.length c5) = some (Value.slice A5_ x.f5.length c5_) from congrArg (fun l => l[5]?) he)) with ha_ _ _; rw [ha_]; exact g5_), l6, (fun W' hW => by obtain ⟨A5_, c5_, A6_, c6_, he, l5_, g5_, l6_, g6_⟩ := k50_open (h W' hW); injection (Option.some.inj (show some (Value.slice A6 x.f6.length c6) = some (Value.slice A6_ x.f6.length c6_) from congrArg (fun l => l[6]?) he)) with ha_ _ _; rw [ha_]; exact g6_)⟩
theorem k50_mkF (W : World) (ok : Nat → Prop) (x : S50) {A5 : Option Addr} {c5 : Nat} (l5 : x.f5.length ≤ c5) (g5 : Kd.F (Kd.int .i64) W ok A5 x.f5.length x.f5) {A6 : Option Addr} {c6 : Nat} (l6 : x.f6.length ≤ c6) (g6 : Kd.F k87 W ok A6 x.f6.length x.f6) : Kd.FK k50 W ok x [.int .i64 x.f0, .int .i64 x.f1, .int .i64 x.f2, .string x.f3, .string x.f4, .slice A5 x.f5.length c5, .slice A6 x.f6.length c6] := fun W2 hW => k50_mk W2 x l5 (g5 W2 hW) l6 (g6 W2 hW)
def rd_T50 (xs : List S50) (i : Int) : S50 := xs.getD i.toNat z50
theorem at_T50 {w : World} {A : Option Addr} {n : Nat} {xs : List S50} (h : Kd.C k50 w A n xs) (i : Int) (h0 : 0 ≤ i) (h1 : i < n) : ∃ ad A5 c5 A6 c6, A = some ad ∧ w.cell? (ad.add (i.toNat * 7)) = some (.int .i64 (rd_T50 xs i).f0) ∧ w.cell? ⟨(ad.add (i.toNat * 7)).block, (ad.add (i.toNat * 7)).off + 1, none⟩ = some (.int .i64 (rd_T50 xs i).f1) ∧ w.cell? ⟨(ad.add (i.toNat * 7)).block, (ad.add (i.toNat * 7)).off + 2, none⟩ = some (.int .i64 (rd_T50 xs i).f2) ∧ w.cell? ⟨(ad.add (i.toNat * 7)).block, (ad.add (i.toNat * 7)).off + 3, none⟩ = some (.string (rd_T50 xs i).f3) ∧ w.cell? ⟨(ad.add (i.toNat * 7)).block, (ad.add (i.toNat * 7)).off + 4, none⟩ = some (.string (rd_T50 xs i).f4) ∧ w.cell? ⟨(ad.add (i.toNat * 7)).block, (ad.add (i.toNat * 7)).off + 5, none⟩ = some (.slice A5 (rd_T50 xs i).f5.length c5) ∧ w.cell? ⟨(ad.add (i.toNat * 7)).block, (ad.add (i.toNat * 7)).off + 6, none⟩ = some (.slice A6 (rd_T50 xs i).f6.length c6) ∧ (rd_T50 xs i).f5.length ≤ c5 ∧ (Kd.int .i64).C w A5 (rd_T50 xs i).f5.length (rd_T50 xs i).f5 ∧ (rd_T50 xs i).f6.length ≤ c6 ∧ k87.C w A6 (rd_T50 xs i).f6.length (rd_T50 xs i).f6 := by
  obtain ⟨ad, c, e, _, hK, hc0⟩ := Kd.C_get h z50 i h0 h1
  have hc : ∀ j u, c[j]? = some u → w.cell? (ad.add (i.toNat * 7 + j)) = some u := hc0
  obtain ⟨A5, c5, A6, c6, rfl, l5, g5, l6, g6⟩ := k50_open hK
  exact ⟨ad, A5, c5, A6, c6, e, hc 0 _ rfl, by rw [← add_field _ _ 1 (by omega)]; exact hc 1 _ rfl, by rw [← add_field _ _ 2 (by omega)]; exact hc 2 _ rfl, by rw [← add_field _ _ 3 (by omega)]; exact hc 3 _ rfl, by rw [← add_field _ _ 4 (by omega)]; exact hc 4 _ rfl, by rw [← add_field _ _ 5 (by omega)]; exact hc 5 _ rfl, by rw [← add_field _ _ 6 (by omega)]; exact hc 6 _ rfl, l5, g5, l6, g6⟩

/-! #### struct type 102 -/
structure S102 where
  f0 : Int
  f1 : Int
def z102 : S102 := ⟨(0 : Int), (0 : Int)⟩
def k102 : Kd S102 := Kd.iso (Kd.pair (Kd.int .i64) (Kd.int .i64)) (fun x : S102 => (x.f0, x.f1))
theorem k102_heap : Kd.Heap k102 := Kd.heap_iso _ (Kd.heap_pair (Kd.heap_int .i64) (Kd.heap_int .i64))
theorem k102_open {w : World} {x : S102} {cs : List Value} (h : k102.K w x cs) : cs = [.int .i64 x.f0, .int .i64 x.f1] := by
  obtain ⟨_, _, rfl, rfl, rfl⟩ := h
  exact rfl
theorem k102_openM {w : World} {base : Nat} {ok : Nat → Prop} {x : S102} {cs : List Value} (h : k102.M w base ok x cs) : cs = [.int .i64 x.f0, .int .i64 x.f1] := by
  obtain ⟨_, _, rfl, rfl, rfl⟩ := h
  exact rfl
theorem k102_mk (w : World) (x : S102)  : k102.K w x [.int .i64 x.f0, .int .i64 x.f1] := ⟨[.int .i64 x.f0], [.int .i64 x.f1], rfl, rfl, rfl⟩
theorem k102_mkM (w : World) (base : Nat) (ok : Nat → Prop) (x : S102)  : k102.M w base ok x [.int .i64 x.f0, .int .i64 x.f1] := ⟨[.int .i64 x.f0], [.int .i64 x.f1], rfl, rfl, rfl⟩
theorem k102_mkF (W : World) (ok : Nat → Prop) (x : S102) : Kd.FK k102 W ok x [.int .i64 x.f0, .int .i64 x.f1] := fun W2 _ => k102_mk W2 x
def rd_T102 (xs : List S102) (i : Int) : S102 := xs.getD i.toNat z102
theorem at_T102 {w : World} {A : Option Addr} {n : Nat} {xs : List S102} (h : Kd.C k102 w A n xs) (i : Int) (h0 : 0 ≤ i) (h1 : i < n) : ∃ ad , A = some ad ∧ w.cell? (ad.add (i.toNat * 2)) = some (.int .i64 (rd_T102 xs i).f0) ∧ w.cell? ⟨(ad.add (i.toNat * 2)).block, (ad.add (i.toNat * 2)).off + 1, none⟩ = some (.int .i64 (rd_T102 xs i).f1) := by
  obtain ⟨ad, c, e, _, hK, hc0⟩ := Kd.C_get h z102 i h0 h1
  have hc : ∀ j u, c[j]? = some u → w.cell? (ad.add (i.toNat * 2 + j)) = some u := hc0
  obtain rfl := k102_open hK
  exact ⟨ad, e, hc 0 _ rfl, by rw [← add_field _ _ 1 (by omega)]; exact hc 1 _ rfl⟩

/-! #### struct type 93 -/
structure S93 where
  f0 : ByteArray
  f1 : Int
  f2 : Int
def z93 : S93 := ⟨(⟨#[]⟩ : ByteArray), (0 : Int), (0 : Int)⟩
def k93 : Kd S93 := Kd.iso (Kd.pair Kd.string (Kd.pair (Kd.int .i64) (Kd.int .i64))) (fun x : S93 => (x.f0, x.f1, x.f2))
theorem k93_heap : Kd.Heap k93 := Kd.heap_iso _ (Kd.heap_pair Kd.heap_string (Kd.heap_pair (Kd.heap_int .i64) (Kd.heap_int .i64)))
theorem k93_open {w : World} {x : S93} {cs : List Value} (h : k93.K w x cs) : cs = [.string x.f0, .int .i64 x.f1, .int .i64 x.f2] := by
  obtain ⟨_, _, rfl, rfl, ⟨_, _, rfl, rfl, rfl⟩⟩ := h
  exact rfl
theorem k93_openM {w : World} {base : Nat} {ok : Nat → Prop} {x : S93} {cs : List Value} (h : k93.M w base ok x cs) : cs = [.string x.f0, .int .i64 x.f1, .int .i64 x.f2] := by
  obtain ⟨_, _, rfl, rfl, ⟨_, _, rfl, rfl, rfl⟩⟩ := h
  exact rfl
theorem k93_mk (w : World) (x : S93)  : k93.K w x [.string x.f0, .int .i64 x.f1, .int .i64 x.f2] := ⟨[.string x.f0], [.int .i64 x.f1, .int .i64 x.f2], rfl, rfl, ⟨[.int .i64 x.f1], [.int .i64 x.f2], rfl, rfl, rfl⟩⟩
theorem k93_mkM (w : World) (base : Nat) (ok : Nat → Prop) (x : S93)  : k93.M w base ok x [.string x.f0, .int .i64 x.f1, .int .i64 x.f2] := ⟨[.string x.f0], [.int .i64 x.f1, .int .i64 x.f2], rfl, rfl, ⟨[.int .i64 x.f1], [.int .i64 x.f2], rfl, rfl, rfl⟩⟩
theorem k93_mkF (W : World) (ok : Nat → Prop) (x : S93) : Kd.FK k93 W ok x [.string x.f0, .int .i64 x.f1, .int .i64 x.f2] := fun W2 _ => k93_mk W2 x
def rd_T93 (xs : List S93) (i : Int) : S93 := xs.getD i.toNat z93
theorem at_T93 {w : World} {A : Option Addr} {n : Nat} {xs : List S93} (h : Kd.C k93 w A n xs) (i : Int) (h0 : 0 ≤ i) (h1 : i < n) : ∃ ad , A = some ad ∧ w.cell? (ad.add (i.toNat * 3)) = some (.string (rd_T93 xs i).f0) ∧ w.cell? ⟨(ad.add (i.toNat * 3)).block, (ad.add (i.toNat * 3)).off + 1, none⟩ = some (.int .i64 (rd_T93 xs i).f1) ∧ w.cell? ⟨(ad.add (i.toNat * 3)).block, (ad.add (i.toNat * 3)).off + 2, none⟩ = some (.int .i64 (rd_T93 xs i).f2) := by
  obtain ⟨ad, c, e, _, hK, hc0⟩ := Kd.C_get h z93 i h0 h1
  have hc : ∀ j u, c[j]? = some u → w.cell? (ad.add (i.toNat * 3 + j)) = some u := hc0
  obtain rfl := k93_open hK
  exact ⟨ad, e, hc 0 _ rfl, by rw [← add_field _ _ 1 (by omega)]; exact hc 1 _ rfl, by rw [← add_field _ _ 2 (by omega)]; exact hc 2 _ rfl⟩

def rd_L15 (xs : List (List S102)) (i : Int) : (List S102) := xs.getD i.toNat ([] : List S102)
theorem at_L15 {w : World} {A : Option Addr} {n : Nat} {xs : List (List S102)} (h : Kd.C (Kd.slice 102 k102) w A n xs) (i : Int) (h0 : 0 ≤ i) (h1 : i < n) : ∃ ad A0 c0, A = some ad ∧ w.cell? (ad.add i.toNat) = some (.slice A0 (rd_L15 xs i).length c0) ∧ (rd_L15 xs i).length ≤ c0 ∧ k102.C w A0 (rd_L15 xs i).length (rd_L15 xs i) := by
  obtain ⟨ad, c, e, _, hK, hc0⟩ := Kd.C_get h ([] : List S102) i h0 h1
  have hc : ∀ j u, c[j]? = some u → w.cell? (ad.add (i.toNat * 1 + j)) = some u := hc0
  obtain ⟨A0, c0, rfl, l0, g0⟩ := hK
  exact ⟨ad, A0, c0, e, by have hq := hc 0 _ rfl; rwa [Nat.mul_one, Nat.add_zero] at hq, l0, g0⟩

/-! #### struct type 100 -/
structure S100 where
  f0 : Int
  f1 : Int
  f2 : Int
  f3 : Int
  f4 : Int
  f5 : Int
  f6 : Int
  f7 : Int
  f8 : Int
  f9 : Int
  f10 : Int
  f11 : (List S102)
def z100 : S100 := ⟨(0 : Int), (0 : Int), (0 : Int), (0 : Int), (0 : Int), (0 : Int), (0 : Int), (0 : Int), (0 : Int), (0 : Int), (0 : Int), ([] : List S102)⟩
def k100 : Kd S100 := Kd.iso (Kd.pair (Kd.int .i64) (Kd.pair (Kd.int .i64) (Kd.pair (Kd.int .i64) (Kd.pair (Kd.int .i64) (Kd.pair (Kd.int .i64) (Kd.pair (Kd.int .i64) (Kd.pair (Kd.int .i64) (Kd.pair (Kd.int .i64) (Kd.pair (Kd.int .i64) (Kd.pair (Kd.int .i64) (Kd.pair (Kd.int .i64) (Kd.slice 102 k102)))))))))))) (fun x : S100 => (x.f0, x.f1, x.f2, x.f3, x.f4, x.f5, x.f6, x.f7, x.f8, x.f9, x.f10, x.f11))
theorem k100_heap : Kd.Heap k100 := Kd.heap_iso _ (Kd.heap_pair (Kd.heap_int .i64) (Kd.heap_pair (Kd.heap_int .i64) (Kd.heap_pair (Kd.heap_int .i64) (Kd.heap_pair (Kd.heap_int .i64) (Kd.heap_pair (Kd.heap_int .i64) (Kd.heap_pair (Kd.heap_int .i64) (Kd.heap_pair (Kd.heap_int .i64) (Kd.heap_pair (Kd.heap_int .i64) (Kd.heap_pair (Kd.heap_int .i64) (Kd.heap_pair (Kd.heap_int .i64) (Kd.heap_pair (Kd.heap_int .i64) (Kd.heap_slice 102 k102_heap))))))))))))
theorem k100_open {w : World} {x : S100} {cs : List Value} (h : k100.K w x cs) : ∃ A11 c11, cs = [.int .i64 x.f0, .int .i64 x.f1, .int .i64 x.f2, .int .i64 x.f3, .int .i64 x.f4, .int .i64 x.f5, .int .i64 x.f6, .int .i64 x.f7, .int .i64 x.f8, .int .i64 x.f9, .int .i64 x.f10, .slice A11 x.f11.length c11] ∧ x.f11.length ≤ c11 ∧ k102.C w A11 x.f11.length x.f11 := by
  obtain ⟨_, _, rfl, rfl, ⟨_, _, rfl, rfl, ⟨_, _, rfl, rfl, ⟨_, _, rfl, rfl, ⟨_, _, rfl, rfl, ⟨_, _, rfl, rfl, ⟨_, _, rfl, rfl, ⟨_, _, rfl, rfl, ⟨_, _, rfl, rfl, ⟨_, _, rfl, rfl, ⟨_, _, rfl, rfl, ⟨A11, c11, rfl, l11, g11⟩⟩⟩⟩⟩⟩⟩⟩⟩⟩⟩⟩ := h
  exact ⟨A11, c11, rfl, l11, g11⟩
theorem k100_openM {w : World} {base : Nat} {ok : Nat → Prop} {x : S100} {cs : List Value} (h : k100.M w base ok x cs) : ∃ v11, cs = [.int .i64 x.f0, .int .i64 x.f1, .int .i64 x.f2, .int .i64 x.f3, .int .i64 x.f4, .int .i64 x.f5, .int .i64 x.f6, .int .i64 x.f7, .int .i64 x.f8, .int .i64 x.f9, .int .i64 x.f10, v11] ∧ k102.R 102 w base ok v11 x.f11 := by
  obtain ⟨_, _, rfl, rfl, ⟨_, _, rfl, rfl, ⟨_, _, rfl, rfl, ⟨_, _, rfl, rfl, ⟨_, _, rfl, rfl, ⟨_, _, rfl, rfl, ⟨_, _, rfl, rfl, ⟨_, _, rfl, rfl, ⟨_, _, rfl, rfl, ⟨_, _, rfl, rfl, ⟨_, _, rfl, rfl, ⟨v11, rfl, g11⟩⟩⟩⟩⟩⟩⟩⟩⟩⟩⟩⟩ := h
  exact ⟨v11, rfl, g11⟩
theorem k100_mk (w : World) (x : S100) {A11 : Option Addr} {c11 : Nat} (l11 : x.f11.length ≤ c11) (g11 : k102.C w A11 x.f11.length x.f11) : k100.K w x [.int .i64 x.f0, .int .i64 x.f1, .int .i64 x.f2, .int .i64 x.f3, .int .i64 x.f4, .int .i64 x.f5, .int .i64 x.f6, .int .i64 x.f7, .int .i64 x.f8, .int .i64 x.f9, .int .i64 x.f10, .slice A11 x.f11.length c11] := ⟨[.int .i64 x.f0], [.int .i64 x.f1, .int .i64 x.f2, .int .i64 x.f3, .int .i64 x.f4, .int .i64 x.f5, .int .i64 x.f6, .int .i64 x.f7, .int .i64 x.f8, .int .i64 x.f9, .int .i64 x.f10, .slice A11 x.f11.length c11], rfl, rfl, ⟨[.int .i64 x.f1], [.int .i64 x.f2, .int .i64 x.f3, .int .i64 x.f4, .int .i64 x.f5, .int .i64 x.f6, .int .i64 x.f7, .int .i64 x.f8, .int .i64 x.f9, .int .i64 x.f10, .slice A11 x.f11.length c11], rfl, rfl, ⟨[.int .i64 x.f2], [.int .i64 x.f3, .int .i64 x.f4, .int .i64 x.f5, .int .i64 x.f6, .int .i64 x.f7, .int .i64 x.f8, .int .i64 x.f9, .int .i64 x.f10, .slice A11 x.f11.length c11], rfl, rfl, ⟨[.int .i64 x.f3], [.int .i64 x.f4, .int .i64 x.f5, .int .i64 x.f6, .int .i64 x.f7, .int .i64 x.f8, .int .i64 x.f9, .int .i64 x.f10, .slice A11 x.f11.length c11], rfl, rfl, ⟨[.int .i64 x.f4], [.int .i64 x.f5, .int .i64 x.f6, .int .i64 x.f7, .int .i64 x.f8, .int .i64 x.f9, .int .i64 x.f10, .slice A11 x.f11.length c11], rfl, rfl, ⟨[.int .i64 x.f5], [.int .i64 x.f6, .int .i64 x.f7, .int .i64 x.f8, .int .i64 x.f9, .int .i64 x.f10, .slice A11 x.f11.length c11], rfl, rfl, ⟨[.int .i64 x.f6], [.int .i64 x.f7, .int .i64 x.f8, .int .i64 x.f9, .int .i64 x.f10, .slice A11 x.f11.length c11], rfl, rfl, ⟨[.int .i64 x.f7], [.int .i64 x.f8, .int .i64 x.f9, .int .i64 x.f10, .slice A11 x.f11.length c11], rfl, rfl, ⟨[.int .i64 x.f8], [.int .i64 x.f9, .int .i64 x.f10, .slice A11 x.f11.length c11], rfl, rfl, ⟨[.int .i64 x.f9], [.int .i64 x.f10, .slice A11 x.f11.length c11], rfl, rfl, ⟨[.int .i64 x.f10], [.slice A11 x.f11.length c11], rfl, rfl, ⟨A11, c11, rfl, l11, g11⟩⟩⟩⟩⟩⟩⟩⟩⟩⟩⟩⟩
theorem k100_mkM (w : World) (base : Nat) (ok : Nat → Prop) (x : S100) {v11 : Value} (g11 : k102.R 102 w base ok v11 x.f11) : k100.M w base ok x [.int .i64 x.f0, .int .i64 x.f1, .int .i64 x.f2, .int .i64 x.f3, .int .i64 x.f4, .int .i64 x.f5, .int .i64 x.f6, .int .i64 x.f7, .int .i64 x.f8, .int .i64 x.f9, .int .i64 x.f10, v11] := ⟨[.int .i64 x.f0], [.int .i64 x.f1, .int .i64 x.f2, .int .i64 x.f3, .int .i64 x.f4, .int .i64 x.f5, .int .i64 x.f6, .int .i64 x.f7, .int .i64 x.f8, .int .i64 x.f9, .int .i64 x.f10, v11], rfl, rfl, ⟨[.int .i64 x.f1], [.int .i64 x.f2, .int .i64 x.f3, .int .i64 x.f4, .int .i64 x.f5, .int .i64 x.f6, .int .i64 x.f7, .int .i64 x.f8, .int .i64 x.f9, .int .i64 x.f10, v11], rfl, rfl, ⟨[.int .i64 x.f2], [.int .i64 x.f3, .int .i64 x.f4, .int .i64 x.f5, .int .i64 x.f6, .int .i64 x.f7, .int .i64 x.f8, .int .i64 x.f9, .int .i64 x.f10, v11], rfl, rfl, ⟨[.int .i64 x.f3], [.int .i64 x.f4, .int .i64 x.f5, .int .i64 x.f6, .int .i64 x.f7, .int .i64 x.f8, .int .i64 x.f9, .int .i64 x.f10, v11], rfl, rfl, ⟨[.int .i64 x.f4], [.int .i64 x.f5, .int .i64 x.f6, .int .i64 x.f7, .int .i64 x.f8, .int .i64 x.f9, .int .i64 x.f10, v11], rfl, rfl, ⟨[.int .i64 x.f5], [.int .i64 x.f6, .int .i64 x.f7, .int .i64 x.f8, .int .i64 x.f9, .int .i64 x.f10, v11], rfl, rfl, ⟨[.int .i64 x.f6], [.int .i64 x.f7, .int .i64 x.f8, .int .i64 x.f9, .int .i64 x.f10, v11], rfl, rfl, ⟨[.int .i64 x.f7], [.int .i64 x.f8, .int .i64 x.f9, .int .i64 x.f10, v11], rfl, rfl, ⟨[.int .i64 x.f8], [.int .i64 x.f9, .int .i64 x.f10, v11], rfl, rfl, ⟨[.int .i64 x.f9], [.int .i64 x.f10, v11], rfl, rfl, ⟨[.int .i64 x.f10], [v11], rfl, rfl, ⟨v11, rfl, g11⟩⟩⟩⟩⟩⟩⟩⟩⟩⟩⟩⟩
theorem k100_openF {W : World} {ok : Nat → Prop} {x : S100} {cs : List Value} (h : Kd.FK k100 W ok x cs) : ∃ A11 c11, cs = [.int .i64 x.f0, .int .i64 x.f1, .int .i64 x.f2, .int .i64 x.f3, .int .i64 x.f4, .int .i64 x.f5, .int .i64 x.f6, .int .i64 x.f7, .int .i64 x.f8, .int .i64 x.f9, .int .i64 x.f10, .slice A11 x.f11.length c11] ∧ x.f11.length ≤ c11 ∧ Kd.F k102 W ok A11 x.f11.length x.f11 := by
  obtain ⟨A11, c11, rfl, l11, _⟩ := k100_open (Kd.FK_now h)
  exact ⟨A11, c11, rfl, l11, (fun W' hW => by obtain ⟨A11_, c11_, he, l11_, g11_⟩ := k100_open (h W' hW); injection (Option.some.inj (show some (Value.slice A11 x.f11.length c11) = some (Value.slice A11_ x.f11.length c11_) from congrArg (fun l => l[11]?) he)) with ha_ _ _; rw [ha_]; exact g11_)⟩
theorem k100_mkF (W : World) (ok : Nat → Prop) (x : S100) {A11 : Option Addr} {c11 : Nat} (l11 : x.f11.length ≤ c11) (g11 : Kd.F k102 W ok A11 x.f11.length x.f11) : Kd.FK k100 W ok x [.int .i64 x.f0, .int .i64 x.f1, .int .i64 x.f2, .int .i64 x.f3, .int .i64 x.f4, .int .i64 x.f5, .int .i64 x.f6, .int .i64 x.f7, .int .i64 x.f8, .int .i64 x.f9, .int .i64 x.f10, .slice A11 x.f11.length c11] := fun W2 hW => k100_mk W2 x l11 (g11 W2 hW)
def rd_T100 (xs : List S100) (i : Int) : S100 := xs.getD i.toNat z100
theorem at_T100 {w : World} {A : Option Addr} {n : Nat} {xs : List S100} (h : Kd.C k100 w A n xs) (i : Int) (h0 : 0 ≤ i) (h1 : i < n) : ∃ ad A11 c11, A = some ad ∧ w.cell? (ad.add (i.toNat * 12)) = some (.int .i64 (rd_T100 xs i).f0) ∧ w.cell? ⟨(ad.add (i.toNat * 12)).block, (ad.add (i.toNat * 12)).off + 1, none⟩ = some (.int .i64 (rd_T100 xs i).f1) ∧ w.cell? ⟨(ad.add (i.toNat * 12)).block, (ad.add (i.toNat * 12)).off + 2, none⟩ = some (.int .i64 (rd_T100 xs i).f2) ∧ w.cell? ⟨(ad.add (i.toNat * 12)).block, (ad.add (i.toNat * 12)).off + 3, none⟩ = some (.int .i64 (rd_T100 xs i).f3) ∧ w.cell? ⟨(ad.add (i.toNat * 12)).block, (ad.add (i.toNat * 12)).off + 4, none⟩ = some (.int .i64 (rd_T100 xs i).f4) ∧ w.cell? ⟨(ad.add (i.toNat * 12)).block, (ad.add (i.toNat * 12)).off + 5, none⟩ = some (.int .i64 (rd_T100 xs i).f5) ∧ w.cell? ⟨(ad.add (i.toNat * 12)).block, (ad.add (i.toNat * 12)).off + 6, none⟩ = some (.int .i64 (rd_T100 xs i).f6) ∧ w.cell? ⟨(ad.add (i.toNat * 12)).block, (ad.add (i.toNat * 12)).off + 7, none⟩ = some (.int .i64 (rd_T100 xs i).f7) ∧ w.cell? ⟨(ad.add (i.toNat * 12)).block, (ad.add (i.toNat * 12)).off + 8, none⟩ = some (.int .i64 (rd_T100 xs i).f8) ∧ w.cell? ⟨(ad.add (i.toNat * 12)).block, (ad.add (i.toNat * 12)).off + 9, none⟩ = some (.int .i64 (rd_T100 xs i).f9) ∧ w.cell? ⟨(ad.add (i.toNat * 12)).block, (ad.add (i.toNat * 12)).off + 10, none⟩ = some (.int .i64 (rd_T100 xs i).f10) ∧ w.cell? ⟨(ad.add (i.toNat * 12)).block, (ad.add (i.toNat * 12)).off + 11, none⟩ = some (.slice A11 (rd_T100 xs i).f11.length c11) ∧ (rd_T100 xs i).f11.length ≤ c11 ∧ k102.C w A11 (rd_T100 xs i).f11.length (rd_T100 xs i).f11 := by
  obtain ⟨ad, c, e, _, hK, hc0⟩ := Kd.C_get h z100 i h0 h1
  have hc : ∀ j u, c[j]? = some u → w.cell? (ad.add (i.toNat * 12 + j)) = some u := hc0
  obtain ⟨A11, c11, rfl, l11, g11⟩ := k100_open hK
  exact ⟨ad, A11, c11, e, hc 0 _ rfl, by rw [← add_field _ _ 1 (by omega)]; exact hc 1 _ rfl, by rw [← add_field _ _ 2 (by omega)]; exact hc 2 _ rfl, by rw [← add_field _ _ 3 (by omega)]; exact hc 3 _ rfl, by rw [← add_field _ _ 4 (by omega)]; exact hc 4 _ rfl, by rw [← add_field _ _ 5 (by omega)]; exact hc 5 _ rfl, by rw [← add_field _ _ 6 (by omega)]; exact hc 6 _ rfl, by rw [← add_field _ _ 7 (by omega)]; exact hc 7 _ rfl, by rw [← add_field _ _ 8 (by omega)]; exact hc 8 _ rfl, by rw [← add_field _ _ 9 (by omega)]; exact hc 9 _ rfl, by rw [← add_field _ _ 10 (by omega)]; exact hc 10 _ rfl, by rw [← add_field _ _ 11 (by omega)]; exact hc 11 _ rfl, l11, g11⟩

/-! #### struct type 95 -/
structure S95 where
  f0 : Int
  f1 : Int
  f2 : Int
  f3 : Int
  f4 : Int
  f5 : Int
def z95 : S95 := ⟨(0 : Int), (0 : Int), (0 : Int), (0 : Int), (0 : Int), (0 : Int)⟩
def k95 : Kd S95 := Kd.iso (Kd.pair (Kd.int .i64) (Kd.pair (Kd.int .i64) (Kd.pair (Kd.int .i64) (Kd.pair (Kd.int .i64) (Kd.pair (Kd.int .i64) (Kd.int .i64)))))) (fun x : S95 => (x.f0, x.f1, x.f2, x.f3, x.f4, x.f5))
theorem k95_heap : Kd.Heap k95 := Kd.heap_iso _ (Kd.heap_pair (Kd.heap_int .i64) (Kd.heap_pair (Kd.heap_int .i64) (Kd.heap_pair (Kd.heap_int .i64) (Kd.heap_pair (Kd.heap_int .i64) (Kd.heap_pair (Kd.heap_int .i64) (Kd.heap_int .i64))))))
theorem k95_open {w : World} {x : S95} {cs : List Value} (h : k95.K w x cs) : cs = [.int .i64 x.f0, .int .i64 x.f1, .int .i64 x.f2, .int .i64 x.f3, .int .i64 x.f4, .int .i64 x.f5] := by
  obtain ⟨_, _, rfl, rfl, ⟨_, _, rfl, rfl, ⟨_, _, rfl, rfl, ⟨_, _, rfl, rfl, ⟨_, _, rfl, rfl, rfl⟩⟩⟩⟩⟩ := h
  exact rfl
theorem k95_openM {w : World} {base : Nat} {ok : Nat → Prop} {x : S95} {cs : List Value} (h : k95.M w base ok x cs) : cs = [.int .i64 x.f0, .int .i64 x.f1, .int .i64 x.f2, .int .i64 x.f3, .int .i64 x.f4, .int .i64 x.f5] := by
  obtain ⟨_, _, rfl, rfl, ⟨_, _, rfl, rfl, ⟨_, _, rfl, rfl, ⟨_, _, rfl, rfl, ⟨_, _, rfl, rfl, rfl⟩⟩⟩⟩⟩ := h
  exact rfl
theorem k95_mk (w : World) (x : S95)  : k95.K w x [.int .i64 x.f0, .int .i64 x.f1, .int .i64 x.f2, .int .i64 x.f3, .int .i64 x.f4, .int .i64 x.f5] := ⟨[.int .i64 x.f0], [.int .i64 x.f1, .int .i64 x.f2, .int .i64 x.f3, .int .i64 x.f4, .int .i64 x.f5], rfl, rfl, ⟨[.int .i64 x.f1], [.int .i64 x.f2, .int .i64 x.f3, .int .i64 x.f4, .int .i64 x.f5], rfl, rfl, ⟨[.int .i64 x.f2], [.int .i64 x.f3, .int .i64 x.f4, .int .i64 x.f5], rfl, rfl, ⟨[.int .i64 x.f3], [.int .i64 x.f4, .int .i64 x.f5], rfl, rfl, ⟨[.int .i64 x.f4], [.int .i64 x.f5], rfl, rfl, rfl⟩⟩⟩⟩⟩
theorem k95_mkM (w : World) (base : Nat) (ok : Nat → Prop) (x : S95)  : k95.M w base ok x [.int .i64 x.f0, .int .i64 x.f1, .int .i64 x.f2, .int .i64 x.f3, .int .i64 x.f4, .int .i64 x.f5] := ⟨[.int .i64 x.f0], [.int .i64 x.f1, .int .i64 x.f2, .int .i64 x.f3, .int .i64 x.f4, .int .i64 x.f5], rfl, rfl, ⟨[.int .i64 x.f1], [.int .i64 x.f2, .int .i64 x.f3, .int .i64 x.f4, .int .i64 x.f5], rfl, rfl, ⟨[.int .i64 x.f2], [.int .i64 x.f3, .int .i64 x.f4, .int .i64 x.f5], rfl, rfl, ⟨[.int .i64 x.f3], [.int .i64 x.f4, .int .i64 x.f5], rfl, rfl, ⟨[.int .i64 x.f4], [.int .i64 x.f5], rfl, rfl, rfl⟩⟩⟩⟩⟩
theorem k95_mkF (W : World) (ok : Nat → Prop) (x : S95) : Kd.FK k95 W ok x [.int .i64 x.f0, .int .i64 x.f1, .int .i64 x.f2, .int .i64 x.f3, .int .i64 x.f4, .int .i64 x.f5] := fun W2 _ => k95_mk W2 x
def rd_T95 (xs : List S95) (i : Int) : S95 := xs.getD i.toNat z95
theorem at_T95 {w : World} {A : Option Addr} {n : Nat} {xs : List S95} (h : Kd.C k95 w A n xs) (i : Int) (h0 : 0 ≤ i) (h1 : i < n) : ∃ ad , A = some ad ∧ w.cell? (ad.add (i.toNat * 6)) = some (.int .i64 (rd_T95 xs i).f0) ∧ w.cell? ⟨(ad.add (i.toNat * 6)).block, (ad.add (i.toNat * 6)).off + 1, none⟩ = some (.int .i64 (rd_T95 xs i).f1) ∧ w.cell? ⟨(ad.add (i.toNat * 6)).block, (ad.add (i.toNat * 6)).off + 2, none⟩ = some (.int .i64 (rd_T95 xs i).f2) ∧ w.cell? ⟨(ad.add (i.toNat * 6)).block, (ad.add (i.toNat * 6)).off + 3, none⟩ = some (.int .i64 (rd_T95 xs i).f3) ∧ w.cell? ⟨(ad.add (i.toNat * 6)).block, (ad.add (i.toNat * 6)).off + 4, none⟩ = some (.int .i64 (rd_T95 xs i).f4) ∧ w.cell? ⟨(ad.add (i.toNat * 6)).block, (ad.add (i.toNat * 6)).off + 5, none⟩ = some (.int .i64 (rd_T95 xs i).f5) := by
  obtain ⟨ad, c, e, _, hK, hc0⟩ := Kd.C_get h z95 i h0 h1
  have hc : ∀ j u, c[j]? = some u → w.cell? (ad.add (i.toNat * 6 + j)) = some u := hc0
  obtain rfl := k95_open hK
  exact ⟨ad, e, hc 0 _ rfl, by rw [← add_field _ _ 1 (by omega)]; exact hc 1 _ rfl, by rw [← add_field _ _ 2 (by omega)]; exact hc 2 _ rfl, by rw [← add_field _ _ 3 (by omega)]; exact hc 3 _ rfl, by rw [← add_field _ _ 4 (by omega)]; exact hc 4 _ rfl, by rw [← add_field _ _ 5 (by omega)]; exact hc 5 _ rfl⟩

/-! #### struct type 97 -/
structure S97 where
  f0 : Int
  f1 : Int
  f2 : Int
def z97 : S97 := ⟨(0 : Int), (0 : Int), (0 : Int)⟩
def k97 : Kd S97 := Kd.iso (Kd.pair (Kd.int .i64) (Kd.pair (Kd.int .i64) (Kd.int .i64))) (fun x : S97 => (x.f0, x.f1, x.f2))
theorem k97_heap : Kd.Heap k97 := Kd.heap_iso _ (Kd.heap_pair (Kd.heap_int .i64) (Kd.heap_pair (Kd.heap_int .i64) (Kd.heap_int .i64)))
theorem k97_open {w : World} {x : S97} {cs : List Value} (h : k97.K w x cs) : cs = [.int .i64 x.f0, .int .i64 x.f1, .int .i64 x.f2] := by
  obtain ⟨_, _, rfl, rfl, ⟨_, _, rfl, rfl, rfl⟩⟩ := h
  exact rfl
theorem k97_openM {w : World} {base : Nat} {ok : Nat → Prop} {x : S97} {cs : List Value} (h : k97.M w base ok x cs) : cs = [.int .i64 x.f0, .int .i64 x.f1, .int .i64 x.f2] := by
  obtain ⟨_, _, rfl, rfl, ⟨_, _, rfl, rfl, rfl⟩⟩ := h
  exact rfl
theorem k97_mk (w : World) (x : S97)  : k97.K w x [.int .i64 x.f0, .int .i64 x.f1, .int .i64 x.f2] := ⟨[.int .i64 x.f0], [.int .i64 x.f1, .int .i64 x.f2], rfl, rfl, ⟨[.int .i64 x.f1], [.int .i64 x.f2], rfl, rfl, rfl⟩⟩
theorem k97_mkM (w : World) (base : Nat) (ok : Nat → Prop) (x : S97)  : k97.M w base ok x [.int .i64 x.f0, .int .i64 x.f1, .int .i64 x.f2] := ⟨[.int .i64 x.f0], [.int .i64 x.f1, .int .i64 x.f2], rfl, rfl, ⟨[.int .i64 x.f1], [.int .i64 x.f2], rfl, rfl, rfl⟩⟩
theorem k97_mkF (W : World) (ok : Nat → Prop) (x : S97) : Kd.FK k97 W ok x [.int .i64 x.f0, .int .i64 x.f1, .int .i64 x.f2] := fun W2 _ => k97_mk W2 x
def rd_T97 (xs : List S97) (i : Int) : S97 := xs.getD i.toNat z97
theorem at_T97 {w : World} {A : Option Addr} {n : Nat} {xs : List S97} (h : Kd.C k97 w A n xs) (i : Int) (h0 : 0 ≤ i) (h1 : i < n) : ∃ ad , A = some ad ∧ w.cell? (ad.add (i.toNat * 3)) = some (.int .i64 (rd_T97 xs i).f0) ∧ w.cell? ⟨(ad.add (i.toNat * 3)).block, (ad.add (i.toNat * 3)).off + 1, none⟩ = some (.int .i64 (rd_T97 xs i).f1) ∧ w.cell? ⟨(ad.add (i.toNat * 3)).block, (ad.add (i.toNat * 3)).off + 2, none⟩ = some (.int .i64 (rd_T97 xs i).f2) := by
  obtain ⟨ad, c, e, _, hK, hc0⟩ := Kd.C_get h z97 i h0 h1
  have hc : ∀ j u, c[j]? = some u → w.cell? (ad.add (i.toNat * 3 + j)) = some u := hc0
  obtain rfl := k97_open hK
  exact ⟨ad, e, hc 0 _ rfl, by rw [← add_field _ _ 1 (by omega)]; exact hc 1 _ rfl, by rw [← add_field _ _ 2 (by omega)]; exact hc 2 _ rfl⟩

def g34 (x : S34) : Prop := (True) ∧ ((Lit.int .i64 x.f1).wf = true)
def g87 (x : S87) : Prop := ((Lit.int .i64 x.f0).wf = true) ∧ ((Lit.int .i64 x.f1).wf = true)
def g50 (x : S50) : Prop := ((Lit.int .i64 x.f0).wf = true) ∧ ((Lit.int .i64 x.f1).wf = true) ∧ ((Lit.int .i64 x.f2).wf = true) ∧ (x.f3.size ≤ maxLen) ∧ (x.f4.size ≤ maxLen) ∧ ((x.f5.length ≤ maxLen ∧ ∀ y ∈ x.f5, (Lit.int .i64 y).wf = true)) ∧ ((x.f6.length ≤ maxLen ∧ ∀ y ∈ x.f6, g87 y))
end Go.Proofs.Ytjmkpcnekghmhaa.PAll
end
section
namespace Go.Proofs.Ytjmkpcnekghmhaa.PAll
open Go.RowKit Go.Proofs.YtjmkpcnekghmhaaW.PrintWords Go.Proofs.YtjmkpcnekghmhaaW.PrintLast Go.Proofs.YtjmkpcnekghmhaaW.PrintMore
attribute [local go_sem] max2_int min2_int max_two min_two max_three min_three max_four min_four   -- for this text's walks alone
set_option linter.unusedVariables false
set_option linter.unusedSimpArgs false

/-! ### slices_Clip_byte: function 39 -/
def slices_Clip_byte.f (l0 : List Int) : Option (List Int) := some l0
theorem slices_Clip_byte.cut (A : Option Addr) (n c : Nat) (hm : n ≤ c) : ∀ W : World, (Instr.slice 22 (.slice A n c) none (some (.int .i64 (n : Int))) (some (.int .i64 (n : Int)))).run Try.prog W = .ok (.slice A n n) W := by
  intro W
  obtain ⟨i0, hi, _, hsz, _⟩ := info_parts info5
  have ha : (A.map fun x => x.add 0) = A := by cases A <;> simp [Addr.add]
  have hn : (n : Int) ≤ (c : Int) := by omega
  simp [Instr.slice, run_underlying Try.underlying22, Instr.sliceBounds, run_sliceBound, sizeOf, typeInfo, hi, Result.andThen, ha, hn]
set_option maxHeartbeats 8000000 in
set_option maxRecDepth 100000 in
theorem slices_Clip_byte.calls (P0_ : Nat → Prop) (A0 : Option Addr) (c0 : Nat) (l0 : List Int) (r : List Int) (w : World) (hs0 : Kd.V (Kd.int .u8) 5 w w.heap.size (fun k_ => P0_ k_) (.slice A0 l0.length c0) l0) (h : slices_Clip_byte.f l0 = some r) :
    Calls Try.prog 39 #[.slice A0 l0.length c0] w fun e w' => ∃ v0_ : Value, e = .returned (v0_) ∧ Kd.V (Kd.int .u8) 5 w' w.heap.size (fun k_ => (P0_ k_ ∨ w.heap.size ≤ k_)) v0_ r ∧ Below w.heap.size w w' := by
  obtain rfl := Option.some.inj h
  have HO0 := Aside0.mk (show Kd.V (Kd.int .u8) 5 w w.heap.size (fun k_ => (P0_ k_ ∨ w.heap.size ≤ k_)) (.slice A0 l0.length l0.length) l0 from Kd.V_mk (Nat.le_refl _) (Kd.F_mono (Kd.V_F hs0) (fun k_ hk => .inl hk)))
  have hc := (Kd.V_reads' hs0).2.1
  have hcut := slices_Clip_byte.cut A0 l0.length c0 hc
  clear hs0 hc
  go_enter Try.func39, Try.ntmps39
  go_wp2
  go_ret
  exact ⟨_, rfl, HO0.out, Below.refl _ _⟩
end Go.Proofs.Ytjmkpcnekghmhaa.PAll
end
section
namespace Go.Proofs.Ytjmkpcnekghmhaa.PAll
open Go.RowKit Go.Proofs.YtjmkpcnekghmhaaW.PrintWords Go.Proofs.YtjmkpcnekghmhaaW.PrintLast Go.Proofs.YtjmkpcnekghmhaaW.PrintMore
attribute [local go_sem] max2_int min2_int max_two min_two max_three min_three max_four min_four   -- for this text's walks alone
set_option linter.unusedVariables false
set_option linter.unusedSimpArgs false

/-! ### entry_ints: function 44 -/
mutual
def entry_ints.l0 : Nat → List Int → List Int → Int → Int → Option (List Int)
  | 0, _, _, _, _ => none
  | k + 1, x0, x8, x9, x10 => if x10 < x9 then (if 0 ≤ x10 then (if x10 < (x8.length : Int) then (entry_ints.l1 k x0 (rd x8 x10) 7 x8 x9 x10) else (none)) else (none)) else (some x0)
def entry_ints.l1 : Nat → List Int → Int → Int → List Int → Int → Int → Option (List Int)
  | 0, _, _, _, _, _, _ => none
  | k + 1, x0, x6, x7, x8, x9, x10 => if x7 ≥ 0 then (if 0 ≤ (wrap64 (8 * x7)) then (if x0.length < 140737488355328 then (entry_ints.l1 k (x0 ++ [(shr .i64 x6 (wrap64 (8 * x7))) % 256]) x6 (wrap64 (x7 - 1)) x8 x9 x10) else (none)) else (none)) else (entry_ints.l0 k x0 x8 x9 (wrap64 (x10 + 1)))
end
def entry_ints.f (k : Nat) (l0 : List Int) (l1 : List Int) : Option (List Int) := entry_ints.l0 k l0 l1 (l1.length : Int) 0
theorem entry_ints.mono_l : ∀ k, (∀ y0 y1 y2 y3, LeO (entry_ints.l0 k y0 y1 y2 y3) (entry_ints.l0 (k + 1) y0 y1 y2 y3)) ∧ (∀ y0 y1 y2 y3 y4 y5, LeO (entry_ints.l1 k y0 y1 y2 y3 y4 y5) (entry_ints.l1 (k + 1) y0 y1 y2 y3 y4 y5))
  | 0 => ⟨fun _ _ _ _ r h => by simp [entry_ints.l0] at h, fun _ _ _ _ _ _ r h => by simp [entry_ints.l1] at h⟩
  | k + 1 => by
    obtain ⟨ih0, ih1⟩ := entry_ints.mono_l k
    refine ⟨?_, ?_⟩
    · intro y0 y1 y2 y3
      unfold entry_ints.l0
      repeat' first
      | (with_reducible exact ih0 _ _ _ _)
      | (with_reducible exact ih1 _ _ _ _ _ _)
      | (with_reducible exact LeO.refl _)
      | (with_reducible exact LeO.none _)
      | (with_reducible refine LeO.ite ?_ ?_)
      | (with_reducible refine LeO.bind ?_ (fun _ => ?_))
      | exact ih0 _ _ _ _
      | exact ih1 _ _ _ _ _ _
      | exact LeO.none _
      | refine LeO.ite ?_ ?_
      | refine LeO.bind ?_ (fun _ => ?_)
    · intro y0 y1 y2 y3 y4 y5
      unfold entry_ints.l1
      repeat' first
      | (with_reducible exact ih0 _ _ _ _)
      | (with_reducible exact ih1 _ _ _ _ _ _)
      | (with_reducible exact LeO.refl _)
      | (with_reducible exact LeO.none _)
      | (with_reducible refine LeO.ite ?_ ?_)
      | (with_reducible refine LeO.bind ?_ (fun _ => ?_))
      | exact ih0 _ _ _ _
      | exact ih1 _ _ _ _ _ _
      | exact LeO.none _
      | refine LeO.ite ?_ ?_
      | refine LeO.bind ?_ (fun _ => ?_)
theorem entry_ints.mono : ∀ a0 a1 k, LeO (entry_ints.f k a0 a1) (entry_ints.f (k + 1) a0 a1) := by
  intro a0 a1 k
  obtain ⟨ih0, ih1⟩ := entry_ints.mono_l k
  unfold entry_ints.f
  repeat' first
      | (with_reducible exact ih0 _ _ _ _)
      | (with_reducible exact ih1 _ _ _ _ _ _)
      | (with_reducible exact LeO.refl _)
      | (with_reducible exact LeO.none _)
      | (with_reducible refine LeO.ite ?_ ?_)
      | (with_reducible refine LeO.bind ?_ (fun _ => ?_))
      | exact ih0 _ _ _ _
      | exact ih1 _ _ _ _ _ _
      | exact LeO.none _
      | refine LeO.ite ?_ ?_
      | refine LeO.bind ?_ (fun _ => ?_)
set_option maxHeartbeats 8000000 in
set_option maxRecDepth 100000 in
theorem entry_ints.calls (k : Nat) (P0_ : Nat → Prop) (u9000_ : Value) (l0 : List Int) (A1 : Option Addr) (c1 : Nat) (l1 : List Int) (r : List Int) (w0 w : World) (hB : Below w0.heap.size w0 w) (ho0 : Kd.R (Kd.int .u8) 5 w w0.heap.size P0_ u9000_ l0) (hr1 : ∀ W_, Kept w W_ (fun k_ => P0_ k_) → Kd.C (Kd.int .i64) W_ A1 l1.length l1) (hc1 : l1.length ≤ c1) (h : entry_ints.f k l0 l1 = some r) :
    Calls Try.prog 44 #[u9000_, .slice A1 l1.length c1] w fun e w' => ∃ v0_ : Value, e = .returned (v0_) ∧ Kd.R (Kd.int .u8) 5 w' w0.heap.size (fun k_ => (P0_ k_ ∨ w.heap.size ≤ k_)) v0_ r ∧ Below w0.heap.size w0 w' ∧ Kept w w' (fun k_ => P0_ k_) := by
  have HO0 := Aside0.mk (show Kd.R (Kd.int .u8) 5 w w0.heap.size (fun k_ => (P0_ k_ ∨ w.heap.size ≤ k_)) u9000_ l0 from Kd.R_mono ho0 (fun k_ hk => (.inl hk)))
  have HR1 := Aside0.mk hr1
  have HC1 := Aside0.mk hc1
  clear hr1 hc1
  have HK := Aside0.mk (Kept.refl w (fun k_ => P0_ k_))
  have HW0 := Aside0.mk hB.size
  have HB := Aside0.mk hB
  clear hB
  have H : (entry_ints.l0 k l0 l1 (l1.length : Int) 0) = some r := h
  clear h
  have H' := Aside0.mk H
  clear H
  go_enter Try.func44, Try.ntmps44
  go_wp2
  go_loopg [0, 10] k (fun kq v0 v10 w' => ∃ (x0_1 : List Int) (x10_1 : Int), v10 = .int .i64 x10_1 ∧ Aside0 (entry_ints.l0 kq x0_1 l1 (l1.length : Int) x10_1 = some r) ∧ Aside0 (kq ≤ k) ∧ Aside0 (Kd.R (Kd.int .u8) 5 w' w0.heap.size (fun k_ => (P0_ k_ ∨ w.heap.size ≤ k_)) v0 x0_1) ∧ Aside0 (Kept w w' (fun k_ => P0_ k_)) ∧ Aside0 (Below w0.heap.size w0 w'))
  case atStart => exact ⟨(l0), (0), (by first | rfl | (simp; done) | (simp [*]; done)), H', ⟨Nat.le_refl _⟩, ⟨by (with_reducible repeat (first | apply Kd.R_alloc | apply Kd.R_drewN | apply Kd.R_drew)); exact HO0.out⟩, ⟨by repeat (first | (with_reducible first | exact HK.out | apply Kept.alloc | apply Kept.drewN | apply Kept.drew) | exact HK.out)⟩, ⟨by repeat (first | (with_reducible first | exact HB.out | apply below_alloc | apply pw_below_drewN | apply below_drew1) | exact HB.out)⟩⟩
  case round =>
    clear H'
    try clear c1
    try clear p2
    obtain ⟨x0_1, x10_1, rfl, HA, HK1, HO_0, HK, HB⟩ := hrel
    cases gk with
    | zero => exact absurd HA.out (by simp [entry_ints.l0])
    | succ k1 =>
      have H := HA.out
      clear HA
      simp only [entry_ints.l0] at H
      by_cases c3 : x10_1 < (l1.length : Int)
      · rw [if_pos c3] at H
        have c3b0 : decide (x10_1 < (l1.length : Int)) = true := decide_eq_true c3
        clear c3
        by_cases c4 : 0 ≤ x10_1
        · rw [if_pos c4] at H
          have c4b0 : decide (0 ≤ x10_1) = true := decide_eq_true c4
          clear c4
          by_cases c5 : x10_1 < (l1.length : Int)
          · rw [if_pos c5] at H
            have c5b0 : decide (x10_1 < (l1.length : Int)) = true := decide_eq_true c5
            clear c5
            have H' := Aside0.mk H
            clear H
            have p144 : 0 ≤ (x10_1 : Int) := of_decide_eq_true (by first | (with_reducible assumption) | assumption)
            have q144 : x10_1 < (l1.length : Int) := of_decide_eq_true (by first | (with_reducible assumption) | assumption)
            obtain ⟨ad144, e144, hx144_0⟩ := Kd.at_int (Kd.C_kept_now HR1.out HK.out) x10_1 p144 q144
            cases e144
            replace p144 := eq_true p144
            replace q144 := eq_true q144
            go_wp2
            go_loopg [0, 7] k1 (fun kq v0 v7 w' => ∃ (x0_2 : List Int) (x7_2 : Int), v7 = .int .i64 x7_2 ∧ Aside0 (entry_ints.l1 kq x0_2 (rd l1 x10_1) x7_2 l1 (l1.length : Int) x10_1 = some r) ∧ Aside0 (kq ≤ k1) ∧ Aside0 (Kd.R (Kd.int .u8) 5 w' w0.heap.size (fun k_ => (P0_ k_ ∨ w.heap.size ≤ k_)) v0 x0_2) ∧ Aside0 (Kept w w' (fun k_ => P0_ k_)) ∧ Aside0 (Below w0.heap.size w0 w'))
            case atStart => exact ⟨(x0_1), (7), (by first | rfl | (simp; done) | (simp [*]; done)), H', ⟨Nat.le_refl _⟩, ⟨by (with_reducible repeat (first | apply Kd.R_alloc | apply Kd.R_drewN | apply Kd.R_drew)); exact HO_0.out⟩, ⟨by repeat (first | (with_reducible first | exact HK.out | apply Kept.alloc | apply Kept.drewN | apply Kept.drew) | exact HK.out)⟩, ⟨by repeat (first | (with_reducible first | exact HB.out | apply below_alloc | apply pw_below_drewN | apply below_drew1) | exact HB.out)⟩⟩
            case round =>
              clear H'
              try clear c1
              try clear p1
              try clear q1
              try clear hx1
              try clear p2
              try clear c3
              try clear c3b0
              try clear c4
              try clear c4b0
              try clear c5
              try clear c5b0
              try clear hx144_0
              try clear p144
              try clear p2
              try clear q144
              obtain ⟨x0_2, x7_2, rfl, HA, HK2, HO_0, HK, HB⟩ := hrel
              cases gk with
              | zero => exact absurd HA.out (by simp [entry_ints.l1])
              | succ k2 =>
                have H := HA.out
                clear HA
                simp only [entry_ints.l1] at H
                by_cases c6 : x7_2 ≥ 0
                · rw [if_pos c6] at H
                  have c6b0 : decide (0 ≤ x7_2) = true := decide_eq_true c6
                  clear c6
                  obtain ⟨ji7, hji7⟩ : ∃ j_ : Int, (wrap64 (8 * x7_2)) = j_ := ⟨_, rfl⟩
                  replace H : (if 0 ≤ (ji7) then (if x0_2.length < 140737488355328 then (entry_ints.l1 k2 (x0_2 ++ [(shr .i64 (rd l1 x10_1) (ji7)) % 256]) (rd l1 x10_1) (wrap64 (x7_2 - 1)) l1 (l1.length : Int) x10_1) else (none)) else (none)) = some r := by first | (rw [hji7] at H; exact H) | (simp only [hji7] at H ⊢; exact H)
                  have hji7w : (IntKind.i64.wrap (8 * x7_2)) = ji7 := (i64_w _).trans hji7
                  by_cases c8 : 0 ≤ (ji7)
                  · rw [if_pos c8] at H
                    have c8b0 := eq_true c8
                    have c8b1 : decide (0 ≤ (ji7)) = true := decide_eq_true c8
                    clear c8
                    obtain ⟨ji9, hji9⟩ : ∃ j_ : Int, (shr .i64 (rd l1 x10_1) (ji7)) = j_ := ⟨_, rfl⟩
                    replace H : (if x0_2.length < 140737488355328 then (entry_ints.l1 k2 (x0_2 ++ [(ji9) % 256]) (rd l1 x10_1) (wrap64 (x7_2 - 1)) l1 (l1.length : Int) x10_1) else (none)) = some r := by first | (rw [hji9] at H; exact H) | (simp only [hji9] at H ⊢; exact H)
                    have hji9_ : ((rd l1 x10_1) / 2 ^ min (ji7).toNat 64) = ji9 := hji9
                    have hji9z : (ji7) ≤ 64 → ((rd l1 x10_1) / 2 ^ (ji7).toNat) = ji9 := shr_small hji9
                    by_cases c10 : x0_2.length < 140737488355328
                    · rw [if_pos c10] at H
                      have LMc10 := Aside0.mk c10
                      clear c10
                      obtain ⟨y145, hy145⟩ : ∃ y_ : List Int, y_ = (x0_2 ++ [(ji9) % 256]) := ⟨_, rfl⟩
                      replace H : (entry_ints.l1 k2 y145 (rd l1 x10_1) (wrap64 (x7_2 - 1)) l1 (l1.length : Int) x10_1) = some r := by first | (rw [hy145]; with_reducible exact H) | (have H2_ := (Option.bind_some _ _).symm.trans H; rw [hy145]; with_reducible exact H2_) | (have H2_ := (Option.bind_some _ _).symm.trans H; with_reducible exact H2_) | with_reducible exact H | (rw [hy145]; exact H) | exact H
                      have Ny145 := Aside0.mk hy145
                      clear hy145
                      have H' := Aside0.mk H
                      clear H
                      go_wp2_with (first | ((with_reducible refine gate_builtin (b := .append) (xs := #[.tmp 18, .tmp 24]) rfl ?_); at_builtin; refine Kd.R_append (Kd.int .u8) (w0 := w0) w0.heap.size rfl (.tmp 18) (.tmp 24) 22 5 (.int .u8 0) 1 rfl Try.underlying22 info5 rfl (by decide) (by omega) u0 x0_2 ((ji9) % 256) [.int .u8 ((ji9) % 256)] (fun k_ => (P0_ k_ ∨ w.heap.size ≤ k_)) (fun _ => False) rfl rfl ?aP (fun _ hk => hk.elim) ?aF ?aO ?aB ?aS ?aL ?_; (case aP => exact rfl); (case aB => exact (by repeat (first | (with_reducible first | exact HB.out | apply below_alloc | apply pw_below_drewN | apply below_drew1) | exact HB.out))); (case aF => exact (fun k_ hk => (.inr (Nat.le_trans (by first | exact HK.out.1 | exact (show Kept w _ (fun k_ => P0_ k_) from by repeat (first | (with_reducible first | exact HK.out | apply Kept.alloc | apply Kept.drewN | apply Kept.drew) | exact HK.out)).1) hk)))); (case aO => exact (by (with_reducible repeat (first | apply Kd.R_alloc | apply Kd.R_drewN | apply Kd.R_drew)); exact HO_0.out)); (case aS => exact (below_size (by repeat (first | (with_reducible first | exact HB.out | apply below_alloc | apply pw_below_drewN | apply below_drew1) | exact HB.out)))); (case aL => have := LMc10.out; omega); intro v146 w11 ho hb hg hat; rw [← Ny145.out] at ho; have n0_ := Aside0.mk (hb); have n1_ := Aside0.mk (Kept.of_grown (S := (fun k_ => P0_ k_)) hg (by repeat (first | (with_reducible first | exact HK.out | apply Kept.alloc | apply Kept.drewN | apply Kept.drew) | exact HK.out)) (fun k_ e_ => (HO_0.out.1 k_ e_))); have n2_ := Aside0.mk (ho); clear HB; clear HK; clear HO_0; have HB := n0_; have HK := n1_; have HO147 := n2_; clear n0_ n1_ n2_; clear ho hb hg hat))
                      go_roundg k2
                      case measure => have := HK1.out; have := HK2.out; omega
                      case rel => exact ⟨(y145), (wrap64 (x7_2 - 1)), (by first | rfl | (simp; done) | (simp [*]; done)), H', ⟨by have := HK1.out; have := HK2.out; omega⟩, ⟨by (with_reducible repeat (first | apply Kd.R_alloc | apply Kd.R_drewN | apply Kd.R_drew)); exact HO147.out⟩, ⟨by repeat (first | (with_reducible first | exact HK.out | apply Kept.alloc | apply Kept.drewN | apply Kept.drew) | exact HK.out)⟩, ⟨by repeat (first | (with_reducible first | exact HB.out | apply below_alloc | apply pw_below_drewN | apply below_drew1) | exact HB.out)⟩⟩
                    · rw [if_neg c10] at H
                      exact absurd H (by simp)
                  · rw [if_neg c8] at H
                    exact absurd H (by simp)
                · rw [if_neg c6] at H
                  have c6b0 : decide (0 ≤ x7_2) = false := decide_eq_false c6
                  clear c6
                  have H' := Aside0.mk H
                  clear H
                  go_wp2
                  go_roundg k2
                  case measure => have := HK1.out; have := HK2.out; omega
                  case rel => exact ⟨(x0_2), (wrap64 (x10_1 + 1)), (by first | rfl | (simp; done) | (simp [*]; done)), H', ⟨by have := HK1.out; have := HK2.out; omega⟩, ⟨by (with_reducible repeat (first | apply Kd.R_alloc | apply Kd.R_drewN | apply Kd.R_drew)); exact HO_0.out⟩, ⟨by repeat (first | (with_reducible first | exact HK.out | apply Kept.alloc | apply Kept.drewN | apply Kept.drew) | exact HK.out)⟩, ⟨by repeat (first | (with_reducible first | exact HB.out | apply below_alloc | apply pw_below_drewN | apply below_drew1) | exact HB.out)⟩⟩
          · rw [if_neg c5] at H
            exact absurd H (by simp)
        · rw [if_neg c4] at H
          exact absurd H (by simp)
      · rw [if_neg c3] at H
        have c3b0 : decide (x10_1 < (l1.length : Int)) = false := decide_eq_false c3
        clear c3
        obtain rfl := Option.some.inj H
        go_wp2
        go_ret
        exact ⟨_, by first | rfl | (simp [errW_none, errW_some] <;> rfl) | (simp [*, errW_none, errW_some] <;> rfl), by (with_reducible repeat (first | apply Kd.R_alloc | apply Kd.R_drewN | apply Kd.R_drew)); exact HO_0.out, by repeat (first | (with_reducible first | exact HB.out | apply below_alloc | apply pw_below_drewN | apply below_drew1) | exact HB.out), by repeat (first | (with_reducible first | exact HK.out | apply Kept.alloc | apply Kept.drewN | apply Kept.drew) | exact HK.out)⟩

end Go.Proofs.Ytjmkpcnekghmhaa.PAll
end
section
namespace Go.Proofs.Ytjmkpcnekghmhaa.PAll
open Go.RowKit Go.Proofs.YtjmkpcnekghmhaaW.PrintWords Go.Proofs.YtjmkpcnekghmhaaW.PrintLast Go.Proofs.YtjmkpcnekghmhaaW.PrintMore
attribute [local go_sem] max2_int min2_int max_two min_two max_three min_three max_four min_four   -- for this text's walks alone
set_option linter.unusedVariables false
set_option linter.unusedSimpArgs false

/-! ### entry_word: function 45 -/
theorem entry_word.run_str_at {P : Program} (w : World) (base : Nat) (t u ty e : TypeId) (i : TypeInfo) (ht : P.underlying t = some (.slice e)) (hu : P.underlying u = some .string) (hi : P.info? e = some i) (hz : i.zero = some (.int .u8 0))
    (hsize : i.size = 1) (hby : i.bytes = 1) (g n cap : Nat) (cur : Array Value) (xs : List Value) (hxl : xs.length = n) (hbg : base ≤ g) (hg : w.heap[g]? = some (.cells cur e (0, 0))) (hnc : n ≤ cap) (hcm : cap ≤ maxLen) (hcs : cur.size = cap) (htk : cur.toList.take n = xs)
    (s : ByteArray) (hb : n + s.size ≤ 200000000000000) (hbase : base ≤ w.heap.size) :
    ∃ v' w', (Builtin.append_ #[t, u] ty #[.slice (some ⟨g, 0, none⟩) n cap, .string s]).run P w = .ok v' w' ∧ w'.ownsRow base e 1 v' (n + s.size) (xs ++ Lib.strCells s) ∧ w.grownBy w' (some g) ∧ (v'.ownBlock = some g ∨ ∃ b, v'.ownBlock = some b ∧ w.heap.size ≤ b) := by
  have hL : (xs ++ Lib.strCells s).length = n + s.size := by rw [List.length_append, hxl, Lib.strCells_length]
  by_cases hroom : n + s.size ≤ cap
  · refine ⟨_, _, Lib.run_append_room_string (P := P) w t u ty e i ht hu hi hsize g n cap cur hg s hroom (by omega), ⟨by omega, .inr ⟨g, cap, _, rfl, hbg, setRow_heap w g cur _ e _ hg, hroom, hcm, ?_, ?_⟩⟩, ⟨rfl, rfl, rfl, by simp, fun k _ hk => setRow_other w g k _ (fun e => hk (by rw [e]))⟩, .inl rfl⟩
    · simp only [List.size_toArray, List.length_append, List.length_take, List.length_drop, Array.length_toList, Lib.strCells_length]; omega
    · rw [htk, Nat.mul_one, ← hL]; exact List.take_left
  · have holds : ∀ j v, xs[j]? = some v → w.cell? ((⟨g, 0, none⟩ : Addr).add j) = some v := by
      intro j v hj
      have hjl : j < n := by have := (List.getElem?_eq_some_iff.1 hj).1; omega
      rw [add_plain, blk_cell hg]
      rw [← htk, List.getElem?_take, if_pos hjl] at hj
      simpa using hj
    refine ⟨_, _, Lib.run_append_grow_string (P := P) w t u ty e i (.int .u8 0) ht hu hi hz ⟨g, 0, none⟩ n cap xs (by rw [hsize, hxl, Nat.mul_one]) holds s (by omega) (by omega) (growslice_fits_wide (by omega) (by rw [hby]; omega)), ⟨by omega, .inr ⟨w.heap.size, _, _, rfl, hbase, heap_alloc_new w.drew _, grownCap_ge w (n + s.size) cap e, grownCap_le_maxLen w (n + s.size) cap e (by unfold maxLen; omega), ?_, ?_⟩⟩, ⟨rfl, rfl, rfl, by simp, fun k hk _ => heap_alloc_old w.drew _ hk⟩, .inr ⟨_, rfl, Nat.le_refl _⟩⟩
    · have hge := grownCap_ge w (n + s.size) cap e
      have hz1 : (Value.int IntKind.u8 0).cells.size = 1 := rfl
      simp only [Array.size_append, List.size_toArray, size_zeroCells, hz1, hxl, Lib.strCells_length]; omega
    · simp only [Array.toList_append, List.append_assoc]
      rw [← List.append_assoc, Nat.mul_one, ← hL]
      exact List.take_left
section
variable {P : Program} {ops : Array Oper} {rest : List Oper} {o : Oper} {a : Act} {Q : Exit → Act → World → Prop}
theorem entry_word.append_str_at {w0 W : World} (base : Nat) (hgd : o.guard = none) (s x : Operand) (t u e : TypeId)
    (ho : o.op = .call { callee := .builtin .append, args := #[s, x], argTypes := #[t, u] })
    (ht : P.underlying t = some (.slice e)) (hu : P.underlying u = some .string) (hinfo : (P.info? e).map (fun i => (i.zero, i.size, i.bytes)) = some (some (.int .u8 0), 1, 1))
    (v : Value) (xs : List Int) (y : ByteArray) (ok : Nat → Prop) (hs : a.eval s = v) (hx : a.eval x = .string y) (h0 : 0 < xs.length)
    (HO : Kd.R (Kd.int .u8) e W base ok v xs) (hfresh : ∀ k, W.heap.size ≤ k → ok k) (HB : Below base w0 W) (hbase : base ≤ W.heap.size) (hl : xs.length + y.size ≤ 200000000000000)
    (h : ∀ v1 w1, Kd.R (Kd.int .u8) e w1 base ok v1 (xs ++ bytesOf y) → Below base w0 w1 → W.grownBy w1 v.ownBlock → wpList P ops Q rest (a.put o.dst v1) w1) :
    wpList P ops Q (o :: rest) a W := by
  obtain ⟨i0, hi, hzz⟩ := Option.map_eq_some_iff.1 hinfo
  simp only [Prod.mk.injEq] at hzz
  obtain ⟨hz0, hz1, hz2⟩ := hzz
  have hl2 : (xs ++ bytesOf y).length = xs.length + y.size := by rw [List.length_append, bytesOf_length]
  have hown := Kd.own_of_R HO
  have hc : encs (Value.int .u8) (xs ++ bytesOf y) = encs (Value.int .u8) xs ++ Lib.strCells y := by simp [encs, bytesOf, Lib.strCells]
  obtain ⟨E, hE⟩ : ∃ E, encs (Value.int .u8) xs = E := ⟨_, rfl⟩
  rw [hE] at hown hc
  have hEl : E.length = xs.length := by have := hown.1; omega
  rcases hown.2 with ⟨rfl, hn⟩ | ⟨g, cap, cur, rfl, hbg, hg, hnc, hcm, hcs, htake⟩
  · omega
  · obtain ⟨v1, w1, hr, h2, h3, h4⟩ := entry_word.run_str_at (P := P) W base t u o.type e i0 ht hu hi hz0 hz1 hz2 g xs.length cap cur E hEl hbg hg hnc hcm (by omega) (by rw [Nat.mul_one] at htake; exact htake) y hl hbase
    refine wpList_plain hgd fun K hK => ?_
    unfold Oper.wp execOp
    simp only [ho, resolve, invoke, builtin, Sem.run_bind, Sem.run_pure, Result.andThen_ok, List.map_toArray, List.map_cons, List.map_nil, hs, hx, hr]
    refine hK _ _ (h v1 w1 (Kd.R_of_own (h1 := fun _ => rfl) (by rw [hl2, hc]; exact h2) (fun k hk => ?_)) (HB.grown h3 hbase (fun k hk => by cases hk; exact hbg)) h3)
    rcases h4 with h4 | ⟨b, h4, h5⟩
    · exact HO.1 k (by rw [← hk, h4]; rfl)
    · rw [h4] at hk; cases hk; exact hfresh _ h5
end
def entry_word.f (l0 : List Int) (a1 : ByteArray) : Option (List Int) := if l0.length < 1000000000000 ∧ a1.size < 1000000000000 then some (l0 ++ [0, (a1.size : Int) % 256] ++ bytesOf a1) else none
set_option maxHeartbeats 8000000 in
set_option maxRecDepth 100000 in
theorem entry_word.calls (P0_ : Nat → Prop) (u9000_ : Value) (l0 : List Int) (a1 : ByteArray) (r : List Int) (w0 w : World) (hB : Below w0.heap.size w0 w) (ho0 : Kd.R (Kd.int .u8) 5 w w0.heap.size P0_ u9000_ l0) (h : entry_word.f l0 a1 = some r) :
    Calls Try.prog 45 #[u9000_, .string a1] w fun e w' => ∃ v0_ : Value, e = .returned (v0_) ∧ Kd.R (Kd.int .u8) 5 w' w0.heap.size (fun k_ => (P0_ k_ ∨ w.heap.size ≤ k_)) v0_ r ∧ Below w0.heap.size w0 w' ∧ Kept w w' (fun k_ => P0_ k_) := by
  unfold entry_word.f at h
  have hc : l0.length < 1000000000000 ∧ a1.size < 1000000000000 := Decidable.byContradiction fun c => by rw [if_neg c] at h; simp at h
  rw [if_pos hc] at h
  obtain rfl := Option.some.inj h
  have HL := Aside0.mk hc
  have HO := Aside0.mk (show Kd.R (Kd.int .u8) 5 w w0.heap.size (fun k_ => (P0_ k_ ∨ w.heap.size ≤ k_)) u9000_ l0 from Kd.R_mono ho0 (fun k_ hk => (.inl hk)))
  have HB := Aside0.mk hB
  have HK := Aside0.mk (Kept.refl w (fun k_ => P0_ k_))
  have HP0 := Aside0.mk (fun k_ e_ => ho0.1 k_ e_)
  clear h hc ho0 hB
  go_enter Try.func45, Try.ntmps45
  go_wp2_with (first | ((with_reducible refine gate_dst (N := 9) rfl ?_); refine Kd.R_lit (Kd.int .u8) _ 5 ?hg (N := 9) ?hd (xs := ([0, (a1.size : Int) % 256] : List Int)) (inner := [.int .u8 0, .int .u8 ((a1.size : Int) % 256)]) (ok := fun _ => True) (okp := fun _ => True) ?hr ?hp (fun _ hk => hk) trivial (Below.refl _ _) (Nat.le_refl _) (by simp) ?_; (case hd => rfl); (case hg => rfl); (case hr => first | (go_simp; done) | (go_simp; rfl)); (case hp => exact (Reps.snoc (p := (a1.size : Int) % 256) (c := [.int .u8 ((a1.size : Int) % 256)]) (Reps.snoc (p := (0 : Int)) (c := [.int .u8 0]) (Reps.none _ _) rfl rfl) rfl rfl)); intro v3 w3 ho hb hg_ hnew_; clear hg_ hnew_; have HO2 := Aside0.mk (Kd.R_reads ho); have n1_ := Aside0.mk (Kd.R_below HO.out hb); have n2_ := Aside0.mk (below_step HB.out hb); have n3_ := Aside0.mk (Kept.below HK.out hb); clear HO HB HK; have HO := n1_; have HB := n2_; have HK := n3_; clear n1_ n2_ n3_ ho hb; obtain ⟨A3, c3, e3, hc3, hC3⟩ := HO2.out; subst e3; have HC3 := Aside0.mk hC3; clear HO2 hc3 hC3) | ((with_reducible refine gate_builtin (b := .append) (xs := #[.tmp 5, .tmp 9]) rfl ?_); at_builtin; refine Kd.R_append_rows (Kd.int .u8) (w0 := w0) w0.heap.size rfl (.tmp 5) (.tmp 9) 22 5 (.int .u8 0) 1 rfl Try.underlying22 info5 rfl (by decide) (by omega) u9000_ l0 [0, (a1.size : Int) % 256] _ _ _ (fun k_ => (P0_ k_ ∨ w.heap.size ≤ k_)) (fun _ => False) rfl rfl ?aO ?aR (fun _ _ h => h) (fun _ h => h.elim) ?aF ?aB ?aS ?aL ?_; (case aR => exact HC3.out); (case aB => exact HB.out); (case aF => exact (fun k_ hk => .inr (Nat.le_trans HK.out.1 hk))); (case aO => exact HO.out); (case aS => exact (below_size HB.out)); (case aL => have := HL.out; simp; omega); intro v4 w4 ho hb hg hat; have n3_ := Aside0.mk (Kept.of_grown (S := (fun k_ => P0_ k_)) hg HK.out (fun k_ e_ => (HO.out.1 k_ e_))); clear HO HB HK; have HO := Aside0.mk ho; have HB := Aside0.mk hb; have HK := n3_; clear n3_ ho hb hg hat) | ((with_reducible refine gate_builtin (b := .append) (xs := #[.tmp 10, .tmp 11]) rfl ?_); at_builtin; refine entry_word.append_str_at (w0 := w0) w0.heap.size rfl (.tmp 10) (.tmp 11) 22 9 5 rfl Try.underlying22 Try.underlying9 info5 v4 (l0 ++ [0, (a1.size : Int) % 256]) a1 (fun k_ => (P0_ k_ ∨ w.heap.size ≤ k_)) rfl rfl (by simp) HO.out (fun k_ hk => .inr (Nat.le_trans HK.out.1 hk)) HB.out (below_size HB.out) (by have := HL.out; simp; omega) ?_; intro v5 w5 ho hb hg; have n3_ := Aside0.mk (Kept.of_grown (S := (fun k_ => P0_ k_)) hg HK.out (fun k_ e_ => (HO.out.1 k_ e_))); clear HO HB HK; have HO := Aside0.mk ho; have HB := Aside0.mk hb; have HK := n3_; clear n3_ ho hb hg))
  go_ret
  exact ⟨_, rfl, HO.out, HB.out, HK.out⟩
end Go.Proofs.Ytjmkpcnekghmhaa.PAll
end
section
namespace Go.Proofs.Ytjmkpcnekghmhaa.PAll
open Go.RowKit Go.Proofs.YtjmkpcnekghmhaaW.PrintWords Go.Proofs.YtjmkpcnekghmhaaW.PrintLast Go.Proofs.YtjmkpcnekghmhaaW.PrintMore
attribute [local go_sem] max2_int min2_int max_two min_two max_three min_three max_four min_four   -- for this text's walks alone
set_option linter.unusedVariables false
set_option linter.unusedSimpArgs false

/-! ### entry_Encode: function 27 -/
mutual
def entry_Encode.j0 : Nat → Bool → Int → Int → Int → ByteArray → ByteArray → List Int → List (S87) → Option (List Int × Int)
  | 0, _, _, _, _, _, _, _, _ => none
  | k + 1, x26, x149000, x149001, x149002, x149003, x149004, x149005, x149006 => if x26 = true then (some (([] : List Int), 3)) else ((entry_ints.f k ([] : List Int) (([x149000, x149001, x149002] : List Int))).bind fun t152 => ((entry_word.f t152 x149003).bind fun t155 => ((entry_word.f t155 x149004).bind fun t158 => ((entry_ints.f k t158 (([(x149005.length : Int)] : List Int))).bind fun t164 => ((entry_ints.f k t164 x149005).bind fun t167 => ((entry_ints.f k t167 (([(x149006.length : Int)] : List Int))).bind fun t173 => (entry_Encode.l0 k t173 x149006 (x149006.length : Int) 0)))))))
def entry_Encode.l0 : Nat → List Int → List (S87) → Int → Int → Option (List Int × Int)
  | 0, _, _, _, _ => none
  | k + 1, x4, x58, x59, x60 => if x60 < x59 then (if 0 ≤ x60 then (if x60 < (x58.length : Int) then ((entry_ints.f k x4 (([(rd_T87 x58 x60).f0, (rd_T87 x58 x60).f1] : List Int))).bind fun t181 => (entry_Encode.l0 k t181 x58 x59 (wrap64 (x60 + 1)))) else (none)) else (none)) else ((slices_Clip_byte.f x4).bind fun t184 => (some (t184, 0)))
end
def entry_Encode.f (k : Nat) (a0_0 : Int) (a0_1 : Int) (a0_2 : Int) (a0_3 : ByteArray) (a0_4 : ByteArray) (l0_5 : List Int) (l0_6 : List (S87)) : Option (List Int × Int) := if (mx (a0_3.size : Int) (a0_4.size : Int)) > 16 then (entry_Encode.j0 k true a0_0 a0_1 a0_2 a0_3 a0_4 l0_5 l0_6) else (if (l0_5.length : Int) > 8 then (entry_Encode.j0 k true a0_0 a0_1 a0_2 a0_3 a0_4 l0_5 l0_6) else (entry_Encode.j0 k (decide ((l0_6.length : Int) > 64)) a0_0 a0_1 a0_2 a0_3 a0_4 l0_5 l0_6))
theorem entry_Encode.mono_l : ∀ k, (∀ y0 y1 y2 y3 y4 y5 y6 y7, LeO (entry_Encode.j0 k y0 y1 y2 y3 y4 y5 y6 y7) (entry_Encode.j0 (k + 1) y0 y1 y2 y3 y4 y5 y6 y7)) ∧ (∀ y0 y1 y2 y3, LeO (entry_Encode.l0 k y0 y1 y2 y3) (entry_Encode.l0 (k + 1) y0 y1 y2 y3))
  | 0 => ⟨fun _ _ _ _ _ _ _ _ r h => by simp [entry_Encode.j0] at h, fun _ _ _ _ r h => by simp [entry_Encode.l0] at h⟩
  | k + 1 => by
    obtain ⟨ih0, ih1⟩ := entry_Encode.mono_l k
    refine ⟨?_, ?_⟩
    · intro y0 y1 y2 y3 y4 y5 y6 y7
      unfold entry_Encode.j0
      repeat' first
      | (with_reducible exact ih0 _ _ _ _ _ _ _ _)
      | (with_reducible exact ih1 _ _ _ _)
      | (with_reducible exact entry_ints.mono _ _ _)
      | (with_reducible exact LeO.refl _)
      | (with_reducible exact LeO.none _)
      | (with_reducible refine LeO.ite ?_ ?_)
      | (with_reducible refine LeO.bind ?_ (fun _ => ?_))
      | exact ih0 _ _ _ _ _ _ _ _
      | exact ih1 _ _ _ _
      | exact entry_ints.mono _ _ _
      | exact LeO.none _
      | refine LeO.ite ?_ ?_
      | refine LeO.bind ?_ (fun _ => ?_)
    · intro y0 y1 y2 y3
      unfold entry_Encode.l0
      repeat' first
      | (with_reducible exact ih0 _ _ _ _ _ _ _ _)
      | (with_reducible exact ih1 _ _ _ _)
      | (with_reducible exact entry_ints.mono _ _ _)
      | (with_reducible exact LeO.refl _)
      | (with_reducible exact LeO.none _)
      | (with_reducible refine LeO.ite ?_ ?_)
      | (with_reducible refine LeO.bind ?_ (fun _ => ?_))
      | exact ih0 _ _ _ _ _ _ _ _
      | exact ih1 _ _ _ _
      | exact entry_ints.mono _ _ _
      | exact LeO.none _
      | refine LeO.ite ?_ ?_
      | refine LeO.bind ?_ (fun _ => ?_)
theorem entry_Encode.mono : ∀ a0 a1 a2 a3 a4 a5 a6 k, LeO (entry_Encode.f k a0 a1 a2 a3 a4 a5 a6) (entry_Encode.f (k + 1) a0 a1 a2 a3 a4 a5 a6) := by
  intro a0 a1 a2 a3 a4 a5 a6 k
  obtain ⟨ih0, ih1⟩ := entry_Encode.mono_l k
  unfold entry_Encode.f
  repeat' first
      | (with_reducible exact ih0 _ _ _ _ _ _ _ _)
      | (with_reducible exact ih1 _ _ _ _)
      | (with_reducible exact entry_ints.mono _ _ _)
      | (with_reducible exact LeO.refl _)
      | (with_reducible exact LeO.none _)
      | (with_reducible refine LeO.ite ?_ ?_)
      | (with_reducible refine LeO.bind ?_ (fun _ => ?_))
      | exact ih0 _ _ _ _ _ _ _ _
      | exact ih1 _ _ _ _
      | exact entry_ints.mono _ _ _
      | exact LeO.none _
      | refine LeO.ite ?_ ?_
      | refine LeO.bind ?_ (fun _ => ?_)
def entry_Encode.T4 : Bool × List (List Nat × List Nat) := (true, [([], []), ([], []), ([1], [1]), ([0, 2], [0, 2]), ([], []), ([4], [4]), ([3, 5, 3], [3, 5]), ([6, 6, 0, 1, 2, 3, 4, 5, 6], [0, 6])])
def entry_Encode.B4 : List Nat := [0, 0, 2, 7, 0, 16, 63, 127]
theorem entry_Encode.tab4 : rtab .any (opsOf Try.f27 4) = entry_Encode.T4 := by kernel_rfl
theorem entry_Encode.bits4 : waitsOk entry_Encode.T4.2 entry_Encode.B4 = true := by kernel_rfl
def entry_Encode.T5 : Bool × List (List Nat × List Nat) := (true, [([], []), ([], []), ([1], [1]), ([2], [2]), ([3], [3]), ([0, 4], [0, 4]), ([], []), ([6], [6]), ([5, 7, 5], [5, 7]), ([8, 8, 0, 1, 2, 3, 4, 5, 6, 7, 8], [0, 8])])
def entry_Encode.B5 : List Nat := [0, 0, 2, 6, 14, 31, 0, 64, 255, 511]
theorem entry_Encode.tab5 : rtab .any (opsOf Try.f27 5) = entry_Encode.T5 := by kernel_rfl
theorem entry_Encode.bits5 : waitsOk entry_Encode.T5.2 entry_Encode.B5 = true := by kernel_rfl
set_option maxHeartbeats 8000000 in
set_option maxRecDepth 100000 in
theorem entry_Encode.calls (k : Nat) (a0_0 : Int) (a0_1 : Int) (a0_2 : Int) (a0_3 : ByteArray) (a0_4 : ByteArray) (A0_5 : Option Addr) (c0_5 : Nat) (l0_5 : List Int) (A0_6 : Option Addr) (c0_6 : Nat) (l0_6 : List (S87)) (r1 : List Int) (r2 : Int) (w : World) (hr0_5 : Kd.C (Kd.int .i64) w A0_5 l0_5.length l0_5) (hc0_5 : l0_5.length ≤ c0_5) (hr0_6 : Kd.C k87 w A0_6 l0_6.length l0_6) (hc0_6 : l0_6.length ≤ c0_6) (h : entry_Encode.f k a0_0 a0_1 a0_2 a0_3 a0_4 l0_5 l0_6 = some (r1, r2)) :
    Calls Try.prog 27 #[.agg #[.int .i64 a0_0, .int .i64 a0_1, .int .i64 a0_2, .string a0_3, .string a0_4, .slice A0_5 l0_5.length c0_5, .slice A0_6 l0_6.length c0_6]] w fun e w' => ∃ v0_ : Value, e = .returned (.tuple #[v0_, .int .i64 r2]) ∧ Kd.V (Kd.int .u8) 5 w' w.heap.size (fun k_ => (w.heap.size ≤ k_)) v0_ r1 ∧ Below w.heap.size w w' := by
  have hu50 := Try.underlying50
  have hu87 := Try.underlying87
  have HR0_5 := Aside0.mk hr0_5
  have HC0_5 := Aside0.mk hc0_5
  clear hr0_5 hc0_5
  have HR0_6 := Aside0.mk hr0_6
  have HC0_6 := Aside0.mk hc0_6
  clear hr0_6 hc0_6
  have HB := Aside0.mk (Below.refl w.heap.size w)
  have H : (if (mx (a0_3.size : Int) (a0_4.size : Int)) > 16 then (entry_Encode.j0 k true a0_0 a0_1 a0_2 a0_3 a0_4 l0_5 l0_6) else (if (l0_5.length : Int) > 8 then (entry_Encode.j0 k true a0_0 a0_1 a0_2 a0_3 a0_4 l0_5 l0_6) else (entry_Encode.j0 k (decide ((l0_6.length : Int) > 64)) a0_0 a0_1 a0_2 a0_3 a0_4 l0_5 l0_6))) = some (r1, r2) := h
  clear h
  have HC2 := Aside0.mk H
  clear H
  go_enter Try.func27, Try.ntmps27
  go_upto_region 1 with (first | ((with_reducible refine gate_dst (N := 1) rfl ?_); (try (refine gate_guard (by rfl) ?_; dsimp only)); refine box_event ?hg (N := 1) ?hd (cs := #[.int .i64 a0_0, .int .i64 a0_1, .int .i64 a0_2, .string a0_3, .string a0_4, .slice A0_5 l0_5.length c0_5, .slice A0_6 l0_6.length c0_6]) (t := 50) ?hr ?_; (case hd => rfl); (case hg => rfl); (case hr => first | (go_simp; done) | (go_simp; rfl)); intro gb148 hg w3 hbox hb; have n0_ := Aside0.mk (below_step (by repeat (first | (with_reducible first | exact HB.out | apply below_alloc | apply pw_below_drewN | apply below_drew1) | exact HB.out)) hb); have n1_ := Aside0.mk (hbox); have n2_ := Aside0.mk ((by rw [hg]; exact (below_size (by repeat (first | (with_reducible first | exact HB.out | apply below_alloc | apply pw_below_drewN | apply below_drew1) | exact HB.out))) : w.heap.size ≤ gb148)); have n3_ := Aside0.mk ((by rw [hg]; exact (below_size (by repeat (first | (with_reducible first | exact HB.out | apply below_alloc | apply pw_below_drewN | apply below_drew1) | exact HB.out))) : w.heap.size ≤ gb148)); clear HB; have HB := n0_; have BK148 := n1_; have GW148 := n2_; have GE148 := n3_; clear n0_ n1_ n2_ n3_; clear hb hbox hg))
  (try simp only [Act.put, List.setIfInBounds_toArray, List.set_cons_zero, List.set_cons_succ])
  go_cut [26] (fun v26 wc => ∃ (kq : Nat) (x26_1 : Bool), v26 = .bool x26_1 ∧ Aside0 (entry_Encode.j0 kq x26_1 a0_0 a0_1 a0_2 a0_3 a0_4 l0_5 l0_6 = some (r1, r2)) ∧ Aside0 (kq ≤ k) ∧ Aside0 (wc.heap[gb148]? = some (.cells #[.int .i64 a0_0, .int .i64 a0_1, .int .i64 a0_2, .string a0_3, .string a0_4, (.slice A0_5 l0_5.length c0_5), (.slice A0_6 l0_6.length c0_6)] 50 (0, 0))) ∧ Aside0 (Below w.heap.size w wc))
  case first =>
    have H := HC2.out
    clear HC2
    obtain ⟨ji4, hji4⟩ : ∃ j_ : Int, (mx (a0_3.size : Int) (a0_4.size : Int)) = j_ := ⟨_, rfl⟩
    replace H : (if (ji4) > 16 then (entry_Encode.j0 k true a0_0 a0_1 a0_2 a0_3 a0_4 l0_5 l0_6) else (if (l0_5.length : Int) > 8 then (entry_Encode.j0 k true a0_0 a0_1 a0_2 a0_3 a0_4 l0_5 l0_6) else (entry_Encode.j0 k (decide ((l0_6.length : Int) > 64)) a0_0 a0_1 a0_2 a0_3 a0_4 l0_5 l0_6))) = some (r1, r2) := by first | (rw [hji4] at H; exact H) | (simp only [hji4] at H ⊢; exact H)
    (try (have hji4l : 0 ≤ ji4 := by (rw [← hji4]; unfold mx; (repeat' split) <;> omega)))
    (try (have hji4m : 0 ≤ ji4 := by omega))
    have hji4_ : (if (a0_3.size : Int) < (a0_4.size : Int) then (a0_4.size : Int) else (a0_3.size : Int)) = ji4 := hji4
    by_cases hm_ : (a0_3.size : Int) < (a0_4.size : Int)
    · have hmd_ : decide ((a0_3.size : Int) < (a0_4.size : Int)) = true := decide_eq_true hm_
      have hmn_ : decide (a0_3.size < a0_4.size) = true := decide_eq_true (by omega)
      have hmt_ := eq_true hm_
      have hmu_ : (a0_3.size < a0_4.size) = True := eq_true (by omega)
      rw [if_pos hm_] at hji4_
      by_cases c5 : (ji4) > 16
      · rw [if_pos c5] at H
        have c5b0 : decide (16 < (ji4)) = true := decide_eq_true c5
        have c5z0 := c5b0
        rw [← hji4_] at c5b0
        have c5n0 : decide (16 < a0_4.size) = true := by (have q_ := of_decide_eq_true c5b0); exact decide_eq_true (by omega)
        clear c5
        (first | rw [c5b0] | (simp only [i64_w, i32_w]; rw [c5b0]) | skip)
        have H' := Aside0.mk H
        clear H
        have hcz6_0 : w3.cell? ⟨gb148, 0, none⟩ = some (.int .i64 a0_0) := (blk_cell BK148.out 0).trans rfl
        have hcz6_1 : w3.cell? ⟨gb148, 1, none⟩ = some (.int .i64 a0_1) := (blk_cell BK148.out 1).trans rfl
        have hcz6_2 : w3.cell? ⟨gb148, 2, none⟩ = some (.int .i64 a0_2) := (blk_cell BK148.out 2).trans rfl
        have hcz6_3 : w3.cell? ⟨gb148, 3, none⟩ = some (.string a0_3) := (blk_cell BK148.out 3).trans rfl
        have hcz6_4 : w3.cell? ⟨gb148, 4, none⟩ = some (.string a0_4) := (blk_cell BK148.out 4).trans rfl
        have hcz6_5 : w3.cell? ⟨gb148, 5, none⟩ = some (.slice A0_5 l0_5.length c0_5) := (blk_cell BK148.out 5).trans rfl
        have hcz6_6 : w3.cell? ⟨gb148, 6, none⟩ = some (.slice A0_6 l0_6.length c0_6) := (blk_cell BK148.out 6).trans rfl
        have hfz6_0 := blk_frozen BK148.out 0
        have hfz6_1 := blk_frozen BK148.out 1
        have hfz6_2 := blk_frozen BK148.out 2
        have hfz6_3 := blk_frozen BK148.out 3
        have hfz6_4 := blk_frozen BK148.out 4
        have hfz6_5 := blk_frozen BK148.out 5
        have hfz6_6 := blk_frozen BK148.out 6
        go_wp2
        go_meet
        case rel => exact ⟨_, (true), (by first | rfl | (simp; done) | (simp [*]; done)), H', ⟨by first | omega | exact Nat.le_refl _⟩, ⟨by (with_reducible repeat (first | refine blk_drewN ?_ _ | refine blk_drew ?_ | refine blk_alloc ?_ _)); exact BK148.out⟩, ⟨by repeat (first | (with_reducible first | exact HB.out | apply below_alloc | apply pw_below_drewN | apply below_drew1 | refine below_set ?_ GE148.out) | exact HB.out)⟩⟩
      · rw [if_neg c5] at H
        have c5b0 : decide (16 < (ji4)) = false := decide_eq_false c5
        have c5z0 := c5b0
        rw [← hji4_] at c5b0
        have c5n0 : decide (16 < a0_4.size) = false := by (have q_ := of_decide_eq_false c5b0); exact decide_eq_false (by omega)
        clear c5
        (first | rw [c5b0] | (simp only [i64_w, i32_w]; rw [c5b0]) | skip)
        by_cases c7 : (l0_5.length : Int) > 8
        · rw [if_pos c7] at H
          have c7b0 : decide (8 < (l0_5.length : Int)) = true := decide_eq_true c7
          have c7b1 : decide (8 < l0_5.length) = true := decide_eq_true (by omega)
          clear c7
          have H' := Aside0.mk H
          clear H
          have hcz8_0 : w3.cell? ⟨gb148, 0, none⟩ = some (.int .i64 a0_0) := (blk_cell BK148.out 0).trans rfl
          have hcz8_1 : w3.cell? ⟨gb148, 1, none⟩ = some (.int .i64 a0_1) := (blk_cell BK148.out 1).trans rfl
          have hcz8_2 : w3.cell? ⟨gb148, 2, none⟩ = some (.int .i64 a0_2) := (blk_cell BK148.out 2).trans rfl
          have hcz8_3 : w3.cell? ⟨gb148, 3, none⟩ = some (.string a0_3) := (blk_cell BK148.out 3).trans rfl
          have hcz8_4 : w3.cell? ⟨gb148, 4, none⟩ = some (.string a0_4) := (blk_cell BK148.out 4).trans rfl
          have hcz8_5 : w3.cell? ⟨gb148, 5, none⟩ = some (.slice A0_5 l0_5.length c0_5) := (blk_cell BK148.out 5).trans rfl
          have hcz8_6 : w3.cell? ⟨gb148, 6, none⟩ = some (.slice A0_6 l0_6.length c0_6) := (blk_cell BK148.out 6).trans rfl
          have hfz8_0 := blk_frozen BK148.out 0
          have hfz8_1 := blk_frozen BK148.out 1
          have hfz8_2 := blk_frozen BK148.out 2
          have hfz8_3 := blk_frozen BK148.out 3
          have hfz8_4 := blk_frozen BK148.out 4
          have hfz8_5 := blk_frozen BK148.out 5
          have hfz8_6 := blk_frozen BK148.out 6
          go_wp2
          go_meet
          case rel => exact ⟨_, (true), (by first | rfl | (simp; done) | (simp [*]; done)), H', ⟨by first | omega | exact Nat.le_refl _⟩, ⟨by (with_reducible repeat (first | refine blk_drewN ?_ _ | refine blk_drew ?_ | refine blk_alloc ?_ _)); exact BK148.out⟩, ⟨by repeat (first | (with_reducible first | exact HB.out | apply below_alloc | apply pw_below_drewN | apply below_drew1 | refine below_set ?_ GE148.out) | exact HB.out)⟩⟩
        · rw [if_neg c7] at H
          have c7b0 : decide (8 < (l0_5.length : Int)) = false := decide_eq_false c7
          have c7b1 : decide (8 < l0_5.length) = false := decide_eq_false (by omega)
          clear c7
          have H' := Aside0.mk H
          clear H
          have hcz9_0 : w3.cell? ⟨gb148, 0, none⟩ = some (.int .i64 a0_0) := (blk_cell BK148.out 0).trans rfl
          have hcz9_1 : w3.cell? ⟨gb148, 1, none⟩ = some (.int .i64 a0_1) := (blk_cell BK148.out 1).trans rfl
          have hcz9_2 : w3.cell? ⟨gb148, 2, none⟩ = some (.int .i64 a0_2) := (blk_cell BK148.out 2).trans rfl
          have hcz9_3 : w3.cell? ⟨gb148, 3, none⟩ = some (.string a0_3) := (blk_cell BK148.out 3).trans rfl
          have hcz9_4 : w3.cell? ⟨gb148, 4, none⟩ = some (.string a0_4) := (blk_cell BK148.out 4).trans rfl
          have hcz9_5 : w3.cell? ⟨gb148, 5, none⟩ = some (.slice A0_5 l0_5.length c0_5) := (blk_cell BK148.out 5).trans rfl
          have hcz9_6 : w3.cell? ⟨gb148, 6, none⟩ = some (.slice A0_6 l0_6.length c0_6) := (blk_cell BK148.out 6).trans rfl
          have hfz9_0 := blk_frozen BK148.out 0
          have hfz9_1 := blk_frozen BK148.out 1
          have hfz9_2 := blk_frozen BK148.out 2
          have hfz9_3 := blk_frozen BK148.out 3
          have hfz9_4 := blk_frozen BK148.out 4
          have hfz9_5 := blk_frozen BK148.out 5
          have hfz9_6 := blk_frozen BK148.out 6
          go_wp2
          go_meet
          case rel => exact ⟨_, (decide ((l0_6.length : Int) > 64)), (by first | rfl | (simp; done) | (simp [*]; done)), H', ⟨by first | omega | exact Nat.le_refl _⟩, ⟨by (with_reducible repeat (first | refine blk_drewN ?_ _ | refine blk_drew ?_ | refine blk_alloc ?_ _)); exact BK148.out⟩, ⟨by repeat (first | (with_reducible first | exact HB.out | apply below_alloc | apply pw_below_drewN | apply below_drew1 | refine below_set ?_ GE148.out) | exact HB.out)⟩⟩
    · have hmd_ : decide ((a0_3.size : Int) < (a0_4.size : Int)) = false := decide_eq_false hm_
      have hmn_ : decide (a0_3.size < a0_4.size) = false := decide_eq_false (by omega)
      have hmt_ := eq_false hm_
      have hmu_ : (a0_3.size < a0_4.size) = False := eq_false (by omega)
      rw [if_neg hm_] at hji4_
      by_cases c5 : (ji4) > 16
      · rw [if_pos c5] at H
        have c5b0 : decide (16 < (ji4)) = true := decide_eq_true c5
        have c5z0 := c5b0
        rw [← hji4_] at c5b0
        have c5n0 : decide (16 < a0_3.size) = true := by (have q_ := of_decide_eq_true c5b0); exact decide_eq_true (by omega)
        clear c5
        (first | rw [c5b0] | (simp only [i64_w, i32_w]; rw [c5b0]) | skip)
        have H' := Aside0.mk H
        clear H
        have hcz6_0 : w3.cell? ⟨gb148, 0, none⟩ = some (.int .i64 a0_0) := (blk_cell BK148.out 0).trans rfl
        have hcz6_1 : w3.cell? ⟨gb148, 1, none⟩ = some (.int .i64 a0_1) := (blk_cell BK148.out 1).trans rfl
        have hcz6_2 : w3.cell? ⟨gb148, 2, none⟩ = some (.int .i64 a0_2) := (blk_cell BK148.out 2).trans rfl
        have hcz6_3 : w3.cell? ⟨gb148, 3, none⟩ = some (.string a0_3) := (blk_cell BK148.out 3).trans rfl
        have hcz6_4 : w3.cell? ⟨gb148, 4, none⟩ = some (.string a0_4) := (blk_cell BK148.out 4).trans rfl
        have hcz6_5 : w3.cell? ⟨gb148, 5, none⟩ = some (.slice A0_5 l0_5.length c0_5) := (blk_cell BK148.out 5).trans rfl
        have hcz6_6 : w3.cell? ⟨gb148, 6, none⟩ = some (.slice A0_6 l0_6.length c0_6) := (blk_cell BK148.out 6).trans rfl
        have hfz6_0 := blk_frozen BK148.out 0
        have hfz6_1 := blk_frozen BK148.out 1
        have hfz6_2 := blk_frozen BK148.out 2
        have hfz6_3 := blk_frozen BK148.out 3
        have hfz6_4 := blk_frozen BK148.out 4
        have hfz6_5 := blk_frozen BK148.out 5
        have hfz6_6 := blk_frozen BK148.out 6
        go_wp2
        go_meet
        case rel => exact ⟨_, (true), (by first | rfl | (simp; done) | (simp [*]; done)), H', ⟨by first | omega | exact Nat.le_refl _⟩, ⟨by (with_reducible repeat (first | refine blk_drewN ?_ _ | refine blk_drew ?_ | refine blk_alloc ?_ _)); exact BK148.out⟩, ⟨by repeat (first | (with_reducible first | exact HB.out | apply below_alloc | apply pw_below_drewN | apply below_drew1 | refine below_set ?_ GE148.out) | exact HB.out)⟩⟩
      · rw [if_neg c5] at H
        have c5b0 : decide (16 < (ji4)) = false := decide_eq_false c5
        have c5z0 := c5b0
        rw [← hji4_] at c5b0
        have c5n0 : decide (16 < a0_3.size) = false := by (have q_ := of_decide_eq_false c5b0); exact decide_eq_false (by omega)
        clear c5
        (first | rw [c5b0] | (simp only [i64_w, i32_w]; rw [c5b0]) | skip)
        by_cases c7 : (l0_5.length : Int) > 8
        · rw [if_pos c7] at H
          have c7b0 : decide (8 < (l0_5.length : Int)) = true := decide_eq_true c7
          have c7b1 : decide (8 < l0_5.length) = true := decide_eq_true (by omega)
          clear c7
          have H' := Aside0.mk H
          clear H
          have hcz8_0 : w3.cell? ⟨gb148, 0, none⟩ = some (.int .i64 a0_0) := (blk_cell BK148.out 0).trans rfl
          have hcz8_1 : w3.cell? ⟨gb148, 1, none⟩ = some (.int .i64 a0_1) := (blk_cell BK148.out 1).trans rfl
          have hcz8_2 : w3.cell? ⟨gb148, 2, none⟩ = some (.int .i64 a0_2) := (blk_cell BK148.out 2).trans rfl
          have hcz8_3 : w3.cell? ⟨gb148, 3, none⟩ = some (.string a0_3) := (blk_cell BK148.out 3).trans rfl
          have hcz8_4 : w3.cell? ⟨gb148, 4, none⟩ = some (.string a0_4) := (blk_cell BK148.out 4).trans rfl
          have hcz8_5 : w3.cell? ⟨gb148, 5, none⟩ = some (.slice A0_5 l0_5.length c0_5) := (blk_cell BK148.out 5).trans rfl
          have hcz8_6 : w3.cell? ⟨gb148, 6, none⟩ = some (.slice A0_6 l0_6.length c0_6) := (blk_cell BK148.out 6).trans rfl
          have hfz8_0 := blk_frozen BK148.out 0
          have hfz8_1 := blk_frozen BK148.out 1
          have hfz8_2 := blk_frozen BK148.out 2
          have hfz8_3 := blk_frozen BK148.out 3
          have hfz8_4 := blk_frozen BK148.out 4
          have hfz8_5 := blk_frozen BK148.out 5
          have hfz8_6 := blk_frozen BK148.out 6
          go_wp2
          go_meet
          case rel => exact ⟨_, (true), (by first | rfl | (simp; done) | (simp [*]; done)), H', ⟨by first | omega | exact Nat.le_refl _⟩, ⟨by (with_reducible repeat (first | refine blk_drewN ?_ _ | refine blk_drew ?_ | refine blk_alloc ?_ _)); exact BK148.out⟩, ⟨by repeat (first | (with_reducible first | exact HB.out | apply below_alloc | apply pw_below_drewN | apply below_drew1 | refine below_set ?_ GE148.out) | exact HB.out)⟩⟩
        · rw [if_neg c7] at H
          have c7b0 : decide (8 < (l0_5.length : Int)) = false := decide_eq_false c7
          have c7b1 : decide (8 < l0_5.length) = false := decide_eq_false (by omega)
          clear c7
          have H' := Aside0.mk H
          clear H
          have hcz9_0 : w3.cell? ⟨gb148, 0, none⟩ = some (.int .i64 a0_0) := (blk_cell BK148.out 0).trans rfl
          have hcz9_1 : w3.cell? ⟨gb148, 1, none⟩ = some (.int .i64 a0_1) := (blk_cell BK148.out 1).trans rfl
          have hcz9_2 : w3.cell? ⟨gb148, 2, none⟩ = some (.int .i64 a0_2) := (blk_cell BK148.out 2).trans rfl
          have hcz9_3 : w3.cell? ⟨gb148, 3, none⟩ = some (.string a0_3) := (blk_cell BK148.out 3).trans rfl
          have hcz9_4 : w3.cell? ⟨gb148, 4, none⟩ = some (.string a0_4) := (blk_cell BK148.out 4).trans rfl
          have hcz9_5 : w3.cell? ⟨gb148, 5, none⟩ = some (.slice A0_5 l0_5.length c0_5) := (blk_cell BK148.out 5).trans rfl
          have hcz9_6 : w3.cell? ⟨gb148, 6, none⟩ = some (.slice A0_6 l0_6.length c0_6) := (blk_cell BK148.out 6).trans rfl
          have hfz9_0 := blk_frozen BK148.out 0
          have hfz9_1 := blk_frozen BK148.out 1
          have hfz9_2 := blk_frozen BK148.out 2
          have hfz9_3 := blk_frozen BK148.out 3
          have hfz9_4 := blk_frozen BK148.out 4
          have hfz9_5 := blk_frozen BK148.out 5
          have hfz9_6 := blk_frozen BK148.out 6
          go_wp2
          go_meet
          case rel => exact ⟨_, (decide ((l0_6.length : Int) > 64)), (by first | rfl | (simp; done) | (simp [*]; done)), H', ⟨by first | omega | exact Nat.le_refl _⟩, ⟨by (with_reducible repeat (first | refine blk_drewN ?_ _ | refine blk_drew ?_ | refine blk_alloc ?_ _)); exact BK148.out⟩, ⟨by repeat (first | (with_reducible first | exact HB.out | apply below_alloc | apply pw_below_drewN | apply below_drew1 | refine below_set ?_ GE148.out) | exact HB.out)⟩⟩
  case rest =>
    clear HC2
    try clear c2
    try clear p2
    try clear c5
    try clear c5b0
    try clear c7
    try clear c7b0
    try clear c7b1
    try clear hcz6_0
    try clear hcz6_1
    try clear hcz6_2
    try clear hcz6_3
    try clear hcz6_4
    try clear hcz6_5
    try clear hcz6_6
    try clear hcz8_0
    try clear hcz8_1
    try clear hcz8_2
    try clear hcz8_3
    try clear hcz8_4
    try clear hcz8_5
    try clear hcz8_6
    try clear hcz9_0
    try clear hcz9_1
    try clear hcz9_2
    try clear hcz9_3
    try clear hcz9_4
    try clear hcz9_5
    try clear hcz9_6
    try clear hfz6_0
    try clear hfz6_1
    try clear hfz6_2
    try clear hfz6_3
    try clear hfz6_4
    try clear hfz6_5
    try clear hfz6_6
    try clear hfz8_0
    try clear hfz8_1
    try clear hfz8_2
    try clear hfz8_3
    try clear hfz8_4
    try clear hfz8_5
    try clear hfz8_6
    try clear hfz9_0
    try clear hfz9_1
    try clear hfz9_2
    try clear hfz9_3
    try clear hfz9_4
    try clear hfz9_5
    try clear hfz9_6
    obtain ⟨kq, x26_1, rfl, HA, HJ1, BK148, HB⟩ := hcut
    cases kq with
    | zero => exact absurd HA.out (by simp [entry_Encode.j0])
    | succ kj1 =>
      have H := HA.out
      clear HA
      simp only [entry_Encode.j0] at H
      by_cases c10 : x26_1 = true
      · subst c10
        have H1 : (some (([] : List Int), 3)) = some (r1, r2) := by rw [if_pos rfl] at H; exact H
        clear H
        have H := H1
        clear H1
        simp only [Option.some.injEq, Prod.mk.injEq] at H
        obtain ⟨rfl, rfl⟩ := H
        go_wp2
        go_ret2
        exact ⟨_, by first | rfl | (simp [errW_none, errW_some] <;> rfl) | (simp [*, errW_none, errW_some] <;> rfl), Kd.V_nil _ _ _ _ _, by repeat (first | (with_reducible first | exact HB.out | apply below_alloc | apply pw_below_drewN | apply below_drew1 | refine below_set ?_ GE148.out) | exact HB.out)⟩
      · replace c10 := Bool.eq_false_iff.mpr c10
        subst c10
        have H1 : ((entry_ints.f kj1 ([] : List Int) (([a0_0, a0_1, a0_2] : List Int))).bind fun t152 => ((entry_word.f t152 a0_3).bind fun t155 => ((entry_word.f t155 a0_4).bind fun t158 => ((entry_ints.f kj1 t158 (([(l0_5.length : Int)] : List Int))).bind fun t164 => ((entry_ints.f kj1 t164 l0_5).bind fun t167 => ((entry_ints.f kj1 t167 (([(l0_6.length : Int)] : List Int))).bind fun t173 => (entry_Encode.l0 kj1 t173 l0_6 (l0_6.length : Int) 0))))))) = some (r1, r2) := by rw [if_neg (show ¬ (false = true) by decide)] at H; exact H
        clear H
        have H := H1
        clear H1
        obtain ⟨y149, hy149⟩ : ∃ y_ : List Int, y_ = (([a0_0, a0_1, a0_2] : List Int)) := ⟨_, rfl⟩
        replace H : ((entry_ints.f kj1 ([] : List Int) y149).bind fun t152 => ((entry_word.f t152 a0_3).bind fun t155 => ((entry_word.f t155 a0_4).bind fun t158 => ((entry_ints.f kj1 t158 (([(l0_5.length : Int)] : List Int))).bind fun t164 => ((entry_ints.f kj1 t164 l0_5).bind fun t167 => ((entry_ints.f kj1 t167 (([(l0_6.length : Int)] : List Int))).bind fun t173 => (entry_Encode.l0 kj1 t173 l0_6 (l0_6.length : Int) 0))))))) = some (r1, r2) := by first | (rw [hy149]; with_reducible exact H) | (have H2_ := (Option.bind_some _ _).symm.trans H; rw [hy149]; with_reducible exact H2_) | (have H2_ := (Option.bind_some _ _).symm.trans H; with_reducible exact H2_) | with_reducible exact H | (rw [hy149]; exact H) | exact H
        have Ny149 := Aside0.mk hy149
        clear hy149
        replace H := Option.bind_eq_some_iff.mp H
        obtain ⟨t152, A110, H⟩ := H
        replace H : ((entry_word.f t152 a0_3).bind fun t155 => ((entry_word.f t155 a0_4).bind fun t158 => ((entry_ints.f kj1 t158 (([(l0_5.length : Int)] : List Int))).bind fun t164 => ((entry_ints.f kj1 t164 l0_5).bind fun t167 => ((entry_ints.f kj1 t167 (([(l0_6.length : Int)] : List Int))).bind fun t173 => (entry_Encode.l0 kj1 t173 l0_6 (l0_6.length : Int) 0)))))) = some (r1, r2) := H
        have A11 := Aside0.mk A110
        clear A110
        replace H := Option.bind_eq_some_iff.mp H
        obtain ⟨t155, A120, H⟩ := H
        replace H : ((entry_word.f t155 a0_4).bind fun t158 => ((entry_ints.f kj1 t158 (([(l0_5.length : Int)] : List Int))).bind fun t164 => ((entry_ints.f kj1 t164 l0_5).bind fun t167 => ((entry_ints.f kj1 t167 (([(l0_6.length : Int)] : List Int))).bind fun t173 => (entry_Encode.l0 kj1 t173 l0_6 (l0_6.length : Int) 0))))) = some (r1, r2) := H
        have A12 := Aside0.mk A120
        clear A120
        replace H := Option.bind_eq_some_iff.mp H
        obtain ⟨t158, A130, H⟩ := H
        replace H : ((entry_ints.f kj1 t158 (([(l0_5.length : Int)] : List Int))).bind fun t164 => ((entry_ints.f kj1 t164 l0_5).bind fun t167 => ((entry_ints.f kj1 t167 (([(l0_6.length : Int)] : List Int))).bind fun t173 => (entry_Encode.l0 kj1 t173 l0_6 (l0_6.length : Int) 0)))) = some (r1, r2) := H
        have A13 := Aside0.mk A130
        clear A130
        obtain ⟨y161, hy161⟩ : ∃ y_ : List Int, y_ = (([(l0_5.length : Int)] : List Int)) := ⟨_, rfl⟩
        replace H : ((entry_ints.f kj1 t158 y161).bind fun t164 => ((entry_ints.f kj1 t164 l0_5).bind fun t167 => ((entry_ints.f kj1 t167 (([(l0_6.length : Int)] : List Int))).bind fun t173 => (entry_Encode.l0 kj1 t173 l0_6 (l0_6.length : Int) 0)))) = some (r1, r2) := by first | (rw [hy161]; with_reducible exact H) | (have H2_ := (Option.bind_some _ _).symm.trans H; rw [hy161]; with_reducible exact H2_) | (have H2_ := (Option.bind_some _ _).symm.trans H; with_reducible exact H2_) | with_reducible exact H | (rw [hy161]; exact H) | exact H
        have Ny161 := Aside0.mk hy161
        clear hy161
        replace H := Option.bind_eq_some_iff.mp H
        obtain ⟨t164, A140, H⟩ := H
        replace H : ((entry_ints.f kj1 t164 l0_5).bind fun t167 => ((entry_ints.f kj1 t167 (([(l0_6.length : Int)] : List Int))).bind fun t173 => (entry_Encode.l0 kj1 t173 l0_6 (l0_6.length : Int) 0))) = some (r1, r2) := H
        have A14 := Aside0.mk A140
        clear A140
        replace H := Option.bind_eq_some_iff.mp H
        obtain ⟨t167, A150, H⟩ := H
        replace H : ((entry_ints.f kj1 t167 (([(l0_6.length : Int)] : List Int))).bind fun t173 => (entry_Encode.l0 kj1 t173 l0_6 (l0_6.length : Int) 0)) = some (r1, r2) := H
        have A15 := Aside0.mk A150
        clear A150
        obtain ⟨y170, hy170⟩ : ∃ y_ : List Int, y_ = (([(l0_6.length : Int)] : List Int)) := ⟨_, rfl⟩
        replace H : ((entry_ints.f kj1 t167 y170).bind fun t173 => (entry_Encode.l0 kj1 t173 l0_6 (l0_6.length : Int) 0)) = some (r1, r2) := by first | (rw [hy170]; with_reducible exact H) | (have H2_ := (Option.bind_some _ _).symm.trans H; rw [hy170]; with_reducible exact H2_) | (have H2_ := (Option.bind_some _ _).symm.trans H; with_reducible exact H2_) | with_reducible exact H | (rw [hy170]; exact H) | exact H
        have Ny170 := Aside0.mk hy170
        clear hy170
        replace H := Option.bind_eq_some_iff.mp H
        obtain ⟨t173, A160, H⟩ := H
        replace H : (entry_Encode.l0 kj1 t173 l0_6 (l0_6.length : Int) 0) = some (r1, r2) := H
        have A16 := Aside0.mk A160
        clear A160
        have H' := Aside0.mk H
        clear H
        have hcz17_0 : wc.cell? ⟨gb148, 0, none⟩ = some (.int .i64 a0_0) := (blk_cell BK148.out 0).trans rfl
        have hcz17_1 : wc.cell? ⟨gb148, 1, none⟩ = some (.int .i64 a0_1) := (blk_cell BK148.out 1).trans rfl
        have hcz17_2 : wc.cell? ⟨gb148, 2, none⟩ = some (.int .i64 a0_2) := (blk_cell BK148.out 2).trans rfl
        have hcz17_3 : wc.cell? ⟨gb148, 3, none⟩ = some (.string a0_3) := (blk_cell BK148.out 3).trans rfl
        have hcz17_4 : wc.cell? ⟨gb148, 4, none⟩ = some (.string a0_4) := (blk_cell BK148.out 4).trans rfl
        have hcz17_5 : wc.cell? ⟨gb148, 5, none⟩ = some (.slice A0_5 l0_5.length c0_5) := (blk_cell BK148.out 5).trans rfl
        have hcz17_6 : wc.cell? ⟨gb148, 6, none⟩ = some (.slice A0_6 l0_6.length c0_6) := (blk_cell BK148.out 6).trans rfl
        have hfz17_0 := blk_frozen BK148.out 0
        have hfz17_1 := blk_frozen BK148.out 1
        have hfz17_2 := blk_frozen BK148.out 2
        have hfz17_3 := blk_frozen BK148.out 3
        have hfz17_4 := blk_frozen BK148.out 4
        have hfz17_5 := blk_frozen BK148.out 5
        have hfz17_6 := blk_frozen BK148.out 6
        try go_wp2_with (first | ((with_reducible refine gate_dst (N := 33) rfl ?_); (try (refine gate_guard (by rfl) ?_; dsimp only)); refine Kd.R_lit (Kd.int .i64) _ 3 ?hg (N := 33) ?hd (xs := ([a0_0, a0_1, a0_2] : List Int)) (inner := [.int .i64 a0_0, .int .i64 a0_1, .int .i64 a0_2]) (ok := fun _ => True) (okp := fun _ => True) ?hr ?hp (fun _ hk => hk) trivial (Below.refl _ _) (Nat.le_refl _) (by simp) ?_; (case hd => rfl); (case hg => rfl); (case hr => first | (go_simp; done) | (go_simp; rfl)); (case hp => exact (Reps.one (show Kd.M (Kd.int .i64) _ _ _ a0_0 [.int .i64 a0_0] from rfl) (Reps.one (show Kd.M (Kd.int .i64) _ _ _ a0_1 [.int .i64 a0_1] from rfl) (Reps.one (show Kd.M (Kd.int .i64) _ _ _ a0_2 [.int .i64 a0_2] from rfl) (Reps.none _ _))))); intro v150 w18 ho19 hb hg_ hnew_; clear hg_ hnew_; (first | rw [← Ny149.out] at ho19 | (simp only [Int.reduceToNat] at ho19; rw [← Ny149.out] at ho19)); have n0_ := Aside0.mk (Kd.R_lower (Kd.R_newM (M := fun k_ => (w.heap.size ≤ k_)) ho19 (below_size (by repeat (first | (with_reducible first | exact HB.out | apply below_alloc | apply pw_below_drewN | apply below_drew1 | refine below_set ?_ GE148.out) | exact HB.out))) (fun k_ h_ => h_)) (below_size (by repeat (first | (with_reducible first | exact HB.out | apply below_alloc | apply pw_below_drewN | apply below_drew1 | refine below_set ?_ GE148.out) | exact HB.out)))); have n1_ := Aside0.mk (blk_below (g := gb148) (o := .cells #[.int .i64 a0_0, .int .i64 a0_1, .int .i64 a0_2, .string a0_3, .string a0_4, .slice A0_5 l0_5.length c0_5, .slice A0_6 l0_6.length c0_6] 50 (0, 0)) (by (with_reducible repeat (first | refine blk_drewN ?_ _ | refine blk_drew ?_ | refine blk_alloc ?_ _)); exact BK148.out) hb); have n2_ := Aside0.mk (below_step (by repeat (first | (with_reducible first | exact HB.out | apply below_alloc | apply pw_below_drewN | apply below_drew1 | refine below_set ?_ GE148.out) | exact HB.out)) hb); clear BK148; clear HB; have HO151 := n0_; have BK148 := n1_; have HB := n2_; clear n0_ n1_ n2_; clear hb ho19; obtain ⟨Ao20, co20, eo20⟩ := Kd.R_slice HO151.out; subst eo20) | ((with_reducible refine gate_callee (f := 44) rfl ?_); refine goesL_ (some 34) rfl rfl Try.func44 (by kernel_rfl) rfl #[.slice none 0 0, .slice Ao20 y149.length co20] rfl (by (try simp only [List.map_toArray, List.map_cons, List.map_nil]); first | done | rfl | (simp only [List.length_drop, List.length_take]; rfl)) ?_; (refine (entry_ints.calls kj1 (fun k_ => some k_ = (.slice none 0 0 : Value).ownBlock) (.slice none 0 0) ([] : List Int) _ _ y149 t152 w _ ?side1 ?side2 ?side3 ?side4 A11.out).mono ?_); (case side1 => repeat (first | (with_reducible first | exact HB.out | apply below_alloc | apply pw_below_drewN | apply below_drew1 | refine below_set ?_ GE148.out) | exact HB.out)); (case side2 => exact Kd.R_nil _ _ _ _ _); (case side3 => exact Kd.C_kept_own (HO151.out) (fun k_ hk_ hs_ => (fun e_ => by simp [Value.ownBlock] at e_) hs_)); (case side4 => exact (Kd.R_reads' HO151.out).2.1); rintro e w21 ⟨v153, rfl, ho0, hb, hkp⟩; refine ⟨_, rfl, ?_⟩; have n0_ := Aside0.mk (blk_kept (by (with_reducible repeat (first | refine blk_drewN ?_ _ | refine blk_drew ?_ | refine blk_alloc ?_ _)); exact BK148.out) hkp (fun hs_ => (fun e_ => by simp [Value.ownBlock] at e_) hs_)); have n1_ := Aside0.mk (Kd.R_mono (ok' := fun k_ => (w.heap.size ≤ k_)) (Kd.R_keptB (HO151.out) hkp (fun k_ hk_ hs_ => (fun e_ => by simp [Value.ownBlock] at e_) hs_)) (fun k_ hk_ => hk_.1.1)); have n2_ := Aside0.mk (Kd.R_mono (ok' := fun k_ => (w.heap.size ≤ k_)) ho0 (fun k_ hk_ => Or.elim hk_ (fun hs_ => absurd hs_ (by simp [Value.ownBlock])) (fun hn_ => (Nat.le_trans (below_size (by repeat (first | (with_reducible first | exact HB.out | apply below_alloc | apply pw_below_drewN | apply below_drew1 | refine below_set ?_ GE148.out) | exact HB.out))) hn_)))); have n3_ := Aside0.mk (hb); clear BK148; clear HO151; clear HB; have BK148 := n0_; have HO151 := n1_; have HO154 := n2_; have HB := n3_; clear n0_ n1_ n2_ n3_; (try clear hb); (try clear hkp); (try clear ho0)))
        have n0_ := Aside0.mk (Kd.R_drew HO151.out)
        have n1_ := Aside0.mk (Kd.R_drew HO154.out)
        have n2_ := Aside0.mk (blk_drew BK148.out)
        have n3_ := Aside0.mk (below_drew1 HB.out)
        clear HO151
        clear HO154
        clear BK148
        clear HB
        have HO151 := n0_
        have HO154 := n1_
        have BK148 := n2_
        have HB := n3_
        clear n0_ n1_ n2_ n3_
        obtain ⟨Ao23, co23, eo23⟩ := Kd.R_slice HO154.out
        (first | subst eo23 | (injection eo23 with f1_ f2_ f3_; have f4_ := f1_.symm; have f5_ := f3_.symm; clear f1_ f2_ f3_; subst f4_; subst f5_))
        refine start_ (n := 8) (S := fun w' => w'.cell? ⟨gb148, 0, none⟩ = some (.int .i64 a0_0) ∧ w'.cell? ⟨gb148, 1, none⟩ = some (.int .i64 a0_1) ∧ w'.cell? ⟨gb148, 2, none⟩ = some (.int .i64 a0_2) ∧ w'.cell? ⟨gb148, 3, none⟩ = some (.string a0_3) ∧ w'.cell? ⟨gb148, 4, none⟩ = some (.string a0_4) ∧ w'.cell? ⟨gb148, 5, none⟩ = some (.slice A0_5 l0_5.length c0_5) ∧ w'.cell? ⟨gb148, 6, none⟩ = some (.slice A0_6 l0_6.length c0_6)) (ds := []) #[false, false, false, false, false, false, false, false] (by kernel_rfl) rfl rfl ⟨(blk_cell BK148.out 0).trans rfl, (blk_cell BK148.out 1).trans rfl, (blk_cell BK148.out 2).trans rfl, (blk_cell BK148.out 3).trans rfl, (blk_cell BK148.out 4).trans rfl, (blk_cell BK148.out 5).trans rfl, (blk_cell BK148.out 6).trans rfl⟩ (fun hHeld => ?_); refine with_tabW entry_Encode.tab4 entry_Encode.bits4 (fun HT_ HW_ => ?_)
        generalize w21.drew = w22 at HO151 HO154 BK148 HB hHeld ⊢
        refine pure_ (i := 0) (N := some 35) (v := ?_) (a' := ?_) #[true, false, false, false, false, false, false, false] rfl rfl (any_of HT_.out (by kernel_rfl)) (fun _ _ _ h => h) (Or.inl ⟨by rfl, ?_⟩) ?_ ?_
        rotate_left
        · intro w'
          go_simp
          with_reducible rfl
        rotate_left
        · simp only [Act.put, List.setIfInBounds_toArray, List.set_cons_zero, List.set_cons_succ, i64_w, i32_w]
          rfl
        refine pure_ (i := 1) (N := some 36) (v := ?_) (a' := ?_) #[true, true, false, false, false, false, false, false] rfl rfl (any_of HT_.out (by kernel_rfl)) (fun _ _ _ h => h) (Or.inl ⟨by rfl, ?_⟩) ?_ ?_
        rotate_left
        · intro w'
          go_simp
          with_reducible rfl
        rotate_left
        · simp only [Act.put, List.setIfInBounds_toArray, List.set_cons_zero, List.set_cons_succ, i64_w, i32_w]
          rfl
        refine pure_ (i := 4) (N := some 39) (v := ?_) (a' := ?_) #[true, true, false, false, true, false, false, false] rfl rfl (any_of HT_.out (by kernel_rfl)) (fun _ _ _ h => h) (Or.inl ⟨by rfl, ?_⟩) ?_ ?_
        rotate_left
        · intro w'
          go_simp
          with_reducible rfl
        rotate_left
        · simp only [Act.put, List.setIfInBounds_toArray, List.set_cons_zero, List.set_cons_succ, i64_w, i32_w]
          rfl
        refine take_ (i := 2) (N := some 37) (v := ?_) (a' := ?_) #[true, true, true, false, true, false, false, false] rfl rfl (take_ofW HT_.out HW_.out (by kernel_rfl)) (fun _ _ _ h => h) (Or.inl ⟨by rfl, ?_⟩) hHeld ?_ ?_
        rotate_left
        · rintro w' ⟨s0, s1, s2, s3, s4, s5, s6⟩
          go_simp
          with_reducible rfl
        rotate_left
        · simp only [Act.put, List.setIfInBounds_toArray, List.set_cons_zero, List.set_cons_succ, i64_w, i32_w]
          rfl
        refine take_ (i := 5) (N := some 40) (v := ?_) (a' := ?_) #[true, true, true, false, true, true, false, false] rfl rfl (take_ofW HT_.out HW_.out (by kernel_rfl)) (fun _ _ _ h => h) (Or.inl ⟨by rfl, ?_⟩) hHeld ?_ ?_
        rotate_left
        · rintro w' ⟨s0, s1, s2, s3, s4, s5, s6⟩
          go_simp
          with_reducible rfl
        rotate_left
        · simp only [Act.put, List.setIfInBounds_toArray, List.set_cons_zero, List.set_cons_succ, i64_w, i32_w]
          rfl
        refine one_ (i := 3) (N := some 38) #[true, true, true, true, true, true, false, false] rfl rfl (one_of HT_.out (by kernel_rfl)) (by decide) (fun K hK => ?_)
        refine goes_ Try.func45 (by kernel_rfl) rfl #[.slice Ao23 t152.length co23, .string a0_3] (by rfl) rfl rfl (by (try simp only [List.map_toArray, List.map_cons, List.map_nil]); first | done | rfl | (simp only [List.length_drop, List.length_take]; rfl)) ?_
        with_reducible refine (entry_word.calls (fun k_ => some k_ = (.slice Ao23 t152.length co23 : Value).ownBlock) (.slice Ao23 t152.length co23) t152 a0_3 t155 w _ ?side1 ?side2 A12.out).mono ?_
        (case side1 => repeat (first | (with_reducible first | exact HB.out | apply below_alloc | apply pw_below_drewN | apply below_drew1 | refine below_set ?_ GE148.out) | exact HB.out))
        (case side2 => exact Kd.R_tight rfl HO154.out)
        rintro e w24 ⟨v156, rfl, ho0, hb, hkp⟩
        refine ⟨_, rfl, ?_⟩
        have n0_ := Aside0.mk (blk_kept (by (with_reducible repeat (first | refine blk_drewN ?_ _ | refine blk_drew ?_ | refine blk_alloc ?_ _)); exact BK148.out) hkp (fun hs_ => (fun e_ => (Kd.R_ne HO154.out BK148.out (by decide)) e_) hs_))
        have n1_ := Aside0.mk (Kd.R_mono (ok' := fun k_ => (w.heap.size ≤ k_)) (Kd.R_keptB ((Kd.R_apart' HO151.out (Kd.R_typed HO154.out) (by decide))) hkp (fun k_ hk_ hs_ => (hk_.2) hs_)) (fun k_ hk_ => hk_.1.1))
        have n2_ := Aside0.mk (Kd.R_mono (ok' := fun k_ => (w.heap.size ≤ k_)) ho0 (fun k_ hk_ => Or.elim hk_ (fun hs_ => (HO154.out.1 k_ (hs_).symm)) (fun hn_ => (Nat.le_trans (below_size (by repeat (first | (with_reducible first | exact HB.out | apply below_alloc | apply pw_below_drewN | apply below_drew1 | refine below_set ?_ GE148.out) | exact HB.out))) hn_))))
        have n3_ := Aside0.mk (hb)
        clear BK148
        clear HO151
        clear HB
        clear HO154
        have BK148 := n0_
        have HO151 := n1_
        have HO157 := n2_
        have HB := n3_
        clear n0_ n1_ n2_ n3_
        (try clear hb)
        (try clear hkp)
        (try clear ho0)
        obtain ⟨Ao25, co25, eo25⟩ := Kd.R_slice HO157.out
        (first | subst eo25 | (injection eo25 with f1_ f2_ f3_; have f4_ := f1_.symm; have f5_ := f3_.symm; clear f1_ f2_ f3_; subst f4_; subst f5_))
        refine hK.out _ _ ⟨(blk_cell BK148.out 0).trans rfl, (blk_cell BK148.out 1).trans rfl, (blk_cell BK148.out 2).trans rfl, (blk_cell BK148.out 3).trans rfl, (blk_cell BK148.out 4).trans rfl, (blk_cell BK148.out 5).trans rfl, (blk_cell BK148.out 6).trans rfl⟩ (fun hHeld => ?_)
        clear hK K
        refine norm_ (a' := ?_) ?_ ?_
        rotate_left
        · show Act.put _ (some 38) _ = _
          simp only [Act.put, List.setIfInBounds_toArray, List.set_cons_zero, List.set_cons_succ, i64_w, i32_w]
          rfl
        refine one_ (i := 6) (N := some 41) #[true, true, true, true, true, true, true, false] rfl rfl (one_of HT_.out (by kernel_rfl)) (by decide) (fun K hK => ?_)
        refine goes_ Try.func45 (by kernel_rfl) rfl #[.slice Ao25 t155.length co25, .string a0_4] (by rfl) rfl rfl (by (try simp only [List.map_toArray, List.map_cons, List.map_nil]); first | done | rfl | (simp only [List.length_drop, List.length_take]; rfl)) ?_
        with_reducible refine (entry_word.calls (fun k_ => some k_ = (.slice Ao25 t155.length co25 : Value).ownBlock) (.slice Ao25 t155.length co25) t155 a0_4 t158 w _ ?side1 ?side2 A13.out).mono ?_
        (case side1 => repeat (first | (with_reducible first | exact HB.out | apply below_alloc | apply pw_below_drewN | apply below_drew1 | refine below_set ?_ GE148.out) | exact HB.out))
        (case side2 => exact Kd.R_tight rfl HO157.out)
        rintro e w26 ⟨v159, rfl, ho0, hb, hkp⟩
        refine ⟨_, rfl, ?_⟩
        have n0_ := Aside0.mk (blk_kept (by (with_reducible repeat (first | refine blk_drewN ?_ _ | refine blk_drew ?_ | refine blk_alloc ?_ _)); exact BK148.out) hkp (fun hs_ => (fun e_ => (Kd.R_ne HO157.out BK148.out (by decide)) e_) hs_))
        have n1_ := Aside0.mk (Kd.R_mono (ok' := fun k_ => (w.heap.size ≤ k_)) (Kd.R_keptB ((Kd.R_apart' HO151.out (Kd.R_typed HO157.out) (by decide))) hkp (fun k_ hk_ hs_ => (hk_.2) hs_)) (fun k_ hk_ => hk_.1.1))
        have n2_ := Aside0.mk (Kd.R_mono (ok' := fun k_ => (w.heap.size ≤ k_)) ho0 (fun k_ hk_ => Or.elim hk_ (fun hs_ => (HO157.out.1 k_ (hs_).symm)) (fun hn_ => (Nat.le_trans (below_size (by repeat (first | (with_reducible first | exact HB.out | apply below_alloc | apply pw_below_drewN | apply below_drew1 | refine below_set ?_ GE148.out) | exact HB.out))) hn_))))
        have n3_ := Aside0.mk (hb)
        clear BK148
        clear HO151
        clear HB
        clear HO157
        have BK148 := n0_
        have HO151 := n1_
        have HO160 := n2_
        have HB := n3_
        clear n0_ n1_ n2_ n3_
        (try clear hb)
        (try clear hkp)
        (try clear ho0)
        refine hK.out _ _ ⟨(blk_cell BK148.out 0).trans rfl, (blk_cell BK148.out 1).trans rfl, (blk_cell BK148.out 2).trans rfl, (blk_cell BK148.out 3).trans rfl, (blk_cell BK148.out 4).trans rfl, (blk_cell BK148.out 5).trans rfl, (blk_cell BK148.out 6).trans rfl⟩ (fun hHeld => ?_)
        clear hK K
        refine norm_ (a' := ?_) ?_ ?_
        rotate_left
        · show Act.put _ (some 41) _ = _
          simp only [Act.put, List.setIfInBounds_toArray, List.set_cons_zero, List.set_cons_succ, i64_w, i32_w]
          rfl
        refine pure_ (i := 7) (N := some 4) (v := ?_) (a' := ?_) #[true, true, true, true, true, true, true, true] rfl rfl (any_of HT_.out (by kernel_rfl)) (fun _ _ _ h => h) (Or.inl ⟨by rfl, ?_⟩) ?_ ?_
        rotate_left
        · intro w'
          go_simp
          with_reducible rfl
        rotate_left
        · simp only [Act.put, List.setIfInBounds_toArray, List.set_cons_zero, List.set_cons_succ, i64_w, i32_w]
          rfl
        refine done_ (done_of HT_.out (by kernel_rfl)) ?_
        try go_wp2
        have n0_ := Aside0.mk (Kd.R_drew HO151.out)
        have n1_ := Aside0.mk (Kd.R_drew HO160.out)
        have n2_ := Aside0.mk (blk_drew BK148.out)
        have n3_ := Aside0.mk (below_drew1 HB.out)
        clear HO151
        clear HO160
        clear BK148
        clear HB
        have HO151 := n0_
        have HO160 := n1_
        have BK148 := n2_
        have HB := n3_
        clear n0_ n1_ n2_ n3_
        refine start_ (n := 10) (S := fun w' => w'.cell? ⟨gb148, 0, none⟩ = some (.int .i64 a0_0) ∧ w'.cell? ⟨gb148, 1, none⟩ = some (.int .i64 a0_1) ∧ w'.cell? ⟨gb148, 2, none⟩ = some (.int .i64 a0_2) ∧ w'.cell? ⟨gb148, 3, none⟩ = some (.string a0_3) ∧ w'.cell? ⟨gb148, 4, none⟩ = some (.string a0_4) ∧ w'.cell? ⟨gb148, 5, none⟩ = some (.slice A0_5 l0_5.length c0_5) ∧ w'.cell? ⟨gb148, 6, none⟩ = some (.slice A0_6 l0_6.length c0_6)) (ds := []) #[false, false, false, false, false, false, false, false, false, false] (by kernel_rfl) rfl rfl ⟨(blk_cell BK148.out 0).trans rfl, (blk_cell BK148.out 1).trans rfl, (blk_cell BK148.out 2).trans rfl, (blk_cell BK148.out 3).trans rfl, (blk_cell BK148.out 4).trans rfl, (blk_cell BK148.out 5).trans rfl, (blk_cell BK148.out 6).trans rfl⟩ (fun hHeld => ?_); refine with_tabW entry_Encode.tab5 entry_Encode.bits5 (fun HT_ HW_ => ?_)
        generalize w26.drew = w27 at HO151 HO160 BK148 HB hHeld ⊢
        refine pure_ (i := 0) (N := some 42) (v := ?_) (a' := ?_) #[true, false, false, false, false, false, false, false, false, false] rfl rfl (any_of HT_.out (by kernel_rfl)) (fun _ _ _ h => h) (Or.inl ⟨by rfl, ?_⟩) ?_ ?_
        rotate_left
        · intro w'
          go_simp
          with_reducible rfl
        rotate_left
        · simp only [Act.put, List.setIfInBounds_toArray, List.set_cons_zero, List.set_cons_succ, i64_w, i32_w]
          rfl
        refine pure_ (i := 1) (N := some 43) (v := ?_) (a' := ?_) #[true, true, false, false, false, false, false, false, false, false] rfl rfl (any_of HT_.out (by kernel_rfl)) (fun _ _ _ h => h) (Or.inl ⟨by rfl, ?_⟩) ?_ ?_
        rotate_left
        · intro w'
          go_simp
          with_reducible rfl
        rotate_left
        · simp only [Act.put, List.setIfInBounds_toArray, List.set_cons_zero, List.set_cons_succ, i64_w, i32_w]
          rfl
        refine pure_ (i := 6) (N := some 48) (v := ?_) (a' := ?_) #[true, true, false, false, false, false, true, false, false, false] rfl rfl (any_of HT_.out (by kernel_rfl)) (fun _ _ _ h => h) (Or.inl ⟨by rfl, ?_⟩) ?_ ?_
        rotate_left
        · intro w'
          go_simp
          with_reducible rfl
        rotate_left
        · simp only [Act.put, List.setIfInBounds_toArray, List.set_cons_zero, List.set_cons_succ, i64_w, i32_w]
          rfl
        refine take_ (i := 2) (N := some 44) (v := ?_) (a' := ?_) #[true, true, true, false, false, false, true, false, false, false] rfl rfl (take_ofW HT_.out HW_.out (by kernel_rfl)) (fun _ _ _ h => h) (Or.inl ⟨by rfl, ?_⟩) hHeld ?_ ?_
        rotate_left
        · rintro w' ⟨s0, s1, s2, s3, s4, s5, s6⟩
          go_simp
          with_reducible rfl
        rotate_left
        · simp only [Act.put, List.setIfInBounds_toArray, List.set_cons_zero, List.set_cons_succ, i64_w, i32_w]
          rfl
        refine pure_ (i := 3) (N := some 45) (v := ?_) (a' := ?_) #[true, true, true, true, false, false, true, false, false, false] rfl rfl (any_of HT_.out (by kernel_rfl)) (fun _ _ _ h => h) (Or.inl ⟨by rfl, ?_⟩) ?_ ?_
        rotate_left
        · intro w'
          go_simp
          with_reducible rfl
        rotate_left
        · simp only [Act.put, List.setIfInBounds_toArray, List.set_cons_zero, List.set_cons_succ, i64_w, i32_w]
          rfl
        refine take_ (i := 7) (N := some 49) (v := ?_) (a' := ?_) #[true, true, true, true, false, false, true, true, false, false] rfl rfl (take_ofW HT_.out HW_.out (by kernel_rfl)) (fun _ _ _ h => h) (Or.inl ⟨by rfl, ?_⟩) hHeld ?_ ?_
        rotate_left
        · rintro w' ⟨s0, s1, s2, s3, s4, s5, s6⟩
          go_simp
          with_reducible rfl
        rotate_left
        · simp only [Act.put, List.setIfInBounds_toArray, List.set_cons_zero, List.set_cons_succ, i64_w, i32_w]
          rfl
        refine one_ (i := 4) (N := some 46) #[true, true, true, true, true, false, true, true, false, false] rfl rfl (one_of HT_.out (by kernel_rfl)) (by decide) (fun K hK => ?_)
        refine Kd.R_lit_step (Kd.int .i64) _ 3 ?hg (N := 46) ?hd (xs := ([(l0_5.length : Int)] : List Int)) (inner := [.int .i64 (l0_5.length : Int)]) (ok := fun _ => True) (okp := fun _ => True) ?hr ?hp (fun _ hk => hk) trivial (Below.refl _ _) (Nat.le_refl _) (by simp) ?_; (case hd => rfl); (case hg => rfl); (case hr => first | (go_simp; done) | (go_simp; rfl)); (case hp => exact (Reps.one (show Kd.M (Kd.int .i64) _ _ _ (l0_5.length : Int) [.int .i64 (l0_5.length : Int)] from rfl) (Reps.none _ _)))
        intro v162 w28 ho29 hb hg_ hnew_
        clear hg_ hnew_
        (first | rw [← Ny161.out] at ho29 | (simp only [Int.reduceToNat] at ho29; rw [← Ny161.out] at ho29))
        have n0_ := Aside0.mk (Kd.R_elder' (by (with_reducible repeat (first | apply Kd.R_alloc | apply Kd.R_drewN | apply Kd.R_drew)); exact HO151.out) (Kd.R_base ho29) hb)
        have n1_ := Aside0.mk (Kd.R_below (by (with_reducible repeat (first | apply Kd.R_alloc | apply Kd.R_drewN | apply Kd.R_drew)); exact HO160.out) hb)
        have n2_ := Aside0.mk (Kd.R_lower (Kd.R_new' (Kd.R_newM (M := fun k_ => (w.heap.size ≤ k_)) ho29 (below_size (by repeat (first | (with_reducible first | exact HB.out | apply below_alloc | apply pw_below_drewN | apply below_drew1 | refine below_set ?_ GE148.out) | exact HB.out))) (fun k_ h_ => h_)) (Kd.R_lt (by (with_reducible repeat (first | apply Kd.R_alloc | apply Kd.R_drewN | apply Kd.R_drew)); exact HO151.out))) (below_size (by repeat (first | (with_reducible first | exact HB.out | apply below_alloc | apply pw_below_drewN | apply below_drew1 | refine below_set ?_ GE148.out) | exact HB.out))))
        have n3_ := Aside0.mk (blk_below (g := gb148) (o := .cells #[.int .i64 a0_0, .int .i64 a0_1, .int .i64 a0_2, .string a0_3, .string a0_4, .slice A0_5 l0_5.length c0_5, .slice A0_6 l0_6.length c0_6] 50 (0, 0)) (by (with_reducible repeat (first | refine blk_drewN ?_ _ | refine blk_drew ?_ | refine blk_alloc ?_ _)); exact BK148.out) hb)
        have n4_ := Aside0.mk (below_step (by repeat (first | (with_reducible first | exact HB.out | apply below_alloc | apply pw_below_drewN | apply below_drew1 | refine below_set ?_ GE148.out) | exact HB.out)) hb)
        clear HO151
        clear HO160
        clear BK148
        clear HB
        have HO151 := n0_
        have HO160 := n1_
        have HO163 := n2_
        have BK148 := n3_
        have HB := n4_
        clear n0_ n1_ n2_ n3_ n4_
        clear hb ho29
        obtain ⟨Ao30, co30, eo30⟩ := Kd.R_slice HO160.out
        (first | subst eo30 | (injection eo30 with f1_ f2_ f3_; have f4_ := f1_.symm; have f5_ := f3_.symm; clear f1_ f2_ f3_; subst f4_; subst f5_))
        obtain ⟨Ao31, co31, eo31⟩ := Kd.R_slice HO163.out
        (first | subst eo31 | (injection eo31 with f1_ f2_ f3_; have f4_ := f1_.symm; have f5_ := f3_.symm; clear f1_ f2_ f3_; subst f4_; subst f5_))
        refine hK.out _ _ ⟨(blk_cell BK148.out 0).trans rfl, (blk_cell BK148.out 1).trans rfl, (blk_cell BK148.out 2).trans rfl, (blk_cell BK148.out 3).trans rfl, (blk_cell BK148.out 4).trans rfl, (blk_cell BK148.out 5).trans rfl, (blk_cell BK148.out 6).trans rfl⟩ (fun hHeld => ?_)
        clear hK K
        refine norm_ (a' := ?_) ?_ ?_
        rotate_left
        · show Act.put _ (some 46) _ = _
          simp only [Act.put, List.setIfInBounds_toArray, List.set_cons_zero, List.set_cons_succ, i64_w, i32_w]
          rfl
        refine one_ (i := 5) (N := some 47) #[true, true, true, true, true, true, true, true, false, false] rfl rfl (one_of HT_.out (by kernel_rfl)) (by decide) (fun K hK => ?_)
        refine goes_ Try.func44 (by kernel_rfl) rfl #[.slice Ao30 t158.length co30, .slice Ao31 y161.length co31] (by rfl) rfl rfl (by (try simp only [List.map_toArray, List.map_cons, List.map_nil]); first | done | rfl | (simp only [List.length_drop, List.length_take]; rfl)) ?_
        with_reducible refine (entry_ints.calls kj1 (fun k_ => some k_ = (.slice Ao30 t158.length co30 : Value).ownBlock) (.slice Ao30 t158.length co30) t158 _ _ y161 t164 w _ ?side1 ?side2 ?side3 ?side4 A14.out).mono ?_
        (case side1 => repeat (first | (with_reducible first | exact HB.out | apply below_alloc | apply pw_below_drewN | apply below_drew1 | refine below_set ?_ GE148.out) | exact HB.out))
        (case side2 => exact Kd.R_tight rfl HO160.out)
        (case side3 => exact Kd.C_kept_own ((Kd.R_apart' HO163.out (Kd.R_typed HO160.out) (by decide))) (fun k_ hk_ hs_ => (hk_.2) hs_))
        (case side4 => exact (Kd.R_reads' HO163.out).2.1)
        rintro e w32 ⟨v165, rfl, ho0, hb, hkp⟩
        refine ⟨_, rfl, ?_⟩
        have n0_ := Aside0.mk (blk_kept (by (with_reducible repeat (first | refine blk_drewN ?_ _ | refine blk_drew ?_ | refine blk_alloc ?_ _)); exact BK148.out) hkp (fun hs_ => (fun e_ => (Kd.R_ne HO160.out BK148.out (by decide)) e_) hs_))
        have n1_ := Aside0.mk (Kd.R_mono (ok' := fun k_ => (w.heap.size ≤ k_) ∧ some k_ ≠ (.slice Ao31 y161.length co31 : Value).ownBlock) (Kd.R_keptB ((Kd.R_apart' HO151.out (Kd.R_typed HO160.out) (by decide))) hkp (fun k_ hk_ hs_ => (hk_.2) hs_)) (fun k_ hk_ => ⟨hk_.1.1.1, hk_.1.1.2⟩))
        have n2_ := Aside0.mk (Kd.R_mono (ok' := fun k_ => (w.heap.size ≤ k_) ∧ some k_ ≠ (.slice Ao20 y149.length co20 : Value).ownBlock) (Kd.R_keptB ((Kd.R_apart' HO163.out (Kd.R_typed HO160.out) (by decide))) hkp (fun k_ hk_ hs_ => (hk_.2) hs_)) (fun k_ hk_ => ⟨hk_.1.1.1.1, hk_.1.1.2⟩))
        have n3_ := Aside0.mk (Kd.R_mono (ok' := fun k_ => (w.heap.size ≤ k_)) ho0 (fun k_ hk_ => Or.elim hk_ (fun hs_ => (HO160.out.1 k_ (hs_).symm)) (fun hn_ => (Nat.le_trans (below_size (by repeat (first | (with_reducible first | exact HB.out | apply below_alloc | apply pw_below_drewN | apply below_drew1 | refine below_set ?_ GE148.out) | exact HB.out))) hn_))))
        have n4_ := Aside0.mk (hb)
        clear BK148
        clear HO151
        clear HO163
        clear HB
        clear HO160
        have BK148 := n0_
        have HO151 := n1_
        have HO163 := n2_
        have HO166 := n3_
        have HB := n4_
        clear n0_ n1_ n2_ n3_ n4_
        (try clear hb)
        (try clear hkp)
        (try clear ho0)
        obtain ⟨Ao33, co33, eo33⟩ := Kd.R_slice HO166.out
        (first | subst eo33 | (injection eo33 with f1_ f2_ f3_; have f4_ := f1_.symm; have f5_ := f3_.symm; clear f1_ f2_ f3_; subst f4_; subst f5_))
        refine hK.out _ _ ⟨(blk_cell BK148.out 0).trans rfl, (blk_cell BK148.out 1).trans rfl, (blk_cell BK148.out 2).trans rfl, (blk_cell BK148.out 3).trans rfl, (blk_cell BK148.out 4).trans rfl, (blk_cell BK148.out 5).trans rfl, (blk_cell BK148.out 6).trans rfl⟩ (fun hHeld => ?_)
        clear hK K
        refine norm_ (a' := ?_) ?_ ?_
        rotate_left
        · show Act.put _ (some 47) _ = _
          simp only [Act.put, List.setIfInBounds_toArray, List.set_cons_zero, List.set_cons_succ, i64_w, i32_w]
          rfl
        refine one_ (i := 8) (N := some 50) #[true, true, true, true, true, true, true, true, true, false] rfl rfl (one_of HT_.out (by kernel_rfl)) (by decide) (fun K hK => ?_)
        refine goes_ Try.func44 (by kernel_rfl) rfl #[.slice Ao33 t164.length co33, .slice A0_5 l0_5.length c0_5] (by rfl) rfl rfl (by (try simp only [List.map_toArray, List.map_cons, List.map_nil]); first | done | rfl | (simp only [List.length_drop, List.length_take]; rfl)) ?_
        with_reducible refine (entry_ints.calls kj1 (fun k_ => some k_ = (.slice Ao33 t164.length co33 : Value).ownBlock) (.slice Ao33 t164.length co33) t164 _ _ l0_5 t167 w _ ?side1 ?side2 ?side3 ?side4 A15.out).mono ?_
        (case side1 => repeat (first | (with_reducible first | exact HB.out | apply below_alloc | apply pw_below_drewN | apply below_drew1 | refine below_set ?_ GE148.out) | exact HB.out))
        (case side2 => exact Kd.R_tight rfl HO166.out)
        (case side3 => exact Kd.C_kept_came (Kd.heap_int .i64) HR0_5.out (by repeat (first | (with_reducible first | exact HB.out | apply below_alloc | apply pw_below_drewN | apply below_drew1 | refine below_set ?_ GE148.out) | exact HB.out)) (fun k_ hs_ => (fun e_ => Kd.R_base HO166.out k_ e_.symm) hs_))
        (case side4 => exact HC0_5.out)
        rintro e w34 ⟨v168, rfl, ho0, hb, hkp⟩
        refine ⟨_, rfl, ?_⟩
        have n0_ := Aside0.mk (blk_kept (by (with_reducible repeat (first | refine blk_drewN ?_ _ | refine blk_drew ?_ | refine blk_alloc ?_ _)); exact BK148.out) hkp (fun hs_ => (fun e_ => (Kd.R_ne HO166.out BK148.out (by decide)) e_) hs_))
        have n1_ := Aside0.mk (Kd.R_mono (ok' := fun k_ => (w.heap.size ≤ k_) ∧ some k_ ≠ (.slice Ao31 y161.length co31 : Value).ownBlock) (Kd.R_keptB ((Kd.R_apart' HO151.out (Kd.R_typed HO166.out) (by decide))) hkp (fun k_ hk_ hs_ => (hk_.2) hs_)) (fun k_ hk_ => ⟨hk_.1.1.1, hk_.1.1.2⟩))
        have n2_ := Aside0.mk (Kd.R_mono (ok' := fun k_ => (w.heap.size ≤ k_) ∧ some k_ ≠ (.slice Ao20 y149.length co20 : Value).ownBlock) (Kd.R_keptB ((Kd.R_apart' HO163.out (Kd.R_typed HO166.out) (by decide))) hkp (fun k_ hk_ hs_ => (hk_.2) hs_)) (fun k_ hk_ => ⟨hk_.1.1.1, hk_.1.1.2⟩))
        have n3_ := Aside0.mk (Kd.R_mono (ok' := fun k_ => (w.heap.size ≤ k_)) ho0 (fun k_ hk_ => Or.elim hk_ (fun hs_ => (HO166.out.1 k_ (hs_).symm)) (fun hn_ => (Nat.le_trans (below_size (by repeat (first | (with_reducible first | exact HB.out | apply below_alloc | apply pw_below_drewN | apply below_drew1 | refine below_set ?_ GE148.out) | exact HB.out))) hn_))))
        have n4_ := Aside0.mk (hb)
        clear BK148
        clear HO151
        clear HO163
        clear HB
        clear HO166
        have BK148 := n0_
        have HO151 := n1_
        have HO163 := n2_
        have HO169 := n3_
        have HB := n4_
        clear n0_ n1_ n2_ n3_ n4_
        (try clear hb)
        (try clear hkp)
        (try clear ho0)
        refine hK.out _ _ ⟨(blk_cell BK148.out 0).trans rfl, (blk_cell BK148.out 1).trans rfl, (blk_cell BK148.out 2).trans rfl, (blk_cell BK148.out 3).trans rfl, (blk_cell BK148.out 4).trans rfl, (blk_cell BK148.out 5).trans rfl, (blk_cell BK148.out 6).trans rfl⟩ (fun hHeld => ?_)
        clear hK K
        refine norm_ (a' := ?_) ?_ ?_
        rotate_left
        · show Act.put _ (some 50) _ = _
          simp only [Act.put, List.setIfInBounds_toArray, List.set_cons_zero, List.set_cons_succ, i64_w, i32_w]
          rfl
        refine pure_ (i := 9) (N := some 4) (v := ?_) (a' := ?_) #[true, true, true, true, true, true, true, true, true, true] rfl rfl (any_of HT_.out (by kernel_rfl)) (fun _ _ _ h => h) (Or.inl ⟨by rfl, ?_⟩) ?_ ?_
        rotate_left
        · intro w'
          go_simp
          with_reducible rfl
        rotate_left
        · simp only [Act.put, List.setIfInBounds_toArray, List.set_cons_zero, List.set_cons_succ, i64_w, i32_w]
          rfl
        refine done_ (done_of HT_.out (by kernel_rfl)) ?_
        have hcz35_0 : w34.cell? ⟨gb148, 0, none⟩ = some (.int .i64 a0_0) := (blk_cell BK148.out 0).trans rfl
        have hcz35_1 : w34.cell? ⟨gb148, 1, none⟩ = some (.int .i64 a0_1) := (blk_cell BK148.out 1).trans rfl
        have hcz35_2 : w34.cell? ⟨gb148, 2, none⟩ = some (.int .i64 a0_2) := (blk_cell BK148.out 2).trans rfl
        have hcz35_3 : w34.cell? ⟨gb148, 3, none⟩ = some (.string a0_3) := (blk_cell BK148.out 3).trans rfl
        have hcz35_4 : w34.cell? ⟨gb148, 4, none⟩ = some (.string a0_4) := (blk_cell BK148.out 4).trans rfl
        have hcz35_5 : w34.cell? ⟨gb148, 5, none⟩ = some (.slice A0_5 l0_5.length c0_5) := (blk_cell BK148.out 5).trans rfl
        have hcz35_6 : w34.cell? ⟨gb148, 6, none⟩ = some (.slice A0_6 l0_6.length c0_6) := (blk_cell BK148.out 6).trans rfl
        have hfz35_0 := blk_frozen BK148.out 0
        have hfz35_1 := blk_frozen BK148.out 1
        have hfz35_2 := blk_frozen BK148.out 2
        have hfz35_3 := blk_frozen BK148.out 3
        have hfz35_4 := blk_frozen BK148.out 4
        have hfz35_5 := blk_frozen BK148.out 5
        have hfz35_6 := blk_frozen BK148.out 6
        try go_wp2_with (first | ((with_reducible refine gate_dst (N := 55) rfl ?_); (try (refine gate_guard (by rfl) ?_; dsimp only)); refine Kd.R_lit (Kd.int .i64) _ 3 ?hg (N := 55) ?hd (xs := ([(l0_6.length : Int)] : List Int)) (inner := [.int .i64 (l0_6.length : Int)]) (ok := fun _ => True) (okp := fun _ => True) ?hr ?hp (fun _ hk => hk) trivial (Below.refl _ _) (Nat.le_refl _) (by simp) ?_; (case hd => rfl); (case hg => rfl); (case hr => first | (go_simp; done) | (go_simp; rfl)); (case hp => exact (Reps.one (show Kd.M (Kd.int .i64) _ _ _ (l0_6.length : Int) [.int .i64 (l0_6.length : Int)] from rfl) (Reps.none _ _))); intro v171 w36 ho37 hb hg_ hnew_; clear hg_ hnew_; (first | rw [← Ny170.out] at ho37 | (simp only [Int.reduceToNat] at ho37; rw [← Ny170.out] at ho37)); have n0_ := Aside0.mk (Kd.R_elder' (by (with_reducible repeat (first | apply Kd.R_alloc | apply Kd.R_drewN | apply Kd.R_drew)); exact HO151.out) (Kd.R_base ho37) hb); have n1_ := Aside0.mk (Kd.R_elder' (by (with_reducible repeat (first | apply Kd.R_alloc | apply Kd.R_drewN | apply Kd.R_drew)); exact HO163.out) (Kd.R_base ho37) hb); have n2_ := Aside0.mk (Kd.R_below (by (with_reducible repeat (first | apply Kd.R_alloc | apply Kd.R_drewN | apply Kd.R_drew)); exact HO169.out) hb); have n3_ := Aside0.mk (Kd.R_lower (Kd.R_new' (Kd.R_new' (Kd.R_newM (M := fun k_ => (w.heap.size ≤ k_)) ho37 (below_size (by repeat (first | (with_reducible first | exact HB.out | apply below_alloc | apply pw_below_drewN | apply below_drew1 | refine below_set ?_ GE148.out) | exact HB.out))) (fun k_ h_ => h_)) (Kd.R_lt (by (with_reducible repeat (first | apply Kd.R_alloc | apply Kd.R_drewN | apply Kd.R_drew)); exact HO151.out))) (Kd.R_lt (by (with_reducible repeat (first | apply Kd.R_alloc | apply Kd.R_drewN | apply Kd.R_drew)); exact HO163.out))) (below_size (by repeat (first | (with_reducible first | exact HB.out | apply below_alloc | apply pw_below_drewN | apply below_drew1 | refine below_set ?_ GE148.out) | exact HB.out)))); have n4_ := Aside0.mk (blk_below (g := gb148) (o := .cells #[.int .i64 a0_0, .int .i64 a0_1, .int .i64 a0_2, .string a0_3, .string a0_4, .slice A0_5 l0_5.length c0_5, .slice A0_6 l0_6.length c0_6] 50 (0, 0)) (by (with_reducible repeat (first | refine blk_drewN ?_ _ | refine blk_drew ?_ | refine blk_alloc ?_ _)); exact BK148.out) hb); have n5_ := Aside0.mk (below_step (by repeat (first | (with_reducible first | exact HB.out | apply below_alloc | apply pw_below_drewN | apply below_drew1 | refine below_set ?_ GE148.out) | exact HB.out)) hb); clear HO151; clear HO163; clear HO169; clear BK148; clear HB; have HO151 := n0_; have HO163 := n1_; have HO169 := n2_; have HO172 := n3_; have BK148 := n4_; have HB := n5_; clear n0_ n1_ n2_ n3_ n4_ n5_; clear hb ho37; obtain ⟨Ao38, co38, eo38⟩ := Kd.R_slice HO169.out; subst eo38; obtain ⟨Ao39, co39, eo39⟩ := Kd.R_slice HO172.out; subst eo39) | ((with_reducible refine gate_callee (f := 44) rfl ?_); refine goesL_ (some 56) rfl rfl Try.func44 (by kernel_rfl) rfl #[.slice Ao38 t167.length co38, .slice Ao39 y170.length co39] rfl (by (try simp only [List.map_toArray, List.map_cons, List.map_nil]); first | done | rfl | (simp only [List.length_drop, List.length_take]; rfl)) ?_; (with_reducible refine (entry_ints.calls kj1 (fun k_ => some k_ = (.slice Ao38 t167.length co38 : Value).ownBlock) (.slice Ao38 t167.length co38) t167 _ _ y170 t173 w _ ?side1 ?side2 ?side3 ?side4 A16.out).mono ?_); (case side1 => repeat (first | (with_reducible first | exact HB.out | apply below_alloc | apply pw_below_drewN | apply below_drew1 | refine below_set ?_ GE148.out) | exact HB.out)); (case side2 => exact Kd.R_tight rfl HO169.out); (case side3 => exact Kd.C_kept_own ((Kd.R_apart' HO172.out (Kd.R_typed HO169.out) (by decide))) (fun k_ hk_ hs_ => (hk_.2) hs_)); (case side4 => exact (Kd.R_reads' HO172.out).2.1); rintro e w40 ⟨v174, rfl, ho0, hb, hkp⟩; refine ⟨_, rfl, ?_⟩; have n0_ := Aside0.mk (blk_kept (by (with_reducible repeat (first | refine blk_drewN ?_ _ | refine blk_drew ?_ | refine blk_alloc ?_ _)); exact BK148.out) hkp (fun hs_ => (fun e_ => (Kd.R_ne HO169.out BK148.out (by decide)) e_) hs_)); have n1_ := Aside0.mk (Kd.R_mono (ok' := fun k_ => (w.heap.size ≤ k_) ∧ some k_ ≠ (.slice Ao31 y161.length co31 : Value).ownBlock ∧ some k_ ≠ (.slice Ao39 y170.length co39 : Value).ownBlock) (Kd.R_keptB ((Kd.R_apart' HO151.out (Kd.R_typed HO169.out) (by decide))) hkp (fun k_ hk_ hs_ => (hk_.2) hs_)) (fun k_ hk_ => ⟨hk_.1.1.1.1, hk_.1.1.1.2, hk_.1.1.2⟩)); have n2_ := Aside0.mk (Kd.R_mono (ok' := fun k_ => (w.heap.size ≤ k_) ∧ some k_ ≠ (.slice Ao20 y149.length co20 : Value).ownBlock ∧ some k_ ≠ (.slice Ao39 y170.length co39 : Value).ownBlock) (Kd.R_keptB ((Kd.R_apart' HO163.out (Kd.R_typed HO169.out) (by decide))) hkp (fun k_ hk_ hs_ => (hk_.2) hs_)) (fun k_ hk_ => ⟨hk_.1.1.1.1, hk_.1.1.1.2, hk_.1.1.2⟩)); have n3_ := Aside0.mk (Kd.R_mono (ok' := fun k_ => (w.heap.size ≤ k_) ∧ some k_ ≠ (.slice Ao20 y149.length co20 : Value).ownBlock ∧ some k_ ≠ (.slice Ao31 y161.length co31 : Value).ownBlock) (Kd.R_keptB ((Kd.R_apart' HO172.out (Kd.R_typed HO169.out) (by decide))) hkp (fun k_ hk_ hs_ => (hk_.2) hs_)) (fun k_ hk_ => ⟨hk_.1.1.1.1.1, hk_.1.1.1.2, hk_.1.1.2⟩)); have n4_ := Aside0.mk (Kd.R_mono (ok' := fun k_ => (w.heap.size ≤ k_)) ho0 (fun k_ hk_ => Or.elim hk_ (fun hs_ => (HO169.out.1 k_ (hs_).symm)) (fun hn_ => (Nat.le_trans (below_size (by repeat (first | (with_reducible first | exact HB.out | apply below_alloc | apply pw_below_drewN | apply below_drew1 | refine below_set ?_ GE148.out) | exact HB.out))) hn_)))); have n5_ := Aside0.mk (hb); clear BK148; clear HO151; clear HO163; clear HO172; clear HB; clear HO169; have BK148 := n0_; have HO151 := n1_; have HO163 := n2_; have HO172 := n3_; have HO175 := n4_; have HB := n5_; clear n0_ n1_ n2_ n3_ n4_ n5_; (try clear hb); (try clear hkp); (try clear ho0); have hcz41_0 : w40.cell? ⟨gb148, 0, none⟩ = some (.int .i64 a0_0) := (blk_cell BK148.out 0).trans rfl; have hcz41_1 : w40.cell? ⟨gb148, 1, none⟩ = some (.int .i64 a0_1) := (blk_cell BK148.out 1).trans rfl; have hcz41_2 : w40.cell? ⟨gb148, 2, none⟩ = some (.int .i64 a0_2) := (blk_cell BK148.out 2).trans rfl; have hcz41_3 : w40.cell? ⟨gb148, 3, none⟩ = some (.string a0_3) := (blk_cell BK148.out 3).trans rfl; have hcz41_4 : w40.cell? ⟨gb148, 4, none⟩ = some (.string a0_4) := (blk_cell BK148.out 4).trans rfl; have hcz41_5 : w40.cell? ⟨gb148, 5, none⟩ = some (.slice A0_5 l0_5.length c0_5) := (blk_cell BK148.out 5).trans rfl; have hcz41_6 : w40.cell? ⟨gb148, 6, none⟩ = some (.slice A0_6 l0_6.length c0_6) := (blk_cell BK148.out 6).trans rfl; have hfz41_0 := blk_frozen BK148.out 0; have hfz41_1 := blk_frozen BK148.out 1; have hfz41_2 := blk_frozen BK148.out 2; have hfz41_3 := blk_frozen BK148.out 3; have hfz41_4 := blk_frozen BK148.out 4; have hfz41_5 := blk_frozen BK148.out 5; have hfz41_6 := blk_frozen BK148.out 6))
        go_loopg [4, 60] kj1 (fun kq v4 v60 w' => ∃ (x4_2 : List Int) (x60_2 : Int), v60 = .int .i64 x60_2 ∧ Aside0 (entry_Encode.l0 kq x4_2 l0_6 (l0_6.length : Int) x60_2 = some (r1, r2)) ∧ Aside0 (kq ≤ kj1) ∧ Aside0 (Kd.R (Kd.int .u8) 5 w' w.heap.size (fun k_ => (w.heap.size ≤ k_)) v4 x4_2) ∧ Aside0 (w'.heap[gb148]? = some (.cells #[.int .i64 a0_0, .int .i64 a0_1, .int .i64 a0_2, .string a0_3, .string a0_4, (.slice A0_5 l0_5.length c0_5), (.slice A0_6 l0_6.length c0_6)] 50 (0, 0))) ∧ Aside0 (Below w.heap.size w w'))
        case atStart => exact ⟨(t173), (0), (by first | rfl | (simp; done) | (simp [*]; done)), H', ⟨Nat.le_refl _⟩, ⟨by (with_reducible repeat (first | apply Kd.R_alloc | apply Kd.R_drewN | apply Kd.R_drew)); exact HO175.out⟩, ⟨by (with_reducible repeat (first | refine blk_drewN ?_ _ | refine blk_drew ?_ | refine blk_alloc ?_ _)); exact BK148.out⟩, ⟨by repeat (first | (with_reducible first | exact HB.out | apply below_alloc | apply pw_below_drewN | apply below_drew1 | refine below_set ?_ GE148.out) | exact HB.out)⟩⟩
        case round =>
          clear H'
          try clear c1
          try clear c2
          try clear p2
          try clear c4
          try clear c5
          try clear c5b0
          try clear c7
          try clear c7b0
          try clear c7b1
          try clear c10
          try clear c27
          try clear hcz17_0
          try clear hcz17_1
          try clear hcz17_2
          try clear hcz17_3
          try clear hcz17_4
          try clear hcz17_5
          try clear hcz17_6
          try clear hcz35_0
          try clear hcz35_1
          try clear hcz35_2
          try clear hcz35_3
          try clear hcz35_4
          try clear hcz35_5
          try clear hcz35_6
          try clear hcz41_0
          try clear hcz41_1
          try clear hcz41_2
          try clear hcz41_3
          try clear hcz41_4
          try clear hcz41_5
          try clear hcz41_6
          try clear hcz6_0
          try clear hcz6_1
          try clear hcz6_2
          try clear hcz6_3
          try clear hcz6_4
          try clear hcz6_5
          try clear hcz6_6
          try clear hcz8_0
          try clear hcz8_1
          try clear hcz8_2
          try clear hcz8_3
          try clear hcz8_4
          try clear hcz8_5
          try clear hcz8_6
          try clear hcz9_0
          try clear hcz9_1
          try clear hcz9_2
          try clear hcz9_3
          try clear hcz9_4
          try clear hcz9_5
          try clear hcz9_6
          try clear hfz17_0
          try clear hfz17_1
          try clear hfz17_2
          try clear hfz17_3
          try clear hfz17_4
          try clear hfz17_5
          try clear hfz17_6
          try clear hfz35_0
          try clear hfz35_1
          try clear hfz35_2
          try clear hfz35_3
          try clear hfz35_4
          try clear hfz35_5
          try clear hfz35_6
          try clear hfz41_0
          try clear hfz41_1
          try clear hfz41_2
          try clear hfz41_3
          try clear hfz41_4
          try clear hfz41_5
          try clear hfz41_6
          try clear hfz6_0
          try clear hfz6_1
          try clear hfz6_2
          try clear hfz6_3
          try clear hfz6_4
          try clear hfz6_5
          try clear hfz6_6
          try clear hfz8_0
          try clear hfz8_1
          try clear hfz8_2
          try clear hfz8_3
          try clear hfz8_4
          try clear hfz8_5
          try clear hfz8_6
          try clear hfz9_0
          try clear hfz9_1
          try clear hfz9_2
          try clear hfz9_3
          try clear hfz9_4
          try clear hfz9_5
          try clear hfz9_6
          try clear p2
          obtain ⟨x4_2, x60_2, rfl, HA, HK2, HO_4, BK148, HB⟩ := hrel
          cases gk with
          | zero => exact absurd HA.out (by simp [entry_Encode.l0])
          | succ k2 =>
            have H := HA.out
            clear HA
            simp only [entry_Encode.l0] at H
            by_cases c42 : x60_2 < (l0_6.length : Int)
            · rw [if_pos c42] at H
              have c42b0 : decide (x60_2 < (l0_6.length : Int)) = true := decide_eq_true c42
              clear c42
              by_cases c43 : 0 ≤ x60_2
              · rw [if_pos c43] at H
                have c43b0 : decide (0 ≤ x60_2) = true := decide_eq_true c43
                clear c43
                by_cases c44 : x60_2 < (l0_6.length : Int)
                · rw [if_pos c44] at H
                  have c44b0 : decide (x60_2 < (l0_6.length : Int)) = true := decide_eq_true c44
                  clear c44
                  obtain ⟨y178, hy178⟩ : ∃ y_ : List Int, y_ = (([(rd_T87 l0_6 x60_2).f0, (rd_T87 l0_6 x60_2).f1] : List Int)) := ⟨_, rfl⟩
                  replace H : ((entry_ints.f k2 x4_2 y178).bind fun t181 => (entry_Encode.l0 k2 t181 l0_6 (l0_6.length : Int) (wrap64 (x60_2 + 1)))) = some (r1, r2) := by first | (rw [hy178]; with_reducible exact H) | (have H2_ := (Option.bind_some _ _).symm.trans H; rw [hy178]; with_reducible exact H2_) | (have H2_ := (Option.bind_some _ _).symm.trans H; with_reducible exact H2_) | with_reducible exact H | (rw [hy178]; exact H) | exact H
                  have Ny178 := Aside0.mk hy178
                  clear hy178
                  replace H := Option.bind_eq_some_iff.mp H
                  obtain ⟨t181, A450, H⟩ := H
                  replace H : (entry_Encode.l0 k2 t181 l0_6 (l0_6.length : Int) (wrap64 (x60_2 + 1))) = some (r1, r2) := H
                  have A45 := Aside0.mk A450
                  clear A450
                  have H' := Aside0.mk H
                  clear H
                  have p176 : 0 ≤ (x60_2 : Int) := of_decide_eq_true (by first | (with_reducible assumption) | assumption)
                  have q176 : x60_2 < (l0_6.length : Int) := of_decide_eq_true (by first | (with_reducible assumption) | assumption)
                  obtain ⟨ad176, e176, hx176_0, hx176_1⟩ := at_T87 HR0_6.out x60_2 p176 q176
                  cases e176
                  replace hx176_0 := (HB.out.cell (World.block_lt_of_cell? w _ hx176_0)).trans hx176_0
                  replace hx176_1 := (HB.out.cell (World.block_lt_of_cell? w _ hx176_1)).trans hx176_1
                  replace p176 := eq_true p176
                  replace q176 := eq_true q176
                  go_wp2_with (first | ((with_reducible refine gate_dst (N := 6) rfl ?_); (try (refine gate_guard (by rfl) ?_; dsimp only)); refine box_event ?hg (N := 6) ?hd (cs := #[.int .i64 0, .int .i64 0]) (t := 87) ?hr ?_; (case hd => rfl); (case hg => rfl); (case hr => first | (go_simp; done) | (go_simp; rfl)); intro gb177 hg w46 hbox hb; have n0_ := Aside0.mk (Kd.R_below (by (with_reducible repeat (first | apply Kd.R_alloc | apply Kd.R_drewN | apply Kd.R_drew)); exact HO_4.out) hb); have n1_ := Aside0.mk (blk_below (g := gb148) (o := .cells #[.int .i64 a0_0, .int .i64 a0_1, .int .i64 a0_2, .string a0_3, .string a0_4, .slice A0_5 l0_5.length c0_5, .slice (some ad176) l0_6.length c0_6] 50 (0, 0)) (by (with_reducible repeat (first | refine blk_drewN ?_ _ | refine blk_drew ?_ | refine blk_alloc ?_ _)); exact BK148.out) hb); have n2_ := Aside0.mk (below_step (by repeat (first | (with_reducible first | exact HB.out | apply below_alloc | apply pw_below_drewN | apply below_drew1 | refine below_set ?_ GE148.out) | exact HB.out)) hb); have n3_ := Aside0.mk (hbox); have n4_ := Aside0.mk ((by rw [hg]; exact (below_size (by repeat (first | (with_reducible first | exact HB.out | apply below_alloc | apply pw_below_drewN | apply below_drew1 | refine below_set ?_ GE148.out) | exact HB.out))) : w.heap.size ≤ gb177)); have n5_ := Aside0.mk ((by rw [hg]; exact (below_size (by repeat (first | (with_reducible first | exact HB.out | apply below_alloc | apply pw_below_drewN | apply below_drew1 | refine below_set ?_ GE148.out) | exact HB.out))) : w.heap.size ≤ gb177)); have n6_ := Aside0.mk ((by rw [hg]; exact Nat.ne_of_lt (blk_lt (g := gb148) (o := .cells #[.int .i64 a0_0, .int .i64 a0_1, .int .i64 a0_2, .string a0_3, .string a0_4, .slice A0_5 l0_5.length c0_5, .slice (some ad176) l0_6.length c0_6] 50 (0, 0)) (by (with_reducible repeat (first | refine blk_drewN ?_ _ | refine blk_drew ?_ | refine blk_alloc ?_ _)); exact BK148.out)) : gb148 ≠ gb177)); have n7_ := Aside0.mk ((by rw [hg]; exact Nat.ne_of_gt (blk_lt (g := gb148) (o := .cells #[.int .i64 a0_0, .int .i64 a0_1, .int .i64 a0_2, .string a0_3, .string a0_4, .slice A0_5 l0_5.length c0_5, .slice (some ad176) l0_6.length c0_6] 50 (0, 0)) (by (with_reducible repeat (first | refine blk_drewN ?_ _ | refine blk_drew ?_ | refine blk_alloc ?_ _)); exact BK148.out)) : gb177 ≠ gb148)); clear HO_4; clear BK148; clear HB; have HO_4 := n0_; have BK148 := n1_; have HB := n2_; have BK177 := n3_; have GW177 := n4_; have GE177 := n5_; have NB148_177 := n6_; have NB177_148 := n7_; clear n0_ n1_ n2_ n3_ n4_ n5_ n6_ n7_; clear hb hbox hg; have hnb47 := NB177_148.out; have hnc47 := NB148_177.out; have hcz48_0 : w46.cell? ⟨gb177, 0, none⟩ = some (.int .i64 0) := (blk_cell BK177.out 0).trans rfl; have hcz48_1 : w46.cell? ⟨gb177, 1, none⟩ = some (.int .i64 0) := (blk_cell BK177.out 1).trans rfl; have hfz48_0 := blk_frozen BK177.out 0; have hfz48_1 := blk_frozen BK177.out 1) | ((with_reducible refine gate_dst (N := 69) rfl ?_); (try (refine gate_guard (by rfl) ?_; dsimp only)); refine Kd.R_lit (Kd.int .i64) _ 3 ?hg (N := 69) ?hd (xs := ([(rd_T87 l0_6 x60_2).f0, (rd_T87 l0_6 x60_2).f1] : List Int)) (inner := [.int .i64 ((rd_T87 l0_6 x60_2).f0), .int .i64 ((rd_T87 l0_6 x60_2).f1)]) (ok := fun _ => True) (okp := fun _ => True) ?hr ?hp (fun _ hk => hk) trivial (Below.refl _ _) (Nat.le_refl _) (by simp) ?_; (case hd => rfl); (case hg => rfl); (case hr => first | (go_simp; done) | (go_simp; rfl)); (case hp => exact (Reps.one (show Kd.M (Kd.int .i64) _ _ _ ((rd_T87 l0_6 x60_2).f0) [.int .i64 ((rd_T87 l0_6 x60_2).f0)] from rfl) (Reps.one (show Kd.M (Kd.int .i64) _ _ _ ((rd_T87 l0_6 x60_2).f1) [.int .i64 ((rd_T87 l0_6 x60_2).f1)] from rfl) (Reps.none _ _)))); intro v179 w49 ho50 hb hg_ hnew_; clear hg_ hnew_; (first | rw [← Ny178.out] at ho50 | (simp only [Int.reduceToNat] at ho50; rw [← Ny178.out] at ho50)); have n0_ := Aside0.mk (Kd.R_below (by (with_reducible repeat (first | apply Kd.R_alloc | apply Kd.R_drewN | apply Kd.R_drew)); exact (Kd.R_mono (Kd.R_far (p := ⟨gb177, 1, none⟩) (Kd.R_far (p := ⟨gb177, 0, none⟩) (Kd.R_types HO_4.out BK177.out (by decide)) (fun _ hk => hk.2) (.int .i64 ((rd_T87 l0_6 x60_2).f0))) (fun _ hk => hk.2) (.int .i64 ((rd_T87 l0_6 x60_2).f1))) (fun _ h_ => h_.1))) hb); have n1_ := Aside0.mk (Kd.R_lower (Kd.R_newM (M := fun k_ => (w.heap.size ≤ k_)) ho50 (below_size (by repeat (first | (with_reducible first | exact HB.out | apply below_alloc | apply pw_below_drewN | apply below_drew1 | refine below_set ?_ GE148.out | refine below_set ?_ GE177.out) | exact HB.out))) (fun k_ h_ => h_)) (below_size (by repeat (first | (with_reducible first | exact HB.out | apply below_alloc | apply pw_below_drewN | apply below_drew1 | refine below_set ?_ GE148.out | refine below_set ?_ GE177.out) | exact HB.out)))); have n2_ := Aside0.mk (blk_below (g := gb148) (o := .cells #[.int .i64 a0_0, .int .i64 a0_1, .int .i64 a0_2, .string a0_3, .string a0_4, .slice A0_5 l0_5.length c0_5, .slice (some ad176) l0_6.length c0_6] 50 (0, 0)) (by (with_reducible repeat (first | refine blk_drewN ?_ _ | refine blk_drew ?_ | refine blk_alloc ?_ _)); refine blk_far ?_ NB148_177.out _; (with_reducible repeat (first | refine blk_drewN ?_ _ | refine blk_drew ?_ | refine blk_alloc ?_ _)); refine blk_far ?_ NB148_177.out _; (with_reducible repeat (first | refine blk_drewN ?_ _ | refine blk_drew ?_ | refine blk_alloc ?_ _)); exact BK148.out) hb); have n3_ := Aside0.mk (blk_below (g := gb177) (o := .cells #[.int .i64 ((rd_T87 l0_6 x60_2).f0), .int .i64 ((rd_T87 l0_6 x60_2).f1)] 87 (0, 0)) (by (with_reducible repeat (first | refine blk_drewN ?_ _ | refine blk_drew ?_ | refine blk_alloc ?_ _)); refine blk_put (cs := #[.int .i64 ((rd_T87 l0_6 x60_2).f0), .int .i64 0]) ?_ 1 _ rfl; (with_reducible repeat (first | refine blk_drewN ?_ _ | refine blk_drew ?_ | refine blk_alloc ?_ _)); refine blk_put (cs := #[.int .i64 0, .int .i64 0]) ?_ 0 _ rfl; (with_reducible repeat (first | refine blk_drewN ?_ _ | refine blk_drew ?_ | refine blk_alloc ?_ _)); exact BK177.out) hb); have n4_ := Aside0.mk (below_step (by repeat (first | (with_reducible first | exact HB.out | apply below_alloc | apply pw_below_drewN | apply below_drew1 | refine below_set ?_ GE148.out | refine below_set ?_ GE177.out) | exact HB.out)) hb); clear HO_4; clear BK148; clear BK177; clear HB; have HO_4 := n0_; have HO180 := n1_; have BK148 := n2_; have BK177 := n3_; have HB := n4_; clear n0_ n1_ n2_ n3_ n4_; clear hb ho50; obtain ⟨Ao51, co51, eo51⟩ := Kd.R_slice HO_4.out; subst eo51; obtain ⟨Ao52, co52, eo52⟩ := Kd.R_slice HO180.out; subst eo52) | ((with_reducible refine gate_callee (f := 44) rfl ?_); refine goesL_ (some 70) rfl rfl Try.func44 (by kernel_rfl) rfl #[.slice Ao51 x4_2.length co51, .slice Ao52 y178.length co52] rfl (by (try simp only [List.map_toArray, List.map_cons, List.map_nil]); first | done | rfl | (simp only [List.length_drop, List.length_take]; rfl)) ?_; (with_reducible refine (entry_ints.calls k2 (fun k_ => some k_ = (.slice Ao51 x4_2.length co51 : Value).ownBlock) (.slice Ao51 x4_2.length co51) x4_2 _ _ y178 t181 w _ ?side1 ?side2 ?side3 ?side4 A45.out).mono ?_); (case side1 => repeat (first | (with_reducible first | exact HB.out | apply below_alloc | apply pw_below_drewN | apply below_drew1 | refine below_set ?_ GE148.out | refine below_set ?_ GE177.out) | exact HB.out)); (case side2 => exact Kd.R_tight rfl HO_4.out); (case side3 => exact Kd.C_kept_own ((Kd.R_apart' HO180.out (Kd.R_typed HO_4.out) (by decide))) (fun k_ hk_ hs_ => (hk_.2) hs_)); (case side4 => exact (Kd.R_reads' HO180.out).2.1); rintro e w53 ⟨v182, rfl, ho0, hb, hkp⟩; refine ⟨_, rfl, ?_⟩; have n0_ := Aside0.mk (blk_kept (by (with_reducible repeat (first | refine blk_drewN ?_ _ | refine blk_drew ?_ | refine blk_alloc ?_ _)); exact BK148.out) hkp (fun hs_ => (fun e_ => (Kd.R_ne HO_4.out BK148.out (by decide)) e_) hs_)); have n1_ := Aside0.mk (blk_kept (by (with_reducible repeat (first | refine blk_drewN ?_ _ | refine blk_drew ?_ | refine blk_alloc ?_ _)); exact BK177.out) hkp (fun hs_ => (fun e_ => (Kd.R_ne HO_4.out BK177.out (by decide)) e_) hs_)); have n2_ := Aside0.mk (Kd.R_mono (ok' := fun k_ => (w.heap.size ≤ k_)) (Kd.R_keptB ((Kd.R_apart' HO180.out (Kd.R_typed HO_4.out) (by decide))) hkp (fun k_ hk_ hs_ => (hk_.2) hs_)) (fun k_ hk_ => hk_.1.1.1)); have n3_ := Aside0.mk (Kd.R_mono (ok' := fun k_ => (w.heap.size ≤ k_)) ho0 (fun k_ hk_ => Or.elim hk_ (fun hs_ => (HO_4.out.1 k_ (hs_).symm)) (fun hn_ => (Nat.le_trans (below_size (by repeat (first | (with_reducible first | exact HB.out | apply below_alloc | apply pw_below_drewN | apply below_drew1 | refine below_set ?_ GE148.out | refine below_set ?_ GE177.out) | exact HB.out))) hn_)))); have n4_ := Aside0.mk (hb); clear BK148; clear BK177; clear HO180; clear HB; clear HO_4; have BK148 := n0_; have BK177 := n1_; have HO180 := n2_; have HO183 := n3_; have HB := n4_; clear n0_ n1_ n2_ n3_ n4_; (try clear hb); (try clear hkp); (try clear ho0)))
                  go_roundg k2
                  case measure => have := HJ1.out; have := HK2.out; omega
                  case rel => exact ⟨(t181), (wrap64 (x60_2 + 1)), (by first | rfl | (simp; done) | (simp [*]; done)), H', ⟨by have := HJ1.out; have := HK2.out; omega⟩, ⟨by (with_reducible repeat (first | apply Kd.R_alloc | apply Kd.R_drewN | apply Kd.R_drew)); exact HO183.out⟩, ⟨by (with_reducible repeat (first | refine blk_drewN ?_ _ | refine blk_drew ?_ | refine blk_alloc ?_ _)); exact BK148.out⟩, ⟨by repeat (first | (with_reducible first | exact HB.out | apply below_alloc | apply pw_below_drewN | apply below_drew1 | refine below_set ?_ GE148.out | refine below_set ?_ GE177.out) | exact HB.out)⟩⟩
                · rw [if_neg c44] at H
                  exact absurd H (by simp)
              · rw [if_neg c43] at H
                exact absurd H (by simp)
            · rw [if_neg c42] at H
              have c42b0 : decide (x60_2 < (l0_6.length : Int)) = false := decide_eq_false c42
              clear c42
              replace H := Option.bind_eq_some_iff.mp H
              obtain ⟨t184, A540, H⟩ := H
              replace H : (some (t184, 0)) = some (r1, r2) := H
              have A54 := Aside0.mk A540
              clear A540
              simp only [Option.some.injEq, Prod.mk.injEq] at H
              obtain ⟨rfl, rfl⟩ := H
              obtain ⟨Ao55, co55, eo55⟩ := Kd.R_slice HO_4.out
              subst eo55
              go_wp2_with (first | ((with_reducible refine gate_callee (f := 39) rfl ?_); refine goesL_ (some 73) rfl rfl Try.func39 (by kernel_rfl) rfl #[.slice Ao55 x4_2.length co55] rfl (by (try simp only [List.map_toArray, List.map_cons, List.map_nil]); first | done | rfl | (simp only [List.length_drop, List.length_take]; rfl)) ?_; (with_reducible refine (slices_Clip_byte.calls (fun k_ => some k_ = (.slice Ao55 x4_2.length co55 : Value).ownBlock) _ _ x4_2 t184 _ ?side1 A54.out).mono ?_); (case side1 => exact Kd.R_V (Kd.R_tight rfl (Kd.R_types (HO_4.out) BK148.out (by decide)))); rintro e w56 ⟨v185, rfl, ho0, hb⟩; refine ⟨_, rfl, ?_⟩; have n0_ := Aside0.mk (Kd.R_below (by (with_reducible repeat (first | apply Kd.R_alloc | apply Kd.R_drewN | apply Kd.R_drew)); exact HO_4.out) hb); have n1_ := Aside0.mk (Kd.V_lower (Kd.V_mono (ok' := fun k_ => (w.heap.size ≤ k_) ∧ k_ ≠ gb148) ho0 (fun k_ hk_ => ⟨Or.elim hk_ (fun hs_ => ((Kd.R_types (HO_4.out) BK148.out (by decide)).1 k_ hs_.symm).1) (fun hn_ => (Nat.le_trans (below_size (by repeat (first | (with_reducible first | exact HB.out | apply below_alloc | apply pw_below_drewN | apply below_drew1 | refine below_set ?_ GE148.out) | exact HB.out))) hn_)), Or.elim hk_ (fun hs_ => ((Kd.R_types (HO_4.out) BK148.out (by decide)).1 k_ hs_.symm).2) (fun hn_ => (Kd.freshB (g := gb148) (o := .cells #[.int .i64 a0_0, .int .i64 a0_1, .int .i64 a0_2, .string a0_3, .string a0_4, .slice A0_5 l0_5.length c0_5, .slice A0_6 l0_6.length c0_6] 50 (0, 0)) (by (with_reducible repeat (first | refine blk_drewN ?_ _ | refine blk_drew ?_ | refine blk_alloc ?_ _)); exact BK148.out) k_ hn_))⟩)) (below_size (by repeat (first | (with_reducible first | exact HB.out | apply below_alloc | apply pw_below_drewN | apply below_drew1 | refine below_set ?_ GE148.out) | exact HB.out)))); have n2_ := Aside0.mk (blk_below (g := gb148) (o := .cells #[.int .i64 a0_0, .int .i64 a0_1, .int .i64 a0_2, .string a0_3, .string a0_4, .slice A0_5 l0_5.length c0_5, .slice A0_6 l0_6.length c0_6] 50 (0, 0)) (by (with_reducible repeat (first | refine blk_drewN ?_ _ | refine blk_drew ?_ | refine blk_alloc ?_ _)); exact BK148.out) hb); have n3_ := Aside0.mk (below_step (by repeat (first | (with_reducible first | exact HB.out | apply below_alloc | apply pw_below_drewN | apply below_drew1 | refine below_set ?_ GE148.out) | exact HB.out)) hb); clear HO_4; clear BK148; clear HB; have HO_4 := n0_; have HO186 := n1_; have BK148 := n2_; have HB := n3_; clear n0_ n1_ n2_ n3_; (try clear hb); (try clear hb2); (try clear hk); (try clear hi); (try clear ho0)))
              go_ret2
              exact ⟨_, by first | rfl | (simp [errW_none, errW_some] <;> rfl) | (simp [*, errW_none, errW_some] <;> rfl), by (with_reducible repeat (first | apply Kd.V_alloc | apply Kd.V_drewN | apply Kd.V_drew)); exact Kd.V_mono HO186.out (fun _ hk => hk.1), by repeat (first | (with_reducible first | exact HB.out | apply below_alloc | apply pw_below_drewN | apply below_drew1 | refine below_set ?_ GE148.out) | exact HB.out)⟩

end Go.Proofs.Ytjmkpcnekghmhaa.PAll
end
section
namespace Go.Proofs.Ytjmkpcnekghmhaa.PAll
open Go.RowKit Go.Proofs.YtjmkpcnekghmhaaW.PrintWords Go.Proofs.YtjmkpcnekghmhaaW.PrintLast Go.Proofs.YtjmkpcnekghmhaaW.PrintMore
attribute [local go_sem] max2_int min2_int max_two min_two max_three min_three max_four min_four   -- for this text's walks alone
set_option linter.unusedVariables false
set_option linter.unusedSimpArgs false

/-! ### slices_Clone_byte: function 41 -/
def slices_Clone_byte.f (l0 : List Int) : Option (List Int) := (some (([] : List Int) : List Int)).bind fun y101 => (if y101.length + l0.length < 140737488355328 then (some (y101 ++ l0)) else (none))
set_option maxHeartbeats 8000000 in
set_option maxRecDepth 100000 in
theorem slices_Clone_byte.calls_some (ad0_ : Addr) (c0 : Nat) (l0 : List Int) (r : List Int) (w : World) (hr0 : Kd.C (Kd.int .u8) w (some ad0_) l0.length l0) (hc0 : l0.length ≤ c0) (h : slices_Clone_byte.f l0 = some r) :
    Calls Try.prog 41 #[.slice (some ad0_) l0.length c0] w fun e w' => ∃ v0_ : Value, e = .returned (v0_) ∧ Kd.R (Kd.int .u8) 5 w' w.heap.size (fun _ => True) v0_ r ∧ Below w.heap.size w w' := by
  have HR0 := Aside0.mk hr0
  have HC0 := Aside0.mk hc0
  clear hr0 hc0
  have HB := Aside0.mk (Below.refl w.heap.size w)
  have H : ((some (([] : List Int) : List Int)).bind fun y101 => (if y101.length + l0.length < 140737488355328 then (some (y101 ++ l0)) else (none))) = some r := h
  clear h
  obtain ⟨y101, hy101⟩ : ∃ y_ : List Int, y_ = (([] : List Int)) := ⟨_, rfl⟩
  replace H : (if y101.length + l0.length < 140737488355328 then (some (y101 ++ l0)) else (none)) = some r := by first | (rw [hy101]; with_reducible exact H) | (have H2_ := (Option.bind_some _ _).symm.trans H; rw [hy101]; with_reducible exact H2_) | (have H2_ := (Option.bind_some _ _).symm.trans H; with_reducible exact H2_) | with_reducible exact H | (rw [hy101]; exact H) | exact H
  have Ny101 := Aside0.mk hy101
  clear hy101
  by_cases c2 : y101.length + l0.length < 140737488355328
  · rw [if_pos c2] at H
    have LMc2 := Aside0.mk c2
    clear c2
    obtain ⟨y104, hy104⟩ : ∃ y_ : List Int, y_ = (y101 ++ l0) := ⟨_, rfl⟩
    replace H : (some y104) = some r := by first | (rw [hy104]; with_reducible exact H) | (have H2_ := (Option.bind_some _ _).symm.trans H; rw [hy104]; with_reducible exact H2_) | (have H2_ := (Option.bind_some _ _).symm.trans H; with_reducible exact H2_) | with_reducible exact H | (rw [hy104]; exact H) | exact H
    have Ny104 := Aside0.mk hy104
    clear hy104
    obtain rfl := Option.some.inj H
    have hnil_ := fun (W : World) => Lib.run_eql_slice_nil (P := Try.prog) W 22 5 (some ad0_) l0.length c0 0 0 Try.underlying22
    go_enter Try.func41, Try.ntmps41
    go_wp2_with (first | ((with_reducible refine gate_dst (N := 5) rfl ?_); refine Kd.R_lit (Kd.int .u8) _ 5 ?hg (N := 5) ?hd (xs := ([] : List Int)) (inner := []) (ok := fun _ => True) (okp := fun _ => True) ?hr ?hp (fun _ hk => hk) trivial (Below.refl _ _) (Nat.le_refl _) (by simp) ?_; (case hd => rfl); (case hg => rfl); (case hr => first | (go_simp; done) | (go_simp; rfl)); (case hp => exact (Reps.none _ _)); intro v102 w3 ho4 hb hg_ hnew_; clear hg_ hnew_; (first | rw [← Ny101.out] at ho4 | (simp only [Int.reduceToNat] at ho4; rw [← Ny101.out] at ho4)); have n0_ := Aside0.mk (Kd.R_lower ho4 (below_size (by repeat (first | (with_reducible first | exact HB.out | apply below_alloc | apply pw_below_drewN | apply below_drew1) | exact HB.out)))); have n1_ := Aside0.mk (below_step (by repeat (first | (with_reducible first | exact HB.out | apply below_alloc | apply pw_below_drewN | apply below_drew1) | exact HB.out)) hb); clear HB; have HO103 := n0_; have HB := n1_; clear n0_ n1_; clear hb ho4) | ((with_reducible refine gate_builtin (b := .append) (xs := #[.tmp 5, .tmp 6]) rfl ?_); at_builtin; refine Kd.R_append_rows (Kd.int .u8) (w0 := w) w.heap.size rfl (.tmp 5) (.tmp 6) 22 5 (.int .u8 0) 1 rfl Try.underlying22 info5 rfl (by decide) (by omega) v102 y101 l0 _ _ _ (fun _ => True) (fun _ => False) rfl rfl ?aO ?aR (fun _ _ h => h) (fun _ h => h.elim) ?aF ?aB ?aS ?aL ?_; (case aR => repeat (first | exact (Kd.C_below HR0.out HB.out) | (with_reducible refine Kd.C_alloc ?_ _) | (with_reducible refine Kd.C_drewN ?_ _) | (with_reducible refine Kd.C_drew ?_))); (case aB => exact (by repeat (first | (with_reducible first | exact HB.out | apply below_alloc | apply pw_below_drewN | apply below_drew1) | exact HB.out))); (case aF => exact (fun _ _ => trivial)); (case aO => exact (by (with_reducible repeat (first | apply Kd.R_alloc | apply Kd.R_drewN | apply Kd.R_drew)); exact HO103.out)); (case aS => exact (below_size (by repeat (first | (with_reducible first | exact HB.out | apply below_alloc | apply pw_below_drewN | apply below_drew1) | exact HB.out)))); (case aL => have := LMc2.out; omega); intro v105 w5 ho hb hg hat; rw [← Ny104.out] at ho; have n0_ := Aside0.mk (hb); have n1_ := Aside0.mk (ho); clear HB; clear HO103; have HB := n0_; have HO106 := n1_; clear n0_ n1_; clear ho hb hg hat))
    go_ret
    exact ⟨_, by first | rfl | (simp [errW_none, errW_some] <;> rfl) | (simp [*, errW_none, errW_some] <;> rfl), by (with_reducible repeat (first | apply Kd.R_alloc | apply Kd.R_drewN | apply Kd.R_drew)); exact HO106.out, by repeat (first | (with_reducible first | exact HB.out | apply below_alloc | apply pw_below_drewN | apply below_drew1) | exact HB.out)⟩
  · rw [if_neg c2] at H
    exact absurd H (by simp)

set_option maxHeartbeats 8000000 in
theorem slices_Clone_byte.calls (A0 : Option Addr) (c0 : Nat) (l0 : List Int) (r : List Int) (w : World) (hr0 : Kd.C (Kd.int .u8) w A0 l0.length l0) (hc0 : l0.length ≤ c0) (h : slices_Clone_byte.f l0 = some r) :
    Calls Try.prog 41 #[.slice A0 l0.length c0] w fun e w' => ∃ v0_ : Value, e = .returned (v0_) ∧ Kd.R (Kd.int .u8) 5 w' w.heap.size (fun _ => True) v0_ r ∧ Below w.heap.size w w' := by
  cases A0 with
  | some ad0_ => exact slices_Clone_byte.calls_some ad0_ c0 l0 r w hr0 hc0 h
  | none =>
    have hl : l0 = [] := by
      cases l0 with
      | nil => rfl
      | cons x xs => obtain ⟨ad, he, _⟩ := hr0.2.2 (by simp); cases he
    subst hl
    have hr : r = [] := by
      simp [slices_Clone_byte.f] at h; first | exact h | exact h.symm
    subst hr
    have hnil_ := fun (W : World) => Lib.run_eql_slice_nil (P := Try.prog) W 22 5 none 0 c0 0 0 Try.underlying22
    clear hr0 hc0 h
    go_enter Try.func41, Try.ntmps41
    go_wp2
    go_ret
    exact ⟨_, rfl, Kd.R_nil _ _ _ _ _, Below.refl _ _⟩

end Go.Proofs.Ytjmkpcnekghmhaa.PAll
end
section
namespace Go.Proofs.Ytjmkpcnekghmhaa.PAll
open Go.RowKit Go.Proofs.YtjmkpcnekghmhaaW.PrintWords Go.Proofs.YtjmkpcnekghmhaaW.PrintLast Go.Proofs.YtjmkpcnekghmhaaW.PrintMore
attribute [local go_sem] max2_int min2_int max_two min_two max_three min_three max_four min_four   -- for this text's walks alone
set_option linter.unusedVariables false
set_option linter.unusedSimpArgs false

/-! ### octet_New: function 21 -/
/-! ### A reader: where it lies, the bytes that it still has, whether something was wrong -/
theorem C_same {α : Type} {enc : α → Value} {h1 : ∀ x, (enc x).oneCell' = true} {w w1 : World} {A : Option Addr} {n : Nat} {xs : List α} (h : (Kd.scalar enc h1).C w A n xs) (hm : ∀ ad, A = some ad → w1.heap[ad.block]? = w.heap[ad.block]?) : (Kd.scalar enc h1).C w1 A n xs := by
  obtain ⟨h2, h3, h4⟩ := h
  refine ⟨h2, h3, fun hp => ?_⟩
  obtain ⟨ad, rfl, hr⟩ := h4 hp
  refine ⟨ad, rfl, fun j p hj => ?_⟩
  obtain ⟨c, hc1, hc2, hc3⟩ := hr j p hj
  refine ⟨c, hc1, hc2, fun i u hu => ?_⟩
  rw [World.cell?_of_block (w := w) (by rw [add_block]; exact hm ad rfl)]
  exact hc3 i u hu
structure Rdr (base p : Nat) (xs : List Int) (bad : Bool) (W : World) : Prop where
  ex : ∃ A c, W.heap[p]? = some (.cells #[.slice A xs.length c, .bool bad] 82 (0, 0)) ∧ xs.length ≤ c ∧ c ≤ 9223372036854775807 ∧ Kd.C (Kd.int .u8) W A xs.length xs ∧ ∀ ad, A = some ad → base ≤ ad.block ∧ ad.block < p
  by_ : ∀ x ∈ xs, 0 ≤ x ∧ x ≤ 255
theorem Rdr.step {base p : Nat} {xs : List Int} {bad : Bool} {W W1 : World} (h : Rdr base p xs bad W) (hm : ∀ k, k < W.heap.size → base ≤ k → W1.heap[k]? = W.heap[k]?) (hb : base ≤ p) : Rdr base p xs bad W1 := by
  obtain ⟨A, c, h1, h2, h3, h4, h5⟩ := h.ex
  have hp := blk_lt h1
  exact ⟨⟨A, c, (hm p hp hb).trans h1, h2, h3, C_same h4 (fun ad ha => hm _ (by have := (h5 ad ha).2; omega) (h5 ad ha).1), h5⟩, h.by_⟩
theorem Rdr.below {base p : Nat} {xs : List Int} {bad : Bool} {W W1 : World} (h : Rdr base p xs bad W) (hb : Below W.heap.size W W1) : Rdr base p xs bad W1 := by
  obtain ⟨A, c, h1, h2, h3, h4, h5⟩ := h.ex
  exact ⟨⟨A, c, blk_below h1 hb, h2, h3, Kd.C_below h4 hb, h5⟩, h.by_⟩
/-- The reader's own store: nothing else is touched. -/
def PutAt (p : Nat) (W W1 : World) : Prop := ∃ (j : Nat) (v : Value), W1 = W.setCell ⟨p, j, none⟩ v
/-- By how many of the reader's stores (and draws). -/
def Puts (p : Nat) (W W1 : World) : Prop := ∀ B, B ≤ p → (∀ w0 : World, Below B w0 W → Below B w0 W1) ∧ W1.heap.size = W.heap.size ∧ ∀ k, k ≠ p → W1.heap[k]? = W.heap[k]?
theorem Puts.refl (p : Nat) (W : World) : Puts p W W := fun B hB => ⟨fun _ h => h, rfl, fun _ _ => rfl⟩
theorem Puts.set {p : Nat} {W W1 : World} (h : Puts p W W1) (j : Nat) (v : Value) : Puts p W (W1.setCell ⟨p, j, none⟩ v) := fun B hB => by
  obtain ⟨h1, h2, h3⟩ := h B hB
  exact ⟨fun w0 hw => (h1 w0 hw).setCell hB _, by simpa using h2, fun k hk => (Below.heap_setCell _ _ v k hk).trans (h3 k hk)⟩
theorem Puts.trans {p : Nat} {W W1 W2 : World} (h : Puts p W W1) (k : Puts p W1 W2) : Puts p W W2 := fun B hB => by
  obtain ⟨h1, h2, h3⟩ := h B hB
  obtain ⟨k1, k2, k3⟩ := k B hB
  exact ⟨fun w0 hw => k1 w0 (h1 w0 hw), k2.trans h2, fun q hq => (k3 q hq).trans (h3 q hq)⟩
theorem Puts.below {p : Nat} {w0 W W1 : World} (h : Puts p W W1) (hp : w0.heap.size ≤ p) (hb : Below w0.heap.size w0 W) : Below w0.heap.size w0 W1 := (h _ hp).1 w0 hb
set_option maxHeartbeats 4000000 in
theorem take_nil (n : Int) (W : World) : Calls Try.prog 43 #[.pointer none, .int .i64 n] W fun e W' => e = .returned (.slice none 0 0) ∧ W' = W := by
  go_enter Try.func43, Try.ntmps43
  go_wp2
  go_ret
  exact ⟨rfl, rfl⟩
set_option maxHeartbeats 4000000 in
theorem take_bad {base p : Nat} {xs : List Int} (n : Int) (W : World) (h : Rdr base p xs true W) : Calls Try.prog 43 #[.pointer (some ⟨p, 0, none⟩), .int .i64 n] W fun e W' => e = .returned (.slice none 0 0) ∧ Rdr base p xs true W' ∧ Puts p W W' := by
  have HH := Aside0.mk h
  obtain ⟨A, c, h1, h2, h3, h4, h5⟩ := h.ex
  have hb1 : W.cell? ⟨p, 1, none⟩ = some (.bool true) := (blk_cell h1 1).trans rfl
  have hf1 := blk_frozen h1 1
  have B1 := Aside0.mk h1
  have B2 := Aside0.mk h2
  have B3 := Aside0.mk h3
  have B4 := Aside0.mk h4
  have B5 := Aside0.mk h5
  clear h h1 h2 h3 h4 h5
  go_enter Try.func43, Try.ntmps43
  go_wp2
  go_ret
  exact ⟨rfl, ⟨⟨A, c, blk_put B1.out 1 _ rfl, B2.out, B3.out, C_same B4.out (fun ad ha => Below.heap_setCell _ _ _ _ (by have := (B5.out ad ha).2; show ad.block ≠ p; omega)), B5.out⟩, HH.out.by_⟩, Puts.set (Puts.refl _ _) 1 _⟩
set_option maxHeartbeats 4000000 in
theorem take_over {base p : Nat} {xs : List Int} (n : Int) (W : World) (h : Rdr base p xs false W) (hn : (xs.length : Int) < n) : Calls Try.prog 43 #[.pointer (some ⟨p, 0, none⟩), .int .i64 n] W fun e W' => e = .returned (.slice none 0 0) ∧ Rdr base p xs true W' ∧ Puts p W W' := by
  have HH := Aside0.mk h
  obtain ⟨A, c, h1, h2, h3, h4, h5⟩ := h.ex
  have hb0 : W.cell? ⟨p, 0, none⟩ = some (.slice A xs.length c) := (blk_cell h1 0).trans rfl
  have hb1 : W.cell? ⟨p, 1, none⟩ = some (.bool false) := (blk_cell h1 1).trans rfl
  have hf1 := blk_frozen h1 1
  have d1 : decide ((xs.length : Int) < n) = true := decide_eq_true hn
  have B1 := Aside0.mk h1
  have B2 := Aside0.mk h2
  have B3 := Aside0.mk h3
  have B4 := Aside0.mk h4
  have B5 := Aside0.mk h5
  clear h h1 h2 h3 h4 h5 hn
  go_enter Try.func43, Try.ntmps43
  go_wp2
  go_ret
  exact ⟨rfl, ⟨⟨A, c, blk_put B1.out 1 _ rfl, B2.out, B3.out, C_same B4.out (fun ad ha => Below.heap_setCell _ _ _ _ (by have := (B5.out ad ha).2; show ad.block ≠ p; omega)), B5.out⟩, HH.out.by_⟩, Puts.set (Puts.refl _ _) 1 _⟩
set_option maxHeartbeats 4000000 in
theorem take_ok {base p : Nat} {xs : List Int} (n : Nat) (W : World) (h : Rdr base p xs false W) (hn : n ≤ xs.length) : Calls Try.prog 43 #[.pointer (some ⟨p, 0, none⟩), .int .i64 n] W fun e W' => ∃ A c, e = .returned (.slice A n c) ∧ n ≤ c ∧ Kd.C (Kd.int .u8) W' A n (xs.take n) ∧ Rdr base p (xs.drop n) false W' ∧ Puts p W W' := by
  have HH := Aside0.mk h
  obtain ⟨A, c, h1, h2, h3, h4, h5⟩ := h.ex
  have hb0 : W.cell? ⟨p, 0, none⟩ = some (.slice A xs.length c) := (blk_cell h1 0).trans rfl
  have hb1 : W.cell? ⟨p, 1, none⟩ = some (.bool false) := (blk_cell h1 1).trans rfl
  have hf0 := blk_frozen h1 0
  have d1 : decide ((xs.length : Int) < (n : Int)) = false := decide_eq_false (by omega)
  have d2 : decide (xs.length < n) = false := decide_eq_false (by omega)
  obtain ⟨i0, hi0, _, hsz0, _⟩ := info_parts info5
  have hcut1 := cut_to (P := Try.prog) 22 5 .i64 Try.underlying22 hi0 A xs.length c (n : Int) (by omega) (by omega) h2
  have hcut2 := cut_from (P := Try.prog) 22 5 .i64 Try.underlying22 hi0 1 hsz0 A xs.length c (n : Int) (by omega) (by omega)
  rw [show ((n : Int)).toNat = n by omega] at hcut1 hcut2
  have B4 := Aside0.mk (show (Kd.int .u8).C W A n (xs.take n) from by have := Kd.C_take h4 hn; rwa [List.length_take, Nat.min_eq_left hn] at this)
  have B6 := Aside0.mk (Kd.C_drop h4 hn h2)
  have B7 : Aside0 (∀ ad, (if c = n then A else A.map (·.add (n * 1))) = some ad → base ≤ ad.block ∧ ad.block < p) := ⟨by
    intro ad ha
    by_cases hc : c = n
    · rw [if_pos hc] at ha; exact h5 ad ha
    · rw [if_neg hc] at ha
      cases hA : A with
      | none => rw [hA] at ha; cases ha
      | some a0 =>
        rw [hA] at ha
        obtain rfl : a0.add (n * 1) = ad := by simpa using ha
        rw [add_block]
        exact h5 a0 hA⟩
  change Aside0 ((Kd.int .u8).C W (if c = n then A else A.map (·.add (n * 1))) (xs.drop n).length (xs.drop n)) at B6
  obtain ⟨A2, hA2⟩ : ∃ A2, (if c = n then A else A.map (·.add (n * 1))) = A2 := ⟨_, rfl⟩
  rw [hA2] at hcut2 B6 B7
  have B1 := Aside0.mk h1
  have B2 := Aside0.mk h2
  have B3 := Aside0.mk h3
  have B5 := Aside0.mk h5
  have HN := Aside0.mk hn
  clear h h1 h2 h3 h4 h5 hi0 hsz0 hn hA2
  go_enter Try.func43, Try.ntmps43
  go_wp2
  go_ret
  refine ⟨A, c, rfl, by have := HN.out; have := B2.out; omega, C_same B4.out (fun ad ha => Below.heap_setCell _ _ _ _ (by have := (B5.out ad ha).2; show ad.block ≠ p; omega)), ⟨⟨A2, c - n, ?_, by have := B2.out; simp; omega, by have := B3.out; omega, C_same B6.out (fun ad ha => Below.heap_setCell _ _ _ _ (by have := (B7.out ad ha).2; show ad.block ≠ p; omega)), B7.out⟩, fun x hx => HH.out.by_ x (List.mem_of_mem_drop hx)⟩, Puts.set (Puts.refl _ _) 0 _⟩
  rw [List.length_drop]
  exact blk_put B1.out 0 _ rfl
/-- A number out of bytes. -/
def numS : List Int → Int → Int
  | [], n => n
  | c :: r, n => numS r (Go.bits .or .i64 (wrap64 (n * 256)) c)
set_option maxHeartbeats 4000000 in
theorem number_nil (m : Int) (W : World) : Calls Try.prog 42 #[.pointer none, .int .i64 m] W fun e W' => e = .returned (.int .i64 0) ∧ W' = W := by
  go_enter Try.func42, Try.ntmps42
  go_wp2_with (go_at_call 43; (with_reducible refine (take_nil _ _).mono ?_); rintro e w1 ⟨rfl, rfl⟩)
  go_loop [5, 12] (fun n i => n = .int .i64 0 ∧ i = .int .i64 0) (fun _ _ => 0)
  case atStart => exact ⟨rfl, rfl⟩
  case round =>
    obtain ⟨rfl, rfl⟩ := hrel
    go_wp2
    go_ret
    exact ⟨rfl, rfl⟩
set_option maxHeartbeats 4000000 in
theorem number_bad {base p : Nat} {xs : List Int} (bad : Bool) (m : Nat) (W : World) (h : Rdr base p xs bad W) (hm : bad = true ∨ xs.length < m) : Calls Try.prog 42 #[.pointer (some ⟨p, 0, none⟩), .int .i64 (m : Int)] W fun e W' => e = .returned (.int .i64 0) ∧ Rdr base p xs true W' ∧ Puts p W W' := by
  have key : Calls Try.prog 43 #[.pointer (some ⟨p, 0, none⟩), .int .i64 (m : Int)] W fun e W' => e = .returned (.slice none 0 0) ∧ Rdr base p xs true W' ∧ Puts p W W' := by
    cases bad with
    | true => exact take_bad _ W h
    | false => exact take_over _ W h (by rcases hm with h | h; cases h; omega)
  clear h hm
  go_enter Try.func42, Try.ntmps42
  go_wp2_with (go_at_call 43; (with_reducible refine key.mono ?_); rintro e w1 ⟨rfl, hr, hp⟩)
  go_loop [5, 12] (fun n i => n = .int .i64 0 ∧ i = .int .i64 0) (fun _ _ => 0)
  case atStart => exact ⟨rfl, rfl⟩
  case round =>
    obtain ⟨rfl, rfl⟩ := hrel
    go_wp2
    go_ret
    exact ⟨rfl, hr, hp⟩
set_option maxHeartbeats 4000000 in
theorem number_ok {base p : Nat} {xs : List Int} (m : Nat) (W : World) (h : Rdr base p xs false W) (hm : m ≤ xs.length) : Calls Try.prog 42 #[.pointer (some ⟨p, 0, none⟩), .int .i64 (m : Int)] W fun e W' => e = .returned (.int .i64 (numS (xs.take m) 0)) ∧ Rdr base p (xs.drop m) false W' ∧ Puts p W W' := by
  obtain ⟨ys, hys⟩ : ∃ ys, xs.take m = ys := ⟨_, rfl⟩
  have hyl : ys.length = m := by rw [← hys, List.length_take]; omega
  have hby : Aside0 (∀ y ∈ ys, 0 ≤ y ∧ y ≤ 255) := ⟨fun y hy => h.by_ y (List.mem_of_mem_take (hys ▸ hy))⟩
  have key := take_ok m W h hm
  rw [hys] at key ⊢
  subst hyl
  clear h hm hys
  go_enter Try.func42, Try.ntmps42
  go_wp2_with (go_at_call 43; (with_reducible refine key.mono ?_); rintro e w1 ⟨A, c, rfl, hc, hC, hr, hp⟩; have HC := Aside0.mk hC; have HR := Aside0.mk hr; have HP := Aside0.mk hp; have HCC := Aside0.mk hc; clear hC hr hp hc)
  go_loop [5, 12] (fun n i => ∃ (k : Nat) (a : Int), k ≤ ys.length ∧ i = .int .i64 (k : Int) ∧ n = .int .i64 a ∧ Aside0 (numS (ys.drop k) a = numS ys 0)) (fun _ i => ys.length - (intOf i).toNat)
  case atStart => exact ⟨0, 0, Nat.zero_le _, rfl, rfl, ⟨rfl⟩⟩
  case round =>
    obtain ⟨k, a, hk, rfl, rfl, ha⟩ := hrel
    by_cases hlt : k < ys.length
    · obtain ⟨ad, ead, hx⟩ := Kd.at_int HC.out (k : Int) (by omega) (by omega)
      cases ead
      rw [show ((k : Int)).toNat = k by omega] at hx
      have hb := hby.out (rd ys (k : Int)) (by simp [rd, List.getD_eq_getElem?_getD, hlt])
      have q3 : (k < ys.length) = True := eq_true hlt
      have q4 : wrap64 ((k : Int) + 1) = ((k + 1 : Nat) : Int) := by have := HC.out.2.1; unfold wrap64; omega
      have hstep : numS (ys.drop (k + 1)) (bits .or .i64 (wrap64 (a * 256)) (rd ys (k : Int))) = numS ys 0 := by
        rw [← ha.out, List.drop_eq_getElem_cons hlt]
        simp [numS, rd, List.getD_eq_getElem?_getD, hlt]
      have HS := Aside0.mk hstep
      clear hstep ha
      go_wp2
      go_round
      case rel => exact ⟨k + 1, _, by omega, by rw [q4], rfl, HS⟩
      case measure => rw [q4]; simp [intOf]; omega
    · obtain rfl : k = ys.length := by omega
      have ha2 : a = numS ys 0 := by have := ha.out; rwa [List.drop_length] at this
      subst ha2
      clear ha
      go_wp2
      go_ret
      exact ⟨rfl, HR.out, HP.out⟩
theorem or_byte (a c : Int) (h0 : 0 ≤ c) (h1 : c < 256) : bits .or .i64 (wrap64 (a * 256)) c = wrap64 (a * 256 + c) := by
  obtain ⟨m, rfl⟩ : ∃ m : Nat, c = (m : Int) := ⟨c.toNat, by omega⟩
  have hm : m < 2 ^ 8 := by omega
  obtain ⟨q, hq⟩ : ∃ q : Nat, (BitVec.ofInt 64 (wrap64 (a * 256))).toNat = 2 ^ 8 * q := by
    rw [BitVec.toNat_ofInt]
    refine ⟨((wrap64 (a * 256)) % 18446744073709551616 / 256).toNat, ?_⟩
    unfold wrap64
    omega
  have hq2 : ((2 ^ 8 * q : Nat) : Int) % 18446744073709551616 = (a * 256) % 18446744073709551616 := by
    rw [← hq, BitVec.toNat_ofInt]
    unfold wrap64
    omega
  have hw : ∀ x : Int, IntKind.i64.wrap x = wrap64 x := fun x => by rw [IntKind.wrap_i64]; unfold wrap64; rfl
  show IntKind.i64.wrap (((BitVec.ofInt 64 (wrap64 (a * 256)) ||| BitVec.ofInt 64 (m : Int)).toNat : Nat) : Int) = _
  rw [BitVec.toNat_or, hq, BitVec.ofInt_natCast, BitVec.toNat_ofNat, Nat.mod_eq_of_lt (show m < 2 ^ 64 by omega), ← Nat.two_pow_add_eq_or_of_lt hm, hw]
  unfold wrap64
  omega
theorem numS_two (x y : Int) (hx : 0 ≤ x ∧ x ≤ 255) (hy : 0 ≤ y ∧ y ≤ 255) : numS [x, y] 0 = x * 256 + y := by
  simp only [numS]
  rw [or_byte 0 x hx.1 (by omega), or_byte _ y hy.1 (by omega)]
  unfold wrap64
  omega
theorem take_two {xs : List Int} (h : 2 ≤ xs.length) : xs.take 2 = [xs.getD 0 0, xs.getD 1 0] := by
  match xs, h with
  | a :: b :: r, _ => rfl
theorem numS_bd {xs : List Int} (h : 2 ≤ xs.length) (hb : ∀ x ∈ xs, 0 ≤ x ∧ x ≤ 255) : 0 ≤ numS (xs.take 2) 0 ∧ numS (xs.take 2) 0 ≤ 65535 := by
  rw [take_two h]
  match xs, h with
  | a :: b :: r, _ =>
    have ha := hb a (by simp)
    have hb' := hb b (by simp)
    show 0 ≤ numS [a, b] 0 ∧ numS [a, b] 0 ≤ 65535
    rw [numS_two a b ha hb']
    omega
/-- What the reader answers, by what it has. -/
def rInt (s : List Int × Bool) : Int × (List Int × Bool) := if s.2 = true ∨ s.1.length < 8 then (0, (s.1, true)) else (numS (s.1.take 8) 0, (s.1.drop 8, false))
def rText (s : List Int × Bool) (m : Int) : List Int × (List Int × Bool) := if s.2 = true ∨ s.1.length < 2 then ([], (s.1, true)) else (if numS (s.1.take 2) 0 > m ∨ ((s.1.length - 2 : Nat) : Int) < numS (s.1.take 2) 0 then ([], (s.1.drop 2, true)) else ((s.1.drop 2).take (numS (s.1.take 2) 0).toNat, ((s.1.drop 2).drop (numS (s.1.take 2) 0).toNat, false)))
def rEnd (s : List Int × Bool) : Bool := !s.2 && s.1.length == 0
set_option maxHeartbeats 4000000 in
theorem int_nil (W : World) : Calls Try.prog 25 #[.pointer none] W fun e W' => e = .returned (.int .i64 0) ∧ W' = W := by
  go_enter Try.func25, Try.ntmps25
  go_wp2_with (go_at_call 42; (with_reducible refine (number_nil _ _).mono ?_); rintro e w1 ⟨rfl, rfl⟩)
  go_ret
  exact ⟨rfl, rfl⟩
set_option maxHeartbeats 4000000 in
theorem int_f {base p : Nat} (s : List Int × Bool) (W : World) (h : Rdr base p s.1 s.2 W) : Calls Try.prog 25 #[.pointer (some ⟨p, 0, none⟩)] W fun e W' => e = .returned (.int .i64 (rInt s).1) ∧ Rdr base p (rInt s).2.1 (rInt s).2.2 W' ∧ Puts p W W' := by
  obtain ⟨xs, bad⟩ := s
  have key : Calls Try.prog 42 #[.pointer (some ⟨p, 0, none⟩), .int .i64 8] W fun e W' => e = .returned (.int .i64 (rInt (xs, bad)).1) ∧ Rdr base p (rInt (xs, bad)).2.1 (rInt (xs, bad)).2.2 W' ∧ Puts p W W' := by
    unfold rInt
    by_cases c : bad = true ∨ xs.length < 8
    · rw [if_pos c]; exact number_bad bad 8 W h c
    · rw [if_neg c]
      obtain rfl : bad = false := by simpa using (not_or.1 c).1
      exact number_ok 8 W h (by have c2 := (not_or.1 c).2; simp at c2; omega)
  obtain ⟨n, hn⟩ : ∃ n, n = (rInt (xs, bad)).1 := ⟨_, rfl⟩
  obtain ⟨t, ht⟩ : ∃ t, t = (rInt (xs, bad)).2 := ⟨_, rfl⟩
  rw [← hn, ← ht] at key ⊢
  clear h hn ht
  go_enter Try.func25, Try.ntmps25
  go_wp2_with (go_at_call 42; (with_reducible refine key.mono ?_); rintro e w1 ⟨rfl, hr, hp⟩)
  go_ret
  exact ⟨rfl, hr, hp⟩
set_option maxHeartbeats 4000000 in
theorem end_nil (W : World) : Calls Try.prog 26 #[.pointer none] W fun e W' => e = .returned (.bool false) ∧ W' = W := by
  go_enter Try.func26, Try.ntmps26
  go_wp2
  go_ret
  exact ⟨rfl, rfl⟩
set_option maxHeartbeats 4000000 in
theorem end_f {base p : Nat} (s : List Int × Bool) (W : World) (h : Rdr base p s.1 s.2 W) : Calls Try.prog 26 #[.pointer (some ⟨p, 0, none⟩)] W fun e W' => e = .returned (.bool (rEnd s)) ∧ W' = W := by
  obtain ⟨xs, bad⟩ := s
  obtain ⟨A, c, h1, h2, h3, h4, h5⟩ := h.ex
  have hb0 : W.cell? ⟨p, 0, none⟩ = some (.slice A xs.length c) := (blk_cell h1 0).trans rfl
  have hb1 : W.cell? ⟨p, 1, none⟩ = some (.bool bad) := (blk_cell h1 1).trans rfl
  clear h h1 h2 h3 h4 h5
  cases bad with
  | true =>
    go_enter Try.func26, Try.ntmps26
    go_wp2
    go_ret
    exact ⟨rfl, rfl⟩
  | false =>
    by_cases hx : xs.length = 0
    · have d1 : ((xs.length : Int) == 0) = true := by simp [hx]
      have e1 : rEnd (xs, false) = true := by simp [rEnd, hx]
      rw [e1]
      have H := Aside0.mk d1
      clear e1 d1
      rw [hx] at hb0
      clear hx
      go_enter Try.func26, Try.ntmps26
      go_wp2
      go_ret
      exact ⟨rfl, rfl⟩
    · have d1 : ((xs.length : Int) == 0) = false := beq_eq_false_iff_ne.mpr (by omega)
      have d2 : (xs.length == 0) = false := beq_eq_false_iff_ne.mpr hx
      have d3 : ¬ xs = [] := fun e => hx (by rw [e]; rfl)
      have e1 : rEnd (xs, false) = false := by simp [rEnd, d3]
      rw [e1]
      clear e1 hx
      go_enter Try.func26, Try.ntmps26
      go_wp2
      go_ret
      exact ⟨rfl, rfl⟩
set_option maxHeartbeats 4000000 in
theorem text_nil (m : Int) (W : World) : Calls Try.prog 23 #[.pointer none, .int .i64 m] W fun e W' => e = .returned (.string (strOfNums [])) ∧ W' = W := by
  have hcv := Kd.C_string (P := Try.prog) (w := W) (A := none) (n := 0) (c := 0) Try.underlying22 Try.underlying5 Try.underlying9 (xs := []) ⟨rfl, by omega, fun h => absurd h (by omega)⟩
  by_cases c : (0 : Int) > m
  · have c1 : decide (m < 0) = true := decide_eq_true c
    clear c
    go_enter Try.func23, Try.ntmps23
    go_wp2_with (first | (go_at_call 42; (with_reducible refine (number_nil _ _).mono ?_); rintro e w1 ⟨rfl, rfl⟩) | (go_at_call 43; (with_reducible refine (take_nil _ _).mono ?_); rintro e w1 ⟨rfl, rfl⟩))
    go_ret
    exact ⟨rfl, rfl⟩
  · have c1 : decide (m < 0) = false := decide_eq_false c
    clear c
    go_enter Try.func23, Try.ntmps23
    go_wp2_with (first | (go_at_call 42; (with_reducible refine (number_nil _ _).mono ?_); rintro e w1 ⟨rfl, rfl⟩) | (go_at_call 43; (with_reducible refine (take_nil _ _).mono ?_); rintro e w1 ⟨rfl, rfl⟩))
    go_ret
    exact ⟨rfl, rfl⟩
theorem Rdr.setBad {base p : Nat} {xs : List Int} {b : Bool} {W : World} (h : Rdr base p xs b W) : Rdr base p xs true (W.setCell ⟨p, 1, none⟩ (.bool true)) := by
  obtain ⟨A, c, h1, h2, h3, h4, h5⟩ := h.ex
  exact ⟨⟨A, c, blk_put h1 1 _ rfl, h2, h3, C_same h4 (fun ad ha => Below.heap_setCell _ _ _ _ (by have := (h5 ad ha).2; show ad.block ≠ p; omega)), h5⟩, h.by_⟩
theorem Rdr.flag {base p : Nat} {xs : List Int} {b : Bool} {W : World} (h : Rdr base p xs b W) : W.cell? ⟨p, 1, none⟩ = some (.bool b) ∧ W.frozen? ⟨p, 1, none⟩ = false := by
  obtain ⟨A, c, h1, h2, h3, h4, h5⟩ := h.ex
  exact ⟨(blk_cell h1 1).trans rfl, blk_frozen h1 1⟩
theorem conv_nil (W : World) : (convert 22 9 (.slice none 0 0)).run Try.prog W = .ok (.string (strOfNums [])) W :=
  Kd.C_string (P := Try.prog) (w := W) (A := none) (n := 0) (c := 0) Try.underlying22 Try.underlying5 Try.underlying9 (xs := []) ⟨rfl, by omega, fun h => absurd h (by omega)⟩
set_option maxHeartbeats 8000000 in
theorem text_f {base p : Nat} (s : List Int × Bool) (m : Int) (W : World) (h : Rdr base p s.1 s.2 W) : Calls Try.prog 23 #[.pointer (some ⟨p, 0, none⟩), .int .i64 m] W fun e W' => e = .returned (.string (strOfNums (rText s m).1)) ∧ Rdr base p (rText s m).2.1 (rText s m).2.2 W' ∧ Puts p W W' := by
  obtain ⟨xs, bad⟩ := s
  have hcn := conv_nil
  unfold rText
  by_cases c : bad = true ∨ xs.length < 2
  · rw [if_pos c]
    have key : Calls Try.prog 42 #[.pointer (some ⟨p, 0, none⟩), .int .i64 2] W fun e W' => e = .returned (.int .i64 0) ∧ Rdr base p xs true W' ∧ Puts p W W' := number_bad bad 2 W h c
    clear h c
    by_cases c : (0 : Int) > m
    · have c1 : decide (m < 0) = true := decide_eq_true c
      clear c
      go_enter Try.func23, Try.ntmps23
      go_wp2_with (first | (go_at_call 42; (with_reducible refine key.mono ?_); rintro e w1 ⟨rfl, hr, hp⟩; have HR := Aside0.mk hr.setBad; have HP := Aside0.mk (hp.set 1 (.bool true)); obtain ⟨f1, f2⟩ := hr.flag; clear hr hp) | (go_at_call 43; (with_reducible refine (take_bad _ _ HR.out).mono ?_); rintro e w2 ⟨rfl, hr, hp⟩; have HP2 := Aside0.mk (HP.out.trans hp); clear hp))
      go_ret
      exact ⟨rfl, hr, HP2.out⟩
    · have c1 : decide (m < 0) = false := decide_eq_false c
      clear c
      go_enter Try.func23, Try.ntmps23
      go_wp2_with (first | (go_at_call 42; (with_reducible refine key.mono ?_); rintro e w1 ⟨rfl, hr, hp⟩; have HR := Aside0.mk hr; have HP := Aside0.mk hp; clear hr hp) | (go_at_call 43; (with_reducible refine (take_bad _ _ HR.out).mono ?_); rintro e w2 ⟨rfl, hr, hp⟩; have HP2 := Aside0.mk (HP.out.trans hp); clear hp))
      go_ret
      exact ⟨rfl, hr, HP2.out⟩
  · rw [if_neg c]
    obtain rfl : bad = false := by simpa using (not_or.1 c).1
    have hl : 2 ≤ xs.length := by have c2 := (not_or.1 c).2; simp at c2; omega
    have key : Calls Try.prog 42 #[.pointer (some ⟨p, 0, none⟩), .int .i64 2] W fun e W' => e = .returned (.int .i64 (numS (xs.take 2) 0)) ∧ Rdr base p (xs.drop 2) false W' ∧ Puts p W W' := number_ok 2 W h hl
    have hbd := numS_bd hl h.by_
    dsimp only
    obtain ⟨n, hn⟩ : ∃ n : Nat, numS (xs.take 2) 0 = (n : Int) := ⟨(numS (xs.take 2) 0).toNat, by omega⟩
    obtain ⟨ys, hys⟩ : ∃ ys, xs.drop 2 = ys := ⟨_, rfl⟩
    have hyl : xs.length - 2 = ys.length := by rw [← hys, List.length_drop]
    rw [hn, hys] at key
    rw [hn, hys, hyl, show ((n : Int)).toNat = n by omega]
    clear h c hl hn hys hyl hbd
    by_cases c : (n : Int) > m
    · rw [if_pos (Or.inl c)]
      have c1 : decide (m < (n : Int)) = true := decide_eq_true c
      clear c
      go_enter Try.func23, Try.ntmps23
      go_wp2_with (first | (go_at_call 42; (with_reducible refine key.mono ?_); rintro e w1 ⟨rfl, hr, hp⟩; have HR := Aside0.mk hr.setBad; have HP := Aside0.mk (hp.set 1 (.bool true)); obtain ⟨f1, f2⟩ := hr.flag; clear hr hp) | (go_at_call 43; (with_reducible refine (take_bad _ _ HR.out).mono ?_); rintro e w2 ⟨rfl, hr, hp⟩; have HP2 := Aside0.mk (HP.out.trans hp); clear hp))
      go_ret
      exact ⟨rfl, hr, HP2.out⟩
    · have c1 : decide (m < (n : Int)) = false := decide_eq_false c
      by_cases c2 : (ys.length : Int) < (n : Int)
      · rw [if_pos (Or.inr c2)]
        have C2 := Aside0.mk c2
        clear c c2
        go_enter Try.func23, Try.ntmps23
        go_wp2_with (first | (go_at_call 42; (with_reducible refine key.mono ?_); rintro e w1 ⟨rfl, hr, hp⟩; have HR := Aside0.mk hr; have HP := Aside0.mk hp; clear hr hp) | (go_at_call 43; (with_reducible refine (take_over _ _ HR.out C2.out).mono ?_); rintro e w2 ⟨rfl, hr, hp⟩; have HP2 := Aside0.mk (HP.out.trans hp); clear hp))
        go_ret
        exact ⟨rfl, hr, HP2.out⟩
      · rw [if_neg (not_or.2 ⟨c, c2⟩)]
        have C2 : Aside0 (n ≤ ys.length) := ⟨by omega⟩
        clear c c2
        go_enter Try.func23, Try.ntmps23
        go_wp2_with (first | (go_at_call 42; (with_reducible refine key.mono ?_); rintro e w1 ⟨rfl, hr, hp⟩; have HR := Aside0.mk hr; have HP := Aside0.mk hp; clear hr hp) | (go_at_call 43; (with_reducible refine (take_ok _ _ HR.out C2.out).mono ?_); rintro e w2 ⟨A, c, rfl, hc, hC, hr, hp⟩; have HP2 := Aside0.mk (HP.out.trans hp); have HR2 := Aside0.mk hr; have hcv := Kd.C_string (P := Try.prog) (A := A) (c := c) Try.underlying22 Try.underlying5 Try.underlying9 hC; clear hp hr hc hC))
        go_ret
        exact ⟨rfl, HR2.out, HP2.out⟩
set_option maxHeartbeats 4000000 in
theorem new_f (A : Option Addr) (c : Nat) (l : List Int) (w : World) (hC : Kd.C (Kd.int .u8) w A l.length l) (hc : l.length ≤ c) (hb : ∀ x ∈ l, 0 ≤ x ∧ x ≤ 255) (hn : l.length < 140737488355328) :
    Calls Try.prog 21 #[.slice A l.length c] w fun e w' => ∃ p, e = .returned (.pointer (some ⟨p, 0, none⟩)) ∧ w.heap.size ≤ p ∧ Rdr w.heap.size p l false w' ∧ Below w.heap.size w w' := by
  have HC := Aside0.mk hC
  have HCC := Aside0.mk hc
  have HB := Aside0.mk hb
  have HF : Aside0 (slices_Clone_byte.f l = some l) := ⟨by unfold slices_Clone_byte.f; simp only [Option.bind_some]; rw [if_pos (by simp; omega)]; rfl⟩
  clear hC hc hb hn
  go_enter Try.func21, Try.ntmps21
  go_wp2_with (go_at_call 41; (with_reducible refine (slices_Clone_byte.calls A c l l w HC.out HCC.out HF.out).mono ?_); rintro e w1 ⟨v, rfl, ho, hbl⟩; have HO := Aside0.mk ho; have HBL := Aside0.mk hbl; obtain ⟨A1, c1, e1, h1, h2⟩ := Kd.R_reads ho; subst e1; have HR1 := Aside0.mk h1; have HR2 := Aside0.mk h2; clear ho hbl h1 h2)
  go_ret
  refine ⟨w1.heap.size, rfl, HBL.out.size, ⟨⟨A1, c1, heap_alloc_new w1 _, HR1.out, ?_, Kd.C_below HR2.out (below_alloc (Below.refl _ _) _), ?_⟩, HB.out⟩, below_alloc HBL.out _⟩
  · obtain ⟨_, inner, hown, _⟩ := HO.out
    rcases hown.2 with ⟨e, _⟩ | ⟨g, cap, cur, e, _, _, _, hm, _⟩
    · injection e with e1 e2 e3; omega
    · injection e with e1 e2 e3; unfold maxLen at hm; omega
  · intro ad ha
    have hk : (Value.slice A1 l.length c1).ownBlock = some ad.block := by rw [ha]; rfl
    exact ⟨Kd.R_base HO.out _ hk, Kd.R_lt HO.out _ hk⟩
end Go.Proofs.Ytjmkpcnekghmhaa.PAll
end
section
namespace Go.Proofs.Ytjmkpcnekghmhaa.PAll
open Go.RowKit Go.Proofs.YtjmkpcnekghmhaaW.PrintWords Go.Proofs.YtjmkpcnekghmhaaW.PrintLast Go.Proofs.YtjmkpcnekghmhaaW.PrintMore
attribute [local go_sem] max2_int min2_int max_two min_two max_three min_three max_four min_four   -- for this text's walks alone
set_option linter.unusedVariables false
set_option linter.unusedSimpArgs false

/-! ### entry_Decode: function 30 -/
-- beside new_f
theorem wp_scope_fwd {P : Program} {a : Act} {w : World} {Q : Exit → Act → World → Prop} {c rest : Code} (l : Nat) (hf : findLabel c l = some (Code.skip.seq rest))
    (h : c.wp P (Exit.jump l (fun a' w' => rest.wp P (Exit.jump l (fun _ _ => False) Q) a' w') Q) a w) : (Code.scope c).wp P Q a w := by
  refine wp_scope_jumps l (fun a' w' => rest.wp P (Exit.jump l (fun _ _ => False) Q) a' w') (fun _ _ => 0) hf h ?_
  intro a w hJ
  refine wp_seq (wp_skip ?_)
  show rest.wp _ _ _ _
  refine wp_mono hJ ?_
  intro e a' w' hq
  cases e <;> first | exact hq | exact hq.2.elim
theorem rdr_lt' {base p : Nat} {xs : List Int} {b : Bool} {W : World} (h : Rdr base p xs b W) : p < W.heap.size := by
  obtain ⟨A, c, h1, _⟩ := h.ex
  exact blk_lt h1
def dec_args : Nat → (List Int × Bool) → List Int → List Int × (List Int × Bool)
  | 0, s, out => (out, s)
  | n + 1, s, out => dec_args n (rInt s).2 (out ++ [(rInt s).1])
def dec_legs : Nat → (List Int × Bool) → List S87 → List S87 × (List Int × Bool)
  | 0, s, out => (out, s)
  | n + 1, s, out => dec_legs n (rInt (rInt s).2).2 (out ++ [⟨(rInt s).1, (rInt (rInt s).2).1⟩])
set_option maxHeartbeats 2000000 in
theorem many_f {base p : Nat} (s : List Int × Bool) (m : Int) (W : World) (h : Rdr base p s.1 s.2 W) : Calls Try.prog 46 #[.pointer (some ⟨p, 0, none⟩), .int .i64 m] W fun e W' => e = .returned (.tuple #[.int .i64 (rInt s).1, .bool (decide (0 ≤ (rInt s).1) && decide ((rInt s).1 ≤ m))]) ∧ Rdr base p (rInt s).2.1 (rInt s).2.2 W' ∧ Puts p W W' := by
  have HR := Aside0.mk h
  clear h
  obtain ⟨n, hn⟩ : ∃ n, (rInt s).1 = n := ⟨_, rfl⟩
  have HN := Aside0.mk hn
  rw [hn]
  clear hn
  by_cases h0 : 0 ≤ n
  · have d0 : decide (0 ≤ n) = true := decide_eq_true h0
    have d1 := eq_true h0
    clear h0
    go_enter Try.func46, Try.ntmps46
    go_wp2_with (first | (go_at_call 25; (with_reducible refine (int_f s _ HR.out).mono ?_); rintro e w1 ⟨rfl, hr, hp⟩; rw [HN.out]; have HP := Aside0.mk (And.intro hr hp); clear hr hp))
    go_ret2
    exact ⟨by simp [d1], HP.out.1, HP.out.2⟩
  · have d0 : decide (0 ≤ n) = false := decide_eq_false h0
    have d1 := eq_false h0
    clear h0
    go_enter Try.func46, Try.ntmps46
    go_wp2_with (first | (go_at_call 25; (with_reducible refine (int_f s _ HR.out).mono ?_); rintro e w1 ⟨rfl, hr, hp⟩; rw [HN.out]; have HP := Aside0.mk (And.intro hr hp); clear hr hp))
    go_ret2
    exact ⟨by simp [d1], HP.out.1, HP.out.2⟩
theorem Rdr.step2 {base p : Nat} {xs : List Int} {bad : Bool} {W W1 : World} (h : Rdr base p xs bad W) (hm : ∀ k, base ≤ k → k ≤ p → k < W.heap.size → W1.heap[k]? = W.heap[k]?) (hb : base ≤ p) : Rdr base p xs bad W1 := by
  obtain ⟨A, c, h1, h2, h3, h4, h5⟩ := h.ex
  have hp := blk_lt h1
  exact ⟨⟨A, c, (hm p hb (Nat.le_refl _) hp).trans h1, h2, h3, C_same h4 (fun ad ha => hm _ (h5 ad ha).1 (by have := (h5 ad ha).2; omega) (by have := (h5 ad ha).2; omega)), h5⟩, h.by_⟩
structure DecS (w : World) (gr gb base p : Nat) (a b c : Int) (d e : ByteArray) (oka okl : Nat → Prop) (va vl : Value) (args : List Int) (legs : List S87) (s : List Int × Bool) (W : World) : Prop where
  res : W.heap[gr]? = some (.cells #[.int .i64 0, .int .i64 0, .int .i64 0, .string ⟨#[]⟩, .string ⟨#[]⟩, .slice none 0 0, .slice none 0 0] 50 (0, 0))
  blk : W.heap[gb]? = some (.cells #[.int .i64 a, .int .i64 b, .int .i64 c, .string d, .string e, va, vl] 50 (0, 0))
  rd : Rdr base p s.1 s.2 W
  oa : Kd.R (Kd.int .i64) 3 W w.heap.size oka va args
  ol : Kd.R k87 87 W w.heap.size okl vl legs
  below : Below w.heap.size w W
  lo : w.heap.size ≤ gr ∧ gr < base ∧ base ≤ p ∧ p < gb
  ha : ∀ k, oka k → gb < k
  hl : ∀ k, okl k → gb < k
section
variable {w : World} {gr gb base p : Nat} {a b c : Int} {d e : ByteArray} {oka okl oka' okl' : Nat → Prop} {va vl va' vl' : Value} {args args' : List Int} {legs legs' : List S87} {s s' : List Int × Bool} {W W1 W2 : World}
theorem DecS.go (h : DecS w gr gb base p a b c d e oka okl va vl args legs s W) (hb : Below W.heap.size W W1) : DecS w gr gb base p a b c d e oka okl va vl args legs s W1 :=
  ⟨blk_below h.res hb, blk_below h.blk hb, h.rd.below hb, Kd.R_below h.oa hb, Kd.R_below h.ol hb, below_step h.below hb, h.lo, h.ha, h.hl⟩
theorem DecS.puts (h : DecS w gr gb base p a b c d e oka okl va vl args legs s W) (hr : Rdr base p s'.1 s'.2 W1) (hp : Puts p W W1) : DecS w gr gb base p a b c d e oka okl va vl args legs s' W1 := by
  have hlo := h.lo
  have hk := (hp 0 (Nat.zero_le _)).2.2
  exact ⟨(hk gr (by omega)).trans h.res, (hk gb (by omega)).trans h.blk, hr, Kd.R_step h.oa (fun k ho _ => hk k (by have := h.ha k ho; omega)), Kd.R_step h.ol (fun k ho _ => hk k (by have := h.hl k ho; omega)), hp.below (by omega) h.below, h.lo, h.ha, h.hl⟩
theorem DecS.mono (h : DecS w gr gb base p a b c d e oka okl va vl args legs s W) (ha : ∀ k, oka k → k < W.heap.size → oka' k) (hl : ∀ k, okl k → k < W.heap.size → okl' k) (ha2 : ∀ k, oka' k → gb < k) (hl2 : ∀ k, okl' k → gb < k) : DecS w gr gb base p a b c d e oka' okl' va vl args legs s W :=
  ⟨h.res, h.blk, h.rd, Kd.R_mono (Kd.R_bound h.oa) (fun k hk => ha k hk.1 hk.2.2.1), Kd.R_mono (Kd.R_bound h.ol) (fun k hk => hl k hk.1 hk.2.2.1), h.below, h.lo, ha2, hl2⟩
theorem DecS.setA (h : DecS w gr gb base p a b c d e oka okl va vl args legs s W) (hg : W.grownBy W2 va.ownBlock) (ho : Kd.R (Kd.int .i64) 3 W2 w.heap.size oka va' args') (hb : Below w.heap.size w W2) (hd : ∀ k, okl k → ¬ oka k) : DecS w gr gb base p a b c d e oka okl va' vl args' legs s (W2.setCell ⟨gb, 5, none⟩ va') := by
  have hlo := h.lo
  have hne : ∀ k, k ≤ gb → k < W.heap.size → W2.heap[k]? = W.heap[k]? := fun k hk hlt => hg.block k hlt (fun he => by have := h.ha k (h.oa.1 k he.symm); omega)
  have hrg : ∀ k, k ≠ gb → (W2.setCell ⟨gb, 5, none⟩ va').heap[k]? = W2.heap[k]? := fun k hk => Below.heap_setCell W2 _ _ k hk
  refine ⟨(hrg gr (by omega)).trans ((hne gr (by omega) (blk_lt h.res)).trans h.res), blk_put ((hne gb (Nat.le_refl _) (blk_lt h.blk)).trans h.blk) 5 _ rfl, (h.rd.step2 (fun k _ hk hlt => hne k (by omega) hlt) hlo.2.2.1).step2 (fun k _ hk _ => hrg k (by omega)) hlo.2.2.1, Kd.R_far ho (fun k hk => by have := h.ha k hk; show k ≠ gb; omega) _, Kd.R_far (Kd.R_step h.ol (fun k hk hlt => hg.block k hlt (fun he => hd k hk (h.oa.1 k he.symm)))) (fun k hk => by have := h.hl k hk; show k ≠ gb; omega) _, below_set hb (by show w.heap.size ≤ gb; omega), h.lo, h.ha, h.hl⟩
theorem DecS.setL (h : DecS w gr gb base p a b c d e oka okl va vl args legs s W) (hg : W.grownBy W2 vl.ownBlock) (ho : Kd.R k87 87 W2 w.heap.size okl vl' legs') (hb : Below w.heap.size w W2) (hd : ∀ k, okl k → ¬ oka k) : DecS w gr gb base p a b c d e oka okl va vl' args legs' s (W2.setCell ⟨gb, 6, none⟩ vl') := by
  have hlo := h.lo
  have hne : ∀ k, k ≤ gb → k < W.heap.size → W2.heap[k]? = W.heap[k]? := fun k hk hlt => hg.block k hlt (fun he => by have := h.hl k (h.ol.1 k he.symm); omega)
  have hrg : ∀ k, k ≠ gb → (W2.setCell ⟨gb, 6, none⟩ vl').heap[k]? = W2.heap[k]? := fun k hk => Below.heap_setCell W2 _ _ k hk
  refine ⟨(hrg gr (by omega)).trans ((hne gr (by omega) (blk_lt h.res)).trans h.res), blk_put ((hne gb (Nat.le_refl _) (blk_lt h.blk)).trans h.blk) 6 _ rfl, (h.rd.step2 (fun k _ hk hlt => hne k (by omega) hlt) hlo.2.2.1).step2 (fun k _ hk _ => hrg k (by omega)) hlo.2.2.1, Kd.R_far (Kd.R_step h.oa (fun k hk hlt => hg.block k hlt (fun he => hd k (h.ol.1 k he.symm) hk))) (fun k hk => by have := h.ha k hk; show k ≠ gb; omega) _, Kd.R_far ho (fun k hk => by have := h.hl k hk; show k ≠ gb; omega) _, below_set hb (by show w.heap.size ≤ gb; omega), h.lo, h.ha, h.hl⟩
theorem DecS.start {w1 w6 : World} (hb : Below (w.alloc (.cells #[.int .i64 0, .int .i64 0, .int .i64 0, .string ⟨#[]⟩, .string ⟨#[]⟩, .slice none 0 0, .slice none 0 0] 50 (0, 0))).heap.size (w.alloc (.cells #[.int .i64 0, .int .i64 0, .int .i64 0, .string ⟨#[]⟩, .string ⟨#[]⟩, .slice none 0 0, .slice none 0 0] 50 (0, 0))) w1) (hp : w.heap.size + 1 ≤ p) (hu : Puts p w1 w6) (hr : Rdr (w.heap.size + 1) p s.1 s.2 w6) :
    DecS w w.heap.size w6.heap.size (w.heap.size + 1) p a b c d e (fun k => w6.heap.size < k) (fun _ => False) (.slice none 0 0) (.slice none 0 0) [] [] s (w6.alloc (.cells #[.int .i64 a, .int .i64 b, .int .i64 c, .string d, .string e, .slice none 0 0, .slice none 0 0] 50 (0, 0))) := by
  have hpl := rdr_lt' hr
  have h0 : w1.heap[w.heap.size]? = _ := blk_below (heap_alloc_new w _) hb
  have h6 := ((hu 0 (Nat.zero_le _)).2.2 w.heap.size (by omega)).trans h0
  have hbw : Below w.heap.size w w6 := hu.below (by omega) (below_step (below_alloc (Below.refl _ _) _) hb)
  exact ⟨blk_below h6 (below_alloc (Below.refl _ _) _), heap_alloc_new w6 _, hr.below (below_alloc (Below.refl _ _) _), Kd.R_nil _ _ _ _ _, Kd.R_nil _ _ _ _ _, below_alloc hbw _, ⟨Nat.le_refl _, Nat.lt_succ_self _, hp, hpl⟩, fun k hk => hk, fun k hk => hk.elim⟩
end
set_option maxHeartbeats 2000000 in
theorem put7 {W : World} {g : Nat} {x0 x1 x2 x3 x4 x5 x6 : Value} (h : W.heap[g]? = some (.cells #[x0, x1, x2, x3, x4, x5, x6] 50 (0, 0))) (v0 v1 v2 v3 v4 v5 v6 : Value) :
    (((((((W.setCell ⟨g, 0, none⟩ v0).setCell ⟨g, 1, none⟩ v1).setCell ⟨g, 2, none⟩ v2).setCell ⟨g, 3, none⟩ v3).setCell ⟨g, 4, none⟩ v4).setCell ⟨g, 5, none⟩ v5).setCell ⟨g, 6, none⟩ v6).heap[g]? = some (.cells #[v0, v1, v2, v3, v4, v5, v6] 50 (0, 0)) := by
  have h0 := blk_put h 0 v0 rfl
  generalize W.setCell ⟨g, 0, none⟩ v0 = W0 at h0 ⊢
  have h1 := blk_put h0 1 v1 rfl
  generalize W0.setCell ⟨g, 1, none⟩ v1 = W1 at h1 ⊢
  have h2 := blk_put h1 2 v2 rfl
  generalize W1.setCell ⟨g, 2, none⟩ v2 = W2 at h2 ⊢
  have h3 := blk_put h2 3 v3 rfl
  generalize W2.setCell ⟨g, 3, none⟩ v3 = W3 at h3 ⊢
  have h4 := blk_put h3 4 v4 rfl
  generalize W3.setCell ⟨g, 4, none⟩ v4 = W4 at h4 ⊢
  have h5 := blk_put h4 5 v5 rfl
  generalize W4.setCell ⟨g, 5, none⟩ v5 = W5 at h5 ⊢
  exact blk_put h5 6 v6 rfl
theorem puts7 (W : World) (g : Nat) (v0 v1 v2 v3 v4 v5 v6 : Value) :
    Puts g W (((((((W.setCell ⟨g, 0, none⟩ v0).setCell ⟨g, 1, none⟩ v1).setCell ⟨g, 2, none⟩ v2).setCell ⟨g, 3, none⟩ v3).setCell ⟨g, 4, none⟩ v4).setCell ⟨g, 5, none⟩ v5).setCell ⟨g, 6, none⟩ v6) := by
  have h := (Puts.refl g W).set 0 v0
  generalize W.setCell ⟨g, 0, none⟩ v0 = W0 at h ⊢
  replace h := h.set 1 v1
  generalize W0.setCell ⟨g, 1, none⟩ v1 = W1 at h ⊢
  replace h := h.set 2 v2
  generalize W1.setCell ⟨g, 2, none⟩ v2 = W2 at h ⊢
  replace h := h.set 3 v3
  generalize W2.setCell ⟨g, 3, none⟩ v3 = W3 at h ⊢
  replace h := h.set 4 v4
  generalize W3.setCell ⟨g, 4, none⟩ v4 = W4 at h ⊢
  replace h := h.set 5 v5
  generalize W4.setCell ⟨g, 5, none⟩ v5 = W5 at h ⊢
  exact h.set 6 v6
theorem jump_ret {l : Nat} {J : Act → World → Prop} {Q : Exit → Act → World → Prop} {a : Act} {w : World} (h : Q .ret a w) : Exit.jump l J Q .ret a w := h
theorem int_e {base p : Nat} {s : List Int × Bool} {st : Int × (List Int × Bool)} (hs : rInt s = st) (W : World) (h : Rdr base p s.1 s.2 W) : Calls Try.prog 25 #[.pointer (some ⟨p, 0, none⟩)] W fun e W' => e = .returned (.int .i64 st.1) ∧ Rdr base p st.2.1 st.2.2 W' ∧ Puts p W W' := by
  subst hs; exact int_f s W h
theorem many_e {base p : Nat} {s : List Int × Bool} {st : Int × (List Int × Bool)} {mb : Bool} (m : Int) (hs : rInt s = st) (hm : (decide (0 ≤ st.1) && decide (st.1 ≤ m)) = mb) (W : World) (h : Rdr base p s.1 s.2 W) : Calls Try.prog 46 #[.pointer (some ⟨p, 0, none⟩), .int .i64 m] W fun e W' => e = .returned (.tuple #[.int .i64 st.1, .bool mb]) ∧ Rdr base p st.2.1 st.2.2 W' ∧ Puts p W W' := by
  subst hs; subst hm; exact many_f s m W h
theorem end_e {base p : Nat} {s : List Int × Bool} {eb : Bool} (he : rEnd s = eb) (W : World) (h : Rdr base p s.1 s.2 W) : Calls Try.prog 26 #[.pointer (some ⟨p, 0, none⟩)] W fun e W' => e = .returned (.bool eb) ∧ W' = W := by
  subst he; exact end_f s W h
theorem DecS.split {w : World} {gr gb base p : Nat} {a b c : Int} {d e : ByteArray} {va : Value} {args : List Int} {s : List Int × Bool} {W : World} (h : DecS w gr gb base p a b c d e (fun k => gb < k) (fun _ => False) va (.slice none 0 0) args [] s W) :
    DecS w gr gb base p a b c d e (fun k => some k = va.ownBlock) (fun k => gb < k ∧ some k ≠ va.ownBlock) va (.slice none 0 0) args [] s W :=
  ⟨h.res, h.blk, h.rd, Kd.R_mono (Kd.R_tight rfl h.oa) (fun _ hk => hk), Kd.R_nil _ _ _ _ _, h.below, h.lo, fun k hk => h.oa.1 k hk.symm, fun k hk => hk.1⟩
def decBad : Int × Int × Int × ByteArray × ByteArray × List Int × List S87 × Int := (0, 0, 0, ⟨#[]⟩, ⟨#[]⟩, [], [], 3)
def decU (a b c : Int) (d e : ByteArray) (args : List Int) (q : List S87 × (List Int × Bool)) : Int × Int × Int × ByteArray × ByteArray × List Int × List S87 × Int := if rEnd q.2 = true then (a, b, c, d, e, args, q.1, 0) else decBad
def decT (a b c : Int) (d e : ByteArray) (q : List Int × (List Int × Bool)) : Int × Int × Int × ByteArray × ByteArray × List Int × List S87 × Int := if 0 ≤ (rInt q.2).1 ∧ (rInt q.2).1 ≤ 64 then decU a b c d e q.1 (dec_legs (rInt q.2).1.toNat (rInt q.2).2 []) else decBad
def decF (l0 : List Int) : Int × Int × Int × ByteArray × ByteArray × List Int × List S87 × Int :=
  if 0 ≤ (rInt (rText (rText (rInt (rInt (rInt (l0, false)).2).2).2 16).2 16).2).1 ∧ (rInt (rText (rText (rInt (rInt (rInt (l0, false)).2).2).2 16).2 16).2).1 ≤ 8 then
    decT (rInt (l0, false)).1 (rInt (rInt (l0, false)).2).1 (rInt (rInt (rInt (l0, false)).2).2).1 (strOfNums (rText (rInt (rInt (rInt (l0, false)).2).2).2 16).1) (strOfNums (rText (rText (rInt (rInt (rInt (l0, false)).2).2).2 16).2 16).1)
      (dec_args (rInt (rText (rText (rInt (rInt (rInt (l0, false)).2).2).2 16).2 16).2).1.toNat (rInt (rText (rText (rInt (rInt (rInt (l0, false)).2).2).2 16).2 16).2).2 [])
  else decBad
theorem heap_size_alloc (w : World) (o : Obj) : (w.alloc o).heap.size = w.heap.size + 1 := by simp
def DecA.T7 : Bool × List (List Nat × List Nat) := (true, [([], []), ([0], [0]), ([], []), ([2], [2]), ([3], [3]), ([1, 4, 3], [1, 4]), ([0, 1, 2, 3, 4, 5], []), ([6, 5, 5, 0, 1, 2, 3, 4, 5], [5, 6])])
def DecA.B7 : List Nat := [0, 1, 0, 4, 12, 31, 63, 127]
theorem DecA.tab7 : rtab .any (opsOf Try.f30 7) = DecA.T7 := by kernel_rfl
theorem DecA.bits7 : waitsOk DecA.T7.2 DecA.B7 = true := by kernel_rfl
def DecB.T13 : Bool × List (List Nat × List Nat) := (true, [([], []), ([0], [0]), ([], []), ([2], [2]), ([], []), ([4, 3], [4]), ([3, 5], [3, 5]), ([6], [6]), ([1, 7, 5], [1, 7]), ([0, 1, 2, 3, 4, 5, 6, 7, 8], []), ([9, 8, 8, 0, 1, 2, 3, 4, 5, 6, 7, 8], [8, 9])])
def DecB.B13 : List Nat := [0, 1, 0, 4, 0, 28, 60, 124, 255, 511, 1023]
theorem DecB.tab13 : rtab .any (opsOf Try.f30 13) = DecB.T13 := by kernel_rfl
theorem DecB.bits13 : waitsOk DecB.T13.2 DecB.B13 = true := by kernel_rfl
set_option maxHeartbeats 8000000 in
set_option maxRecDepth 100000 in
theorem entry_Decode.at_ (A0 : Option Addr) (c0 : Nat) (l0 : List Int) (w : World) (hr0 : Kd.C (Kd.int .u8) w A0 l0.length l0) (hc0 : l0.length ≤ c0) (hb : ∀ x ∈ l0, 0 ≤ x ∧ x ≤ 255) (hl : l0.length < 140737488355328) (r1 r2 r3 : Int) (r4 r5 : ByteArray) (r6 : List Int) (r7 : List S87) (r8 : Int) (h : decF l0 = (r1, r2, r3, r4, r5, r6, r7, r8)) :
    Calls Try.prog 30 #[.slice A0 l0.length c0] w fun e w' => ∃ v5_ v6_ : Value, e = .returned (.tuple #[.agg #[.int .i64 r1, .int .i64 r2, .int .i64 r3, .string r4, .string r5, v5_, v6_], .int .i64 r8]) ∧ Kd.R (Kd.int .i64) 3 w' w.heap.size (fun _ => True) v5_ r6 ∧ Kd.R k87 87 w' w.heap.size (fun _ => True) v6_ r7 ∧ Below w.heap.size w w' := by
  have HR := Aside0.mk hr0
  have HC := Aside0.mk hc0
  have HBB := Aside0.mk hb
  have HL := Aside0.mk hl
  clear hr0 hc0 hb hl
  obtain ⟨s1, hs1⟩ : ∃ s1, rInt (l0, false) = s1 := ⟨_, rfl⟩
  obtain ⟨s2, hs2⟩ : ∃ s2, rInt s1.2 = s2 := ⟨_, rfl⟩
  obtain ⟨s3, hs3⟩ : ∃ s3, rInt s2.2 = s3 := ⟨_, rfl⟩
  obtain ⟨s4, hs4⟩ : ∃ s4, rText s3.2 16 = s4 := ⟨_, rfl⟩
  obtain ⟨s5, hs5⟩ : ∃ s5, rText s4.2 16 = s5 := ⟨_, rfl⟩
  obtain ⟨s6, hs6⟩ : ∃ s6, rInt s5.2 = s6 := ⟨_, rfl⟩
  have hF : decF l0 = (if 0 ≤ s6.1 ∧ s6.1 ≤ 8 then decT s1.1 s2.1 s3.1 (strOfNums s4.1) (strOfNums s5.1) (dec_args s6.1.toNat s6.2 []) else decBad) := by unfold decF; simp only [hs1, hs2, hs3, hs4, hs5, hs6]
  rw [hF] at h
  obtain ⟨mb, hmb⟩ : ∃ mb, (decide (0 ≤ s6.1) && decide (s6.1 ≤ 8)) = mb := ⟨_, rfl⟩
  have H1 := Aside0.mk hs1
  have H2 := Aside0.mk hs2
  have H3 := Aside0.mk hs3
  have H4 := Aside0.mk hs4
  have H5 := Aside0.mk hs5
  have H6 := Aside0.mk hs6
  have HMB := Aside0.mk hmb
  have HH := Aside0.mk h
  clear hs1 hs2 hs3 hs4 hs5 hs6 hF h hmb
  go_enter Try.func30, Try.ntmps30
  go_wp2_with (fail)
  refine wp_scope_fwd 0 rfl ?_
  cases mb with
  | false =>
    have HBAD : Aside0 (decBad = (r1, r2, r3, r4, r5, r6, r7, r8)) := ⟨by have := HH.out; rw [if_neg (by have := HMB.out; simp at this; omega)] at this; exact this⟩
    go_wp2_with (first | (go_at_call 21; (with_reducible refine (new_f A0 c0 l0 _ (Kd.C_below HR.out (below_alloc (Below.refl _ _) _)) HC.out HBB.out HL.out).mono ?_); rintro e w1 ⟨p, rfl, hp, hr, hb⟩; rw [heap_size_alloc] at hp hr; have HRD := Aside0.mk hr; have HP := Aside0.mk hp; have HB1 := Aside0.mk hb; have HU := Aside0.mk (Puts.refl p w1); clear hr hp hb) | (go_at_call 25; (with_reducible refine (int_f (l0, false) _ HRD.out).mono ?_); rintro e w2 ⟨rfl, hr, hp⟩; rw [H1.out] at hr ⊢; clear HRD; have HRD := Aside0.mk hr; have n_ := Aside0.mk (HU.out.trans hp); clear HU; have HU := n_; clear n_ hr hp) | (go_at_call 25; (with_reducible refine (int_f s1.2 _ HRD.out).mono ?_); rintro e w3 ⟨rfl, hr, hp⟩; rw [H2.out] at hr ⊢; clear HRD; have HRD := Aside0.mk hr; have n_ := Aside0.mk (HU.out.trans hp); clear HU; have HU := n_; clear n_ hr hp) | (go_at_call 25; (with_reducible refine (int_f s2.2 _ HRD.out).mono ?_); rintro e w4 ⟨rfl, hr, hp⟩; rw [H3.out] at hr ⊢; clear HRD; have HRD := Aside0.mk hr; have n_ := Aside0.mk (HU.out.trans hp); clear HU; have HU := n_; clear n_ hr hp) | (go_at_call 23; (with_reducible refine (text_f s3.2 16 _ HRD.out).mono ?_); rintro e w5 ⟨rfl, hr, hp⟩; rw [H4.out] at hr ⊢; clear HRD; have HRD := Aside0.mk hr; have n_ := Aside0.mk (HU.out.trans hp); clear HU; have HU := n_; clear n_ hr hp) | (go_at_call 23; (with_reducible refine (text_f s4.2 16 _ HRD.out).mono ?_); rintro e w6 ⟨rfl, hr, hp⟩; rw [H5.out] at hr ⊢; clear HRD; have HRD := Aside0.mk hr; have n_ := Aside0.mk (HU.out.trans hp); clear HU; have HU := n_; clear n_ hr hp) | (go_at_call 46; have HD0 := Aside0.mk (DecS.start (a := s1.1) (b := s2.1) (c := s3.1) (d := strOfNums s4.1) (e := strOfNums s5.1) HB1.out HP.out HU.out HRD.out); (with_reducible refine (many_f s5.2 8 _ HD0.out.rd).mono ?_); rintro e w7 ⟨rfl, hr, hp⟩; rw [H6.out] at hr ⊢; have HD := Aside0.mk (HD0.out.puts hr hp); clear HD0 hr hp; generalize w6.heap.size = gb at HD ⊢; rw [HMB.out]))
    have HX := HBAD.out
    simp only [decBad, Prod.mk.injEq] at HX
    obtain ⟨rfl, rfl, rfl, rfl, rfl, rfl, rfl, rfl⟩ := HX
    clear HBAD
    have hz0 : World.cell? _ ⟨w.heap.size, 0, none⟩ = some (.int .i64 0) := (blk_cell HD.out.res 0).trans rfl
    have hf0 := blk_frozen HD.out.res 0
    have hz1 : World.cell? _ ⟨w.heap.size, 1, none⟩ = some (.int .i64 0) := (blk_cell HD.out.res 1).trans rfl
    have hf1 := blk_frozen HD.out.res 1
    have hz2 : World.cell? _ ⟨w.heap.size, 2, none⟩ = some (.int .i64 0) := (blk_cell HD.out.res 2).trans rfl
    have hf2 := blk_frozen HD.out.res 2
    have hz3 : World.cell? _ ⟨w.heap.size, 3, none⟩ = some (.string ⟨#[]⟩) := (blk_cell HD.out.res 3).trans rfl
    have hf3 := blk_frozen HD.out.res 3
    have hz4 : World.cell? _ ⟨w.heap.size, 4, none⟩ = some (.string ⟨#[]⟩) := (blk_cell HD.out.res 4).trans rfl
    have hf4 := blk_frozen HD.out.res 4
    have hz5 : World.cell? _ ⟨w.heap.size, 5, none⟩ = some (.slice none 0 0) := (blk_cell HD.out.res 5).trans rfl
    have hf5 := blk_frozen HD.out.res 5
    have hz6 : World.cell? _ ⟨w.heap.size, 6, none⟩ = some (.slice none 0 0) := (blk_cell HD.out.res 6).trans rfl
    have hf6 := blk_frozen HD.out.res 6
    go_step3
    refine ⟨rfl, ?_⟩
    go_wp2
    refine jump_ret ?_
    refine bodyPost_ret (results_ct rfl _ _ w.heap.size 50 #[.int .i64 0, .int .i64 0, .int .i64 0, .string (⟨#[]⟩ : ByteArray), .string (⟨#[]⟩ : ByteArray), .slice none 0 0, .slice none 0 0] (0, 0) _ rfl (put7 HD.out.res _ _ _ _ _ _ _) Try.underlying50 rfl (by kernel_rfl)) rfl ?_
    exact ⟨_, _, rfl, Kd.R_nil _ _ _ _ _, Kd.R_nil _ _ _ _ _, (puts7 _ _ _ _ _ _ _ _ _).below (Nat.le_refl _) HD.out.below⟩
  | true =>
    have HN : Aside0 (0 ≤ s6.1 ∧ s6.1 ≤ 8) := ⟨by have := HMB.out; simpa using this⟩
    have HH1 : Aside0 (decT s1.1 s2.1 s3.1 (strOfNums s4.1) (strOfNums s5.1) (dec_args s6.1.toNat s6.2 []) = (r1, r2, r3, r4, r5, r6, r7, r8)) := ⟨by have := HH.out; rwa [if_pos HN.out] at this⟩
    obtain ⟨T, hT⟩ : ∃ T, dec_args s6.1.toNat s6.2 [] = T := ⟨_, rfl⟩
    have HT := Aside0.mk hT
    rw [hT] at HH1
    clear hT HH
    go_wp2_with (first | (go_at_call 21; (with_reducible refine (new_f A0 c0 l0 _ (Kd.C_below HR.out (below_alloc (Below.refl _ _) _)) HC.out HBB.out HL.out).mono ?_); rintro e w1 ⟨p, rfl, hp, hr, hb⟩; rw [heap_size_alloc] at hp hr; have HRD := Aside0.mk hr; have HP := Aside0.mk hp; have HB1 := Aside0.mk hb; have HU := Aside0.mk (Puts.refl p w1); clear hr hp hb) | (go_at_call 25; (with_reducible refine (int_f (l0, false) _ HRD.out).mono ?_); rintro e w2 ⟨rfl, hr, hp⟩; rw [H1.out] at hr ⊢; clear HRD; have HRD := Aside0.mk hr; have n_ := Aside0.mk (HU.out.trans hp); clear HU; have HU := n_; clear n_ hr hp) | (go_at_call 25; (with_reducible refine (int_f s1.2 _ HRD.out).mono ?_); rintro e w3 ⟨rfl, hr, hp⟩; rw [H2.out] at hr ⊢; clear HRD; have HRD := Aside0.mk hr; have n_ := Aside0.mk (HU.out.trans hp); clear HU; have HU := n_; clear n_ hr hp) | (go_at_call 25; (with_reducible refine (int_f s2.2 _ HRD.out).mono ?_); rintro e w4 ⟨rfl, hr, hp⟩; rw [H3.out] at hr ⊢; clear HRD; have HRD := Aside0.mk hr; have n_ := Aside0.mk (HU.out.trans hp); clear HU; have HU := n_; clear n_ hr hp) | (go_at_call 23; (with_reducible refine (text_f s3.2 16 _ HRD.out).mono ?_); rintro e w5 ⟨rfl, hr, hp⟩; rw [H4.out] at hr ⊢; clear HRD; have HRD := Aside0.mk hr; have n_ := Aside0.mk (HU.out.trans hp); clear HU; have HU := n_; clear n_ hr hp) | (go_at_call 23; (with_reducible refine (text_f s4.2 16 _ HRD.out).mono ?_); rintro e w6 ⟨rfl, hr, hp⟩; rw [H5.out] at hr ⊢; clear HRD; have HRD := Aside0.mk hr; have n_ := Aside0.mk (HU.out.trans hp); clear HU; have HU := n_; clear n_ hr hp) | (go_at_call 46; have HD0 := Aside0.mk (DecS.start (a := s1.1) (b := s2.1) (c := s3.1) (d := strOfNums s4.1) (e := strOfNums s5.1) HB1.out HP.out HU.out HRD.out); (with_reducible refine (many_f s5.2 8 _ HD0.out.rd).mono ?_); rintro e w7 ⟨rfl, hr, hp⟩; rw [H6.out] at hr ⊢; have HD := Aside0.mk (HD0.out.puts hr hp); clear HD0 hr hp; generalize w6.heap.size = gb at HD ⊢; rw [HMB.out]))
    go_loopg [29] s6.1.toNat (fun kq v29 w' => ∃ (x29 : Int) (va : Value) (args : List Int) (s : List Int × Bool), v29 = .int .i64 x29 ∧ Aside0 (x29 + kq = s6.1 ∧ 0 ≤ x29 ∧ (args.length : Int) = x29) ∧ Aside0 (dec_args kq s args = T) ∧ Aside0 (DecS w w.heap.size gb (w.heap.size + 1) p s1.1 s2.1 s3.1 (strOfNums s4.1) (strOfNums s5.1) (fun k => gb < k) (fun _ => False) va (.slice none 0 0) args [] s w'))
    case atStart => exact ⟨0, _, [], s6.2, rfl, ⟨by have := HN.out; simp; omega⟩, HT, HD⟩
    case round =>
      clear HD HT
      obtain ⟨x29, va, args, s, rfl, HK, HT, HD⟩ := hrel
      by_cases d1 : x29 < s6.1
      · have d1b : decide (x29 < s6.1) = true := decide_eq_true d1
        obtain ⟨k1, rfl⟩ : ∃ k1, gk = k1 + 1 := ⟨gk - 1, by have := HK.out; omega⟩
        obtain ⟨st, hst⟩ : ∃ st, rInt s = st := ⟨_, rfl⟩
        have HT2 : Aside0 (dec_args k1 st.2 (args ++ [st.1]) = T) := ⟨by have := HT.out; rw [dec_args, hst] at this; exact this⟩
        have HST := Aside0.mk hst
        have HAL : Aside0 (args.length ≤ 8) := ⟨by have := HK.out; have := HN.out; omega⟩
        have e29 : wrap64 (x29 + 1) = x29 + 1 := by have := HK.out; have := HN.out; unfold wrap64; omega
        clear d1 HT hst
        go_upto_region 7 with (fail)
        refine start_ (n := 8) (S := fun w' => w'.cell? ⟨gb, 5, none⟩ = some va) (ds := [7]) #[false, false, false, false, false, false, false, false] (by kernel_rfl) rfl rfl ((blk_cell (HD.out.go (below_drew (Below.refl _ _))).blk 5).trans rfl) (fun hHeld => ?_); refine with_tabW DecA.tab7 DecA.bits7 (fun HT_ HW_ => ?_)
        have n_ := Aside0.mk (HD.out.go (below_drew (Below.refl _ _)))
        clear HD
        have HD := n_
        clear n_
        generalize World.drew _ = wz at HD hHeld ⊢
        refine pure_ (i := 0) (N := some 31) (v := ?_) (a' := ?_) #[true, false, false, false, false, false, false, false] rfl rfl (any_of HT_.out (by kernel_rfl)) (fun _ _ _ h => h) (Or.inl ⟨by rfl, ?_⟩) ?_ ?_
        rotate_left
        · intro w'
          go_simp
          with_reducible rfl
        rotate_left
        · simp only [Act.put, List.setIfInBounds_toArray, List.set_cons_zero, List.set_cons_succ, i64_w, i32_w]
          rfl
        refine take_ (i := 1) (N := some 32) (v := ?_) (a' := ?_) #[true, true, false, false, false, false, false, false] rfl rfl (take_ofW HT_.out HW_.out (by kernel_rfl)) (fun _ _ _ h => h) (Or.inl ⟨by rfl, ?_⟩) hHeld ?_ ?_
        rotate_left
        · rintro w' hs_
          go_simp
          with_reducible rfl
        rotate_left
        · simp only [Act.put, List.setIfInBounds_toArray, List.set_cons_zero, List.set_cons_succ, i64_w, i32_w]
          rfl
        refine pure_ (i := 2) (N := some 33) (v := ?_) (a' := ?_) #[true, true, true, false, false, false, false, false] rfl rfl (any_of HT_.out (by kernel_rfl)) (fun _ _ _ h => h) (Or.inl ⟨by rfl, ?_⟩) ?_ ?_
        rotate_left
        · intro w'
          go_simp
          with_reducible rfl
        rotate_left
        · simp only [Act.put, List.setIfInBounds_toArray, List.set_cons_zero, List.set_cons_succ, i64_w, i32_w]
          rfl
        refine one_ (i := 3) (N := some 34) #[true, true, true, true, false, false, false, false] rfl rfl (one_of HT_.out (by kernel_rfl)) (by decide) (fun K hK => ?_)
        refine goes_ Try.func25 (by kernel_rfl) rfl #[.pointer (some ⟨p, 0, none⟩)] (by rfl) rfl rfl (by (try simp only [List.map_toArray, List.map_cons, List.map_nil]); first | done | rfl | (simp only [List.length_drop, List.length_take]; rfl)) ?_
        with_reducible refine (int_e HST.out _ HD.out.rd).mono ?_
        rintro e wq ⟨rfl, hr, hp⟩; have n_ := Aside0.mk (HD.out.puts hr hp); clear HD; have HD := n_; clear n_ hr hp
        refine ⟨_, rfl, ?_⟩
        refine hK.out _ _ ((blk_cell HD.out.blk 5).trans rfl) (fun hHeld => ?_)
        clear hK K
        refine norm_ (a' := ?_) ?_ ?_
        rotate_left
        · show Act.put _ (some 34) _ = _
          simp only [Act.put, List.setIfInBounds_toArray, List.set_cons_zero, List.set_cons_succ, i64_w, i32_w]
          rfl
        refine one_ (i := 4) (N := some 35) #[true, true, true, true, true, false, false, false] rfl rfl (one_of HT_.out (by kernel_rfl)) (by decide) (fun K hK => ?_)
        refine Kd.R_lit_step (Kd.int .i64) _ 3 ?hg (N := 35) ?hd (xs := ([st.1] : List Int)) (inner := [.int .i64 st.1]) (ok := fun _ => True) (okp := fun _ => True) ?hr ?hp (fun _ hk => hk) trivial (Below.refl _ _) (Nat.le_refl _) (by simp) ?_; (case hd => rfl); (case hg => rfl); (case hr => first | (go_simp; done) | (go_simp; rfl)); (case hp => exact (Reps.snoc (p := st.1) (c := [.int .i64 st.1]) (Reps.none _ _) rfl rfl))
        intro v2 w2 ho2 hb2 hg_ hnew_
        clear hg_ hnew_
        have n_ := Aside0.mk (HD.out.go hb2)
        clear HD
        have HD := n_
        clear n_
        obtain ⟨A2, c2, e2, hc2, hC2⟩ := Kd.R_reads ho2
        subst e2
        have HC2 := Aside0.mk hC2
        clear hb2 ho2 hC2 hc2
        refine hK.out _ _ ((blk_cell HD.out.blk 5).trans rfl) (fun hHeld => ?_)
        clear hK K
        refine norm_ (a' := ?_) ?_ ?_
        rotate_left
        · show Act.put _ (some 35) _ = _
          simp only [Act.put, List.setIfInBounds_toArray, List.set_cons_zero, List.set_cons_succ, i64_w, i32_w]
          rfl
        refine one_ (i := 5) (N := some 36) #[true, true, true, true, true, true, false, false] rfl rfl (one_of HT_.out (by kernel_rfl)) (by decide) (fun K hK => ?_)
        refine Kd.R_append_rows_step (Kd.int .i64) (w0 := w) w.heap.size (by rfl) (.tmp 32) (.tmp 35) 42 3 (.int .i64 0) 8 rfl Try.underlying42 info3 rfl (by decide) (by omega) va args ([st.1] : List Int) _ _ _ (fun k => gb < k) (fun _ => False) rfl rfl ?aO ?aR (fun _ _ h => h) (fun _ h => h.elim) ?aF ?aB ?aS ?aL ?_
        (case aR => exact HC2.out)
        (case aB => exact HD.out.below)
        (case aF => exact (fun k_ hk => by have := blk_lt HD.out.blk; omega))
        (case aO => exact HD.out.oa)
        (case aS => exact below_size HD.out.below)
        (case aL => have := HAL.out; simp; omega)
        intro v3 w3 ho hb hg hat
        have BK3 := Aside0.mk (blk_grown HD.out.blk hg (fun e_ => by have := HD.out.ha _ (HD.out.oa.1 _ e_.symm); omega))
        have HO3 := Aside0.mk ho
        have HB3 := Aside0.mk hb
        have HG3 := Aside0.mk hg
        clear ho hb hg hat
        obtain ⟨A3, cc3, e3⟩ := Kd.R_slice HO3.out
        subst e3
        refine hK.out _ _ ((blk_cell BK3.out 5).trans rfl) (fun hHeld => ?_)
        clear hK K
        refine norm_ (a' := ?_) ?_ ?_
        rotate_left
        · show Act.put _ (some 36) _ = _
          simp only [Act.put, List.setIfInBounds_toArray, List.set_cons_zero, List.set_cons_succ, i64_w, i32_w]
          rfl
        refine pure_ (i := 6) (N := some 37) (v := ?_) (a' := ?_) #[true, true, true, true, true, true, true, false] rfl rfl (any_of HT_.out (by kernel_rfl)) (fun _ _ _ h => h) (Or.inl ⟨by rfl, ?_⟩) ?_ ?_
        rotate_left
        · intro w'
          go_simp
          with_reducible rfl
        rotate_left
        · simp only [Act.put, List.setIfInBounds_toArray, List.set_cons_zero, List.set_cons_succ, i64_w, i32_w]
          rfl
        refine last_ (i := 7) (N := none) #[true, true, true, true, true, true, true, true] rfl rfl (one_of HT_.out (by kernel_rfl)) (by decide) (fun K hK => ?_)
        have hcl : w3.cell? ⟨gb, 5, none⟩ = some va := (blk_cell BK3.out 5).trans rfl
        have hfr := blk_frozen BK3.out 5
        refine skip_ (w1 := ?_) (by rfl) rfl ?_ ?_
        rotate_left
        · go_simp
          rfl
        refine hK.out _ _ ?_
        clear hK K
        refine done_ (done_of HT_.out (by kernel_rfl)) ?_
        try go_wp2
        have ho3 := HO3.out
        rw [show (args ++ [st.1]).length = args.length + 1 by simp] at ho3
        go_roundg k1
        case measure => omega
        case rel => exact ⟨x29 + 1, _, args ++ [st.1], st.2, by rw [e29], ⟨by have := HK.out; simp; omega⟩, HT2, ⟨HD.out.setA HG3.out ho3 HB3.out (fun _ h => h.elim)⟩⟩
      · have d1b : decide (x29 < s6.1) = false := decide_eq_false d1
        have hk0 : gk = 0 := by have := HK.out; omega
        subst hk0
        have HT2 : Aside0 (T = (args, s)) := ⟨HT.out.symm⟩
        clear HT d1
        obtain ⟨s7, hs7⟩ : ∃ s7, rInt s = s7 := ⟨_, rfl⟩
        obtain ⟨mb, hmb⟩ : ∃ mb, (decide (0 ≤ s7.1) && decide (s7.1 ≤ 64)) = mb := ⟨_, rfl⟩
        have H7 := Aside0.mk hs7
        have HMB2 := Aside0.mk hmb
        have HH2 : Aside0 ((if 0 ≤ s7.1 ∧ s7.1 ≤ 64 then decU s1.1 s2.1 s3.1 (strOfNums s4.1) (strOfNums s5.1) args (dec_legs s7.1.toNat s7.2 []) else decBad) = (r1, r2, r3, r4, r5, r6, r7, r8)) := ⟨by have := HH1.out; rw [HT2.out] at this; unfold decT at this; rw [hs7] at this; exact this⟩
        clear hs7 hmb HT2 HH1
        cases mb with
        | false =>
          have HBAD : Aside0 (decBad = (r1, r2, r3, r4, r5, r6, r7, r8)) := ⟨by have := HH2.out; rw [if_neg (by have := HMB2.out; simp at this; omega)] at this; exact this⟩
          go_wp2_with (first | (go_at_call 46; (with_reducible refine (many_e 64 H7.out HMB2.out _ HD.out.rd).mono ?_); rintro e w8 ⟨rfl, hr, hp⟩; have n_ := Aside0.mk (HD.out.puts hr hp); clear HD; have HD := n_; clear n_ hr hp))
          have HX := HBAD.out
          simp only [decBad, Prod.mk.injEq] at HX
          obtain ⟨rfl, rfl, rfl, rfl, rfl, rfl, rfl, rfl⟩ := HX
          clear HBAD
          have hz0 : World.cell? _ ⟨w.heap.size, 0, none⟩ = some (.int .i64 0) := (blk_cell HD.out.res 0).trans rfl
          have hf0 := blk_frozen HD.out.res 0
          have hz1 : World.cell? _ ⟨w.heap.size, 1, none⟩ = some (.int .i64 0) := (blk_cell HD.out.res 1).trans rfl
          have hf1 := blk_frozen HD.out.res 1
          have hz2 : World.cell? _ ⟨w.heap.size, 2, none⟩ = some (.int .i64 0) := (blk_cell HD.out.res 2).trans rfl
          have hf2 := blk_frozen HD.out.res 2
          have hz3 : World.cell? _ ⟨w.heap.size, 3, none⟩ = some (.string ⟨#[]⟩) := (blk_cell HD.out.res 3).trans rfl
          have hf3 := blk_frozen HD.out.res 3
          have hz4 : World.cell? _ ⟨w.heap.size, 4, none⟩ = some (.string ⟨#[]⟩) := (blk_cell HD.out.res 4).trans rfl
          have hf4 := blk_frozen HD.out.res 4
          have hz5 : World.cell? _ ⟨w.heap.size, 5, none⟩ = some (.slice none 0 0) := (blk_cell HD.out.res 5).trans rfl
          have hf5 := blk_frozen HD.out.res 5
          have hz6 : World.cell? _ ⟨w.heap.size, 6, none⟩ = some (.slice none 0 0) := (blk_cell HD.out.res 6).trans rfl
          have hf6 := blk_frozen HD.out.res 6
          go_step3
          refine ⟨rfl, ?_⟩
          go_wp2
          refine jump_ret ?_
          refine bodyPost_ret (results_ct rfl _ _ w.heap.size 50 #[.int .i64 0, .int .i64 0, .int .i64 0, .string (⟨#[]⟩ : ByteArray), .string (⟨#[]⟩ : ByteArray), .slice none 0 0, .slice none 0 0] (0, 0) _ rfl (put7 HD.out.res _ _ _ _ _ _ _) Try.underlying50 rfl (by kernel_rfl)) rfl ?_
          exact ⟨_, _, rfl, Kd.R_nil _ _ _ _ _, Kd.R_nil _ _ _ _ _, (puts7 _ _ _ _ _ _ _ _ _).below (Nat.le_refl _) HD.out.below⟩
        | true =>
          have HN2 : Aside0 (0 ≤ s7.1 ∧ s7.1 ≤ 64) := ⟨by have := HMB2.out; simpa using this⟩
          have HH3 : Aside0 (decU s1.1 s2.1 s3.1 (strOfNums s4.1) (strOfNums s5.1) args (dec_legs s7.1.toNat s7.2 []) = (r1, r2, r3, r4, r5, r6, r7, r8)) := ⟨by have := HH2.out; rwa [if_pos HN2.out] at this⟩
          obtain ⟨T2, hT2⟩ : ∃ T2, dec_legs s7.1.toNat s7.2 [] = T2 := ⟨_, rfl⟩
          have HT := Aside0.mk hT2
          rw [hT2] at HH3
          clear hT2 HH2
          go_wp2_with (first | (go_at_call 46; (with_reducible refine (many_e 64 H7.out HMB2.out _ HD.out.rd).mono ?_); rintro e w8 ⟨rfl, hr, hp⟩; have n_ := Aside0.mk (HD.out.puts hr hp); clear HD; have HD := n_; clear n_ hr hp))
          have n_ := Aside0.mk HD.out.split
          clear HD
          have HD := n_
          clear n_
          go_loopg [47] s7.1.toNat (fun kq v47 w' => ∃ (x47 : Int) (vl : Value) (legs : List S87) (s : List Int × Bool), v47 = .int .i64 x47 ∧ Aside0 (x47 + kq = s7.1 ∧ 0 ≤ x47 ∧ (legs.length : Int) = x47) ∧ Aside0 (dec_legs kq s legs = T2) ∧ Aside0 (DecS w w.heap.size gb (w.heap.size + 1) p s1.1 s2.1 s3.1 (strOfNums s4.1) (strOfNums s5.1) (fun k => some k = va.ownBlock) (fun k => gb < k ∧ some k ≠ va.ownBlock) va vl args legs s w'))
          case atStart => exact ⟨0, _, [], s7.2, rfl, ⟨by have := HN2.out; simp; omega⟩, HT, HD⟩
          case round =>
            clear HD HT
            obtain ⟨x47, vl, legs, s, rfl, HK2, HT, HD⟩ := hrel
            by_cases d2 : x47 < s7.1
            · have d2b : decide (x47 < s7.1) = true := decide_eq_true d2
              obtain ⟨k2, rfl⟩ : ∃ k2, gk = k2 + 1 := ⟨gk - 1, by have := HK2.out; omega⟩
              obtain ⟨st, hst⟩ : ∃ st, rInt s = st := ⟨_, rfl⟩
              obtain ⟨su, hsu⟩ : ∃ su, rInt st.2 = su := ⟨_, rfl⟩
              have HT2 : Aside0 (dec_legs k2 su.2 (legs ++ [⟨st.1, su.1⟩]) = T2) := ⟨by have := HT.out; rw [dec_legs, hst, hsu] at this; exact this⟩
              have HST := Aside0.mk hst
              have HSU := Aside0.mk hsu
              have HAL : Aside0 (legs.length ≤ 64) := ⟨by have := HK2.out; have := HN2.out; omega⟩
              have e47 : wrap64 (x47 + 1) = x47 + 1 := by have := HK2.out; have := HN2.out; unfold wrap64; omega
              clear d2 HT hst hsu
              go_upto_region 13 with (fail)
              refine start_ (n := 11) (S := fun w' => w'.cell? ⟨gb, 6, none⟩ = some vl) (ds := [10]) #[false, false, false, false, false, false, false, false, false, false, false] (by kernel_rfl) rfl rfl ((blk_cell (HD.out.go (below_drew (Below.refl _ _))).blk 6).trans rfl) (fun hHeld => ?_); refine with_tabW DecB.tab13 DecB.bits13 (fun HT_ HW_ => ?_)
              have n_ := Aside0.mk (HD.out.go (below_drew (Below.refl _ _)))
              clear HD
              have HD := n_
              clear n_
              generalize World.drew _ = wz at HD hHeld ⊢
              refine pure_ (i := 0) (N := some 49) (v := ?_) (a' := ?_) #[true, false, false, false, false, false, false, false, false, false, false] rfl rfl (any_of HT_.out (by kernel_rfl)) (fun _ _ _ h => h) (Or.inl ⟨by rfl, ?_⟩) ?_ ?_
              rotate_left
              · intro w'
                go_simp
                with_reducible rfl
              rotate_left
              · simp only [Act.put, List.setIfInBounds_toArray, List.set_cons_zero, List.set_cons_succ, i64_w, i32_w]
                rfl
              refine take_ (i := 1) (N := some 50) (v := ?_) (a' := ?_) #[true, true, false, false, false, false, false, false, false, false, false] rfl rfl (take_ofW HT_.out HW_.out (by kernel_rfl)) (fun _ _ _ h => h) (Or.inl ⟨by rfl, ?_⟩) hHeld ?_ ?_
              rotate_left
              · rintro w' hs_
                go_simp
                with_reducible rfl
              rotate_left
              · simp only [Act.put, List.setIfInBounds_toArray, List.set_cons_zero, List.set_cons_succ, i64_w, i32_w]
                rfl
              refine pure_ (i := 2) (N := some 51) (v := ?_) (a' := ?_) #[true, true, true, false, false, false, false, false, false, false, false] rfl rfl (any_of HT_.out (by kernel_rfl)) (fun _ _ _ h => h) (Or.inl ⟨by rfl, ?_⟩) ?_ ?_
              rotate_left
              · intro w'
                go_simp
                with_reducible rfl
              rotate_left
              · simp only [Act.put, List.setIfInBounds_toArray, List.set_cons_zero, List.set_cons_succ, i64_w, i32_w]
                rfl
              refine pure_ (i := 4) (N := some 53) (v := ?_) (a' := ?_) #[true, true, true, false, true, false, false, false, false, false, false] rfl rfl (any_of HT_.out (by kernel_rfl)) (fun _ _ _ h => h) (Or.inl ⟨by rfl, ?_⟩) ?_ ?_
              rotate_left
              · intro w'
                go_simp
                with_reducible rfl
              rotate_left
              · simp only [Act.put, List.setIfInBounds_toArray, List.set_cons_zero, List.set_cons_succ, i64_w, i32_w]
                rfl
              refine one_ (i := 3) (N := some 52) #[true, true, true, true, true, false, false, false, false, false, false] rfl rfl (one_of HT_.out (by kernel_rfl)) (by decide) (fun K hK => ?_)
              refine goes_ Try.func25 (by kernel_rfl) rfl #[.pointer (some ⟨p, 0, none⟩)] (by rfl) rfl rfl (by (try simp only [List.map_toArray, List.map_cons, List.map_nil]); first | done | rfl | (simp only [List.length_drop, List.length_take]; rfl)) ?_
              with_reducible refine (int_e HST.out _ HD.out.rd).mono ?_
              rintro e wq ⟨rfl, hr, hp⟩; have n_ := Aside0.mk (HD.out.puts hr hp); clear HD; have HD := n_; clear n_ hr hp
              refine ⟨_, rfl, ?_⟩
              refine hK.out _ _ ((blk_cell HD.out.blk 6).trans rfl) (fun hHeld => ?_)
              clear hK K
              refine norm_ (a' := ?_) ?_ ?_
              rotate_left
              · show Act.put _ (some 52) _ = _
                simp only [Act.put, List.setIfInBounds_toArray, List.set_cons_zero, List.set_cons_succ, i64_w, i32_w]
                rfl
              refine one_ (i := 5) (N := some 54) #[true, true, true, true, true, true, false, false, false, false, false] rfl rfl (one_of HT_.out (by kernel_rfl)) (by decide) (fun K hK => ?_)
              refine goes_ Try.func25 (by kernel_rfl) rfl #[.pointer (some ⟨p, 0, none⟩)] (by rfl) rfl rfl (by (try simp only [List.map_toArray, List.map_cons, List.map_nil]); first | done | rfl | (simp only [List.length_drop, List.length_take]; rfl)) ?_
              with_reducible refine (int_e HSU.out _ HD.out.rd).mono ?_
              rintro e wq2 ⟨rfl, hr, hp⟩; have n_ := Aside0.mk (HD.out.puts hr hp); clear HD; have HD := n_; clear n_ hr hp
              refine ⟨_, rfl, ?_⟩
              refine hK.out _ _ ((blk_cell HD.out.blk 6).trans rfl) (fun hHeld => ?_)
              clear hK K
              refine norm_ (a' := ?_) ?_ ?_
              rotate_left
              · show Act.put _ (some 54) _ = _
                simp only [Act.put, List.setIfInBounds_toArray, List.set_cons_zero, List.set_cons_succ, i64_w, i32_w]
                rfl
              refine pure_ (i := 6) (N := some 55) (v := ?_) (a' := ?_) #[true, true, true, true, true, true, true, false, false, false, false] rfl rfl (any_of HT_.out (by kernel_rfl)) (fun _ _ _ h => h) (Or.inl ⟨by rfl, ?_⟩) ?_ ?_
              rotate_left
              · intro w'
                go_simp
                with_reducible rfl
              rotate_left
              · simp only [Act.put, List.setIfInBounds_toArray, List.set_cons_zero, List.set_cons_succ, i64_w, i32_w]
                rfl
              refine one_ (i := 7) (N := some 56) #[true, true, true, true, true, true, true, true, false, false, false] rfl rfl (one_of HT_.out (by kernel_rfl)) (by decide) (fun K hK => ?_)
              refine Kd.R_lit_step k87 _ 87 ?hg (N := 56) ?hd (xs := ([(⟨st.1, su.1⟩ : S87)] : List S87)) (inner := [.int .i64 st.1, .int .i64 su.1]) (ok := fun _ => True) (okp := fun _ => True) ?hr ?hp (fun _ hk => hk) trivial (Below.refl _ _) (Nat.le_refl _) (by simp) ?_; (case hd => rfl); (case hg => rfl); (case hr => first | (go_simp; done) | (go_simp; rfl)); (case hp => exact (Reps.c2 (show Kd.M k87 _ _ _ (⟨st.1, su.1⟩ : S87) [.int .i64 st.1, .int .i64 su.1] from (k87_mkM _ _ _ (⟨st.1, su.1⟩ : S87))) (Reps.none _ _)))
              intro v2 w2 ho2 hb2 hg_ hnew_
              clear hg_ hnew_
              have n_ := Aside0.mk (HD.out.go hb2)
              clear HD
              have HD := n_
              clear n_
              obtain ⟨A2, c2, e2, hc2, hC2⟩ := Kd.R_reads ho2
              subst e2
              have HC2 := Aside0.mk hC2
              clear hb2 ho2 hC2 hc2
              refine hK.out _ _ ((blk_cell HD.out.blk 6).trans rfl) (fun hHeld => ?_)
              clear hK K
              refine norm_ (a' := ?_) ?_ ?_
              rotate_left
              · show Act.put _ (some 56) _ = _
                simp only [Act.put, List.setIfInBounds_toArray, List.set_cons_zero, List.set_cons_succ, i64_w, i32_w]
                rfl
              refine one_ (i := 8) (N := some 57) #[true, true, true, true, true, true, true, true, true, false, false] rfl rfl (one_of HT_.out (by kernel_rfl)) (by decide) (fun K hK => ?_)
              refine Kd.R_append_rows_step k87 (w0 := w) w.heap.size (by rfl) (.tmp 50) (.tmp 56) 48 87 (.agg #[(.int .i64 0), (.int .i64 0)]) 16 rfl Try.underlying48 info87 rfl (by decide) (by omega) vl legs ([(⟨st.1, su.1⟩ : S87)] : List S87) _ _ _ (fun k => gb < k ∧ some k ≠ va.ownBlock) (fun _ => False) rfl rfl ?aO ?aR (fun _ _ h => h) (fun _ h => h.elim) ?aF ?aB ?aS ?aL ?_
              (case aR => exact HC2.out)
              (case aB => exact HD.out.below)
              (case aF => exact (fun k_ hk => ⟨by have := blk_lt HD.out.blk; omega, fun e_ => by have := Kd.R_lt HD.out.oa k_ e_.symm; omega⟩))
              (case aO => exact HD.out.ol)
              (case aS => exact below_size HD.out.below)
              (case aL => have := HAL.out; simp; omega)
              intro v3 w3 ho hb hg hat
              have BK3 := Aside0.mk (blk_grown HD.out.blk hg (fun e_ => by have := HD.out.hl _ (HD.out.ol.1 _ e_.symm); omega))
              have HO3 := Aside0.mk ho
              have HB3 := Aside0.mk hb
              have HG3 := Aside0.mk hg
              clear ho hb hg hat
              obtain ⟨A3, cc3, e3⟩ := Kd.R_slice HO3.out
              subst e3
              refine hK.out _ _ ((blk_cell BK3.out 6).trans rfl) (fun hHeld => ?_)
              clear hK K
              refine norm_ (a' := ?_) ?_ ?_
              rotate_left
              · show Act.put _ (some 57) _ = _
                simp only [Act.put, List.setIfInBounds_toArray, List.set_cons_zero, List.set_cons_succ, i64_w, i32_w]
                rfl
              refine pure_ (i := 9) (N := some 58) (v := ?_) (a' := ?_) #[true, true, true, true, true, true, true, true, true, true, false] rfl rfl (any_of HT_.out (by kernel_rfl)) (fun _ _ _ h => h) (Or.inl ⟨by rfl, ?_⟩) ?_ ?_
              rotate_left
              · intro w'
                go_simp
                with_reducible rfl
              rotate_left
              · simp only [Act.put, List.setIfInBounds_toArray, List.set_cons_zero, List.set_cons_succ, i64_w, i32_w]
                rfl
              refine last_ (i := 10) (N := none) #[true, true, true, true, true, true, true, true, true, true, true] rfl rfl (one_of HT_.out (by kernel_rfl)) (by decide) (fun K hK => ?_)
              have hcl : w3.cell? ⟨gb, 6, none⟩ = some vl := (blk_cell BK3.out 6).trans rfl
              have hfr := blk_frozen BK3.out 6
              refine skip_ (w1 := ?_) (by rfl) rfl ?_ ?_
              rotate_left
              · go_simp
                rfl
              refine hK.out _ _ ?_
              clear hK K
              refine done_ (done_of HT_.out (by kernel_rfl)) ?_
              try go_wp2
              have ho3 := HO3.out
              rw [show (legs ++ [(⟨st.1, su.1⟩ : S87)]).length = legs.length + 1 by simp] at ho3
              go_roundg k2
              case measure => omega
              case rel => exact ⟨x47 + 1, _, legs ++ [⟨st.1, su.1⟩], su.2, by rw [e47], ⟨by have := HK2.out; simp; omega⟩, HT2, ⟨HD.out.setL HG3.out ho3 HB3.out (fun k h1 h2 => h1.2 h2)⟩⟩
            · have d2b : decide (x47 < s7.1) = false := decide_eq_false d2
              have hk0 : gk = 0 := by have := HK2.out; omega
              subst hk0
              have HH4 : Aside0 ((if rEnd s = true then (s1.1, s2.1, s3.1, strOfNums s4.1, strOfNums s5.1, args, legs, 0) else decBad) = (r1, r2, r3, r4, r5, r6, r7, r8)) := ⟨by have := HH3.out; rw [← HT.out] at this; exact this⟩
              clear HT HH3 d2
              obtain ⟨eb, heb⟩ : ∃ eb, rEnd s = eb := ⟨_, rfl⟩
              rw [heb] at HH4
              have HE := Aside0.mk heb
              clear heb
              cases eb with
              | false =>
                have HBAD : Aside0 (decBad = (r1, r2, r3, r4, r5, r6, r7, r8)) := ⟨by have := HH4.out; rwa [if_neg (by simp)] at this⟩
                have HX := HBAD.out
                simp only [decBad, Prod.mk.injEq] at HX
                obtain ⟨rfl, rfl, rfl, rfl, rfl, rfl, rfl, rfl⟩ := HX
                clear HBAD
                have hz0 : World.cell? _ ⟨w.heap.size, 0, none⟩ = some (.int .i64 0) := (blk_cell HD.out.res 0).trans rfl
                have hf0 := blk_frozen HD.out.res 0
                have hz1 : World.cell? _ ⟨w.heap.size, 1, none⟩ = some (.int .i64 0) := (blk_cell HD.out.res 1).trans rfl
                have hf1 := blk_frozen HD.out.res 1
                have hz2 : World.cell? _ ⟨w.heap.size, 2, none⟩ = some (.int .i64 0) := (blk_cell HD.out.res 2).trans rfl
                have hf2 := blk_frozen HD.out.res 2
                have hz3 : World.cell? _ ⟨w.heap.size, 3, none⟩ = some (.string ⟨#[]⟩) := (blk_cell HD.out.res 3).trans rfl
                have hf3 := blk_frozen HD.out.res 3
                have hz4 : World.cell? _ ⟨w.heap.size, 4, none⟩ = some (.string ⟨#[]⟩) := (blk_cell HD.out.res 4).trans rfl
                have hf4 := blk_frozen HD.out.res 4
                have hz5 : World.cell? _ ⟨w.heap.size, 5, none⟩ = some (.slice none 0 0) := (blk_cell HD.out.res 5).trans rfl
                have hf5 := blk_frozen HD.out.res 5
                have hz6 : World.cell? _ ⟨w.heap.size, 6, none⟩ = some (.slice none 0 0) := (blk_cell HD.out.res 6).trans rfl
                have hf6 := blk_frozen HD.out.res 6
                go_wp2_with (first | (go_at_call 26; (with_reducible refine (end_e HE.out _ HD.out.rd).mono ?_); rintro e w9 ⟨rfl, rfl⟩))
                go_step3
                go_wp2
                refine jump_ret ?_
                refine bodyPost_ret (results_ct rfl _ _ w.heap.size 50 #[.int .i64 0, .int .i64 0, .int .i64 0, .string (⟨#[]⟩ : ByteArray), .string (⟨#[]⟩ : ByteArray), .slice none 0 0, .slice none 0 0] (0, 0) _ rfl (put7 HD.out.res _ _ _ _ _ _ _) Try.underlying50 rfl (by kernel_rfl)) rfl ?_
                exact ⟨_, _, rfl, Kd.R_nil _ _ _ _ _, Kd.R_nil _ _ _ _ _, (puts7 _ _ _ _ _ _ _ _ _).below (Nat.le_refl _) HD.out.below⟩
              | true =>
                have HX := HH4.out
                rw [if_pos rfl] at HX
                simp only [Prod.mk.injEq] at HX
                obtain ⟨rfl, rfl, rfl, rfl, rfl, rfl, rfl, rfl⟩ := HX
                clear HH4
                obtain ⟨Aa, ca, ea⟩ := Kd.R_slice HD.out.oa
                subst ea
                obtain ⟨Al, cl, el⟩ := Kd.R_slice HD.out.ol
                subst el
                have hz0 : World.cell? _ ⟨w.heap.size, 0, none⟩ = some (.int .i64 0) := (blk_cell HD.out.res 0).trans rfl
                have hf0 := blk_frozen HD.out.res 0
                have hz1 : World.cell? _ ⟨w.heap.size, 1, none⟩ = some (.int .i64 0) := (blk_cell HD.out.res 1).trans rfl
                have hf1 := blk_frozen HD.out.res 1
                have hz2 : World.cell? _ ⟨w.heap.size, 2, none⟩ = some (.int .i64 0) := (blk_cell HD.out.res 2).trans rfl
                have hf2 := blk_frozen HD.out.res 2
                have hz3 : World.cell? _ ⟨w.heap.size, 3, none⟩ = some (.string ⟨#[]⟩) := (blk_cell HD.out.res 3).trans rfl
                have hf3 := blk_frozen HD.out.res 3
                have hz4 : World.cell? _ ⟨w.heap.size, 4, none⟩ = some (.string ⟨#[]⟩) := (blk_cell HD.out.res 4).trans rfl
                have hf4 := blk_frozen HD.out.res 4
                have hz5 : World.cell? _ ⟨w.heap.size, 5, none⟩ = some (.slice none 0 0) := (blk_cell HD.out.res 5).trans rfl
                have hf5 := blk_frozen HD.out.res 5
                have hz6 : World.cell? _ ⟨w.heap.size, 6, none⟩ = some (.slice none 0 0) := (blk_cell HD.out.res 6).trans rfl
                have hf6 := blk_frozen HD.out.res 6
                have hy0 : World.cell? _ ⟨gb, 0, none⟩ = some (.int .i64 s1.1) := (blk_cell HD.out.blk 0).trans rfl
                have hv0 := blk_frozen HD.out.blk 0
                have hy1 : World.cell? _ ⟨gb, 1, none⟩ = some (.int .i64 s2.1) := (blk_cell HD.out.blk 1).trans rfl
                have hv1 := blk_frozen HD.out.blk 1
                have hy2 : World.cell? _ ⟨gb, 2, none⟩ = some (.int .i64 s3.1) := (blk_cell HD.out.blk 2).trans rfl
                have hv2 := blk_frozen HD.out.blk 2
                have hy3 : World.cell? _ ⟨gb, 3, none⟩ = some (.string (strOfNums s4.1)) := (blk_cell HD.out.blk 3).trans rfl
                have hv3 := blk_frozen HD.out.blk 3
                have hy4 : World.cell? _ ⟨gb, 4, none⟩ = some (.string (strOfNums s5.1)) := (blk_cell HD.out.blk 4).trans rfl
                have hv4 := blk_frozen HD.out.blk 4
                have hy5 : World.cell? _ ⟨gb, 5, none⟩ = some (.slice Aa args.length ca) := (blk_cell HD.out.blk 5).trans rfl
                have hv5 := blk_frozen HD.out.blk 5
                have hy6 : World.cell? _ ⟨gb, 6, none⟩ = some (.slice Al legs.length cl) := (blk_cell HD.out.blk 6).trans rfl
                have hv6 := blk_frozen HD.out.blk 6
                go_wp2_with (first | (go_at_call 26; (with_reducible refine (end_e HE.out _ HD.out.rd).mono ?_); rintro e w9 ⟨rfl, rfl⟩))
                have hput := put7 HD.out.res (.int .i64 s1.1) (.int .i64 s2.1) (.int .i64 s3.1) (.string (strOfNums s4.1)) (.string (strOfNums s5.1)) (.slice Aa args.length ca) (.slice Al legs.length cl)
                have hpu := puts7 w9 w.heap.size (.int .i64 s1.1) (.int .i64 s2.1) (.int .i64 s3.1) (.string (strOfNums s4.1)) (.string (strOfNums s5.1)) (.slice Aa args.length ca) (.slice Al legs.length cl)
                generalize (((((((w9.setCell ⟨w.heap.size, 0, none⟩ (.int .i64 s1.1)).setCell ⟨w.heap.size, 1, none⟩ (.int .i64 s2.1)).setCell ⟨w.heap.size, 2, none⟩ (.int .i64 s3.1)).setCell ⟨w.heap.size, 3, none⟩ (.string (strOfNums s4.1))).setCell ⟨w.heap.size, 4, none⟩ (.string (strOfNums s5.1))).setCell ⟨w.heap.size, 5, none⟩ (.slice Aa args.length ca)).setCell ⟨w.heap.size, 6, none⟩ (.slice Al legs.length cl)) = wz at hput hpu ⊢
                refine jump_ret ?_
                refine bodyPost_ret (results_ct rfl _ wz w.heap.size 50 #[.int .i64 s1.1, .int .i64 s2.1, .int .i64 s3.1, .string (strOfNums s4.1), .string (strOfNums s5.1), .slice Aa args.length ca, .slice Al legs.length cl] (0, 0) _ rfl hput Try.underlying50 rfl (by kernel_rfl)) rfl ?_
                have hlo := HD.out.lo
                have hk := (hpu 0 (Nat.zero_le _)).2.2
                exact ⟨_, _, rfl, Kd.R_mono (Kd.R_step HD.out.oa (fun k ho _ => hk k (by have := HD.out.ha k ho; omega))) (fun _ _ => trivial), Kd.R_mono (Kd.R_step HD.out.ol (fun k ho _ => hk k (by have := HD.out.hl k ho; omega))) (fun _ _ => trivial), hpu.below (Nat.le_refl _) HD.out.below⟩
def entry_Decode.f (l0 : List Int) : Option (Int × Int × Int × ByteArray × ByteArray × List Int × List S87 × Int) := if l0.length < 140737488355328 ∧ ∀ x ∈ l0, 0 ≤ x ∧ x ≤ 255 then some (decF l0) else none
theorem entry_Decode.calls (A0 : Option Addr) (c0 : Nat) (l0 : List Int) (r1 : Int) (r2 : Int) (r3 : Int) (r4 : ByteArray) (r5 : ByteArray) (r6 : List Int) (r7 : List (S87)) (r8 : Int) (w : World) (hr0 : Kd.C (Kd.int .u8) w A0 l0.length l0) (hc0 : l0.length ≤ c0) (h : entry_Decode.f l0 = some (r1, r2, r3, r4, r5, r6, r7, r8)) :
    Calls Try.prog 30 #[.slice A0 l0.length c0] w fun e w' => ∃ v5_ v6_ : Value, e = .returned (.tuple #[.agg #[.int .i64 r1, .int .i64 r2, .int .i64 r3, .string r4, .string r5, v5_, v6_], .int .i64 r8]) ∧ Kd.R (Kd.int .i64) 3 w' w.heap.size (fun _ => True) v5_ r6 ∧ Kd.R k87 87 w' w.heap.size (fun _ => True) v6_ r7 ∧ Below w.heap.size w w' := by
  unfold entry_Decode.f at h
  have hc : l0.length < 140737488355328 ∧ ∀ x ∈ l0, 0 ≤ x ∧ x ≤ 255 := Decidable.byContradiction fun c => by rw [if_neg c] at h; simp at h
  rw [if_pos hc] at h
  exact entry_Decode.at_ A0 c0 l0 w hr0 hc0 hc.2 hc.1 r1 r2 r3 r4 r5 r6 r7 r8 (Option.some.inj h)
end Go.Proofs.Ytjmkpcnekghmhaa.PAll
end
section
namespace Go.Proofs.Ytjmkpcnekghmhaa.PAll
open Go.RowKit Go.Proofs.YtjmkpcnekghmhaaW.PrintWords Go.Proofs.YtjmkpcnekghmhaaW.PrintLast Go.Proofs.YtjmkpcnekghmhaaW.PrintMore
attribute [local go_sem] max2_int min2_int max_two min_two max_three min_three max_four min_four   -- for this text's walks alone
set_option linter.unusedVariables false
set_option linter.unusedSimpArgs false

theorem eqA87 (d : Nat) (w : World) (x0 y0 : Int) (x1 y1 : Int) :
    (Op.equalIn (d + 2) 87 (.agg #[.int .i64 x0, .int .i64 x1]) (.agg #[.int .i64 y0, .int .i64 y1])).run Try.prog w = .ok (x0 == y0 && (x1 == y1)) w := by
  refine eqA_of Try.underlying87 (by kernel_rfl) ?_
  refine eqf_cons (by rfl) (by go_simp; rfl) (by go_simp; rfl) (by go_simp) ?_
  exact eqf_last (by rfl) (by go_simp; rfl) (by go_simp; rfl) (by go_simp)
end Go.Proofs.Ytjmkpcnekghmhaa.PAll
end
