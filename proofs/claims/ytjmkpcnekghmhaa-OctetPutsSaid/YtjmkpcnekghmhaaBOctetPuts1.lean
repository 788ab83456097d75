/- Words, plain functions and contracts of the functions that the law of this claim reaches; no conditions. -/
import Derived.Test.YtjmkpcnekghmhaaBOctetPuts0
import Derived.Test.YtjmkpcnekghmhaaProg
import Derived.Lib.SliceRun
import Derived.Lib.AppendZerosOnto
import Derived.Deep.DeepAppendWide
section
namespace Go.Proofs.Ytjmkpcnekghmhaa.PAll
open Go.RowKit Go.Proofs.YtjmkpcnekghmhaaW.PrintWords Go.Proofs.YtjmkpcnekghmhaaW.PrintLast Go.Proofs.YtjmkpcnekghmhaaW.PrintMore
attribute [local go_sem] max2_int min2_int max_two min_two max_three min_three max_four min_four   -- for this text's walks alone
set_option linter.unusedVariables false
set_option linter.unusedSimpArgs false



def errW : Option Int → Value
  | none => .nilIface
  | some c => .iface 0 (.int .i64 c)
theorem errW_none : errW none = .nilIface := rfl
theorem errW_some (c : Int) : errW (some c) = .iface 0 (.int .i64 c) := rfl

theorem goesV_ {P : Program} {ops : Array Oper} {Q : Exit → Act → World → Prop} {oi : Oper} {N : Option Tmp} {a : Act} {w : World} {K : Act → World → Prop} {f : FuncId} {fn : Func} {c : Operand} {as_ : Array Operand} {ts : Array TypeId} (hf : P.funcs[f]? = some fn) (hname : (fn.name == "runtime.NumGoroutine") = false) (hb : fn.body.isSome = true) (args : Array Value)
    (hw : Region.wanted oi (yielded ops a.tmps) = true) (hN : oi.dst = N) (hop : oi.op = .call { callee := .value c, args := as_, argTypes := ts }) (hargs : as_.map a.eval = args)
    (hc : a.eval c = .func (.func f) #[] #[])
    (h : Calls P f args w fun e w' => ∃ v, e = .returned v ∧ K (a.put N v) w') : if Region.wanted oi (yielded ops a.tmps) = true then Oper.wp P oi a w K Q else K (a.put N undef) w := by
  refine call_ f args hw hN ?_ h
  have he := enters_ hf hname hb args w
  unfold execOp
  simp [hop, resolve, Deferred.ofValue, invoke, hc, hargs, he]
theorem info3 : (Try.prog.info? 3).map (fun i => (i.zero, i.size, i.bytes)) = some (some (.int .i64 0), 1, 8) := by kernel_rfl
theorem info5 : (Try.prog.info? 5).map (fun i => (i.zero, i.size, i.bytes)) = some (some (.int .u8 0), 1, 1) := by kernel_rfl
theorem info87 : (Try.prog.info? 87).map (fun i => (i.zero, i.size, i.bytes)) = some (some (.agg #[(.int .i64 0), (.int .i64 0)]), 2, 16) := by kernel_rfl
-- the values' own types
def rd_L1 (xs : List (List Int)) (i : Int) : (List Int) := xs.getD i.toNat ([] : List Int)
theorem at_L1 {w : World} {A : Option Addr} {n : Nat} {xs : List (List Int)} (h : Kd.C (Kd.slice 5 (Kd.int .u8)) w A n xs) (i : Int) (h0 : 0 ≤ i) (h1 : i < n) : ∃ ad A0 c0, A = some ad ∧ w.cell? (ad.add i.toNat) = some (.slice A0 (rd_L1 xs i).length c0) ∧ (rd_L1 xs i).length ≤ c0 ∧ (Kd.int .u8).C w A0 (rd_L1 xs i).length (rd_L1 xs i) := by
  obtain ⟨ad, c, e, _, hK, hc0⟩ := Kd.C_get h ([] : List Int) i h0 h1
  have hc : ∀ j u, c[j]? = some u → w.cell? (ad.add (i.toNat * 1 + j)) = some u := hc0
  obtain ⟨A0, c0, rfl, l0, g0⟩ := hK
  exact ⟨ad, A0, c0, e, by have hq := hc 0 _ rfl; rwa [Nat.mul_one, Nat.add_zero] at hq, l0, g0⟩

/-! #### struct type 34 -/
structure S34 where
  f0 : Bool
  f1 : Int
def z34 : S34 := ⟨false, (0 : Int)⟩
def k34 : Kd S34 := Kd.iso (Kd.pair Kd.bool (Kd.int .i64)) (fun x : S34 => (x.f0, x.f1))
theorem k34_open {w : World} {x : S34} {cs : List Value} (h : k34.K w x cs) : cs = [.bool x.f0, .int .i64 x.f1] := by
  obtain ⟨_, _, rfl, rfl, rfl⟩ := h
  exact rfl
theorem k34_openM {w : World} {base : Nat} {ok : Nat → Prop} {x : S34} {cs : List Value} (h : k34.M w base ok x cs) : cs = [.bool x.f0, .int .i64 x.f1] := by
  obtain ⟨_, _, rfl, rfl, rfl⟩ := h
  exact rfl
theorem k34_mk (w : World) (x : S34)  : k34.K w x [.bool x.f0, .int .i64 x.f1] := ⟨[.bool x.f0], [.int .i64 x.f1], rfl, rfl, rfl⟩
theorem k34_mkM (w : World) (base : Nat) (ok : Nat → Prop) (x : S34)  : k34.M w base ok x [.bool x.f0, .int .i64 x.f1] := ⟨[.bool x.f0], [.int .i64 x.f1], rfl, rfl, rfl⟩
theorem k34_mkF (W : World) (ok : Nat → Prop) (x : S34) : Kd.FK k34 W ok x [.bool x.f0, .int .i64 x.f1] := fun W2 _ => k34_mk W2 x
def rd_T34 (xs : List S34) (i : Int) : S34 := xs.getD i.toNat z34
theorem at_T34 {w : World} {A : Option Addr} {n : Nat} {xs : List S34} (h : Kd.C k34 w A n xs) (i : Int) (h0 : 0 ≤ i) (h1 : i < n) : ∃ ad , A = some ad ∧ w.cell? (ad.add (i.toNat * 2)) = some (.bool (rd_T34 xs i).f0) ∧ w.cell? ⟨(ad.add (i.toNat * 2)).block, (ad.add (i.toNat * 2)).off + 1, none⟩ = some (.int .i64 (rd_T34 xs i).f1) := by
  obtain ⟨ad, c, e, _, hK, hc0⟩ := Kd.C_get h z34 i h0 h1
  have hc : ∀ j u, c[j]? = some u → w.cell? (ad.add (i.toNat * 2 + j)) = some u := hc0
  obtain rfl := k34_open hK
  exact ⟨ad, e, hc 0 _ rfl, by rw [← add_field _ _ 1 (by omega)]; exact hc 1 _ rfl⟩

def rd_L6 (xs : List (List S34)) (i : Int) : (List S34) := xs.getD i.toNat ([] : List S34)
theorem at_L6 {w : World} {A : Option Addr} {n : Nat} {xs : List (List S34)} (h : Kd.C (Kd.slice 34 k34) w A n xs) (i : Int) (h0 : 0 ≤ i) (h1 : i < n) : ∃ ad A0 c0, A = some ad ∧ w.cell? (ad.add i.toNat) = some (.slice A0 (rd_L6 xs i).length c0) ∧ (rd_L6 xs i).length ≤ c0 ∧ k34.C w A0 (rd_L6 xs i).length (rd_L6 xs i) := by
  obtain ⟨ad, c, e, _, hK, hc0⟩ := Kd.C_get h ([] : List S34) i h0 h1
  have hc : ∀ j u, c[j]? = some u → w.cell? (ad.add (i.toNat * 1 + j)) = some u := hc0
  obtain ⟨A0, c0, rfl, l0, g0⟩ := hK
  exact ⟨ad, A0, c0, e, by have hq := hc 0 _ rfl; rwa [Nat.mul_one, Nat.add_zero] at hq, l0, g0⟩

def rd_L7 (xs : List (List Int)) (i : Int) : (List Int) := xs.getD i.toNat ([] : List Int)
theorem at_L7 {w : World} {A : Option Addr} {n : Nat} {xs : List (List Int)} (h : Kd.C (Kd.slice 3 (Kd.int .i64)) w A n xs) (i : Int) (h0 : 0 ≤ i) (h1 : i < n) : ∃ ad A0 c0, A = some ad ∧ w.cell? (ad.add i.toNat) = some (.slice A0 (rd_L7 xs i).length c0) ∧ (rd_L7 xs i).length ≤ c0 ∧ (Kd.int .i64).C w A0 (rd_L7 xs i).length (rd_L7 xs i) := by
  obtain ⟨ad, c, e, _, hK, hc0⟩ := Kd.C_get h ([] : List Int) i h0 h1
  have hc : ∀ j u, c[j]? = some u → w.cell? (ad.add (i.toNat * 1 + j)) = some u := hc0
  obtain ⟨A0, c0, rfl, l0, g0⟩ := hK
  exact ⟨ad, A0, c0, e, by have hq := hc 0 _ rfl; rwa [Nat.mul_one, Nat.add_zero] at hq, l0, g0⟩

def rd_L8 (xs : List (List ByteArray)) (i : Int) : (List ByteArray) := xs.getD i.toNat ([] : List ByteArray)
theorem at_L8 {w : World} {A : Option Addr} {n : Nat} {xs : List (List ByteArray)} (h : Kd.C (Kd.slice 9 Kd.string) w A n xs) (i : Int) (h0 : 0 ≤ i) (h1 : i < n) : ∃ ad A0 c0, A = some ad ∧ w.cell? (ad.add i.toNat) = some (.slice A0 (rd_L8 xs i).length c0) ∧ (rd_L8 xs i).length ≤ c0 ∧ Kd.string.C w A0 (rd_L8 xs i).length (rd_L8 xs i) := by
  obtain ⟨ad, c, e, _, hK, hc0⟩ := Kd.C_get h ([] : List ByteArray) i h0 h1
  have hc : ∀ j u, c[j]? = some u → w.cell? (ad.add (i.toNat * 1 + j)) = some u := hc0
  obtain ⟨A0, c0, rfl, l0, g0⟩ := hK
  exact ⟨ad, A0, c0, e, by have hq := hc 0 _ rfl; rwa [Nat.mul_one, Nat.add_zero] at hq, l0, g0⟩

/-! #### struct type 87 -/
structure S87 where
  f0 : Int
  f1 : Int
def z87 : S87 := ⟨(0 : Int), (0 : Int)⟩
def k87 : Kd S87 := Kd.iso (Kd.pair (Kd.int .i64) (Kd.int .i64)) (fun x : S87 => (x.f0, x.f1))
theorem k87_open {w : World} {x : S87} {cs : List Value} (h : k87.K w x cs) : cs = [.int .i64 x.f0, .int .i64 x.f1] := by
  obtain ⟨_, _, rfl, rfl, rfl⟩ := h
  exact rfl
theorem k87_openM {w : World} {base : Nat} {ok : Nat → Prop} {x : S87} {cs : List Value} (h : k87.M w base ok x cs) : cs = [.int .i64 x.f0, .int .i64 x.f1] := by
  obtain ⟨_, _, rfl, rfl, rfl⟩ := h
  exact rfl
theorem k87_mk (w : World) (x : S87)  : k87.K w x [.int .i64 x.f0, .int .i64 x.f1] := ⟨[.int .i64 x.f0], [.int .i64 x.f1], rfl, rfl, rfl⟩
theorem k87_mkM (w : World) (base : Nat) (ok : Nat → Prop) (x : S87)  : k87.M w base ok x [.int .i64 x.f0, .int .i64 x.f1] := ⟨[.int .i64 x.f0], [.int .i64 x.f1], rfl, rfl, rfl⟩
theorem k87_mkF (W : World) (ok : Nat → Prop) (x : S87) : Kd.FK k87 W ok x [.int .i64 x.f0, .int .i64 x.f1] := fun W2 _ => k87_mk W2 x
def rd_T87 (xs : List S87) (i : Int) : S87 := xs.getD i.toNat z87
theorem at_T87 {w : World} {A : Option Addr} {n : Nat} {xs : List S87} (h : Kd.C k87 w A n xs) (i : Int) (h0 : 0 ≤ i) (h1 : i < n) : ∃ ad , A = some ad ∧ w.cell? (ad.add (i.toNat * 2)) = some (.int .i64 (rd_T87 xs i).f0) ∧ w.cell? ⟨(ad.add (i.toNat * 2)).block, (ad.add (i.toNat * 2)).off + 1, none⟩ = some (.int .i64 (rd_T87 xs i).f1) := by
  obtain ⟨ad, c, e, _, hK, hc0⟩ := Kd.C_get h z87 i h0 h1
  have hc : ∀ j u, c[j]? = some u → w.cell? (ad.add (i.toNat * 2 + j)) = some u := hc0
  obtain rfl := k87_open hK
  exact ⟨ad, e, hc 0 _ rfl, by rw [← add_field _ _ 1 (by omega)]; exact hc 1 _ rfl⟩

/-! #### struct type 102 -/
structure S102 where
  f0 : Int
  f1 : Int
def z102 : S102 := ⟨(0 : Int), (0 : Int)⟩
def k102 : Kd S102 := Kd.iso (Kd.pair (Kd.int .i64) (Kd.int .i64)) (fun x : S102 => (x.f0, x.f1))
theorem k102_open {w : World} {x : S102} {cs : List Value} (h : k102.K w x cs) : cs = [.int .i64 x.f0, .int .i64 x.f1] := by
  obtain ⟨_, _, rfl, rfl, rfl⟩ := h
  exact rfl
theorem k102_openM {w : World} {base : Nat} {ok : Nat → Prop} {x : S102} {cs : List Value} (h : k102.M w base ok x cs) : cs = [.int .i64 x.f0, .int .i64 x.f1] := by
  obtain ⟨_, _, rfl, rfl, rfl⟩ := h
  exact rfl
theorem k102_mk (w : World) (x : S102)  : k102.K w x [.int .i64 x.f0, .int .i64 x.f1] := ⟨[.int .i64 x.f0], [.int .i64 x.f1], rfl, rfl, rfl⟩
theorem k102_mkM (w : World) (base : Nat) (ok : Nat → Prop) (x : S102)  : k102.M w base ok x [.int .i64 x.f0, .int .i64 x.f1] := ⟨[.int .i64 x.f0], [.int .i64 x.f1], rfl, rfl, rfl⟩
theorem k102_mkF (W : World) (ok : Nat → Prop) (x : S102) : Kd.FK k102 W ok x [.int .i64 x.f0, .int .i64 x.f1] := fun W2 _ => k102_mk W2 x
def rd_T102 (xs : List S102) (i : Int) : S102 := xs.getD i.toNat z102
theorem at_T102 {w : World} {A : Option Addr} {n : Nat} {xs : List S102} (h : Kd.C k102 w A n xs) (i : Int) (h0 : 0 ≤ i) (h1 : i < n) : ∃ ad , A = some ad ∧ w.cell? (ad.add (i.toNat * 2)) = some (.int .i64 (rd_T102 xs i).f0) ∧ w.cell? ⟨(ad.add (i.toNat * 2)).block, (ad.add (i.toNat * 2)).off + 1, none⟩ = some (.int .i64 (rd_T102 xs i).f1) := by
  obtain ⟨ad, c, e, _, hK, hc0⟩ := Kd.C_get h z102 i h0 h1
  have hc : ∀ j u, c[j]? = some u → w.cell? (ad.add (i.toNat * 2 + j)) = some u := hc0
  obtain rfl := k102_open hK
  exact ⟨ad, e, hc 0 _ rfl, by rw [← add_field _ _ 1 (by omega)]; exact hc 1 _ rfl⟩

/-! #### struct type 93 -/
structure S93 where
  f0 : ByteArray
  f1 : Int
  f2 : Int
def z93 : S93 := ⟨(⟨#[]⟩ : ByteArray), (0 : Int), (0 : Int)⟩
def k93 : Kd S93 := Kd.iso (Kd.pair Kd.string (Kd.pair (Kd.int .i64) (Kd.int .i64))) (fun x : S93 => (x.f0, x.f1, x.f2))
theorem k93_open {w : World} {x : S93} {cs : List Value} (h : k93.K w x cs) : cs = [.string x.f0, .int .i64 x.f1, .int .i64 x.f2] := by
  obtain ⟨_, _, rfl, rfl, ⟨_, _, rfl, rfl, rfl⟩⟩ := h
  exact rfl
theorem k93_openM {w : World} {base : Nat} {ok : Nat → Prop} {x : S93} {cs : List Value} (h : k93.M w base ok x cs) : cs = [.string x.f0, .int .i64 x.f1, .int .i64 x.f2] := by
  obtain ⟨_, _, rfl, rfl, ⟨_, _, rfl, rfl, rfl⟩⟩ := h
  exact rfl
theorem k93_mk (w : World) (x : S93)  : k93.K w x [.string x.f0, .int .i64 x.f1, .int .i64 x.f2] := ⟨[.string x.f0], [.int .i64 x.f1, .int .i64 x.f2], rfl, rfl, ⟨[.int .i64 x.f1], [.int .i64 x.f2], rfl, rfl, rfl⟩⟩
theorem k93_mkM (w : World) (base : Nat) (ok : Nat → Prop) (x : S93)  : k93.M w base ok x [.string x.f0, .int .i64 x.f1, .int .i64 x.f2] := ⟨[.string x.f0], [.int .i64 x.f1, .int .i64 x.f2], rfl, rfl, ⟨[.int .i64 x.f1], [.int .i64 x.f2], rfl, rfl, rfl⟩⟩
theorem k93_mkF (W : World) (ok : Nat → Prop) (x : S93) : Kd.FK k93 W ok x [.string x.f0, .int .i64 x.f1, .int .i64 x.f2] := fun W2 _ => k93_mk W2 x
def rd_T93 (xs : List S93) (i : Int) : S93 := xs.getD i.toNat z93
theorem at_T93 {w : World} {A : Option Addr} {n : Nat} {xs : List S93} (h : Kd.C k93 w A n xs) (i : Int) (h0 : 0 ≤ i) (h1 : i < n) : ∃ ad , A = some ad ∧ w.cell? (ad.add (i.toNat * 3)) = some (.string (rd_T93 xs i).f0) ∧ w.cell? ⟨(ad.add (i.toNat * 3)).block, (ad.add (i.toNat * 3)).off + 1, none⟩ = some (.int .i64 (rd_T93 xs i).f1) ∧ w.cell? ⟨(ad.add (i.toNat * 3)).block, (ad.add (i.toNat * 3)).off + 2, none⟩ = some (.int .i64 (rd_T93 xs i).f2) := by
  obtain ⟨ad, c, e, _, hK, hc0⟩ := Kd.C_get h z93 i h0 h1
  have hc : ∀ j u, c[j]? = some u → w.cell? (ad.add (i.toNat * 3 + j)) = some u := hc0
  obtain rfl := k93_open hK
  exact ⟨ad, e, hc 0 _ rfl, by rw [← add_field _ _ 1 (by omega)]; exact hc 1 _ rfl, by rw [← add_field _ _ 2 (by omega)]; exact hc 2 _ rfl⟩

def rd_L13 (xs : List (List S102)) (i : Int) : (List S102) := xs.getD i.toNat ([] : List S102)
theorem at_L13 {w : World} {A : Option Addr} {n : Nat} {xs : List (List S102)} (h : Kd.C (Kd.slice 102 k102) w A n xs) (i : Int) (h0 : 0 ≤ i) (h1 : i < n) : ∃ ad A0 c0, A = some ad ∧ w.cell? (ad.add i.toNat) = some (.slice A0 (rd_L13 xs i).length c0) ∧ (rd_L13 xs i).length ≤ c0 ∧ k102.C w A0 (rd_L13 xs i).length (rd_L13 xs i) := by
  obtain ⟨ad, c, e, _, hK, hc0⟩ := Kd.C_get h ([] : List S102) i h0 h1
  have hc : ∀ j u, c[j]? = some u → w.cell? (ad.add (i.toNat * 1 + j)) = some u := hc0
  obtain ⟨A0, c0, rfl, l0, g0⟩ := hK
  exact ⟨ad, A0, c0, e, by have hq := hc 0 _ rfl; rwa [Nat.mul_one, Nat.add_zero] at hq, l0, g0⟩

/-! #### struct type 100 -/
structure S100 where
  f0 : Int
  f1 : Int
  f2 : Int
  f3 : Int
  f4 : Int
  f5 : Int
  f6 : Int
  f7 : Int
  f8 : Int
  f9 : Int
  f10 : Int
  f11 : (List S102)
def z100 : S100 := ⟨(0 : Int), (0 : Int), (0 : Int), (0 : Int), (0 : Int), (0 : Int), (0 : Int), (0 : Int), (0 : Int), (0 : Int), (0 : Int), ([] : List S102)⟩
def k100 : Kd S100 := Kd.iso (Kd.pair (Kd.int .i64) (Kd.pair (Kd.int .i64) (Kd.pair (Kd.int .i64) (Kd.pair (Kd.int .i64) (Kd.pair (Kd.int .i64) (Kd.pair (Kd.int .i64) (Kd.pair (Kd.int .i64) (Kd.pair (Kd.int .i64) (Kd.pair (Kd.int .i64) (Kd.pair (Kd.int .i64) (Kd.pair (Kd.int .i64) (Kd.slice 102 k102)))))))))))) (fun x : S100 => (x.f0, x.f1, x.f2, x.f3, x.f4, x.f5, x.f6, x.f7, x.f8, x.f9, x.f10, x.f11))
theorem k100_open {w : World} {x : S100} {cs : List Value} (h : k100.K w x cs) : ∃ A11 c11, cs = [.int .i64 x.f0, .int .i64 x.f1, .int .i64 x.f2, .int .i64 x.f3, .int .i64 x.f4, .int .i64 x.f5, .int .i64 x.f6, .int .i64 x.f7, .int .i64 x.f8, .int .i64 x.f9, .int .i64 x.f10, .slice A11 x.f11.length c11] ∧ x.f11.length ≤ c11 ∧ k102.C w A11 x.f11.length x.f11 := by
  obtain ⟨_, _, rfl, rfl, ⟨_, _, rfl, rfl, ⟨_, _, rfl, rfl, ⟨_, _, rfl, rfl, ⟨_, _, rfl, rfl, ⟨_, _, rfl, rfl, ⟨_, _, rfl, rfl, ⟨_, _, rfl, rfl, ⟨_, _, rfl, rfl, ⟨_, _, rfl, rfl, ⟨_, _, rfl, rfl, ⟨A11, c11, rfl, l11, g11⟩⟩⟩⟩⟩⟩⟩⟩⟩⟩⟩⟩ := h
  exact ⟨A11, c11, rfl, l11, g11⟩
theorem k100_openM {w : World} {base : Nat} {ok : Nat → Prop} {x : S100} {cs : List Value} (h : k100.M w base ok x cs) : ∃ v11, cs = [.int .i64 x.f0, .int .i64 x.f1, .int .i64 x.f2, .int .i64 x.f3, .int .i64 x.f4, .int .i64 x.f5, .int .i64 x.f6, .int .i64 x.f7, .int .i64 x.f8, .int .i64 x.f9, .int .i64 x.f10, v11] ∧ k102.R 102 w base ok v11 x.f11 := by
  obtain ⟨_, _, rfl, rfl, ⟨_, _, rfl, rfl, ⟨_, _, rfl, rfl, ⟨_, _, rfl, rfl, ⟨_, _, rfl, rfl, ⟨_, _, rfl, rfl, ⟨_, _, rfl, rfl, ⟨_, _, rfl, rfl, ⟨_, _, rfl, rfl, ⟨_, _, rfl, rfl, ⟨_, _, rfl, rfl, ⟨v11, rfl, g11⟩⟩⟩⟩⟩⟩⟩⟩⟩⟩⟩⟩ := h
  exact ⟨v11, rfl, g11⟩
theorem k100_mk (w : World) (x : S100) {A11 : Option Addr} {c11 : Nat} (l11 : x.f11.length ≤ c11) (g11 : k102.C w A11 x.f11.length x.f11) : k100.K w x [.int .i64 x.f0, .int .i64 x.f1, .int .i64 x.f2, .int .i64 x.f3, .int .i64 x.f4, .int .i64 x.f5, .int .i64 x.f6, .int .i64 x.f7, .int .i64 x.f8, .int .i64 x.f9, .int .i64 x.f10, .slice A11 x.f11.length c11] := ⟨[.int .i64 x.f0], [.int .i64 x.f1, .int .i64 x.f2, .int .i64 x.f3, .int .i64 x.f4, .int .i64 x.f5, .int .i64 x.f6, .int .i64 x.f7, .int .i64 x.f8, .int .i64 x.f9, .int .i64 x.f10, .slice A11 x.f11.length c11], rfl, rfl, ⟨[.int .i64 x.f1], [.int .i64 x.f2, .int .i64 x.f3, .int .i64 x.f4, .int .i64 x.f5, .int .i64 x.f6, .int .i64 x.f7, .int .i64 x.f8, .int .i64 x.f9, .int .i64 x.f10, .slice A11 x.f11.length c11], rfl, rfl, ⟨[.int .i64 x.f2], [.int .i64 x.f3, .int .i64 x.f4, .int .i64 x.f5, .int .i64 x.f6, .int .i64 x.f7, .int .i64 x.f8, .int .i64 x.f9, .int .i64 x.f10, .slice A11 x.f11.length c11], rfl, rfl, ⟨[.int .i64 x.f3], [.int .i64 x.f4, .int .i64 x.f5, .int .i64 x.f6, .int .i64 x.f7, .int .i64 x.f8, .int .i64 x.f9, .int .i64 x.f10, .slice A11 x.f11.length c11], rfl, rfl, ⟨[.int .i64 x.f4], [.int .i64 x.f5, .int .i64 x.f6, .int .i64 x.f7, .int .i64 x.f8, .int .i64 x.f9, .int .i64 x.f10, .slice A11 x.f11.length c11], rfl, rfl, ⟨[.int .i64 x.f5], [.int .i64 x.f6, .int .i64 x.f7, .int .i64 x.f8, .int .i64 x.f9, .int .i64 x.f10, .slice A11 x.f11.length c11], rfl, rfl, ⟨[.int .i64 x.f6], [.int .i64 x.f7, .int .i64 x.f8, .int .i64 x.f9, .int .i64 x.f10, .slice A11 x.f11.length c11], rfl, rfl, ⟨[.int .i64 x.f7], [.int .i64 x.f8, .int .i64 x.f9, .int .i64 x.f10, .slice A11 x.f11.length c11], rfl, rfl, ⟨[.int .i64 x.f8], [.int .i64 x.f9, .int .i64 x.f10, .slice A11 x.f11.length c11], rfl, rfl, ⟨[.int .i64 x.f9], [.int .i64 x.f10, .slice A11 x.f11.length c11], rfl, rfl, ⟨[.int .i64 x.f10], [.slice A11 x.f11.length c11], rfl, rfl, ⟨A11, c11, rfl, l11, g11⟩⟩⟩⟩⟩⟩⟩⟩⟩⟩⟩⟩
theorem k100_mkM (w : World) (base : Nat) (ok : Nat → Prop) (x : S100) {v11 : Value} (g11 : k102.R 102 w base ok v11 x.f11) : k100.M w base ok x [.int .i64 x.f0, .int .i64 x.f1, .int .i64 x.f2, .int .i64 x.f3, .int .i64 x.f4, .int .i64 x.f5, .int .i64 x.f6, .int .i64 x.f7, .int .i64 x.f8, .int .i64 x.f9, .int .i64 x.f10, v11] := ⟨[.int .i64 x.f0], [.int .i64 x.f1, .int .i64 x.f2, .int .i64 x.f3, .int .i64 x.f4, .int .i64 x.f5, .int .i64 x.f6, .int .i64 x.f7, .int .i64 x.f8, .int .i64 x.f9, .int .i64 x.f10, v11], rfl, rfl, ⟨[.int .i64 x.f1], [.int .i64 x.f2, .int .i64 x.f3, .int .i64 x.f4, .int .i64 x.f5, .int .i64 x.f6, .int .i64 x.f7, .int .i64 x.f8, .int .i64 x.f9, .int .i64 x.f10, v11], rfl, rfl, ⟨[.int .i64 x.f2], [.int .i64 x.f3, .int .i64 x.f4, .int .i64 x.f5, .int .i64 x.f6, .int .i64 x.f7, .int .i64 x.f8, .int .i64 x.f9, .int .i64 x.f10, v11], rfl, rfl, ⟨[.int .i64 x.f3], [.int .i64 x.f4, .int .i64 x.f5, .int .i64 x.f6, .int .i64 x.f7, .int .i64 x.f8, .int .i64 x.f9, .int .i64 x.f10, v11], rfl, rfl, ⟨[.int .i64 x.f4], [.int .i64 x.f5, .int .i64 x.f6, .int .i64 x.f7, .int .i64 x.f8, .int .i64 x.f9, .int .i64 x.f10, v11], rfl, rfl, ⟨[.int .i64 x.f5], [.int .i64 x.f6, .int .i64 x.f7, .int .i64 x.f8, .int .i64 x.f9, .int .i64 x.f10, v11], rfl, rfl, ⟨[.int .i64 x.f6], [.int .i64 x.f7, .int .i64 x.f8, .int .i64 x.f9, .int .i64 x.f10, v11], rfl, rfl, ⟨[.int .i64 x.f7], [.int .i64 x.f8, .int .i64 x.f9, .int .i64 x.f10, v11], rfl, rfl, ⟨[.int .i64 x.f8], [.int .i64 x.f9, .int .i64 x.f10, v11], rfl, rfl, ⟨[.int .i64 x.f9], [.int .i64 x.f10, v11], rfl, rfl, ⟨[.int .i64 x.f10], [v11], rfl, rfl, ⟨v11, rfl, g11⟩⟩⟩⟩⟩⟩⟩⟩⟩⟩⟩⟩
theorem k100_openF {W : World} {ok : Nat → Prop} {x : S100} {cs : List Value} (h : Kd.FK k100 W ok x cs) : ∃ A11 c11, cs = [.int .i64 x.f0, .int .i64 x.f1, .int .i64 x.f2, .int .i64 x.f3, .int .i64 x.f4, .int .i64 x.f5, .int .i64 x.f6, .int .i64 x.f7, .int .i64 x.f8, .int .i64 x.f9, .int .i64 x.f10, .slice A11 x.f11.length c11] ∧ x.f11.length ≤ c11 ∧ Kd.F k102 W ok A11 x.f11.length x.f11 := by
  obtain ⟨A11, c11, rfl, l11, _⟩ := k100_open (Kd.FK_now h)
  exact ⟨A11, c11, rfl, l11, (fun W' hW => by obtain ⟨A11_, c11_, he, l11_, g11_⟩ := k100_open (h W' hW); injection (Option.some.inj (show some (Value.slice A11 x.f11.length c11) = some (Value.slice A11_ x.f11.length c11_) from congrArg (fun l => l[11]?) he)) with ha_ _ _; rw [ha_]; exact g11_)⟩
theorem k100_mkF (W : World) (ok : Nat → Prop) (x : S100) {A11 : Option Addr} {c11 : Nat} (l11 : x.f11.length ≤ c11) (g11 : Kd.F k102 W ok A11 x.f11.length x.f11) : Kd.FK k100 W ok x [.int .i64 x.f0, .int .i64 x.f1, .int .i64 x.f2, .int .i64 x.f3, .int .i64 x.f4, .int .i64 x.f5, .int .i64 x.f6, .int .i64 x.f7, .int .i64 x.f8, .int .i64 x.f9, .int .i64 x.f10, .slice A11 x.f11.length c11] := fun W2 hW => k100_mk W2 x l11 (g11 W2 hW)
def rd_T100 (xs : List S100) (i : Int) : S100 := xs.getD i.toNat z100
theorem at_T100 {w : World} {A : Option Addr} {n : Nat} {xs : List S100} (h : Kd.C k100 w A n xs) (i : Int) (h0 : 0 ≤ i) (h1 : i < n) : ∃ ad A11 c11, A = some ad ∧ w.cell? (ad.add (i.toNat * 12)) = some (.int .i64 (rd_T100 xs i).f0) ∧ w.cell? ⟨(ad.add (i.toNat * 12)).block, (ad.add (i.toNat * 12)).off + 1, none⟩ = some (.int .i64 (rd_T100 xs i).f1) ∧ w.cell? ⟨(ad.add (i.toNat * 12)).block, (ad.add (i.toNat * 12)).off + 2, none⟩ = some (.int .i64 (rd_T100 xs i).f2) ∧ w.cell? ⟨(ad.add (i.toNat * 12)).block, (ad.add (i.toNat * 12)).off + 3, none⟩ = some (.int .i64 (rd_T100 xs i).f3) ∧ w.cell? ⟨(ad.add (i.toNat * 12)).block, (ad.add (i.toNat * 12)).off + 4, none⟩ = some (.int .i64 (rd_T100 xs i).f4) ∧ w.cell? ⟨(ad.add (i.toNat * 12)).block, (ad.add (i.toNat * 12)).off + 5, none⟩ = some (.int .i64 (rd_T100 xs i).f5) ∧ w.cell? ⟨(ad.add (i.toNat * 12)).block, (ad.add (i.toNat * 12)).off + 6, none⟩ = some (.int .i64 (rd_T100 xs i).f6) ∧ w.cell? ⟨(ad.add (i.toNat * 12)).block, (ad.add (i.toNat * 12)).off + 7, none⟩ = some (.int .i64 (rd_T100 xs i).f7) ∧ w.cell? ⟨(ad.add (i.toNat * 12)).block, (ad.add (i.toNat * 12)).off + 8, none⟩ = some (.int .i64 (rd_T100 xs i).f8) ∧ w.cell? ⟨(ad.add (i.toNat * 12)).block, (ad.add (i.toNat * 12)).off + 9, none⟩ = some (.int .i64 (rd_T100 xs i).f9) ∧ w.cell? ⟨(ad.add (i.toNat * 12)).block, (ad.add (i.toNat * 12)).off + 10, none⟩ = some (.int .i64 (rd_T100 xs i).f10) ∧ w.cell? ⟨(ad.add (i.toNat * 12)).block, (ad.add (i.toNat * 12)).off + 11, none⟩ = some (.slice A11 (rd_T100 xs i).f11.length c11) ∧ (rd_T100 xs i).f11.length ≤ c11 ∧ k102.C w A11 (rd_T100 xs i).f11.length (rd_T100 xs i).f11 := by
  obtain ⟨ad, c, e, _, hK, hc0⟩ := Kd.C_get h z100 i h0 h1
  have hc : ∀ j u, c[j]? = some u → w.cell? (ad.add (i.toNat * 12 + j)) = some u := hc0
  obtain ⟨A11, c11, rfl, l11, g11⟩ := k100_open hK
  exact ⟨ad, A11, c11, e, hc 0 _ rfl, by rw [← add_field _ _ 1 (by omega)]; exact hc 1 _ rfl, by rw [← add_field _ _ 2 (by omega)]; exact hc 2 _ rfl, by rw [← add_field _ _ 3 (by omega)]; exact hc 3 _ rfl, by rw [← add_field _ _ 4 (by omega)]; exact hc 4 _ rfl, by rw [← add_field _ _ 5 (by omega)]; exact hc 5 _ rfl, by rw [← add_field _ _ 6 (by omega)]; exact hc 6 _ rfl, by rw [← add_field _ _ 7 (by omega)]; exact hc 7 _ rfl, by rw [← add_field _ _ 8 (by omega)]; exact hc 8 _ rfl, by rw [← add_field _ _ 9 (by omega)]; exact hc 9 _ rfl, by rw [← add_field _ _ 10 (by omega)]; exact hc 10 _ rfl, by rw [← add_field _ _ 11 (by omega)]; exact hc 11 _ rfl, l11, g11⟩

/-! #### struct type 95 -/
structure S95 where
  f0 : Int
  f1 : Int
  f2 : Int
  f3 : Int
  f4 : Int
  f5 : Int
def z95 : S95 := ⟨(0 : Int), (0 : Int), (0 : Int), (0 : Int), (0 : Int), (0 : Int)⟩
def k95 : Kd S95 := Kd.iso (Kd.pair (Kd.int .i64) (Kd.pair (Kd.int .i64) (Kd.pair (Kd.int .i64) (Kd.pair (Kd.int .i64) (Kd.pair (Kd.int .i64) (Kd.int .i64)))))) (fun x : S95 => (x.f0, x.f1, x.f2, x.f3, x.f4, x.f5))
theorem k95_open {w : World} {x : S95} {cs : List Value} (h : k95.K w x cs) : cs = [.int .i64 x.f0, .int .i64 x.f1, .int .i64 x.f2, .int .i64 x.f3, .int .i64 x.f4, .int .i64 x.f5] := by
  obtain ⟨_, _, rfl, rfl, ⟨_, _, rfl, rfl, ⟨_, _, rfl, rfl, ⟨_, _, rfl, rfl, ⟨_, _, rfl, rfl, rfl⟩⟩⟩⟩⟩ := h
  exact rfl
theorem k95_openM {w : World} {base : Nat} {ok : Nat → Prop} {x : S95} {cs : List Value} (h : k95.M w base ok x cs) : cs = [.int .i64 x.f0, .int .i64 x.f1, .int .i64 x.f2, .int .i64 x.f3, .int .i64 x.f4, .int .i64 x.f5] := by
  obtain ⟨_, _, rfl, rfl, ⟨_, _, rfl, rfl, ⟨_, _, rfl, rfl, ⟨_, _, rfl, rfl, ⟨_, _, rfl, rfl, rfl⟩⟩⟩⟩⟩ := h
  exact rfl
theorem k95_mk (w : World) (x : S95)  : k95.K w x [.int .i64 x.f0, .int .i64 x.f1, .int .i64 x.f2, .int .i64 x.f3, .int .i64 x.f4, .int .i64 x.f5] := ⟨[.int .i64 x.f0], [.int .i64 x.f1, .int .i64 x.f2, .int .i64 x.f3, .int .i64 x.f4, .int .i64 x.f5], rfl, rfl, ⟨[.int .i64 x.f1], [.int .i64 x.f2, .int .i64 x.f3, .int .i64 x.f4, .int .i64 x.f5], rfl, rfl, ⟨[.int .i64 x.f2], [.int .i64 x.f3, .int .i64 x.f4, .int .i64 x.f5], rfl, rfl, ⟨[.int .i64 x.f3], [.int .i64 x.f4, .int .i64 x.f5], rfl, rfl, ⟨[.int .i64 x.f4], [.int .i64 x.f5], rfl, rfl, rfl⟩⟩⟩⟩⟩
theorem k95_mkM (w : World) (base : Nat) (ok : Nat → Prop) (x : S95)  : k95.M w base ok x [.int .i64 x.f0, .int .i64 x.f1, .int .i64 x.f2, .int .i64 x.f3, .int .i64 x.f4, .int .i64 x.f5] := ⟨[.int .i64 x.f0], [.int .i64 x.f1, .int .i64 x.f2, .int .i64 x.f3, .int .i64 x.f4, .int .i64 x.f5], rfl, rfl, ⟨[.int .i64 x.f1], [.int .i64 x.f2, .int .i64 x.f3, .int .i64 x.f4, .int .i64 x.f5], rfl, rfl, ⟨[.int .i64 x.f2], [.int .i64 x.f3, .int .i64 x.f4, .int .i64 x.f5], rfl, rfl, ⟨[.int .i64 x.f3], [.int .i64 x.f4, .int .i64 x.f5], rfl, rfl, ⟨[.int .i64 x.f4], [.int .i64 x.f5], rfl, rfl, rfl⟩⟩⟩⟩⟩
theorem k95_mkF (W : World) (ok : Nat → Prop) (x : S95) : Kd.FK k95 W ok x [.int .i64 x.f0, .int .i64 x.f1, .int .i64 x.f2, .int .i64 x.f3, .int .i64 x.f4, .int .i64 x.f5] := fun W2 _ => k95_mk W2 x
def rd_T95 (xs : List S95) (i : Int) : S95 := xs.getD i.toNat z95
theorem at_T95 {w : World} {A : Option Addr} {n : Nat} {xs : List S95} (h : Kd.C k95 w A n xs) (i : Int) (h0 : 0 ≤ i) (h1 : i < n) : ∃ ad , A = some ad ∧ w.cell? (ad.add (i.toNat * 6)) = some (.int .i64 (rd_T95 xs i).f0) ∧ w.cell? ⟨(ad.add (i.toNat * 6)).block, (ad.add (i.toNat * 6)).off + 1, none⟩ = some (.int .i64 (rd_T95 xs i).f1) ∧ w.cell? ⟨(ad.add (i.toNat * 6)).block, (ad.add (i.toNat * 6)).off + 2, none⟩ = some (.int .i64 (rd_T95 xs i).f2) ∧ w.cell? ⟨(ad.add (i.toNat * 6)).block, (ad.add (i.toNat * 6)).off + 3, none⟩ = some (.int .i64 (rd_T95 xs i).f3) ∧ w.cell? ⟨(ad.add (i.toNat * 6)).block, (ad.add (i.toNat * 6)).off + 4, none⟩ = some (.int .i64 (rd_T95 xs i).f4) ∧ w.cell? ⟨(ad.add (i.toNat * 6)).block, (ad.add (i.toNat * 6)).off + 5, none⟩ = some (.int .i64 (rd_T95 xs i).f5) := by
  obtain ⟨ad, c, e, _, hK, hc0⟩ := Kd.C_get h z95 i h0 h1
  have hc : ∀ j u, c[j]? = some u → w.cell? (ad.add (i.toNat * 6 + j)) = some u := hc0
  obtain rfl := k95_open hK
  exact ⟨ad, e, hc 0 _ rfl, by rw [← add_field _ _ 1 (by omega)]; exact hc 1 _ rfl, by rw [← add_field _ _ 2 (by omega)]; exact hc 2 _ rfl, by rw [← add_field _ _ 3 (by omega)]; exact hc 3 _ rfl, by rw [← add_field _ _ 4 (by omega)]; exact hc 4 _ rfl, by rw [← add_field _ _ 5 (by omega)]; exact hc 5 _ rfl⟩

/-! #### struct type 97 -/
structure S97 where
  f0 : Int
  f1 : Int
  f2 : Int
def z97 : S97 := ⟨(0 : Int), (0 : Int), (0 : Int)⟩
def k97 : Kd S97 := Kd.iso (Kd.pair (Kd.int .i64) (Kd.pair (Kd.int .i64) (Kd.int .i64))) (fun x : S97 => (x.f0, x.f1, x.f2))
theorem k97_open {w : World} {x : S97} {cs : List Value} (h : k97.K w x cs) : cs = [.int .i64 x.f0, .int .i64 x.f1, .int .i64 x.f2] := by
  obtain ⟨_, _, rfl, rfl, ⟨_, _, rfl, rfl, rfl⟩⟩ := h
  exact rfl
theorem k97_openM {w : World} {base : Nat} {ok : Nat → Prop} {x : S97} {cs : List Value} (h : k97.M w base ok x cs) : cs = [.int .i64 x.f0, .int .i64 x.f1, .int .i64 x.f2] := by
  obtain ⟨_, _, rfl, rfl, ⟨_, _, rfl, rfl, rfl⟩⟩ := h
  exact rfl
theorem k97_mk (w : World) (x : S97)  : k97.K w x [.int .i64 x.f0, .int .i64 x.f1, .int .i64 x.f2] := ⟨[.int .i64 x.f0], [.int .i64 x.f1, .int .i64 x.f2], rfl, rfl, ⟨[.int .i64 x.f1], [.int .i64 x.f2], rfl, rfl, rfl⟩⟩
theorem k97_mkM (w : World) (base : Nat) (ok : Nat → Prop) (x : S97)  : k97.M w base ok x [.int .i64 x.f0, .int .i64 x.f1, .int .i64 x.f2] := ⟨[.int .i64 x.f0], [.int .i64 x.f1, .int .i64 x.f2], rfl, rfl, ⟨[.int .i64 x.f1], [.int .i64 x.f2], rfl, rfl, rfl⟩⟩
theorem k97_mkF (W : World) (ok : Nat → Prop) (x : S97) : Kd.FK k97 W ok x [.int .i64 x.f0, .int .i64 x.f1, .int .i64 x.f2] := fun W2 _ => k97_mk W2 x
def rd_T97 (xs : List S97) (i : Int) : S97 := xs.getD i.toNat z97
theorem at_T97 {w : World} {A : Option Addr} {n : Nat} {xs : List S97} (h : Kd.C k97 w A n xs) (i : Int) (h0 : 0 ≤ i) (h1 : i < n) : ∃ ad , A = some ad ∧ w.cell? (ad.add (i.toNat * 3)) = some (.int .i64 (rd_T97 xs i).f0) ∧ w.cell? ⟨(ad.add (i.toNat * 3)).block, (ad.add (i.toNat * 3)).off + 1, none⟩ = some (.int .i64 (rd_T97 xs i).f1) ∧ w.cell? ⟨(ad.add (i.toNat * 3)).block, (ad.add (i.toNat * 3)).off + 2, none⟩ = some (.int .i64 (rd_T97 xs i).f2) := by
  obtain ⟨ad, c, e, _, hK, hc0⟩ := Kd.C_get h z97 i h0 h1
  have hc : ∀ j u, c[j]? = some u → w.cell? (ad.add (i.toNat * 3 + j)) = some u := hc0
  obtain rfl := k97_open hK
  exact ⟨ad, e, hc 0 _ rfl, by rw [← add_field _ _ 1 (by omega)]; exact hc 1 _ rfl, by rw [← add_field _ _ 2 (by omega)]; exact hc 2 _ rfl⟩

def g34 (x : S34) : Prop := (True) ∧ ((Lit.int .i64 x.f1).wf = true)
end Go.Proofs.Ytjmkpcnekghmhaa.PAll
end
section
namespace Go.Proofs.Ytjmkpcnekghmhaa.PAll
open Go.RowKit Go.Proofs.YtjmkpcnekghmhaaW.PrintWords Go.Proofs.YtjmkpcnekghmhaaW.PrintLast Go.Proofs.YtjmkpcnekghmhaaW.PrintMore
attribute [local go_sem] max2_int min2_int max_two min_two max_three min_three max_four min_four   -- for this text's walks alone
set_option linter.unusedVariables false
set_option linter.unusedSimpArgs false

/-! ### slices_Clip_byte: function 39 -/
def slices_Clip_byte.f (l0 : List Int) : Option (List Int) := some l0
theorem slices_Clip_byte.cut (A : Option Addr) (n c : Nat) (hm : n ≤ c) : ∀ W : World, (Instr.slice 22 (.slice A n c) none (some (.int .i64 (n : Int))) (some (.int .i64 (n : Int)))).run Try.prog W = .ok (.slice A n n) W := by
  intro W
  obtain ⟨i0, hi, _, hsz, _⟩ := info_parts info5
  have ha : (A.map fun x => x.add 0) = A := by cases A <;> simp [Addr.add]
  have hn : (n : Int) ≤ (c : Int) := by omega
  simp [Instr.slice, run_underlying Try.underlying22, Instr.sliceBounds, run_sliceBound, sizeOf, typeInfo, hi, Result.andThen, ha, hn]
set_option maxHeartbeats 8000000 in
set_option maxRecDepth 100000 in
theorem slices_Clip_byte.calls (P0_ : Nat → Prop) (A0 : Option Addr) (c0 : Nat) (l0 : List Int) (r : List Int) (w : World) (hs0 : Kd.V (Kd.int .u8) 5 w w.heap.size (fun k_ => P0_ k_) (.slice A0 l0.length c0) l0) (h : slices_Clip_byte.f l0 = some r) :
    Calls Try.prog 39 #[.slice A0 l0.length c0] w fun e w' => ∃ v0_ : Value, e = .returned (v0_) ∧ Kd.V (Kd.int .u8) 5 w' w.heap.size (fun k_ => (P0_ k_ ∨ w.heap.size ≤ k_)) v0_ r ∧ Below w.heap.size w w' := by
  obtain rfl := Option.some.inj h
  have HO0 := Aside0.mk (show Kd.V (Kd.int .u8) 5 w w.heap.size (fun k_ => (P0_ k_ ∨ w.heap.size ≤ k_)) (.slice A0 l0.length l0.length) l0 from Kd.V_mk (Nat.le_refl _) (Kd.F_mono (Kd.V_F hs0) (fun k_ hk => .inl hk)))
  have hc := (Kd.V_reads' hs0).2.1
  have hcut := slices_Clip_byte.cut A0 l0.length c0 hc
  clear hs0 hc
  go_enter Try.func39, Try.ntmps39
  go_wp2
  go_ret
  exact ⟨_, rfl, HO0.out, Below.refl _ _⟩
end Go.Proofs.Ytjmkpcnekghmhaa.PAll
end
section
namespace Go.Proofs.Ytjmkpcnekghmhaa.PAll
open Go.RowKit Go.Proofs.YtjmkpcnekghmhaaW.PrintWords Go.Proofs.YtjmkpcnekghmhaaW.PrintLast Go.Proofs.YtjmkpcnekghmhaaW.PrintMore
attribute [local go_sem] max2_int min2_int max_two min_two max_three min_three max_four min_four   -- for this text's walks alone
set_option linter.unusedVariables false
set_option linter.unusedSimpArgs false

/-! ### slices_Clone_byte: function 41 -/
def slices_Clone_byte.f (l0 : List Int) : Option (List Int) := (some (([] : List Int) : List Int)).bind fun y101 => (if y101.length + l0.length < 140737488355328 then (some (y101 ++ l0)) else (none))
set_option maxHeartbeats 8000000 in
set_option maxRecDepth 100000 in
theorem slices_Clone_byte.calls_some (ad0_ : Addr) (c0 : Nat) (l0 : List Int) (r : List Int) (w : World) (hr0 : Kd.C (Kd.int .u8) w (some ad0_) l0.length l0) (hc0 : l0.length ≤ c0) (h : slices_Clone_byte.f l0 = some r) :
    Calls Try.prog 41 #[.slice (some ad0_) l0.length c0] w fun e w' => ∃ v0_ : Value, e = .returned (v0_) ∧ Kd.R (Kd.int .u8) 5 w' w.heap.size (fun _ => True) v0_ r ∧ Below w.heap.size w w' := by
  have HR0 := Aside0.mk hr0
  have HC0 := Aside0.mk hc0
  clear hr0 hc0
  have HB := Aside0.mk (Below.refl w.heap.size w)
  have H : ((some (([] : List Int) : List Int)).bind fun y101 => (if y101.length + l0.length < 140737488355328 then (some (y101 ++ l0)) else (none))) = some r := h
  clear h
  obtain ⟨y101, hy101⟩ : ∃ y_ : List Int, y_ = (([] : List Int)) := ⟨_, rfl⟩
  replace H : (if y101.length + l0.length < 140737488355328 then (some (y101 ++ l0)) else (none)) = some r := by first | (rw [hy101]; with_reducible exact H) | (have H2_ := (Option.bind_some _ _).symm.trans H; rw [hy101]; with_reducible exact H2_) | (have H2_ := (Option.bind_some _ _).symm.trans H; with_reducible exact H2_) | with_reducible exact H | (rw [hy101]; exact H) | exact H
  have Ny101 := Aside0.mk hy101
  clear hy101
  by_cases c2 : y101.length + l0.length < 140737488355328
  · rw [if_pos c2] at H
    have LMc2 := Aside0.mk c2
    clear c2
    obtain ⟨y104, hy104⟩ : ∃ y_ : List Int, y_ = (y101 ++ l0) := ⟨_, rfl⟩
    replace H : (some y104) = some r := by first | (rw [hy104]; with_reducible exact H) | (have H2_ := (Option.bind_some _ _).symm.trans H; rw [hy104]; with_reducible exact H2_) | (have H2_ := (Option.bind_some _ _).symm.trans H; with_reducible exact H2_) | with_reducible exact H | (rw [hy104]; exact H) | exact H
    have Ny104 := Aside0.mk hy104
    clear hy104
    obtain rfl := Option.some.inj H
    have hnil_ := fun (W : World) => Lib.run_eql_slice_nil (P := Try.prog) W 22 5 (some ad0_) l0.length c0 0 0 Try.underlying22
    go_enter Try.func41, Try.ntmps41
    go_wp2_with (first | ((with_reducible refine gate_dst (N := 5) rfl ?_); refine Kd.R_lit (Kd.int .u8) _ 5 ?hg (N := 5) ?hd (xs := ([] : List Int)) (inner := []) (ok := fun _ => True) (okp := fun _ => True) ?hr ?hp (fun _ hk => hk) trivial (Below.refl _ _) (Nat.le_refl _) (by simp) ?_; (case hd => rfl); (case hg => rfl); (case hr => first | (go_simp; done) | (go_simp; rfl)); (case hp => exact (Reps.none _ _)); intro v102 w3 ho4 hb hg_ hnew_; clear hg_ hnew_; (first | rw [← Ny101.out] at ho4 | (simp only [Int.reduceToNat] at ho4; rw [← Ny101.out] at ho4)); have n0_ := Aside0.mk (Kd.R_lower ho4 (below_size (by repeat (first | (with_reducible first | exact HB.out | apply below_alloc | apply pw_below_drewN | apply below_drew1) | exact HB.out)))); have n1_ := Aside0.mk (below_step (by repeat (first | (with_reducible first | exact HB.out | apply below_alloc | apply pw_below_drewN | apply below_drew1) | exact HB.out)) hb); clear HB; have HO103 := n0_; have HB := n1_; clear n0_ n1_; clear hb ho4) | ((with_reducible refine gate_builtin (b := .append) (xs := #[.tmp 5, .tmp 6]) rfl ?_); at_builtin; refine Kd.R_append_rows (Kd.int .u8) (w0 := w) w.heap.size rfl (.tmp 5) (.tmp 6) 22 5 (.int .u8 0) 1 rfl Try.underlying22 info5 rfl (by decide) (by omega) v102 y101 l0 _ _ _ (fun _ => True) (fun _ => False) rfl rfl ?aO ?aR (fun _ _ h => h) (fun _ h => h.elim) ?aF ?aB ?aS ?aL ?_; (case aR => repeat (first | exact (Kd.C_below HR0.out HB.out) | (with_reducible refine Kd.C_alloc ?_ _) | (with_reducible refine Kd.C_drewN ?_ _) | (with_reducible refine Kd.C_drew ?_))); (case aB => exact (by repeat (first | (with_reducible first | exact HB.out | apply below_alloc | apply pw_below_drewN | apply below_drew1) | exact HB.out))); (case aF => exact (fun _ _ => trivial)); (case aO => exact (by (with_reducible repeat (first | apply Kd.R_alloc | apply Kd.R_drewN | apply Kd.R_drew)); exact HO103.out)); (case aS => exact (below_size (by repeat (first | (with_reducible first | exact HB.out | apply below_alloc | apply pw_below_drewN | apply below_drew1) | exact HB.out)))); (case aL => have := LMc2.out; omega); intro v105 w5 ho hb hg hat; rw [← Ny104.out] at ho; have n0_ := Aside0.mk (hb); have n1_ := Aside0.mk (ho); clear HB; clear HO103; have HB := n0_; have HO106 := n1_; clear n0_ n1_; clear ho hb hg hat))
    go_ret
    exact ⟨_, by first | rfl | (simp [errW_none, errW_some] <;> rfl) | (simp [*, errW_none, errW_some] <;> rfl), by (with_reducible repeat (first | apply Kd.R_alloc | apply Kd.R_drewN | apply Kd.R_drew)); exact HO106.out, by repeat (first | (with_reducible first | exact HB.out | apply below_alloc | apply pw_below_drewN | apply below_drew1) | exact HB.out)⟩
  · rw [if_neg c2] at H
    exact absurd H (by simp)

set_option maxHeartbeats 8000000 in
theorem slices_Clone_byte.calls (A0 : Option Addr) (c0 : Nat) (l0 : List Int) (r : List Int) (w : World) (hr0 : Kd.C (Kd.int .u8) w A0 l0.length l0) (hc0 : l0.length ≤ c0) (h : slices_Clone_byte.f l0 = some r) :
    Calls Try.prog 41 #[.slice A0 l0.length c0] w fun e w' => ∃ v0_ : Value, e = .returned (v0_) ∧ Kd.R (Kd.int .u8) 5 w' w.heap.size (fun _ => True) v0_ r ∧ Below w.heap.size w w' := by
  cases A0 with
  | some ad0_ => exact slices_Clone_byte.calls_some ad0_ c0 l0 r w hr0 hc0 h
  | none =>
    have hl : l0 = [] := by
      cases l0 with
      | nil => rfl
      | cons x xs => obtain ⟨ad, he, _⟩ := hr0.2.2 (by simp); cases he
    subst hl
    have hr : r = [] := by
      simp [slices_Clone_byte.f] at h; first | exact h | exact h.symm
    subst hr
    have hnil_ := fun (W : World) => Lib.run_eql_slice_nil (P := Try.prog) W 22 5 none 0 c0 0 0 Try.underlying22
    clear hr0 hc0 h
    go_enter Try.func41, Try.ntmps41
    go_wp2
    go_ret
    exact ⟨_, rfl, Kd.R_nil _ _ _ _ _, Below.refl _ _⟩

end Go.Proofs.Ytjmkpcnekghmhaa.PAll
end
section
namespace Go.Proofs.Ytjmkpcnekghmhaa.PAll
open Go.RowKit Go.Proofs.YtjmkpcnekghmhaaW.PrintWords Go.Proofs.YtjmkpcnekghmhaaW.PrintLast Go.Proofs.YtjmkpcnekghmhaaW.PrintMore
attribute [local go_sem] max2_int min2_int max_two min_two max_three min_three max_four min_four   -- for this text's walks alone
set_option linter.unusedVariables false
set_option linter.unusedSimpArgs false

/-! ### slices_Grow_byte: function 67 -/
theorem grow_room (base : Option Addr) (l c n : Nat) (w : World) (hlc : l ≤ c) (hc63 : c ≤ 9223372036854775807) (hn63 : n ≤ 9223372036854775807) (hroom : l + n ≤ c) :
    Calls Try.prog 67 #[.slice base l c, .int .i64 n] w fun e w' => e = .returned (.slice base l c) ∧ w' = w := by
  have h1 : decide ((n : Int) < 0) = false := decide_eq_false (by omega)
  have h2 : wrap64 ((c : Int) - (l : Int)) = (c : Int) - (l : Int) := by unfold wrap64; omega
  have h3 : wrap64 ((n : Int) - ((c : Int) - (l : Int))) = (n : Int) - ((c : Int) - (l : Int)) := by unfold wrap64; omega
  have h4 : ¬ ((n : Int) - ((c : Int) - (l : Int)) > 0) := by omega
  go_enter Try.func67, Try.ntmps67
  go_wp2
  go_ret
  exact ⟨rfl, rfl⟩
def GrewTo (cs : List Value) (l n : Nat) (w : World) (e : Ending) (w' : World) : Prop := ∃ (G : Nat) (arr : Array Value), e = .returned (.slice (some ⟨w.heap.size, 0, none⟩) l G) ∧ l + n ≤ G ∧ G ≤ maxLen ∧ arr.size = G ∧ arr.toList.take cs.length = cs ∧ w' = (w.alloc (.cells arr 5 (0, 0))).drew
theorem GrewTo.mk {cs : List Value} {l n : Nat} {w : World} (G : Nat) (x : Array Value) (h1 : l + n ≤ G) (h2 : G ≤ maxLen) (h3 : (cs.toArray ++ x).size = G) {arr : Array Value} (ha : arr = cs.toArray ++ x) : GrewTo cs l n w (.returned (.slice (some ⟨w.heap.size, 0, none⟩) l G)) ((w.alloc (.cells arr 5 (0, 0))).drew) :=
  ⟨G, arr, rfl, h1, h2, by rw [ha]; exact h3, by rw [ha]; simp, rfl⟩
set_option maxHeartbeats 4000000 in
set_option maxRecDepth 100000 in
theorem grow_grow (base : Option Addr) (l c n : Nat) (cs : List Value) (w : World) (hlc : l ≤ c) (hroom : c < l + n) (hbig : (l + n) * 1 ≤ 140737488355328) (hcl : cs.length = c) (hnil : base = none → c = 0) (hcs : ∀ a, base = some a → ∀ j v, cs[j]? = some v → w.cell? (a.add j) = some v) :
    Calls Try.prog 67 #[.slice base l c, .int .i64 n] w (GrewTo cs l n w) := by
  obtain ⟨i0, hi0, hz0, hs0, hb0⟩ := info_parts info5
  have hs1 : 0 < i0.size := by omega
  have h1 : decide ((n : Int) < 0) = false := decide_eq_false (by omega)
  have h2 : wrap64 ((c : Int) - (l : Int)) = (c : Int) - (l : Int) := by unfold wrap64; omega
  have h3 : wrap64 ((n : Int) - ((c : Int) - (l : Int))) = (n : Int) - ((c : Int) - (l : Int)) := by unfold wrap64; omega
  have h4 : (n : Int) - ((c : Int) - (l : Int)) > 0 := by omega
  have hck : c + (l + n - c) = l + n := by omega
  have hold : (Builtin.firstCells i0.size c (.slice base c c)).run Try.prog w.drew = .ok cs.toArray w.drew := by
    cases base with
    | none =>
      have h0 := hnil rfl
      subst h0
      have hc0 : cs = [] := List.length_eq_zero_iff.1 hcl
      rw [hc0]
      exact run_firstCells_none w.drew i0.size 0 0 0
    | some a => exact run_firstCells_some w.drew i0.size c a c c cs (by rw [hs0, hcl, Nat.mul_one]) (fun j v hj => hcs a rfl j v hj)
  have hrz : ∀ ty, (Builtin.append_ #[22, 3] ty #[.slice base c c, .int .i64 ((n : Int) - ((c : Int) - (l : Int)))]).run Try.prog w =
      .ok (.slice (some ⟨w.heap.size, 0, none⟩) (l + n) (grownCap w (l + n) c 5)) (w.drew.alloc (.cells (cs.toArray ++ Builtin.zeroCells (Value.int .u8 0).cells (l + n - c) ++ Builtin.zeroCells (Value.int .u8 0).cells (grownCap w (l + n) c 5 - (l + n))) 5)) := fun ty => by
    have h := Lib.run_append_grow_zeros w 22 3 ty 5 i0 (.int .u8 0) .i64 .i64 Try.underlying22 Try.underlying3 hi0 hz0 base c c cs hold (l + n - c) (by omega) hs1 (by omega) (by omega)
      (by rw [hb0]; omega)
      (by rw [hck]; exact growslice_fits hroom (by rw [hb0]; exact hbig))
    rw [hck] at h
    rw [show (n : Int) - ((c : Int) - (l : Int)) = ((l + n - c : Nat) : Int) by omega]
    exact h
  have hGn : l + n ≤ grownCap w (l + n) c 5 := grownCap_ge w _ _ _
  have hG63 : grownCap w (l + n) c 5 ≤ maxLen := grownCap_le_maxLen w (l + n) c 5 (by unfold maxLen; omega)
  obtain ⟨G, hG⟩ : ∃ G, G = grownCap w (l + n) c 5 := ⟨_, rfl⟩
  rw [← hG] at hrz hGn hG63
  have HG := Aside0.mk hG63
  have HN := Aside0.mk hGn
  have HL := Aside0.mk hcl
  have hsz : Aside0 ((cs.toArray ++ (Builtin.zeroCells (Value.int .u8 0).cells (l + n - c) ++ Builtin.zeroCells (Value.int .u8 0).cells (G - (l + n)))).size = G) := ⟨by simp [Builtin.zeroCells, Value.cells]; omega⟩
  clear hold hck hG hcs hcl hz0 hs0 hb0 hs1 hi0
  unfold maxLen at hG63
  have hG2 : G ≤ 9223372036854775807 := by omega
  clear hG63
  go_enter Try.func67, Try.ntmps67
  cases base with
  | none =>
    have h0 := hnil rfl
    subst h0
    obtain rfl : l = 0 := by omega
    go_wp2_with (at_builtin; refine Lib.wpList_append_run _ rfl _ _ _ _ rfl _ _ rfl rfl _ _ (hrz _) ?_)
    all_goals (go_ret; exact GrewTo.mk G _ HN.out HG.out hsz.out (by simp [Value.cells]))
  | some a =>
    obtain ⟨ab, ao, asp⟩ := a
    go_wp2_with (at_builtin; refine Lib.wpList_append_run _ rfl _ _ _ _ rfl _ _ rfl rfl _ _ (hrz _) ?_)
    all_goals (go_ret; exact GrewTo.mk G _ HN.out HG.out hsz.out (by simp [Value.cells]))
def slices_Grow_byte.f (l0 : List Int) (a1 : Int) : Option (List Int) := if 0 ≤ a1 then (if (l0.length : Int) + a1 < 140737488355328 then some l0 else none) else none
theorem slices_Grow_byte.calls (P0_ : Nat → Prop) (u9000_ : Value) (l0 : List Int) (a1 : Int) (r : List Int) (w0 w : World) (hB : Below w0.heap.size w0 w) (ho0 : Kd.R (Kd.int .u8) 5 w w0.heap.size P0_ u9000_ l0) (h : slices_Grow_byte.f l0 a1 = some r) :
    Calls Try.prog 67 #[u9000_, .int .i64 a1] w fun e w' => ∃ v0_ : Value, e = .returned (v0_) ∧ Kd.R (Kd.int .u8) 5 w' w0.heap.size (fun k_ => (P0_ k_ ∨ w.heap.size ≤ k_)) v0_ r ∧ Below w0.heap.size w0 w' ∧ Kept w w' (fun k_ => P0_ k_) := by
  unfold slices_Grow_byte.f at h
  have c1 : 0 ≤ a1 := Decidable.byContradiction fun c => by rw [if_neg c] at h; simp at h
  rw [if_pos c1] at h
  have c2 : (l0.length : Int) + a1 < 140737488355328 := Decidable.byContradiction fun c => by rw [if_neg c] at h; simp at h
  rw [if_pos c2] at h
  obtain rfl := Option.some.inj h
  obtain ⟨n, rfl⟩ : ∃ n : Nat, a1 = (n : Int) := ⟨a1.toNat, by omega⟩
  have hR := ho0
  obtain ⟨hok, inner, hown, hreps⟩ := ho0
  have hw := hown
  obtain ⟨hxl, hcase⟩ := hw
  have key : ∀ (base : Option Addr) (c : Nat) (cs : List Value), u9000_ = .slice base l0.length c → l0.length ≤ c → c ≤ maxLen → cs.length = c → (base = none → c = 0) → (∀ a, base = some a → ∀ j v, cs[j]? = some v → w.cell? (a.add j) = some v) → cs.take l0.length = inner → Calls Try.prog 67 #[u9000_, .int .i64 (n : Int)] w fun e w' => ∃ v0_ : Value, e = .returned (v0_) ∧ Kd.R (Kd.int .u8) 5 w' w0.heap.size (fun k_ => (P0_ k_ ∨ w.heap.size ≤ k_)) v0_ l0 ∧ Below w0.heap.size w0 w' ∧ Kept w w' (fun k_ => P0_ k_) := by
    intro base c cs hu hlc hcm hcl hnil hcs htake
    subst hu
    unfold maxLen at hcm
    by_cases hroom : l0.length + n ≤ c
    · refine (grow_room base l0.length c n w hlc (by omega) (by omega) hroom).mono ?_
      rintro e w' ⟨rfl, rfl⟩
      exact ⟨_, rfl, Kd.R_mono hR (fun k hk => .inl hk), hB, Kept.refl _ _⟩
    · refine (grow_grow base l0.length c n cs w hlc (by omega) (by omega) hcl hnil hcs).mono ?_
      rintro e w' ⟨G, arr, rfl, hGn, hGm, hsz, htk, rfl⟩
      refine ⟨_, rfl, ⟨fun k hk => ?_, inner, ⟨hxl, .inr ⟨w.heap.size, G, arr, rfl, below_size hB, ?_, by omega, hGm, by show _ = G * 1; omega, ?_⟩⟩, ?_⟩, below_drew (below_alloc hB _), ?_⟩
      · have : w.heap.size = k := by simpa [Value.ownBlock] using hk
        exact .inr (by omega)
      · exact heap_alloc_new w _
      · show List.take (l0.length * 1) arr.toList = inner
        have h5 := congrArg (List.take l0.length) htk
        rw [List.take_take, Nat.min_eq_left (by omega), htake] at h5
        rw [Nat.mul_one]; exact h5
      · exact hreps.imp_ (fun _ _ hp => hp)
      · exact Kept.drew (Kept.alloc (Kept.refl _ _) _)
  rcases hcase with ⟨rfl, hn0⟩ | ⟨g, cap, cur, rfl, hg, hh, hnc, hcm, hcs, htk⟩
  · have hl0 : l0.length = 0 := hn0
    refine key none 0 [] (by rw [hl0]) (by omega) (by unfold maxLen; omega) rfl (fun _ => rfl) (fun a ha => by cases ha) ?_
    have : inner.length = 0 := by rw [hxl, hl0]; rfl
    rw [List.length_eq_zero_iff.1 this]; simp
  · refine key (some ⟨g, 0, none⟩) cap cur.toList rfl hnc hcm (by rw [Array.length_toList, hcs]; exact Nat.mul_one _) (fun h => by cases h) (fun a ha j v hj => ?_) (by rw [← htk]; exact congrArg (fun m => List.take m cur.toList) (Nat.mul_one _).symm)
    obtain rfl : (⟨g, 0, none⟩ : Addr) = a := by injection ha
    rw [add_plain]
    exact (blk_cell hh j).trans (by simpa using hj)
end Go.Proofs.Ytjmkpcnekghmhaa.PAll
end
section
namespace Go.Proofs.Ytjmkpcnekghmhaa.PAll
open Go.RowKit Go.Proofs.YtjmkpcnekghmhaaW.PrintWords Go.Proofs.YtjmkpcnekghmhaaW.PrintLast Go.Proofs.YtjmkpcnekghmhaaW.PrintMore
attribute [local go_sem] max2_int min2_int max_two min_two max_three min_three max_four min_four   -- for this text's walks alone
set_option linter.unusedVariables false
set_option linter.unusedSimpArgs false

/-! ### octet_put: function 40 -/
def octet_put.l0 : Nat → Int → Int → List Int → Option (List Int)
  | 0, _, _, _ => none
  | k + 1, x1, x2, x7 => if x2 ≥ 0 then (if 0 ≤ (wrap64 (8 * x2)) then (if x7.length < 140737488355328 then (octet_put.l0 k x1 (wrap64 (x2 - 1)) (x7 ++ [(shr .i64 x1 (wrap64 (8 * x2))) % 256])) else (none)) else (none)) else (some x7)
def octet_put.f (k : Nat) (l0 : List Int) (a1 : Int) (a2 : Int) : Option (List Int) := (slices_Clone_byte.f l0).bind fun t107 => ((slices_Grow_byte.f t107 a2).bind fun t110 => (octet_put.l0 k a1 (wrap64 (a2 - 1)) t110))
theorem octet_put.mono_l : ∀ k, (∀ y0 y1 y2, LeO (octet_put.l0 k y0 y1 y2) (octet_put.l0 (k + 1) y0 y1 y2))
  | 0 => fun _ _ _ r h => by simp [octet_put.l0] at h
  | k + 1 => by
    have ih0 := octet_put.mono_l k
    · intro y0 y1 y2
      unfold octet_put.l0
      repeat' first
      | (with_reducible exact ih0 _ _ _)
      | (with_reducible exact LeO.refl _)
      | (with_reducible exact LeO.none _)
      | (with_reducible refine LeO.ite ?_ ?_)
      | (with_reducible refine LeO.bind ?_ (fun _ => ?_))
      | exact ih0 _ _ _
      | exact LeO.none _
      | refine LeO.ite ?_ ?_
      | refine LeO.bind ?_ (fun _ => ?_)
theorem octet_put.mono : ∀ a0 a1 a2 k, LeO (octet_put.f k a0 a1 a2) (octet_put.f (k + 1) a0 a1 a2) := by
  intro a0 a1 a2 k
  have ih0 := octet_put.mono_l k
  unfold octet_put.f
  repeat' first
      | (with_reducible exact ih0 _ _ _)
      | (with_reducible exact LeO.refl _)
      | (with_reducible exact LeO.none _)
      | (with_reducible refine LeO.ite ?_ ?_)
      | (with_reducible refine LeO.bind ?_ (fun _ => ?_))
      | exact ih0 _ _ _
      | exact LeO.none _
      | refine LeO.ite ?_ ?_
      | refine LeO.bind ?_ (fun _ => ?_)
set_option maxHeartbeats 8000000 in
set_option maxRecDepth 100000 in
theorem octet_put.calls (k : Nat) (A0 : Option Addr) (c0 : Nat) (l0 : List Int) (a1 : Int) (a2 : Int) (r : List Int) (w : World) (hr0 : Kd.C (Kd.int .u8) w A0 l0.length l0) (hc0 : l0.length ≤ c0) (h : octet_put.f k l0 a1 a2 = some r) :
    Calls Try.prog 40 #[.slice A0 l0.length c0, .int .i64 a1, .int .i64 a2] w fun e w' => ∃ v0_ : Value, e = .returned (v0_) ∧ Kd.R (Kd.int .u8) 5 w' w.heap.size (fun _ => True) v0_ r ∧ Below w.heap.size w w' := by
  have HR0 := Aside0.mk hr0
  have HC0 := Aside0.mk hc0
  clear hr0 hc0
  have HB := Aside0.mk (Below.refl w.heap.size w)
  have H : ((slices_Clone_byte.f l0).bind fun t107 => ((slices_Grow_byte.f t107 a2).bind fun t110 => (octet_put.l0 k a1 (wrap64 (a2 - 1)) t110))) = some r := h
  clear h
  replace H := Option.bind_eq_some_iff.mp H
  obtain ⟨t107, A40, H⟩ := H
  replace H : ((slices_Grow_byte.f t107 a2).bind fun t110 => (octet_put.l0 k a1 (wrap64 (a2 - 1)) t110)) = some r := H
  have A4 := Aside0.mk A40
  clear A40
  replace H := Option.bind_eq_some_iff.mp H
  obtain ⟨t110, A50, H⟩ := H
  replace H : (octet_put.l0 k a1 (wrap64 (a2 - 1)) t110) = some r := H
  have A5 := Aside0.mk A50
  clear A50
  have H' := Aside0.mk H
  clear H
  go_enter Try.func40, Try.ntmps40
  go_wp2_with (first | ((with_reducible refine gate_callee (f := 41) rfl ?_); refine goesL_ (some 9) rfl rfl Try.func41 (by kernel_rfl) rfl #[.slice A0 l0.length c0] rfl (by (try simp only [List.map_toArray, List.map_cons, List.map_nil]); first | done | rfl | (simp only [List.length_drop, List.length_take]; rfl)) ?_; (with_reducible refine (slices_Clone_byte.calls _ _ l0 t107 _ ?side1 ?side2 A4.out).mono ?_); (case side1 => repeat (first | exact HR0.out | (with_reducible refine Kd.C_alloc ?_ _) | (with_reducible refine Kd.C_drewN ?_ _) | (with_reducible refine Kd.C_drew ?_))); (case side2 => exact HC0.out); rintro e w6 ⟨v108, rfl, ho0, hb⟩; refine ⟨_, rfl, ?_⟩; have n0_ := Aside0.mk (Kd.R_lower ho0 (below_size (by repeat (first | (with_reducible first | exact HB.out | apply below_alloc | apply pw_below_drewN | apply below_drew1) | exact HB.out)))); have n1_ := Aside0.mk (below_step (by repeat (first | (with_reducible first | exact HB.out | apply below_alloc | apply pw_below_drewN | apply below_drew1) | exact HB.out)) hb); clear HB; have HO109 := n0_; have HB := n1_; clear n0_ n1_; (try clear hb); (try clear hb2); (try clear hk); (try clear hi); (try clear ho0); obtain ⟨Ao7, co7, eo7⟩ := Kd.R_slice HO109.out; subst eo7) | ((with_reducible refine gate_callee (f := 67) rfl ?_); refine goesL_ (some 11) rfl rfl Try.func67 (by kernel_rfl) rfl #[.slice Ao7 t107.length co7, .int .i64 a2] rfl (by (try simp only [List.map_toArray, List.map_cons, List.map_nil]); first | done | rfl | (simp only [List.length_drop, List.length_take]; rfl)) ?_; (with_reducible refine (slices_Grow_byte.calls (fun k_ => some k_ = (.slice Ao7 t107.length co7 : Value).ownBlock) (.slice Ao7 t107.length co7) t107 a2 t110 w _ ?side1 ?side2 A5.out).mono ?_); (case side1 => repeat (first | (with_reducible first | exact HB.out | apply below_alloc | apply pw_below_drewN | apply below_drew1) | exact HB.out)); (case side2 => exact Kd.R_tight rfl HO109.out); rintro e w8 ⟨v111, rfl, ho0, hb, hkp⟩; refine ⟨_, rfl, ?_⟩; have n0_ := Aside0.mk (Kd.R_mono (ok' := fun k_ => True) ho0 (fun k_ hk_ => trivial)); have n1_ := Aside0.mk (hb); clear HB; clear HO109; have HO112 := n0_; have HB := n1_; clear n0_ n1_; (try clear hb); (try clear hkp); (try clear ho0)))
  go_loopg [2, 7] k (fun kq v2 v7 w' => ∃ (x2_1 : Int) (x7_1 : List Int), v2 = .int .i64 x2_1 ∧ Aside0 (octet_put.l0 kq a1 x2_1 x7_1 = some r) ∧ Aside0 (kq ≤ k) ∧ Aside0 (Kd.R (Kd.int .u8) 5 w' w.heap.size (fun _ => True) v7 x7_1) ∧ Aside0 (Below w.heap.size w w'))
  case atStart => exact ⟨(wrap64 (a2 - 1)), (t110), (by first | rfl | (simp; done) | (simp [*]; done)), H', ⟨Nat.le_refl _⟩, ⟨by (with_reducible repeat (first | apply Kd.R_alloc | apply Kd.R_drewN | apply Kd.R_drew)); exact HO112.out⟩, ⟨by repeat (first | (with_reducible first | exact HB.out | apply below_alloc | apply pw_below_drewN | apply below_drew1) | exact HB.out)⟩⟩
  case round =>
    clear H'
    try clear p2
    try clear c4
    try clear c6
    try clear p6
    obtain ⟨x2_1, x7_1, rfl, HA, HK1, HO_7, HB⟩ := hrel
    cases gk with
    | zero => exact absurd HA.out (by simp [octet_put.l0])
    | succ k1 =>
      have H := HA.out
      clear HA
      simp only [octet_put.l0] at H
      by_cases c9 : x2_1 ≥ 0
      · rw [if_pos c9] at H
        have c9b0 : decide (0 ≤ x2_1) = true := decide_eq_true c9
        clear c9
        obtain ⟨ji10, hji10⟩ : ∃ j_ : Int, (wrap64 (8 * x2_1)) = j_ := ⟨_, rfl⟩
        replace H : (if 0 ≤ (ji10) then (if x7_1.length < 140737488355328 then (octet_put.l0 k1 a1 (wrap64 (x2_1 - 1)) (x7_1 ++ [(shr .i64 a1 (ji10)) % 256])) else (none)) else (none)) = some r := by first | (rw [hji10] at H; exact H) | (simp only [hji10] at H ⊢; exact H)
        have hji10w : (IntKind.i64.wrap (8 * x2_1)) = ji10 := (i64_w _).trans hji10
        by_cases c11 : 0 ≤ (ji10)
        · rw [if_pos c11] at H
          have c11b0 := eq_true c11
          have c11b1 : decide (0 ≤ (ji10)) = true := decide_eq_true c11
          clear c11
          obtain ⟨ji12, hji12⟩ : ∃ j_ : Int, (shr .i64 a1 (ji10)) = j_ := ⟨_, rfl⟩
          replace H : (if x7_1.length < 140737488355328 then (octet_put.l0 k1 a1 (wrap64 (x2_1 - 1)) (x7_1 ++ [(ji12) % 256])) else (none)) = some r := by first | (rw [hji12] at H; exact H) | (simp only [hji12] at H ⊢; exact H)
          have hji12_ : (a1 / 2 ^ min (ji10).toNat 64) = ji12 := hji12
          have hji12z : (ji10) ≤ 64 → (a1 / 2 ^ (ji10).toNat) = ji12 := shr_small hji12
          by_cases c13 : x7_1.length < 140737488355328
          · rw [if_pos c13] at H
            have LMc13 := Aside0.mk c13
            clear c13
            obtain ⟨y113, hy113⟩ : ∃ y_ : List Int, y_ = (x7_1 ++ [(ji12) % 256]) := ⟨_, rfl⟩
            replace H : (octet_put.l0 k1 a1 (wrap64 (x2_1 - 1)) y113) = some r := by first | (rw [hy113]; with_reducible exact H) | (have H2_ := (Option.bind_some _ _).symm.trans H; rw [hy113]; with_reducible exact H2_) | (have H2_ := (Option.bind_some _ _).symm.trans H; with_reducible exact H2_) | with_reducible exact H | (rw [hy113]; exact H) | exact H
            have Ny113 := Aside0.mk hy113
            clear hy113
            have H' := Aside0.mk H
            clear H
            go_wp2_with (first | ((with_reducible refine gate_builtin (b := .append) (xs := #[.tmp 18, .tmp 24]) rfl ?_); at_builtin; refine Kd.R_append (Kd.int .u8) (w0 := w) w.heap.size rfl (.tmp 18) (.tmp 24) 22 5 (.int .u8 0) 1 rfl Try.underlying22 info5 rfl (by decide) (by omega) u7 x7_1 ((ji12) % 256) [.int .u8 ((ji12) % 256)] (fun _ => True) (fun _ => False) rfl rfl ?aP (fun _ hk => hk.elim) ?aF ?aO ?aB ?aS ?aL ?_; (case aP => exact rfl); (case aB => exact (by repeat (first | (with_reducible first | exact HB.out | apply below_alloc | apply pw_below_drewN | apply below_drew1) | exact HB.out))); (case aF => exact (fun _ _ => trivial)); (case aO => exact (by (with_reducible repeat (first | apply Kd.R_alloc | apply Kd.R_drewN | apply Kd.R_drew)); exact HO_7.out)); (case aS => exact (below_size (by repeat (first | (with_reducible first | exact HB.out | apply below_alloc | apply pw_below_drewN | apply below_drew1) | exact HB.out)))); (case aL => have := LMc13.out; omega); intro v114 w14 ho hb hg hat; rw [← Ny113.out] at ho; have n0_ := Aside0.mk (hb); have n1_ := Aside0.mk (ho); clear HB; clear HO_7; have HB := n0_; have HO115 := n1_; clear n0_ n1_; clear ho hb hg hat))
            go_roundg k1
            case measure => have := HK1.out; omega
            case rel => exact ⟨(wrap64 (x2_1 - 1)), (y113), (by first | rfl | (simp; done) | (simp [*]; done)), H', ⟨by have := HK1.out; omega⟩, ⟨by (with_reducible repeat (first | apply Kd.R_alloc | apply Kd.R_drewN | apply Kd.R_drew)); exact HO115.out⟩, ⟨by repeat (first | (with_reducible first | exact HB.out | apply below_alloc | apply pw_below_drewN | apply below_drew1) | exact HB.out)⟩⟩
          · rw [if_neg c13] at H
            exact absurd H (by simp)
        · rw [if_neg c11] at H
          exact absurd H (by simp)
      · rw [if_neg c9] at H
        have c9b0 : decide (0 ≤ x2_1) = false := decide_eq_false c9
        clear c9
        obtain rfl := Option.some.inj H
        go_wp2
        go_ret
        exact ⟨_, by first | rfl | (simp [errW_none, errW_some] <;> rfl) | (simp [*, errW_none, errW_some] <;> rfl), by (with_reducible repeat (first | apply Kd.R_alloc | apply Kd.R_drewN | apply Kd.R_drew)); exact HO_7.out, by repeat (first | (with_reducible first | exact HB.out | apply below_alloc | apply pw_below_drewN | apply below_drew1) | exact HB.out)⟩

end Go.Proofs.Ytjmkpcnekghmhaa.PAll
end
section
namespace Go.Proofs.Ytjmkpcnekghmhaa.PAll
open Go.RowKit Go.Proofs.YtjmkpcnekghmhaaW.PrintWords Go.Proofs.YtjmkpcnekghmhaaW.PrintLast Go.Proofs.YtjmkpcnekghmhaaW.PrintMore
attribute [local go_sem] max2_int min2_int max_two min_two max_three min_three max_four min_four   -- for this text's walks alone
set_option linter.unusedVariables false
set_option linter.unusedSimpArgs false

/-! ### octet_Text: function 16 -/
def octet_Text.f (k : Nat) (l0 : List Int) (a1 : ByteArray) : Option (List Int × Int) := if (a1.size : Int) > 65535 then (some (([] : List Int), 2)) else ((octet_put.f k l0 (a1.size : Int) 2).bind fun t116 => (if t116.length + a1.size < 140737488355328 then ((slices_Clip_byte.f (t116 ++ bytesOf a1)).bind fun t122 => (some (t122, 0))) else (none)))
theorem octet_Text.mono : ∀ a0 a1 k, LeO (octet_Text.f k a0 a1) (octet_Text.f (k + 1) a0 a1) := by
  intro a0 a1 k
  unfold octet_Text.f
  repeat' first
      | (with_reducible exact octet_put.mono _ _ _ _)
      | (with_reducible exact LeO.refl _)
      | (with_reducible exact LeO.none _)
      | (with_reducible refine LeO.ite ?_ ?_)
      | (with_reducible refine LeO.bind ?_ (fun _ => ?_))
      | exact octet_put.mono _ _ _ _
      | exact LeO.none _
      | refine LeO.ite ?_ ?_
      | refine LeO.bind ?_ (fun _ => ?_)
set_option maxHeartbeats 8000000 in
set_option maxRecDepth 100000 in
theorem octet_Text.calls (k : Nat) (A0 : Option Addr) (c0 : Nat) (l0 : List Int) (a1 : ByteArray) (r1 : List Int) (r2 : Int) (w : World) (hr0 : Kd.C (Kd.int .u8) w A0 l0.length l0) (hc0 : l0.length ≤ c0) (h : octet_Text.f k l0 a1 = some (r1, r2)) :
    Calls Try.prog 16 #[.slice A0 l0.length c0, .string a1] w fun e w' => ∃ v0_ : Value, e = .returned (.tuple #[v0_, .int .i64 r2]) ∧ Kd.V (Kd.int .u8) 5 w' w.heap.size (fun k_ => (w.heap.size ≤ k_)) v0_ r1 ∧ Below w.heap.size w w' := by
  have HR0 := Aside0.mk hr0
  have HC0 := Aside0.mk hc0
  clear hr0 hc0
  have HB := Aside0.mk (Below.refl w.heap.size w)
  have H : (if (a1.size : Int) > 65535 then (some (([] : List Int), 2)) else ((octet_put.f k l0 (a1.size : Int) 2).bind fun t116 => (if t116.length + a1.size < 140737488355328 then ((slices_Clip_byte.f (t116 ++ bytesOf a1)).bind fun t122 => (some (t122, 0))) else (none)))) = some (r1, r2) := h
  clear h
  by_cases c3 : (a1.size : Int) > 65535
  · rw [if_pos c3] at H
    have c3b0 : decide (65535 < (a1.size : Int)) = true := decide_eq_true c3
    have c3b1 : decide (65535 < a1.size) = true := decide_eq_true (by omega)
    clear c3
    simp only [Option.some.injEq, Prod.mk.injEq] at H
    obtain ⟨rfl, rfl⟩ := H
    go_enter Try.func16, Try.ntmps16
    go_wp2
    go_ret2
    exact ⟨_, by first | rfl | (simp [errW_none, errW_some] <;> rfl) | (simp [*, errW_none, errW_some] <;> rfl), Kd.V_nil _ _ _ _ _, by repeat (first | (with_reducible first | exact HB.out | apply below_alloc | apply pw_below_drewN | apply below_drew1) | exact HB.out)⟩
  · rw [if_neg c3] at H
    have c3b0 : decide (65535 < (a1.size : Int)) = false := decide_eq_false c3
    have c3b1 : decide (65535 < a1.size) = false := decide_eq_false (by omega)
    clear c3
    replace H := Option.bind_eq_some_iff.mp H
    obtain ⟨t116, A40, H⟩ := H
    replace H : (if t116.length + a1.size < 140737488355328 then ((slices_Clip_byte.f (t116 ++ bytesOf a1)).bind fun t122 => (some (t122, 0))) else (none)) = some (r1, r2) := H
    have A4 := Aside0.mk A40
    clear A40
    by_cases c5 : t116.length + a1.size < 140737488355328
    · rw [if_pos c5] at H
      have LMc5 := Aside0.mk c5
      clear c5
      obtain ⟨y119, hy119⟩ : ∃ y_ : List Int, y_ = (t116 ++ bytesOf a1) := ⟨_, rfl⟩
      replace H : ((slices_Clip_byte.f y119).bind fun t122 => (some (t122, 0))) = some (r1, r2) := by first | (rw [hy119]; with_reducible exact H) | (have H2_ := (Option.bind_some _ _).symm.trans H; rw [hy119]; with_reducible exact H2_) | (have H2_ := (Option.bind_some _ _).symm.trans H; with_reducible exact H2_) | with_reducible exact H | (rw [hy119]; exact H) | exact H
      have Ny119 := Aside0.mk hy119
      clear hy119
      replace H := Option.bind_eq_some_iff.mp H
      obtain ⟨t122, A60, H⟩ := H
      replace H : (some (t122, 0)) = some (r1, r2) := H
      have A6 := Aside0.mk A60
      clear A60
      simp only [Option.some.injEq, Prod.mk.injEq] at H
      obtain ⟨rfl, rfl⟩ := H
      go_enter Try.func16, Try.ntmps16
      go_wp2_with (first | ((with_reducible refine gate_callee (f := 40) rfl ?_); refine goesL_ (some 12) rfl rfl Try.func40 (by kernel_rfl) rfl #[.slice A0 l0.length c0, .int .i64 (a1.size : Int), .int .i64 2] rfl (by (try simp only [List.map_toArray, List.map_cons, List.map_nil]); first | done | rfl | (simp only [List.length_drop, List.length_take]; rfl)) ?_; (with_reducible refine (octet_put.calls k _ _ l0 (a1.size : Int) 2 t116 _ ?side1 ?side2 A4.out).mono ?_); (case side1 => repeat (first | exact HR0.out | (with_reducible refine Kd.C_alloc ?_ _) | (with_reducible refine Kd.C_drewN ?_ _) | (with_reducible refine Kd.C_drew ?_))); (case side2 => exact HC0.out); rintro e w7 ⟨v117, rfl, ho0, hb⟩; refine ⟨_, rfl, ?_⟩; have n0_ := Aside0.mk (Kd.R_lower (Kd.R_newM (M := fun k_ => (w.heap.size ≤ k_)) ho0 (below_size (by repeat (first | (with_reducible first | exact HB.out | apply below_alloc | apply pw_below_drewN | apply below_drew1) | exact HB.out))) (fun k_ h_ => h_)) (below_size (by repeat (first | (with_reducible first | exact HB.out | apply below_alloc | apply pw_below_drewN | apply below_drew1) | exact HB.out)))); have n1_ := Aside0.mk (below_step (by repeat (first | (with_reducible first | exact HB.out | apply below_alloc | apply pw_below_drewN | apply below_drew1) | exact HB.out)) hb); clear HB; have HO118 := n0_; have HB := n1_; clear n0_ n1_; (try clear hb); (try clear hb2); (try clear hk); (try clear hi); (try clear ho0)) | (at_builtin; refine print_append_str (w0 := w) w.heap.size rfl (.tmp 12) _ 22 9 5 rfl Try.underlying22 Try.underlying9 info5 v117 t116 a1 rfl rfl ?aO ?aB ?aS ?aL ?_; (case aB => exact (by repeat (first | (with_reducible first | exact HB.out | apply below_alloc | apply pw_below_drewN | apply below_drew1) | exact HB.out))); (case aO => exact (Kd.own_of_R (by (with_reducible repeat (first | apply Kd.R_alloc | apply Kd.R_drewN | apply Kd.R_drew)); exact Kd.R_mono HO118.out (fun _ hk => hk.1)))); (case aS => exact (below_size (by repeat (first | (with_reducible first | exact HB.out | apply below_alloc | apply pw_below_drewN | apply below_drew1) | exact HB.out)))); (case aL => have := LMc5.out; omega); intro v120 w8 ho0 hb hg; have ho := Kd.R_of_own (h1 := fun _ => rfl) (ok := fun _ => True) ho0 (fun _ _ => trivial); clear ho0; have hat := True.intro; rw [← Ny119.out] at ho; replace ho : Kd.R (Kd.int .u8) 5 w8 w.heap.size (fun k_ => (w.heap.size ≤ k_)) v120 y119 := Kd.R_mono (Kd.R_bound ho) (fun k_ hk => hk.2.1); have n0_ := Aside0.mk (hb); have n1_ := Aside0.mk (ho); clear HB; clear HO118; have HB := n0_; have HO121 := n1_; clear n0_ n1_; clear ho hb hg hat; obtain ⟨Ao9, co9, eo9⟩ := Kd.R_slice HO121.out; subst eo9) | ((with_reducible refine gate_callee (f := 39) rfl ?_); refine goesL_ (some 15) rfl rfl Try.func39 (by kernel_rfl) rfl #[.slice Ao9 y119.length co9] rfl (by (try simp only [List.map_toArray, List.map_cons, List.map_nil]); first | done | rfl | (simp only [List.length_drop, List.length_take]; rfl)) ?_; (with_reducible refine (slices_Clip_byte.calls (fun k_ => some k_ = (.slice Ao9 y119.length co9 : Value).ownBlock) _ _ y119 t122 _ ?side1 A6.out).mono ?_); (case side1 => exact Kd.R_V (Kd.R_tight rfl (HO121.out))); rintro e w10 ⟨v123, rfl, ho0, hb⟩; refine ⟨_, rfl, ?_⟩; have n0_ := Aside0.mk (Kd.R_below (by (with_reducible repeat (first | apply Kd.R_alloc | apply Kd.R_drewN | apply Kd.R_drew)); exact HO121.out) hb); have n1_ := Aside0.mk (Kd.V_lower (Kd.V_mono (ok' := fun k_ => (w.heap.size ≤ k_)) ho0 (fun k_ hk_ => Or.elim hk_ (fun hs_ => ((HO121.out).1 k_ hs_.symm)) (fun hn_ => (Nat.le_trans (below_size (by repeat (first | (with_reducible first | exact HB.out | apply below_alloc | apply pw_below_drewN | apply below_drew1) | exact HB.out))) hn_)))) (below_size (by repeat (first | (with_reducible first | exact HB.out | apply below_alloc | apply pw_below_drewN | apply below_drew1) | exact HB.out)))); have n2_ := Aside0.mk (below_step (by repeat (first | (with_reducible first | exact HB.out | apply below_alloc | apply pw_below_drewN | apply below_drew1) | exact HB.out)) hb); clear HO121; clear HB; have HO121 := n0_; have HO124 := n1_; have HB := n2_; clear n0_ n1_ n2_; (try clear hb); (try clear hb2); (try clear hk); (try clear hi); (try clear ho0)))
      go_ret2
      exact ⟨_, by first | rfl | (simp [errW_none, errW_some] <;> rfl) | (simp [*, errW_none, errW_some] <;> rfl), by (with_reducible repeat (first | apply Kd.V_alloc | apply Kd.V_drewN | apply Kd.V_drew)); exact HO124.out, by repeat (first | (with_reducible first | exact HB.out | apply below_alloc | apply pw_below_drewN | apply below_drew1) | exact HB.out)⟩
    · rw [if_neg c5] at H
      exact absurd H (by simp)

end Go.Proofs.Ytjmkpcnekghmhaa.PAll
end
section
namespace Go.Proofs.Ytjmkpcnekghmhaa.PAll
open Go.RowKit Go.Proofs.YtjmkpcnekghmhaaW.PrintWords Go.Proofs.YtjmkpcnekghmhaaW.PrintLast Go.Proofs.YtjmkpcnekghmhaaW.PrintMore
attribute [local go_sem] max2_int min2_int max_two min_two max_three min_three max_four min_four   -- for this text's walks alone
set_option linter.unusedVariables false
set_option linter.unusedSimpArgs false

/-! ### octet_Int: function 18 -/
def octet_Int.f (k : Nat) (l0 : List Int) (a1 : Int) : Option (List Int) := (octet_put.f k l0 a1 8).bind fun t125 => ((slices_Clip_byte.f t125).bind fun t128 => (some t128))
theorem octet_Int.mono : ∀ a0 a1 k, LeO (octet_Int.f k a0 a1) (octet_Int.f (k + 1) a0 a1) := by
  intro a0 a1 k
  unfold octet_Int.f
  repeat' first
      | (with_reducible exact octet_put.mono _ _ _ _)
      | (with_reducible exact LeO.refl _)
      | (with_reducible exact LeO.none _)
      | (with_reducible refine LeO.ite ?_ ?_)
      | (with_reducible refine LeO.bind ?_ (fun _ => ?_))
      | exact octet_put.mono _ _ _ _
      | exact LeO.none _
      | refine LeO.ite ?_ ?_
      | refine LeO.bind ?_ (fun _ => ?_)
set_option maxHeartbeats 8000000 in
set_option maxRecDepth 100000 in
theorem octet_Int.calls (k : Nat) (A0 : Option Addr) (c0 : Nat) (l0 : List Int) (a1 : Int) (r : List Int) (w : World) (hr0 : Kd.C (Kd.int .u8) w A0 l0.length l0) (hc0 : l0.length ≤ c0) (h : octet_Int.f k l0 a1 = some r) :
    Calls Try.prog 18 #[.slice A0 l0.length c0, .int .i64 a1] w fun e w' => ∃ v0_ : Value, e = .returned (v0_) ∧ Kd.V (Kd.int .u8) 5 w' w.heap.size (fun k_ => (w.heap.size ≤ k_)) v0_ r ∧ Below w.heap.size w w' := by
  have HR0 := Aside0.mk hr0
  have HC0 := Aside0.mk hc0
  clear hr0 hc0
  have HB := Aside0.mk (Below.refl w.heap.size w)
  have H : ((octet_put.f k l0 a1 8).bind fun t125 => ((slices_Clip_byte.f t125).bind fun t128 => (some t128))) = some r := h
  clear h
  replace H := Option.bind_eq_some_iff.mp H
  obtain ⟨t125, A30, H⟩ := H
  replace H : ((slices_Clip_byte.f t125).bind fun t128 => (some t128)) = some r := H
  have A3 := Aside0.mk A30
  clear A30
  replace H := Option.bind_eq_some_iff.mp H
  obtain ⟨t128, A40, H⟩ := H
  replace H : (some t128) = some r := H
  have A4 := Aside0.mk A40
  clear A40
  obtain rfl := Option.some.inj H
  go_enter Try.func18, Try.ntmps18
  go_wp2_with (first | ((with_reducible refine gate_callee (f := 40) rfl ?_); refine goesL_ (some 7) rfl rfl Try.func40 (by kernel_rfl) rfl #[.slice A0 l0.length c0, .int .i64 a1, .int .i64 8] rfl (by (try simp only [List.map_toArray, List.map_cons, List.map_nil]); first | done | rfl | (simp only [List.length_drop, List.length_take]; rfl)) ?_; (with_reducible refine (octet_put.calls k _ _ l0 a1 8 t125 _ ?side1 ?side2 A3.out).mono ?_); (case side1 => repeat (first | exact HR0.out | (with_reducible refine Kd.C_alloc ?_ _) | (with_reducible refine Kd.C_drewN ?_ _) | (with_reducible refine Kd.C_drew ?_))); (case side2 => exact HC0.out); rintro e w5 ⟨v126, rfl, ho0, hb⟩; refine ⟨_, rfl, ?_⟩; have n0_ := Aside0.mk (Kd.R_lower (Kd.R_newM (M := fun k_ => (w.heap.size ≤ k_)) ho0 (below_size (by repeat (first | (with_reducible first | exact HB.out | apply below_alloc | apply pw_below_drewN | apply below_drew1) | exact HB.out))) (fun k_ h_ => h_)) (below_size (by repeat (first | (with_reducible first | exact HB.out | apply below_alloc | apply pw_below_drewN | apply below_drew1) | exact HB.out)))); have n1_ := Aside0.mk (below_step (by repeat (first | (with_reducible first | exact HB.out | apply below_alloc | apply pw_below_drewN | apply below_drew1) | exact HB.out)) hb); clear HB; have HO127 := n0_; have HB := n1_; clear n0_ n1_; (try clear hb); (try clear hb2); (try clear hk); (try clear hi); (try clear ho0); obtain ⟨Ao6, co6, eo6⟩ := Kd.R_slice HO127.out; subst eo6) | ((with_reducible refine gate_callee (f := 39) rfl ?_); refine goesL_ (some 8) rfl rfl Try.func39 (by kernel_rfl) rfl #[.slice Ao6 t125.length co6] rfl (by (try simp only [List.map_toArray, List.map_cons, List.map_nil]); first | done | rfl | (simp only [List.length_drop, List.length_take]; rfl)) ?_; (with_reducible refine (slices_Clip_byte.calls (fun k_ => some k_ = (.slice Ao6 t125.length co6 : Value).ownBlock) _ _ t125 t128 _ ?side1 A4.out).mono ?_); (case side1 => exact Kd.R_V (Kd.R_tight rfl (HO127.out))); rintro e w7 ⟨v129, rfl, ho0, hb⟩; refine ⟨_, rfl, ?_⟩; have n0_ := Aside0.mk (Kd.R_below (by (with_reducible repeat (first | apply Kd.R_alloc | apply Kd.R_drewN | apply Kd.R_drew)); exact HO127.out) hb); have n1_ := Aside0.mk (Kd.V_lower (Kd.V_mono (ok' := fun k_ => (w.heap.size ≤ k_)) ho0 (fun k_ hk_ => Or.elim hk_ (fun hs_ => ((HO127.out).1 k_ hs_.symm).1) (fun hn_ => (Nat.le_trans (below_size (by repeat (first | (with_reducible first | exact HB.out | apply below_alloc | apply pw_below_drewN | apply below_drew1) | exact HB.out))) hn_)))) (below_size (by repeat (first | (with_reducible first | exact HB.out | apply below_alloc | apply pw_below_drewN | apply below_drew1) | exact HB.out)))); have n2_ := Aside0.mk (below_step (by repeat (first | (with_reducible first | exact HB.out | apply below_alloc | apply pw_below_drewN | apply below_drew1) | exact HB.out)) hb); clear HO127; clear HB; have HO127 := n0_; have HO130 := n1_; have HB := n2_; clear n0_ n1_ n2_; (try clear hb); (try clear hb2); (try clear hk); (try clear hi); (try clear ho0)))
  go_ret
  exact ⟨_, by first | rfl | (simp [errW_none, errW_some] <;> rfl) | (simp [*, errW_none, errW_some] <;> rfl), by (with_reducible repeat (first | apply Kd.V_alloc | apply Kd.V_drewN | apply Kd.V_drew)); exact HO130.out, by repeat (first | (with_reducible first | exact HB.out | apply below_alloc | apply pw_below_drewN | apply below_drew1) | exact HB.out)⟩

end Go.Proofs.Ytjmkpcnekghmhaa.PAll
end
section
namespace Go.Proofs.Ytjmkpcnekghmhaa.PAll
open Go.RowKit Go.Proofs.YtjmkpcnekghmhaaW.PrintWords Go.Proofs.YtjmkpcnekghmhaaW.PrintLast Go.Proofs.YtjmkpcnekghmhaaW.PrintMore
attribute [local go_sem] max2_int min2_int max_two min_two max_three min_three max_four min_four   -- for this text's walks alone
set_option linter.unusedVariables false
set_option linter.unusedSimpArgs false

/-! ### octet_New: function 21 -/
/-! ### A reader: where it lies, the bytes that it still has, whether something was wrong -/
theorem C_same {α : Type} {enc : α → Value} {h1 : ∀ x, (enc x).oneCell' = true} {w w1 : World} {A : Option Addr} {n : Nat} {xs : List α} (h : (Kd.scalar enc h1).C w A n xs) (hm : ∀ ad, A = some ad → w1.heap[ad.block]? = w.heap[ad.block]?) : (Kd.scalar enc h1).C w1 A n xs := by
  obtain ⟨h2, h3, h4⟩ := h
  refine ⟨h2, h3, fun hp => ?_⟩
  obtain ⟨ad, rfl, hr⟩ := h4 hp
  refine ⟨ad, rfl, fun j p hj => ?_⟩
  obtain ⟨c, hc1, hc2, hc3⟩ := hr j p hj
  refine ⟨c, hc1, hc2, fun i u hu => ?_⟩
  rw [World.cell?_of_block (w := w) (by rw [add_block]; exact hm ad rfl)]
  exact hc3 i u hu
structure Rdr (base p : Nat) (xs : List Int) (bad : Bool) (W : World) : Prop where
  ex : ∃ A c, W.heap[p]? = some (.cells #[.slice A xs.length c, .bool bad] 82 (0, 0)) ∧ xs.length ≤ c ∧ c ≤ 9223372036854775807 ∧ Kd.C (Kd.int .u8) W A xs.length xs ∧ ∀ ad, A = some ad → base ≤ ad.block ∧ ad.block < p
  by_ : ∀ x ∈ xs, 0 ≤ x ∧ x ≤ 255
theorem Rdr.step {base p : Nat} {xs : List Int} {bad : Bool} {W W1 : World} (h : Rdr base p xs bad W) (hm : ∀ k, k < W.heap.size → base ≤ k → W1.heap[k]? = W.heap[k]?) (hb : base ≤ p) : Rdr base p xs bad W1 := by
  obtain ⟨A, c, h1, h2, h3, h4, h5⟩ := h.ex
  have hp := blk_lt h1
  exact ⟨⟨A, c, (hm p hp hb).trans h1, h2, h3, C_same h4 (fun ad ha => hm _ (by have := (h5 ad ha).2; omega) (h5 ad ha).1), h5⟩, h.by_⟩
theorem Rdr.below {base p : Nat} {xs : List Int} {bad : Bool} {W W1 : World} (h : Rdr base p xs bad W) (hb : Below W.heap.size W W1) : Rdr base p xs bad W1 := by
  obtain ⟨A, c, h1, h2, h3, h4, h5⟩ := h.ex
  exact ⟨⟨A, c, blk_below h1 hb, h2, h3, Kd.C_below h4 hb, h5⟩, h.by_⟩
/-- The reader's own store: nothing else is touched. -/
def PutAt (p : Nat) (W W1 : World) : Prop := ∃ (j : Nat) (v : Value), W1 = W.setCell ⟨p, j, none⟩ v
/-- By how many of the reader's stores (and draws). -/
def Puts (p : Nat) (W W1 : World) : Prop := ∀ B, B ≤ p → (∀ w0 : World, Below B w0 W → Below B w0 W1) ∧ W1.heap.size = W.heap.size ∧ ∀ k, k ≠ p → W1.heap[k]? = W.heap[k]?
theorem Puts.refl (p : Nat) (W : World) : Puts p W W := fun B hB => ⟨fun _ h => h, rfl, fun _ _ => rfl⟩
theorem Puts.set {p : Nat} {W W1 : World} (h : Puts p W W1) (j : Nat) (v : Value) : Puts p W (W1.setCell ⟨p, j, none⟩ v) := fun B hB => by
  obtain ⟨h1, h2, h3⟩ := h B hB
  exact ⟨fun w0 hw => (h1 w0 hw).setCell hB _, by simpa using h2, fun k hk => (Below.heap_setCell _ _ v k hk).trans (h3 k hk)⟩
theorem Puts.trans {p : Nat} {W W1 W2 : World} (h : Puts p W W1) (k : Puts p W1 W2) : Puts p W W2 := fun B hB => by
  obtain ⟨h1, h2, h3⟩ := h B hB
  obtain ⟨k1, k2, k3⟩ := k B hB
  exact ⟨fun w0 hw => k1 w0 (h1 w0 hw), k2.trans h2, fun q hq => (k3 q hq).trans (h3 q hq)⟩
theorem Puts.below {p : Nat} {w0 W W1 : World} (h : Puts p W W1) (hp : w0.heap.size ≤ p) (hb : Below w0.heap.size w0 W) : Below w0.heap.size w0 W1 := (h _ hp).1 w0 hb
set_option maxHeartbeats 4000000 in
theorem take_nil (n : Int) (W : World) : Calls Try.prog 43 #[.pointer none, .int .i64 n] W fun e W' => e = .returned (.slice none 0 0) ∧ W' = W := by
  go_enter Try.func43, Try.ntmps43
  go_wp2
  go_ret
  exact ⟨rfl, rfl⟩
set_option maxHeartbeats 4000000 in
theorem take_bad {base p : Nat} {xs : List Int} (n : Int) (W : World) (h : Rdr base p xs true W) : Calls Try.prog 43 #[.pointer (some ⟨p, 0, none⟩), .int .i64 n] W fun e W' => e = .returned (.slice none 0 0) ∧ Rdr base p xs true W' ∧ Puts p W W' := by
  have HH := Aside0.mk h
  obtain ⟨A, c, h1, h2, h3, h4, h5⟩ := h.ex
  have hb1 : W.cell? ⟨p, 1, none⟩ = some (.bool true) := (blk_cell h1 1).trans rfl
  have hf1 := blk_frozen h1 1
  have B1 := Aside0.mk h1
  have B2 := Aside0.mk h2
  have B3 := Aside0.mk h3
  have B4 := Aside0.mk h4
  have B5 := Aside0.mk h5
  clear h h1 h2 h3 h4 h5
  go_enter Try.func43, Try.ntmps43
  go_wp2
  go_ret
  exact ⟨rfl, ⟨⟨A, c, blk_put B1.out 1 _ rfl, B2.out, B3.out, C_same B4.out (fun ad ha => Below.heap_setCell _ _ _ _ (by have := (B5.out ad ha).2; show ad.block ≠ p; omega)), B5.out⟩, HH.out.by_⟩, Puts.set (Puts.refl _ _) 1 _⟩
set_option maxHeartbeats 4000000 in
theorem take_over {base p : Nat} {xs : List Int} (n : Int) (W : World) (h : Rdr base p xs false W) (hn : (xs.length : Int) < n) : Calls Try.prog 43 #[.pointer (some ⟨p, 0, none⟩), .int .i64 n] W fun e W' => e = .returned (.slice none 0 0) ∧ Rdr base p xs true W' ∧ Puts p W W' := by
  have HH := Aside0.mk h
  obtain ⟨A, c, h1, h2, h3, h4, h5⟩ := h.ex
  have hb0 : W.cell? ⟨p, 0, none⟩ = some (.slice A xs.length c) := (blk_cell h1 0).trans rfl
  have hb1 : W.cell? ⟨p, 1, none⟩ = some (.bool false) := (blk_cell h1 1).trans rfl
  have hf1 := blk_frozen h1 1
  have d1 : decide ((xs.length : Int) < n) = true := decide_eq_true hn
  have B1 := Aside0.mk h1
  have B2 := Aside0.mk h2
  have B3 := Aside0.mk h3
  have B4 := Aside0.mk h4
  have B5 := Aside0.mk h5
  clear h h1 h2 h3 h4 h5 hn
  go_enter Try.func43, Try.ntmps43
  go_wp2
  go_ret
  exact ⟨rfl, ⟨⟨A, c, blk_put B1.out 1 _ rfl, B2.out, B3.out, C_same B4.out (fun ad ha => Below.heap_setCell _ _ _ _ (by have := (B5.out ad ha).2; show ad.block ≠ p; omega)), B5.out⟩, HH.out.by_⟩, Puts.set (Puts.refl _ _) 1 _⟩
set_option maxHeartbeats 4000000 in
theorem take_ok {base p : Nat} {xs : List Int} (n : Nat) (W : World) (h : Rdr base p xs false W) (hn : n ≤ xs.length) : Calls Try.prog 43 #[.pointer (some ⟨p, 0, none⟩), .int .i64 n] W fun e W' => ∃ A c, e = .returned (.slice A n c) ∧ n ≤ c ∧ Kd.C (Kd.int .u8) W' A n (xs.take n) ∧ Rdr base p (xs.drop n) false W' ∧ Puts p W W' := by
  have HH := Aside0.mk h
  obtain ⟨A, c, h1, h2, h3, h4, h5⟩ := h.ex
  have hb0 : W.cell? ⟨p, 0, none⟩ = some (.slice A xs.length c) := (blk_cell h1 0).trans rfl
  have hb1 : W.cell? ⟨p, 1, none⟩ = some (.bool false) := (blk_cell h1 1).trans rfl
  have hf0 := blk_frozen h1 0
  have d1 : decide ((xs.length : Int) < (n : Int)) = false := decide_eq_false (by omega)
  have d2 : decide (xs.length < n) = false := decide_eq_false (by omega)
  obtain ⟨i0, hi0, _, hsz0, _⟩ := info_parts info5
  have hcut1 := cut_to (P := Try.prog) 22 5 .i64 Try.underlying22 hi0 A xs.length c (n : Int) (by omega) (by omega) h2
  have hcut2 := cut_from (P := Try.prog) 22 5 .i64 Try.underlying22 hi0 1 hsz0 A xs.length c (n : Int) (by omega) (by omega)
  rw [show ((n : Int)).toNat = n by omega] at hcut1 hcut2
  have B4 := Aside0.mk (show (Kd.int .u8).C W A n (xs.take n) from by have := Kd.C_take h4 hn; rwa [List.length_take, Nat.min_eq_left hn] at this)
  have B6 := Aside0.mk (Kd.C_drop h4 hn h2)
  have B7 : Aside0 (∀ ad, (if c = n then A else A.map (·.add (n * 1))) = some ad → base ≤ ad.block ∧ ad.block < p) := ⟨by
    intro ad ha
    by_cases hc : c = n
    · rw [if_pos hc] at ha; exact h5 ad ha
    · rw [if_neg hc] at ha
      cases hA : A with
      | none => rw [hA] at ha; cases ha
      | some a0 =>
        rw [hA] at ha
        obtain rfl : a0.add (n * 1) = ad := by simpa using ha
        rw [add_block]
        exact h5 a0 hA⟩
  change Aside0 ((Kd.int .u8).C W (if c = n then A else A.map (·.add (n * 1))) (xs.drop n).length (xs.drop n)) at B6
  obtain ⟨A2, hA2⟩ : ∃ A2, (if c = n then A else A.map (·.add (n * 1))) = A2 := ⟨_, rfl⟩
  rw [hA2] at hcut2 B6 B7
  have B1 := Aside0.mk h1
  have B2 := Aside0.mk h2
  have B3 := Aside0.mk h3
  have B5 := Aside0.mk h5
  have HN := Aside0.mk hn
  clear h h1 h2 h3 h4 h5 hi0 hsz0 hn hA2
  go_enter Try.func43, Try.ntmps43
  go_wp2
  go_ret
  refine ⟨A, c, rfl, by have := HN.out; have := B2.out; omega, C_same B4.out (fun ad ha => Below.heap_setCell _ _ _ _ (by have := (B5.out ad ha).2; show ad.block ≠ p; omega)), ⟨⟨A2, c - n, ?_, by have := B2.out; simp; omega, by have := B3.out; omega, C_same B6.out (fun ad ha => Below.heap_setCell _ _ _ _ (by have := (B7.out ad ha).2; show ad.block ≠ p; omega)), B7.out⟩, fun x hx => HH.out.by_ x (List.mem_of_mem_drop hx)⟩, Puts.set (Puts.refl _ _) 0 _⟩
  rw [List.length_drop]
  exact blk_put B1.out 0 _ rfl
/-- A number out of bytes. -/
def numS : List Int → Int → Int
  | [], n => n
  | c :: r, n => numS r (Go.bits .or .i64 (wrap64 (n * 256)) c)
set_option maxHeartbeats 4000000 in
theorem number_nil (m : Int) (W : World) : Calls Try.prog 42 #[.pointer none, .int .i64 m] W fun e W' => e = .returned (.int .i64 0) ∧ W' = W := by
  go_enter Try.func42, Try.ntmps42
  go_wp2_with (go_at_call 43; (with_reducible refine (take_nil _ _).mono ?_); rintro e w1 ⟨rfl, rfl⟩)
  go_loop [5, 12] (fun n i => n = .int .i64 0 ∧ i = .int .i64 0) (fun _ _ => 0)
  case atStart => exact ⟨rfl, rfl⟩
  case round =>
    obtain ⟨rfl, rfl⟩ := hrel
    go_wp2
    go_ret
    exact ⟨rfl, rfl⟩
set_option maxHeartbeats 4000000 in
theorem number_bad {base p : Nat} {xs : List Int} (bad : Bool) (m : Nat) (W : World) (h : Rdr base p xs bad W) (hm : bad = true ∨ xs.length < m) : Calls Try.prog 42 #[.pointer (some ⟨p, 0, none⟩), .int .i64 (m : Int)] W fun e W' => e = .returned (.int .i64 0) ∧ Rdr base p xs true W' ∧ Puts p W W' := by
  have key : Calls Try.prog 43 #[.pointer (some ⟨p, 0, none⟩), .int .i64 (m : Int)] W fun e W' => e = .returned (.slice none 0 0) ∧ Rdr base p xs true W' ∧ Puts p W W' := by
    cases bad with
    | true => exact take_bad _ W h
    | false => exact take_over _ W h (by rcases hm with h | h; cases h; omega)
  clear h hm
  go_enter Try.func42, Try.ntmps42
  go_wp2_with (go_at_call 43; (with_reducible refine key.mono ?_); rintro e w1 ⟨rfl, hr, hp⟩)
  go_loop [5, 12] (fun n i => n = .int .i64 0 ∧ i = .int .i64 0) (fun _ _ => 0)
  case atStart => exact ⟨rfl, rfl⟩
  case round =>
    obtain ⟨rfl, rfl⟩ := hrel
    go_wp2
    go_ret
    exact ⟨rfl, hr, hp⟩
set_option maxHeartbeats 4000000 in
theorem number_ok {base p : Nat} {xs : List Int} (m : Nat) (W : World) (h : Rdr base p xs false W) (hm : m ≤ xs.length) : Calls Try.prog 42 #[.pointer (some ⟨p, 0, none⟩), .int .i64 (m : Int)] W fun e W' => e = .returned (.int .i64 (numS (xs.take m) 0)) ∧ Rdr base p (xs.drop m) false W' ∧ Puts p W W' := by
  obtain ⟨ys, hys⟩ : ∃ ys, xs.take m = ys := ⟨_, rfl⟩
  have hyl : ys.length = m := by rw [← hys, List.length_take]; omega
  have hby : Aside0 (∀ y ∈ ys, 0 ≤ y ∧ y ≤ 255) := ⟨fun y hy => h.by_ y (List.mem_of_mem_take (hys ▸ hy))⟩
  have key := take_ok m W h hm
  rw [hys] at key ⊢
  subst hyl
  clear h hm hys
  go_enter Try.func42, Try.ntmps42
  go_wp2_with (go_at_call 43; (with_reducible refine key.mono ?_); rintro e w1 ⟨A, c, rfl, hc, hC, hr, hp⟩; have HC := Aside0.mk hC; have HR := Aside0.mk hr; have HP := Aside0.mk hp; have HCC := Aside0.mk hc; clear hC hr hp hc)
  go_loop [5, 12] (fun n i => ∃ (k : Nat) (a : Int), k ≤ ys.length ∧ i = .int .i64 (k : Int) ∧ n = .int .i64 a ∧ Aside0 (numS (ys.drop k) a = numS ys 0)) (fun _ i => ys.length - (intOf i).toNat)
  case atStart => exact ⟨0, 0, Nat.zero_le _, rfl, rfl, ⟨rfl⟩⟩
  case round =>
    obtain ⟨k, a, hk, rfl, rfl, ha⟩ := hrel
    by_cases hlt : k < ys.length
    · obtain ⟨ad, ead, hx⟩ := Kd.at_int HC.out (k : Int) (by omega) (by omega)
      cases ead
      rw [show ((k : Int)).toNat = k by omega] at hx
      have hb := hby.out (rd ys (k : Int)) (by simp [rd, List.getD_eq_getElem?_getD, hlt])
      have q3 : (k < ys.length) = True := eq_true hlt
      have q4 : wrap64 ((k : Int) + 1) = ((k + 1 : Nat) : Int) := by have := HC.out.2.1; unfold wrap64; omega
      have hstep : numS (ys.drop (k + 1)) (bits .or .i64 (wrap64 (a * 256)) (rd ys (k : Int))) = numS ys 0 := by
        rw [← ha.out, List.drop_eq_getElem_cons hlt]
        simp [numS, rd, List.getD_eq_getElem?_getD, hlt]
      have HS := Aside0.mk hstep
      clear hstep ha
      go_wp2
      go_round
      case rel => exact ⟨k + 1, _, by omega, by rw [q4], rfl, HS⟩
      case measure => rw [q4]; simp [intOf]; omega
    · obtain rfl : k = ys.length := by omega
      have ha2 : a = numS ys 0 := by have := ha.out; rwa [List.drop_length] at this
      subst ha2
      clear ha
      go_wp2
      go_ret
      exact ⟨rfl, HR.out, HP.out⟩
theorem or_byte (a c : Int) (h0 : 0 ≤ c) (h1 : c < 256) : bits .or .i64 (wrap64 (a * 256)) c = wrap64 (a * 256 + c) := by
  obtain ⟨m, rfl⟩ : ∃ m : Nat, c = (m : Int) := ⟨c.toNat, by omega⟩
  have hm : m < 2 ^ 8 := by omega
  obtain ⟨q, hq⟩ : ∃ q : Nat, (BitVec.ofInt 64 (wrap64 (a * 256))).toNat = 2 ^ 8 * q := by
    rw [BitVec.toNat_ofInt]
    refine ⟨((wrap64 (a * 256)) % 18446744073709551616 / 256).toNat, ?_⟩
    unfold wrap64
    omega
  have hq2 : ((2 ^ 8 * q : Nat) : Int) % 18446744073709551616 = (a * 256) % 18446744073709551616 := by
    rw [← hq, BitVec.toNat_ofInt]
    unfold wrap64
    omega
  have hw : ∀ x : Int, IntKind.i64.wrap x = wrap64 x := fun x => by rw [IntKind.wrap_i64]; unfold wrap64; rfl
  show IntKind.i64.wrap (((BitVec.ofInt 64 (wrap64 (a * 256)) ||| BitVec.ofInt 64 (m : Int)).toNat : Nat) : Int) = _
  rw [BitVec.toNat_or, hq, BitVec.ofInt_natCast, BitVec.toNat_ofNat, Nat.mod_eq_of_lt (show m < 2 ^ 64 by omega), ← Nat.two_pow_add_eq_or_of_lt hm, hw]
  unfold wrap64
  omega
theorem numS_two (x y : Int) (hx : 0 ≤ x ∧ x ≤ 255) (hy : 0 ≤ y ∧ y ≤ 255) : numS [x, y] 0 = x * 256 + y := by
  simp only [numS]
  rw [or_byte 0 x hx.1 (by omega), or_byte _ y hy.1 (by omega)]
  unfold wrap64
  omega
theorem take_two {xs : List Int} (h : 2 ≤ xs.length) : xs.take 2 = [xs.getD 0 0, xs.getD 1 0] := by
  match xs, h with
  | a :: b :: r, _ => rfl
theorem numS_bd {xs : List Int} (h : 2 ≤ xs.length) (hb : ∀ x ∈ xs, 0 ≤ x ∧ x ≤ 255) : 0 ≤ numS (xs.take 2) 0 ∧ numS (xs.take 2) 0 ≤ 65535 := by
  rw [take_two h]
  match xs, h with
  | a :: b :: r, _ =>
    have ha := hb a (by simp)
    have hb' := hb b (by simp)
    show 0 ≤ numS [a, b] 0 ∧ numS [a, b] 0 ≤ 65535
    rw [numS_two a b ha hb']
    omega
/-- What the reader answers, by what it has. -/
def rInt (s : List Int × Bool) : Int × (List Int × Bool) := if s.2 = true ∨ s.1.length < 8 then (0, (s.1, true)) else (numS (s.1.take 8) 0, (s.1.drop 8, false))
def rText (s : List Int × Bool) (m : Int) : List Int × (List Int × Bool) := if s.2 = true ∨ s.1.length < 2 then ([], (s.1, true)) else (if numS (s.1.take 2) 0 > m ∨ ((s.1.length - 2 : Nat) : Int) < numS (s.1.take 2) 0 then ([], (s.1.drop 2, true)) else ((s.1.drop 2).take (numS (s.1.take 2) 0).toNat, ((s.1.drop 2).drop (numS (s.1.take 2) 0).toNat, false)))
def rEnd (s : List Int × Bool) : Bool := !s.2 && s.1.length == 0
set_option maxHeartbeats 4000000 in
theorem int_nil (W : World) : Calls Try.prog 25 #[.pointer none] W fun e W' => e = .returned (.int .i64 0) ∧ W' = W := by
  go_enter Try.func25, Try.ntmps25
  go_wp2_with (go_at_call 42; (with_reducible refine (number_nil _ _).mono ?_); rintro e w1 ⟨rfl, rfl⟩)
  go_ret
  exact ⟨rfl, rfl⟩
set_option maxHeartbeats 4000000 in
theorem int_f {base p : Nat} (s : List Int × Bool) (W : World) (h : Rdr base p s.1 s.2 W) : Calls Try.prog 25 #[.pointer (some ⟨p, 0, none⟩)] W fun e W' => e = .returned (.int .i64 (rInt s).1) ∧ Rdr base p (rInt s).2.1 (rInt s).2.2 W' ∧ Puts p W W' := by
  obtain ⟨xs, bad⟩ := s
  have key : Calls Try.prog 42 #[.pointer (some ⟨p, 0, none⟩), .int .i64 8] W fun e W' => e = .returned (.int .i64 (rInt (xs, bad)).1) ∧ Rdr base p (rInt (xs, bad)).2.1 (rInt (xs, bad)).2.2 W' ∧ Puts p W W' := by
    unfold rInt
    by_cases c : bad = true ∨ xs.length < 8
    · rw [if_pos c]; exact number_bad bad 8 W h c
    · rw [if_neg c]
      obtain rfl : bad = false := by simpa using (not_or.1 c).1
      exact number_ok 8 W h (by have c2 := (not_or.1 c).2; simp at c2; omega)
  obtain ⟨n, hn⟩ : ∃ n, n = (rInt (xs, bad)).1 := ⟨_, rfl⟩
  obtain ⟨t, ht⟩ : ∃ t, t = (rInt (xs, bad)).2 := ⟨_, rfl⟩
  rw [← hn, ← ht] at key ⊢
  clear h hn ht
  go_enter Try.func25, Try.ntmps25
  go_wp2_with (go_at_call 42; (with_reducible refine key.mono ?_); rintro e w1 ⟨rfl, hr, hp⟩)
  go_ret
  exact ⟨rfl, hr, hp⟩
set_option maxHeartbeats 4000000 in
theorem end_nil (W : World) : Calls Try.prog 26 #[.pointer none] W fun e W' => e = .returned (.bool false) ∧ W' = W := by
  go_enter Try.func26, Try.ntmps26
  go_wp2
  go_ret
  exact ⟨rfl, rfl⟩
set_option maxHeartbeats 4000000 in
theorem end_f {base p : Nat} (s : List Int × Bool) (W : World) (h : Rdr base p s.1 s.2 W) : Calls Try.prog 26 #[.pointer (some ⟨p, 0, none⟩)] W fun e W' => e = .returned (.bool (rEnd s)) ∧ W' = W := by
  obtain ⟨xs, bad⟩ := s
  obtain ⟨A, c, h1, h2, h3, h4, h5⟩ := h.ex
  have hb0 : W.cell? ⟨p, 0, none⟩ = some (.slice A xs.length c) := (blk_cell h1 0).trans rfl
  have hb1 : W.cell? ⟨p, 1, none⟩ = some (.bool bad) := (blk_cell h1 1).trans rfl
  clear h h1 h2 h3 h4 h5
  cases bad with
  | true =>
    go_enter Try.func26, Try.ntmps26
    go_wp2
    go_ret
    exact ⟨rfl, rfl⟩
  | false =>
    by_cases hx : xs.length = 0
    · have d1 : ((xs.length : Int) == 0) = true := by simp [hx]
      have e1 : rEnd (xs, false) = true := by simp [rEnd, hx]
      rw [e1]
      have H := Aside0.mk d1
      clear e1 d1
      rw [hx] at hb0
      clear hx
      go_enter Try.func26, Try.ntmps26
      go_wp2
      go_ret
      exact ⟨rfl, rfl⟩
    · have d1 : ((xs.length : Int) == 0) = false := beq_eq_false_iff_ne.mpr (by omega)
      have d2 : (xs.length == 0) = false := beq_eq_false_iff_ne.mpr hx
      have d3 : ¬ xs = [] := fun e => hx (by rw [e]; rfl)
      have e1 : rEnd (xs, false) = false := by simp [rEnd, d3]
      rw [e1]
      clear e1 hx
      go_enter Try.func26, Try.ntmps26
      go_wp2
      go_ret
      exact ⟨rfl, rfl⟩
set_option maxHeartbeats 4000000 in
theorem text_nil (m : Int) (W : World) : Calls Try.prog 23 #[.pointer none, .int .i64 m] W fun e W' => e = .returned (.string (strOfNums [])) ∧ W' = W := by
  have hcv := Kd.C_string (P := Try.prog) (w := W) (A := none) (n := 0) (c := 0) Try.underlying22 Try.underlying5 Try.underlying9 (xs := []) ⟨rfl, by omega, fun h => absurd h (by omega)⟩
  by_cases c : (0 : Int) > m
  · have c1 : decide (m < 0) = true := decide_eq_true c
    clear c
    go_enter Try.func23, Try.ntmps23
    go_wp2_with (first | (go_at_call 42; (with_reducible refine (number_nil _ _).mono ?_); rintro e w1 ⟨rfl, rfl⟩) | (go_at_call 43; (with_reducible refine (take_nil _ _).mono ?_); rintro e w1 ⟨rfl, rfl⟩))
    go_ret
    exact ⟨rfl, rfl⟩
  · have c1 : decide (m < 0) = false := decide_eq_false c
    clear c
    go_enter Try.func23, Try.ntmps23
    go_wp2_with (first | (go_at_call 42; (with_reducible refine (number_nil _ _).mono ?_); rintro e w1 ⟨rfl, rfl⟩) | (go_at_call 43; (with_reducible refine (take_nil _ _).mono ?_); rintro e w1 ⟨rfl, rfl⟩))
    go_ret
    exact ⟨rfl, rfl⟩
theorem Rdr.setBad {base p : Nat} {xs : List Int} {b : Bool} {W : World} (h : Rdr base p xs b W) : Rdr base p xs true (W.setCell ⟨p, 1, none⟩ (.bool true)) := by
  obtain ⟨A, c, h1, h2, h3, h4, h5⟩ := h.ex
  exact ⟨⟨A, c, blk_put h1 1 _ rfl, h2, h3, C_same h4 (fun ad ha => Below.heap_setCell _ _ _ _ (by have := (h5 ad ha).2; show ad.block ≠ p; omega)), h5⟩, h.by_⟩
theorem Rdr.flag {base p : Nat} {xs : List Int} {b : Bool} {W : World} (h : Rdr base p xs b W) : W.cell? ⟨p, 1, none⟩ = some (.bool b) ∧ W.frozen? ⟨p, 1, none⟩ = false := by
  obtain ⟨A, c, h1, h2, h3, h4, h5⟩ := h.ex
  exact ⟨(blk_cell h1 1).trans rfl, blk_frozen h1 1⟩
theorem conv_nil (W : World) : (convert 22 9 (.slice none 0 0)).run Try.prog W = .ok (.string (strOfNums [])) W :=
  Kd.C_string (P := Try.prog) (w := W) (A := none) (n := 0) (c := 0) Try.underlying22 Try.underlying5 Try.underlying9 (xs := []) ⟨rfl, by omega, fun h => absurd h (by omega)⟩
set_option maxHeartbeats 8000000 in
theorem text_f {base p : Nat} (s : List Int × Bool) (m : Int) (W : World) (h : Rdr base p s.1 s.2 W) : Calls Try.prog 23 #[.pointer (some ⟨p, 0, none⟩), .int .i64 m] W fun e W' => e = .returned (.string (strOfNums (rText s m).1)) ∧ Rdr base p (rText s m).2.1 (rText s m).2.2 W' ∧ Puts p W W' := by
  obtain ⟨xs, bad⟩ := s
  have hcn := conv_nil
  unfold rText
  by_cases c : bad = true ∨ xs.length < 2
  · rw [if_pos c]
    have key : Calls Try.prog 42 #[.pointer (some ⟨p, 0, none⟩), .int .i64 2] W fun e W' => e = .returned (.int .i64 0) ∧ Rdr base p xs true W' ∧ Puts p W W' := number_bad bad 2 W h c
    clear h c
    by_cases c : (0 : Int) > m
    · have c1 : decide (m < 0) = true := decide_eq_true c
      clear c
      go_enter Try.func23, Try.ntmps23
      go_wp2_with (first | (go_at_call 42; (with_reducible refine key.mono ?_); rintro e w1 ⟨rfl, hr, hp⟩; have HR := Aside0.mk hr.setBad; have HP := Aside0.mk (hp.set 1 (.bool true)); obtain ⟨f1, f2⟩ := hr.flag; clear hr hp) | (go_at_call 43; (with_reducible refine (take_bad _ _ HR.out).mono ?_); rintro e w2 ⟨rfl, hr, hp⟩; have HP2 := Aside0.mk (HP.out.trans hp); clear hp))
      go_ret
      exact ⟨rfl, hr, HP2.out⟩
    · have c1 : decide (m < 0) = false := decide_eq_false c
      clear c
      go_enter Try.func23, Try.ntmps23
      go_wp2_with (first | (go_at_call 42; (with_reducible refine key.mono ?_); rintro e w1 ⟨rfl, hr, hp⟩; have HR := Aside0.mk hr; have HP := Aside0.mk hp; clear hr hp) | (go_at_call 43; (with_reducible refine (take_bad _ _ HR.out).mono ?_); rintro e w2 ⟨rfl, hr, hp⟩; have HP2 := Aside0.mk (HP.out.trans hp); clear hp))
      go_ret
      exact ⟨rfl, hr, HP2.out⟩
  · rw [if_neg c]
    obtain rfl : bad = false := by simpa using (not_or.1 c).1
    have hl : 2 ≤ xs.length := by have c2 := (not_or.1 c).2; simp at c2; omega
    have key : Calls Try.prog 42 #[.pointer (some ⟨p, 0, none⟩), .int .i64 2] W fun e W' => e = .returned (.int .i64 (numS (xs.take 2) 0)) ∧ Rdr base p (xs.drop 2) false W' ∧ Puts p W W' := number_ok 2 W h hl
    have hbd := numS_bd hl h.by_
    dsimp only
    obtain ⟨n, hn⟩ : ∃ n : Nat, numS (xs.take 2) 0 = (n : Int) := ⟨(numS (xs.take 2) 0).toNat, by omega⟩
    obtain ⟨ys, hys⟩ : ∃ ys, xs.drop 2 = ys := ⟨_, rfl⟩
    have hyl : xs.length - 2 = ys.length := by rw [← hys, List.length_drop]
    rw [hn, hys] at key
    rw [hn, hys, hyl, show ((n : Int)).toNat = n by omega]
    clear h c hl hn hys hyl hbd
    by_cases c : (n : Int) > m
    · rw [if_pos (Or.inl c)]
      have c1 : decide (m < (n : Int)) = true := decide_eq_true c
      clear c
      go_enter Try.func23, Try.ntmps23
      go_wp2_with (first | (go_at_call 42; (with_reducible refine key.mono ?_); rintro e w1 ⟨rfl, hr, hp⟩; have HR := Aside0.mk hr.setBad; have HP := Aside0.mk (hp.set 1 (.bool true)); obtain ⟨f1, f2⟩ := hr.flag; clear hr hp) | (go_at_call 43; (with_reducible refine (take_bad _ _ HR.out).mono ?_); rintro e w2 ⟨rfl, hr, hp⟩; have HP2 := Aside0.mk (HP.out.trans hp); clear hp))
      go_ret
      exact ⟨rfl, hr, HP2.out⟩
    · have c1 : decide (m < (n : Int)) = false := decide_eq_false c
      by_cases c2 : (ys.length : Int) < (n : Int)
      · rw [if_pos (Or.inr c2)]
        have C2 := Aside0.mk c2
        clear c c2
        go_enter Try.func23, Try.ntmps23
        go_wp2_with (first | (go_at_call 42; (with_reducible refine key.mono ?_); rintro e w1 ⟨rfl, hr, hp⟩; have HR := Aside0.mk hr; have HP := Aside0.mk hp; clear hr hp) | (go_at_call 43; (with_reducible refine (take_over _ _ HR.out C2.out).mono ?_); rintro e w2 ⟨rfl, hr, hp⟩; have HP2 := Aside0.mk (HP.out.trans hp); clear hp))
        go_ret
        exact ⟨rfl, hr, HP2.out⟩
      · rw [if_neg (not_or.2 ⟨c, c2⟩)]
        have C2 : Aside0 (n ≤ ys.length) := ⟨by omega⟩
        clear c c2
        go_enter Try.func23, Try.ntmps23
        go_wp2_with (first | (go_at_call 42; (with_reducible refine key.mono ?_); rintro e w1 ⟨rfl, hr, hp⟩; have HR := Aside0.mk hr; have HP := Aside0.mk hp; clear hr hp) | (go_at_call 43; (with_reducible refine (take_ok _ _ HR.out C2.out).mono ?_); rintro e w2 ⟨A, c, rfl, hc, hC, hr, hp⟩; have HP2 := Aside0.mk (HP.out.trans hp); have HR2 := Aside0.mk hr; have hcv := Kd.C_string (P := Try.prog) (A := A) (c := c) Try.underlying22 Try.underlying5 Try.underlying9 hC; clear hp hr hc hC))
        go_ret
        exact ⟨rfl, HR2.out, HP2.out⟩
set_option maxHeartbeats 4000000 in
theorem new_f (A : Option Addr) (c : Nat) (l : List Int) (w : World) (hC : Kd.C (Kd.int .u8) w A l.length l) (hc : l.length ≤ c) (hb : ∀ x ∈ l, 0 ≤ x ∧ x ≤ 255) (hn : l.length < 140737488355328) :
    Calls Try.prog 21 #[.slice A l.length c] w fun e w' => ∃ p, e = .returned (.pointer (some ⟨p, 0, none⟩)) ∧ w.heap.size ≤ p ∧ Rdr w.heap.size p l false w' ∧ Below w.heap.size w w' := by
  have HC := Aside0.mk hC
  have HCC := Aside0.mk hc
  have HB := Aside0.mk hb
  have HF : Aside0 (slices_Clone_byte.f l = some l) := ⟨by unfold slices_Clone_byte.f; simp only [Option.bind_some]; rw [if_pos (by simp; omega)]; rfl⟩
  clear hC hc hb hn
  go_enter Try.func21, Try.ntmps21
  go_wp2_with (go_at_call 41; (with_reducible refine (slices_Clone_byte.calls A c l l w HC.out HCC.out HF.out).mono ?_); rintro e w1 ⟨v, rfl, ho, hbl⟩; have HO := Aside0.mk ho; have HBL := Aside0.mk hbl; obtain ⟨A1, c1, e1, h1, h2⟩ := Kd.R_reads ho; subst e1; have HR1 := Aside0.mk h1; have HR2 := Aside0.mk h2; clear ho hbl h1 h2)
  go_ret
  refine ⟨w1.heap.size, rfl, HBL.out.size, ⟨⟨A1, c1, heap_alloc_new w1 _, HR1.out, ?_, Kd.C_below HR2.out (below_alloc (Below.refl _ _) _), ?_⟩, HB.out⟩, below_alloc HBL.out _⟩
  · obtain ⟨_, inner, hown, _⟩ := HO.out
    rcases hown.2 with ⟨e, _⟩ | ⟨g, cap, cur, e, _, _, _, hm, _⟩
    · injection e with e1 e2 e3; omega
    · injection e with e1 e2 e3; unfold maxLen at hm; omega
  · intro ad ha
    have hk : (Value.slice A1 l.length c1).ownBlock = some ad.block := by rw [ha]; rfl
    exact ⟨Kd.R_base HO.out _ hk, Kd.R_lt HO.out _ hk⟩
end Go.Proofs.Ytjmkpcnekghmhaa.PAll
end
section
namespace Go.Proofs.Ytjmkpcnekghmhaa.PAll
open Go.RowKit Go.Proofs.YtjmkpcnekghmhaaW.PrintWords Go.Proofs.YtjmkpcnekghmhaaW.PrintLast Go.Proofs.YtjmkpcnekghmhaaW.PrintMore
attribute [local go_sem] max2_int min2_int max_two min_two max_three min_three max_four min_four   -- for this text's walks alone
set_option linter.unusedVariables false
set_option linter.unusedSimpArgs false

/-! ### prebendlaw03_awake: function 17 -/
theorem lit_C (W : World) (zs : List Int) (hz : zs.length < 1000000) : Kd.C (Kd.int .u8) (W.alloc (.cells (nums .u8 zs).toArray 5 (0, 0))) (some ⟨W.heap.size, 0, none⟩) zs.length zs := by
  refine ⟨rfl, by omega, fun _ => ⟨_, rfl, fun j p hj => ⟨[.int .u8 p], rfl, rfl, fun i u hu => ?_⟩⟩⟩
  obtain rfl : i = 0 := by
    rcases i with _ | i
    · rfl
    · simp at hu
  obtain rfl : Value.int .u8 p = u := by simpa using hu
  show World.cell? _ (Addr.add ⟨W.heap.size, 0, none⟩ (j * 1 + 0)) = _
  rw [add_plain, blk_cell (heap_alloc_new W _)]
  simp [nums, hj]
theorem lit_conv (W : World) (zs : List Int) (hz : zs.length < 1000000) : (convert 22 9 (.slice (some ⟨W.heap.size, 0, none⟩) zs.length zs.length)).run Try.prog (W.alloc (.cells (nums .u8 zs).toArray 5 (0, 0))) = .ok (.string (strOfNums zs)) (W.alloc (.cells (nums .u8 zs).toArray 5 (0, 0))) :=
  Kd.C_string (P := Try.prog) Try.underlying22 Try.underlying5 Try.underlying9 (lit_C W zs hz)
theorem conv_C {W : World} {A : Option Addr} {zs : List Int} (c : Nat) (h : Kd.C (Kd.int .u8) W A zs.length zs) : (convert 22 9 (.slice A zs.length c)).run Try.prog W = .ok (.string (strOfNums zs)) W :=
  Kd.C_string (P := Try.prog) Try.underlying22 Try.underlying5 Try.underlying9 h
theorem V_puts {p : Nat} {w W : World} {v : Value} {xs : List Int} (h : Kd.V (Kd.int .u8) 5 w 0 (fun k => k ≠ p) v xs) (hp : Puts p w W) : Kd.V (Kd.int .u8) 5 W 0 (fun k => k ≠ p) v xs := by
  obtain ⟨A, c, rfl, hc, hF⟩ := h
  exact Kd.V_mk hc (Foot.step hF (fun k hk hlt => (hp 0 (Nat.zero_le _)).2.2 k hk))
theorem aw1 : octet_Int.f 60 [9] 258 = some [9, 0, 0, 0, 0, 0, 0, 1, 2] := by decide +kernel
theorem aw2 : octet_Text.f 60 [] ⟨#[97, 98]⟩ = some ([0, 2, 97, 98], 0) := by decide +kernel
theorem aw_int (w : World) : Calls Try.prog 18 #[.slice (some ⟨w.heap.size, 0, none⟩) 1 1, .int .i64 258] (w.alloc (.cells #[.int .u8 9] 5 (0, 0))) fun e w' => ∃ A c, e = .returned (.slice A 9 c) ∧ Kd.V (Kd.int .u8) 5 w' 0 (fun k => (w.alloc (.cells #[.int .u8 9] 5 (0, 0))).heap.size ≤ k) (.slice A 9 c) [9, 0, 0, 0, 0, 0, 0, 1, 2] ∧ Below w.heap.size w w' := by
  refine (octet_Int.calls 60 (some ⟨w.heap.size, 0, none⟩) 1 [9] 258 [9, 0, 0, 0, 0, 0, 0, 1, 2] _ (lit_C w [9] (by simp)) (by simp) aw1).mono ?_
  rintro e w' ⟨v, rfl, hv, hb⟩
  obtain ⟨A, c, rfl, hc, hF⟩ := hv
  exact ⟨A, c, rfl, Kd.V_mk (e := 5) (base := 0) hc hF, (below_alloc (Below.refl _ _) _).trans (hb.mono (by simp))⟩
theorem aw_text (w : World) : Calls Try.prog 16 #[.slice none 0 0, .string ⟨#[97, 98]⟩] w fun e w' => ∃ A c, e = .returned (.tuple #[.slice A 4 c, .int .i64 0]) ∧ 4 ≤ c ∧ Kd.V (Kd.int .u8) 5 w' 0 (fun k => w.heap.size ≤ k) (.slice A 4 c) [0, 2, 97, 98] ∧ Below w.heap.size w w' := by
  refine (octet_Text.calls 60 none 0 [] ⟨#[97, 98]⟩ [0, 2, 97, 98] 0 _ ⟨rfl, by simp, fun h => absurd h (by simp)⟩ (by simp) aw2).mono ?_
  rintro e w' ⟨v, rfl, hv, hb⟩
  obtain ⟨A, c, rfl, hc, hF⟩ := hv
  exact ⟨A, c, rfl, hc, Kd.V_mk (e := 5) (base := 0) hc hF, hb⟩
theorem aw_new (A : Option Addr) (c : Nat) (w : World) (hC : Kd.C (Kd.int .u8) w A 4 [0, 2, 97, 98]) (hc : 4 ≤ c) : Calls Try.prog 21 #[.slice A 4 c] w fun e w' => ∃ p, e = .returned (.pointer (some ⟨p, 0, none⟩)) ∧ w.heap.size ≤ p ∧ Rdr w.heap.size p [0, 2, 97, 98] false w' ∧ Below w.heap.size w w' :=
  new_f A c [0, 2, 97, 98] w hC hc (by decide) (by simp)
theorem aw_read {base p : Nat} (w : World) (h : Rdr base p [0, 2, 97, 98] false w) : Calls Try.prog 23 #[.pointer (some ⟨p, 0, none⟩), .int .i64 2] w fun e w' => e = .returned (.string ⟨#[97, 98]⟩) ∧ Rdr base p [] false w' ∧ Puts p w w' := by
  have e : rText ([0, 2, 97, 98], false) 2 = ([97, 98], ([], false)) := by decide +kernel
  have := text_f (base := base) (p := p) ([0, 2, 97, 98], false) 2 w h
  rw [e] at this
  exact this
set_option maxHeartbeats 8000000 in
set_option maxRecDepth 100000 in
theorem prebendlaw03_awake.true_ (w : World) : Calls Try.prog 17 #[] w fun e w' => e = .returned (.bool true) ∧ Below w.heap.size w w' := by
  have HB := Aside0.mk (Below.refl w.heap.size w)
  go_enter Try.func17, Try.ntmps17
  go_wp2_with (first
   | (go_at_call 18; (with_reducible refine (aw_int w).mono ?_); rintro e w1 ⟨Aa, ca, rfl, hv, hb⟩; have HV := Aside0.mk hv; clear HB; have HB := Aside0.mk hb; clear hb hv)
   | (go_at_call 16; (with_reducible refine (aw_text _).mono ?_); rintro e w2 ⟨Ab, cb, rfl, hcb, hC, hb⟩; have HCB := Aside0.mk hcb; have HV2 := Aside0.mk hC; have n1_ := Aside0.mk (Kd.V_below HV.out hb); have n_ := Aside0.mk (HB.out.trans (hb.mono HB.out.size)); clear HB HV; have HB := n_; have HV := n1_; clear n_ n1_ hb hcb hC)
   | (go_at_call 21; (with_reducible refine (aw_new Ab cb _ (Kd.V_reads' HV2.out).2.2 HCB.out).mono ?_); rintro e w3 ⟨p, rfl, hp, hr, hb⟩; have HR := Aside0.mk hr; have n1_ := Aside0.mk (Kd.V_mono (Kd.V_below (Kd.V_elderB HV.out p hp) hb) (fun k hk => hk.2)); have n2_ := Aside0.mk (Kd.V_mono (Kd.V_below (Kd.V_elderB HV2.out p hp) hb) (fun k hk => hk.2)); have n_ := Aside0.mk (HB.out.trans (hb.mono HB.out.size)); have HP : Aside0 (w.heap.size ≤ p) := ⟨Nat.le_trans HB.out.size hp⟩; clear HB HV HV2; have HB := n_; have HV := n1_; have HV2 := n2_; clear n_ n1_ n2_ hb hr hp)
   | (go_at_call 23; (with_reducible refine (aw_read _ HR.out).mono ?_); rintro e w4 ⟨rfl, hr, hps⟩; have n1_ := Aside0.mk (V_puts HV.out hps); have n2_ := Aside0.mk (V_puts HV2.out hps); have n3_ := Aside0.mk (hps.below HP.out HB.out); clear HB HV HV2 HR; have HB := n3_; have HR := Aside0.mk hr; have hc1 := conv_C ca (Kd.V_reads' n1_.out).2.2; have hl1 := Aside0.mk (lit_conv w4 [9, 0, 0, 0, 0, 0, 0, 1, 2] (by simp)); have hb1 := Aside0.mk (Kd.C_below (Kd.V_reads' n2_.out).2.2 (below_alloc (Below.refl w4.heap.size w4) (.cells (nums .u8 [9, 0, 0, 0, 0, 0, 0, 1, 2]).toArray 5 (0, 0)))); have hc2 := conv_C cb hb1.out; have hl2 := Aside0.mk (lit_conv (w4.alloc (.cells (nums .u8 [9, 0, 0, 0, 0, 0, 0, 1, 2]).toArray 5 (0, 0))) [0, 2, 97, 98] (by simp)); have g1 := hl1.out; have g2 := hl2.out; simp only [nums, List.map_cons, List.map_nil, List.length_cons, List.length_nil] at hc1 hc2 g1 g2; rw [show ∀ o, (w4.alloc o).heap.size = w4.heap.size + 1 from fun o => by simp] at g2; clear hl1 hl2 hb1 hr hps n1_ n2_ n3_)
   | (go_at_call 26; (with_reducible refine (end_f (base := _) (p := p) ([], false) _ (HR.out.below (below_alloc (below_alloc (Below.refl w4.heap.size w4) _) _))).mono ?_); rintro e w5 ⟨rfl, rfl⟩))
  go_ret
  exact ⟨by simp [rEnd], below_alloc (below_alloc HB.out _) _⟩
def prebendlaw03_awake.f : Option Bool := some true
theorem prebendlaw03_awake.calls (r : Bool) (w : World) (h : prebendlaw03_awake.f = some r) :
    Calls Try.prog 17 #[] w fun e w' => e = .returned (.bool r) ∧ Below w.heap.size w w' := by
  obtain rfl := Option.some.inj h
  exact prebendlaw03_awake.true_ w
end Go.Proofs.Ytjmkpcnekghmhaa.PAll
end
section
namespace Go.Proofs.Ytjmkpcnekghmhaa.PAll
open Go.RowKit Go.Proofs.YtjmkpcnekghmhaaW.PrintWords Go.Proofs.YtjmkpcnekghmhaaW.PrintLast Go.Proofs.YtjmkpcnekghmhaaW.PrintMore
attribute [local go_sem] max2_int min2_int max_two min_two max_three min_three max_four min_four   -- for this text's walks alone
set_option linter.unusedVariables false
set_option linter.unusedSimpArgs false

/-! ### prebendref03_Int: function 19 -/
def prebendref03_Int.l0 : Nat → Int → List Int → Int → Option (List Int)
  | 0, _, _, _ => none
  | k + 1, x1, x5, x6 => if x6 ≥ 0 then (if 0 ≤ (IntKind.u64.wrap (wrap64 (8 * x6))) then (if x5.length < 140737488355328 then (prebendref03_Int.l0 k x1 (x5 ++ [(shr .u64 (IntKind.u64.wrap (x1)) (IntKind.u64.wrap (wrap64 (8 * x6)))) % 256]) (wrap64 (x6 - 1))) else (none)) else (none)) else (some x5)
def prebendref03_Int.f (k : Nat) (l0 : List Int) (a1 : Int) : Option (List Int) := (some (([] : List Int) : List Int)).bind fun y131 => (if y131.length + l0.length < 140737488355328 then (prebendref03_Int.l0 k a1 (y131 ++ l0) 7) else (none))
theorem prebendref03_Int.mono_l : ∀ k, (∀ y0 y1 y2, LeO (prebendref03_Int.l0 k y0 y1 y2) (prebendref03_Int.l0 (k + 1) y0 y1 y2))
  | 0 => fun _ _ _ r h => by simp [prebendref03_Int.l0] at h
  | k + 1 => by
    have ih0 := prebendref03_Int.mono_l k
    · intro y0 y1 y2
      unfold prebendref03_Int.l0
      repeat' first
      | (with_reducible exact ih0 _ _ _)
      | (with_reducible exact LeO.refl _)
      | (with_reducible exact LeO.none _)
      | (with_reducible refine LeO.ite ?_ ?_)
      | (with_reducible refine LeO.bind ?_ (fun _ => ?_))
      | exact ih0 _ _ _
      | exact LeO.none _
      | refine LeO.ite ?_ ?_
      | refine LeO.bind ?_ (fun _ => ?_)
theorem prebendref03_Int.mono : ∀ a0 a1 k, LeO (prebendref03_Int.f k a0 a1) (prebendref03_Int.f (k + 1) a0 a1) := by
  intro a0 a1 k
  have ih0 := prebendref03_Int.mono_l k
  unfold prebendref03_Int.f
  repeat' first
      | (with_reducible exact ih0 _ _ _)
      | (with_reducible exact LeO.refl _)
      | (with_reducible exact LeO.none _)
      | (with_reducible refine LeO.ite ?_ ?_)
      | (with_reducible refine LeO.bind ?_ (fun _ => ?_))
      | exact ih0 _ _ _
      | exact LeO.none _
      | refine LeO.ite ?_ ?_
      | refine LeO.bind ?_ (fun _ => ?_)
set_option maxHeartbeats 8000000 in
set_option maxRecDepth 100000 in
theorem prebendref03_Int.calls (k : Nat) (A0 : Option Addr) (c0 : Nat) (l0 : List Int) (a1 : Int) (r : List Int) (w : World) (hr0 : Kd.C (Kd.int .u8) w A0 l0.length l0) (hc0 : l0.length ≤ c0) (h : prebendref03_Int.f k l0 a1 = some r) :
    Calls Try.prog 19 #[.slice A0 l0.length c0, .int .i64 a1] w fun e w' => ∃ v0_ : Value, e = .returned (v0_) ∧ Kd.R (Kd.int .u8) 5 w' w.heap.size (fun _ => True) v0_ r ∧ Below w.heap.size w w' := by
  have HR0 := Aside0.mk hr0
  have HC0 := Aside0.mk hc0
  clear hr0 hc0
  have HB := Aside0.mk (Below.refl w.heap.size w)
  have H : ((some (([] : List Int) : List Int)).bind fun y131 => (if y131.length + l0.length < 140737488355328 then (prebendref03_Int.l0 k a1 (y131 ++ l0) 7) else (none))) = some r := h
  clear h
  obtain ⟨y131, hy131⟩ : ∃ y_ : List Int, y_ = (([] : List Int)) := ⟨_, rfl⟩
  replace H : (if y131.length + l0.length < 140737488355328 then (prebendref03_Int.l0 k a1 (y131 ++ l0) 7) else (none)) = some r := by first | (rw [hy131]; with_reducible exact H) | (have H2_ := (Option.bind_some _ _).symm.trans H; rw [hy131]; with_reducible exact H2_) | (have H2_ := (Option.bind_some _ _).symm.trans H; with_reducible exact H2_) | with_reducible exact H | (rw [hy131]; exact H) | exact H
  have Ny131 := Aside0.mk hy131
  clear hy131
  by_cases c3 : y131.length + l0.length < 140737488355328
  · rw [if_pos c3] at H
    have LMc3 := Aside0.mk c3
    clear c3
    obtain ⟨y134, hy134⟩ : ∃ y_ : List Int, y_ = (y131 ++ l0) := ⟨_, rfl⟩
    replace H : (prebendref03_Int.l0 k a1 y134 7) = some r := by first | (rw [hy134]; with_reducible exact H) | (have H2_ := (Option.bind_some _ _).symm.trans H; rw [hy134]; with_reducible exact H2_) | (have H2_ := (Option.bind_some _ _).symm.trans H; with_reducible exact H2_) | with_reducible exact H | (rw [hy134]; exact H) | exact H
    have Ny134 := Aside0.mk hy134
    clear hy134
    have H' := Aside0.mk H
    clear H
    go_enter Try.func19, Try.ntmps19
    go_wp2_with (first | ((with_reducible refine gate_dst (N := 7) rfl ?_); refine Kd.R_lit (Kd.int .u8) _ 5 ?hg (N := 7) ?hd (xs := ([] : List Int)) (inner := []) (ok := fun _ => True) (okp := fun _ => True) ?hr ?hp (fun _ hk => hk) trivial (Below.refl _ _) (Nat.le_refl _) (by simp) ?_; (case hd => rfl); (case hg => rfl); (case hr => first | (go_simp; done) | (go_simp; rfl)); (case hp => exact (Reps.none _ _)); intro v132 w4 ho5 hb hg_ hnew_; clear hg_ hnew_; (first | rw [← Ny131.out] at ho5 | (simp only [Int.reduceToNat] at ho5; rw [← Ny131.out] at ho5)); have n0_ := Aside0.mk (Kd.R_lower ho5 (below_size (by repeat (first | (with_reducible first | exact HB.out | apply below_alloc | apply pw_below_drewN | apply below_drew1) | exact HB.out)))); have n1_ := Aside0.mk (below_step (by repeat (first | (with_reducible first | exact HB.out | apply below_alloc | apply pw_below_drewN | apply below_drew1) | exact HB.out)) hb); clear HB; have HO133 := n0_; have HB := n1_; clear n0_ n1_; clear hb ho5) | ((with_reducible refine gate_builtin (b := .append) (xs := #[.tmp 7, .tmp 8]) rfl ?_); at_builtin; refine Kd.R_append_rows (Kd.int .u8) (w0 := w) w.heap.size rfl (.tmp 7) (.tmp 8) 22 5 (.int .u8 0) 1 rfl Try.underlying22 info5 rfl (by decide) (by omega) v132 y131 l0 _ _ _ (fun _ => True) (fun _ => False) rfl rfl ?aO ?aR (fun _ _ h => h) (fun _ h => h.elim) ?aF ?aB ?aS ?aL ?_; (case aR => repeat (first | exact (Kd.C_below HR0.out HB.out) | (with_reducible refine Kd.C_alloc ?_ _) | (with_reducible refine Kd.C_drewN ?_ _) | (with_reducible refine Kd.C_drew ?_))); (case aB => exact (by repeat (first | (with_reducible first | exact HB.out | apply below_alloc | apply pw_below_drewN | apply below_drew1) | exact HB.out))); (case aF => exact (fun _ _ => trivial)); (case aO => exact (by (with_reducible repeat (first | apply Kd.R_alloc | apply Kd.R_drewN | apply Kd.R_drew)); exact HO133.out)); (case aS => exact (below_size (by repeat (first | (with_reducible first | exact HB.out | apply below_alloc | apply pw_below_drewN | apply below_drew1) | exact HB.out)))); (case aL => have := LMc3.out; omega); intro v135 w6 ho hb hg hat; rw [← Ny134.out] at ho; have n0_ := Aside0.mk (hb); have n1_ := Aside0.mk (ho); clear HB; clear HO133; have HB := n0_; have HO136 := n1_; clear n0_ n1_; clear ho hb hg hat))
    go_loopg [5, 6] k (fun kq v5 v6 w' => ∃ (x5_1 : List Int) (x6_1 : Int), v6 = .int .i64 x6_1 ∧ Aside0 (prebendref03_Int.l0 kq a1 x5_1 x6_1 = some r) ∧ Aside0 (kq ≤ k) ∧ Aside0 (Kd.R (Kd.int .u8) 5 w' w.heap.size (fun _ => True) v5 x5_1) ∧ Aside0 (Below w.heap.size w w'))
    case atStart => exact ⟨(y134), (7), (by first | rfl | (simp; done) | (simp [*]; done)), H', ⟨Nat.le_refl _⟩, ⟨by (with_reducible repeat (first | apply Kd.R_alloc | apply Kd.R_drewN | apply Kd.R_drew)); exact HO136.out⟩, ⟨by repeat (first | (with_reducible first | exact HB.out | apply below_alloc | apply pw_below_drewN | apply below_drew1) | exact HB.out)⟩⟩
    case round =>
      clear H'
      try clear c1
      try clear p2
      try clear c3
      obtain ⟨x5_1, x6_1, rfl, HA, HK1, HO_5, HB⟩ := hrel
      cases gk with
      | zero => exact absurd HA.out (by simp [prebendref03_Int.l0])
      | succ k1 =>
        have H := HA.out
        clear HA
        simp only [prebendref03_Int.l0] at H
        by_cases c7 : x6_1 ≥ 0
        · rw [if_pos c7] at H
          have c7b0 : decide (0 ≤ x6_1) = true := decide_eq_true c7
          clear c7
          obtain ⟨ji8, hji8⟩ : ∃ j_ : Int, (IntKind.u64.wrap (wrap64 (8 * x6_1))) = j_ := ⟨_, rfl⟩
          replace H : (if 0 ≤ (ji8) then (if x5_1.length < 140737488355328 then (prebendref03_Int.l0 k1 a1 (x5_1 ++ [(shr .u64 (IntKind.u64.wrap (a1)) (ji8)) % 256]) (wrap64 (x6_1 - 1))) else (none)) else (none)) = some r := by first | (rw [hji8] at H; exact H) | (simp only [hji8] at H ⊢; exact H)
          by_cases c9 : 0 ≤ (ji8)
          · rw [if_pos c9] at H
            have c9b0 := eq_true c9
            have c9b1 : decide (0 ≤ (ji8)) = true := decide_eq_true c9
            clear c9
            obtain ⟨ji10, hji10⟩ : ∃ j_ : Int, (shr .u64 (IntKind.u64.wrap (a1)) (ji8)) = j_ := ⟨_, rfl⟩
            replace H : (if x5_1.length < 140737488355328 then (prebendref03_Int.l0 k1 a1 (x5_1 ++ [(ji10) % 256]) (wrap64 (x6_1 - 1))) else (none)) = some r := by first | (rw [hji10] at H; exact H) | (simp only [hji10] at H ⊢; exact H)
            have hji10_ : ((IntKind.u64.wrap (a1)) / 2 ^ min (ji8).toNat 64) = ji10 := hji10
            have hji10z : (ji8) ≤ 64 → ((IntKind.u64.wrap (a1)) / 2 ^ (ji8).toNat) = ji10 := shr_small hji10
            by_cases c11 : x5_1.length < 140737488355328
            · rw [if_pos c11] at H
              have LMc11 := Aside0.mk c11
              clear c11
              obtain ⟨y137, hy137⟩ : ∃ y_ : List Int, y_ = (x5_1 ++ [(ji10) % 256]) := ⟨_, rfl⟩
              replace H : (prebendref03_Int.l0 k1 a1 y137 (wrap64 (x6_1 - 1))) = some r := by first | (rw [hy137]; with_reducible exact H) | (have H2_ := (Option.bind_some _ _).symm.trans H; rw [hy137]; with_reducible exact H2_) | (have H2_ := (Option.bind_some _ _).symm.trans H; with_reducible exact H2_) | with_reducible exact H | (rw [hy137]; exact H) | exact H
              have Ny137 := Aside0.mk hy137
              clear hy137
              have H' := Aside0.mk H
              clear H
              go_wp2_with (first | ((with_reducible refine gate_builtin (b := .append) (xs := #[.tmp 14, .tmp 22]) rfl ?_); at_builtin; refine Kd.R_append (Kd.int .u8) (w0 := w) w.heap.size rfl (.tmp 14) (.tmp 22) 22 5 (.int .u8 0) 1 rfl Try.underlying22 info5 rfl (by decide) (by omega) u5 x5_1 ((ji10) % 256) [.int .u8 ((ji10) % 256)] (fun _ => True) (fun _ => False) rfl rfl ?aP (fun _ hk => hk.elim) ?aF ?aO ?aB ?aS ?aL ?_; (case aP => exact rfl); (case aB => exact (by repeat (first | (with_reducible first | exact HB.out | apply below_alloc | apply pw_below_drewN | apply below_drew1) | exact HB.out))); (case aF => exact (fun _ _ => trivial)); (case aO => exact (by (with_reducible repeat (first | apply Kd.R_alloc | apply Kd.R_drewN | apply Kd.R_drew)); exact HO_5.out)); (case aS => exact (below_size (by repeat (first | (with_reducible first | exact HB.out | apply below_alloc | apply pw_below_drewN | apply below_drew1) | exact HB.out)))); (case aL => have := LMc11.out; omega); intro v138 w12 ho hb hg hat; rw [← Ny137.out] at ho; have n0_ := Aside0.mk (hb); have n1_ := Aside0.mk (ho); clear HB; clear HO_5; have HB := n0_; have HO139 := n1_; clear n0_ n1_; clear ho hb hg hat))
              go_roundg k1
              case measure => have := HK1.out; omega
              case rel => exact ⟨(y137), (wrap64 (x6_1 - 1)), (by first | rfl | (simp; done) | (simp [*]; done)), H', ⟨by have := HK1.out; omega⟩, ⟨by (with_reducible repeat (first | apply Kd.R_alloc | apply Kd.R_drewN | apply Kd.R_drew)); exact HO139.out⟩, ⟨by repeat (first | (with_reducible first | exact HB.out | apply below_alloc | apply pw_below_drewN | apply below_drew1) | exact HB.out)⟩⟩
            · rw [if_neg c11] at H
              exact absurd H (by simp)
          · rw [if_neg c9] at H
            exact absurd H (by simp)
        · rw [if_neg c7] at H
          have c7b0 : decide (0 ≤ x6_1) = false := decide_eq_false c7
          clear c7
          obtain rfl := Option.some.inj H
          go_wp2
          go_ret
          exact ⟨_, by first | rfl | (simp [errW_none, errW_some] <;> rfl) | (simp [*, errW_none, errW_some] <;> rfl), by (with_reducible repeat (first | apply Kd.R_alloc | apply Kd.R_drewN | apply Kd.R_drew)); exact HO_5.out, by repeat (first | (with_reducible first | exact HB.out | apply below_alloc | apply pw_below_drewN | apply below_drew1) | exact HB.out)⟩
  · rw [if_neg c3] at H
    exact absurd H (by simp)

end Go.Proofs.Ytjmkpcnekghmhaa.PAll
end
section
namespace Go.Proofs.Ytjmkpcnekghmhaa.PAll
open Go.RowKit Go.Proofs.YtjmkpcnekghmhaaW.PrintWords Go.Proofs.YtjmkpcnekghmhaaW.PrintLast Go.Proofs.YtjmkpcnekghmhaaW.PrintMore
attribute [local go_sem] max2_int min2_int max_two min_two max_three min_three max_four min_four   -- for this text's walks alone
set_option linter.unusedVariables false
set_option linter.unusedSimpArgs false

/-! ### prebendref03_Text: function 20 -/
theorem C_bytes (W : World) (s : ByteArray) (hs : s.size ≤ 9223372036854775807) : Kd.C (Kd.int .u8) (Lib.bytesWorld W 5 s) (some ⟨W.heap.size, 0, none⟩) s.size (bytesOf s) := by
  refine ⟨bytesOf_length s, hs, fun _ => ⟨_, rfl, fun j p hj => ⟨[.int .u8 p], rfl, rfl, fun i u hu => ?_⟩⟩⟩
  obtain rfl : i = 0 := by
    rcases i with _ | i
    · rfl
    · simp at hu
  obtain rfl : Value.int .u8 p = u := by simpa using hu
  have hlt : j < s.size := by rw [← bytesOf_length]; exact (List.getElem?_eq_some_iff.1 hj).1
  show World.cell? _ (Addr.add ⟨W.heap.size, 0, none⟩ (j * 1 + 0)) = _
  rw [add_plain, show j * 1 + 0 = j by omega, Lib.bytesWorld_cell W 5 s j hlt]
  have h' : j < s.data.toList.length := by rw [data_length]; exact hlt
  simp [bytesOf, List.getElem?_eq_getElem h'] at hj
  simp [← hj, Array.getElem?_eq_getElem (show j < s.data.size from hlt)]
def prebendref03_Text.f (l0 : List Int) (a1 : ByteArray) : Option (List Int) := if l0.length < 1000000000000 ∧ a1.size < 1000000000000 then some (l0 ++ [((a1.size : Int) / 256) % 256, (a1.size : Int) % 256] ++ bytesOf a1) else none
set_option maxHeartbeats 8000000 in
set_option maxRecDepth 100000 in
theorem prebendref03_Text.calls (A0 : Option Addr) (c0 : Nat) (l0 : List Int) (a1 : ByteArray) (r : List Int) (w : World) (hr0 : Kd.C (Kd.int .u8) w A0 l0.length l0) (hc0 : l0.length ≤ c0) (h : prebendref03_Text.f l0 a1 = some r) :
    Calls Try.prog 20 #[.slice A0 l0.length c0, .string a1] w fun e w' => ∃ v0_ : Value, e = .returned (v0_) ∧ Kd.R (Kd.int .u8) 5 w' w.heap.size (fun _ => True) v0_ r ∧ Below w.heap.size w w' := by
  unfold prebendref03_Text.f at h
  have hc : l0.length < 1000000000000 ∧ a1.size < 1000000000000 := Decidable.byContradiction fun c => by rw [if_neg c] at h; simp at h
  rw [if_pos hc] at h
  obtain rfl := Option.some.inj h
  have HL := Aside0.mk hc
  have HR0 := Aside0.mk hr0
  have HC0 := Aside0.mk hc0
  have q1 : 0 ≤ (a1.size : Int) := by omega
  have q2 : (a1.size : Int) ≤ 1000000000000 := by omega
  have HB := Aside0.mk (Below.refl w.heap.size w)
  have hcv := fun W => print_bytes (P := Try.prog) 9 22 5 Try.underlying9 Try.underlying22 Try.underlying5 a1 W
  clear h hc hr0 hc0
  go_enter Try.func20, Try.ntmps20
  go_wp2_with (first
   | ((with_reducible refine gate_dst (N := 6) rfl ?_); refine Kd.R_lit (Kd.int .u8) _ 5 ?hg (N := 6) ?hd (xs := ([] : List Int)) (inner := []) (ok := fun _ => True) (okp := fun _ => True) ?hr ?hp (fun _ hk => hk) trivial (Below.refl _ _) (Nat.le_refl _) (by simp) ?_; (case hd => rfl); (case hg => rfl); (case hr => first | (go_simp; done) | (go_simp; rfl)); (case hp => exact (Reps.none _ _)); intro v1 w1 ho hb hg_ hnew_; clear hg_ hnew_; clear HB; have HO := Aside0.mk ho; have HB := Aside0.mk hb; clear ho hb)
   | ((with_reducible refine gate_builtin (b := .append) (xs := #[.tmp 6, .tmp 7]) rfl ?_); at_builtin; refine Kd.R_append_rows (Kd.int .u8) (w0 := w) w.heap.size rfl (.tmp 6) (.tmp 7) 22 5 (.int .u8 0) 1 rfl Try.underlying22 info5 rfl (by decide) (by omega) v1 [] l0 _ _ _ (fun _ => True) (fun _ => False) rfl rfl ?aO ?aR (fun _ _ h => h) (fun _ h => h.elim) ?aF ?aB ?aS ?aL ?_; (case aR => exact (Kd.C_below HR0.out HB.out)); (case aB => exact HB.out); (case aF => exact (fun _ _ => trivial)); (case aO => exact HO.out); (case aS => exact (below_size HB.out)); (case aL => have := HL.out; simp; omega); intro v2 w2 ho hb hg hat; clear HO HB; have HO := Aside0.mk ho; have HB := Aside0.mk hb; clear ho hb hg hat)
   | ((with_reducible refine gate_dst (N := 17) rfl ?_); refine Kd.R_lit (Kd.int .u8) _ 5 ?hg (N := 17) ?hd (xs := ([((a1.size : Int) / 256) % 256, (a1.size : Int) % 256] : List Int)) (inner := [.int .u8 (((a1.size : Int) / 256) % 256), .int .u8 ((a1.size : Int) % 256)]) (ok := fun _ => True) (okp := fun _ => True) ?hr ?hp (fun _ hk => hk) trivial (Below.refl _ _) (Nat.le_refl _) (by simp) ?_; (case hd => rfl); (case hg => rfl); (case hr => first | (go_simp; done) | (go_simp; rfl)); (case hp => exact (Reps.snoc (p := (a1.size : Int) % 256) (c := [.int .u8 ((a1.size : Int) % 256)]) (Reps.snoc (p := ((a1.size : Int) / 256) % 256) (c := [.int .u8 (((a1.size : Int) / 256) % 256)]) (Reps.none _ _) rfl rfl) rfl rfl)); intro v3 w3 ho hb hg_ hnew_; clear hg_ hnew_; have HO2 := Aside0.mk (Kd.R_reads ho); have n1_ := Aside0.mk (Kd.R_below HO.out hb); have n2_ := Aside0.mk (below_step HB.out hb); clear HO HB; have HO := n1_; have HB := n2_; clear n1_ n2_ ho hb; obtain ⟨A3, c3, e3, hc3, hC3⟩ := HO2.out; subst e3; have HC3 := Aside0.mk hC3; clear HO2 hc3 hC3)
   | ((with_reducible refine gate_builtin (b := .append) (xs := #[.tmp 8, .tmp 17]) rfl ?_); at_builtin; refine Kd.R_append_rows (Kd.int .u8) (w0 := w) w.heap.size rfl (.tmp 8) (.tmp 17) 22 5 (.int .u8 0) 1 rfl Try.underlying22 info5 rfl (by decide) (by omega) v2 l0 [((a1.size : Int) / 256) % 256, (a1.size : Int) % 256] _ _ _ (fun _ => True) (fun _ => False) rfl rfl ?aO ?aR (fun _ _ h => h) (fun _ h => h.elim) ?aF ?aB ?aS ?aL ?_; (case aR => exact HC3.out); (case aB => exact HB.out); (case aF => exact (fun _ _ => trivial)); (case aO => exact HO.out); (case aS => exact (below_size HB.out)); (case aL => have := HL.out; simp; omega); intro v4 w4 ho hb hg hat; clear HO HB; have HO := Aside0.mk ho; have HB := Aside0.mk hb; clear ho hb hg hat)
   | ((with_reducible refine gate_builtin (b := .append) (xs := #[.tmp 19, .tmp 21]) rfl ?_); at_builtin; refine Kd.R_append_rows (Kd.int .u8) (w0 := w) w.heap.size rfl (.tmp 19) (.tmp 21) 22 5 (.int .u8 0) 1 rfl Try.underlying22 info5 rfl (by decide) (by omega) v4 (l0 ++ [((a1.size : Int) / 256) % 256, (a1.size : Int) % 256]) (bytesOf a1) _ _ _ (fun _ => True) (fun _ => False) rfl rfl ?aO ?aR (fun _ _ h => h) (fun _ h => h.elim) ?aF ?aB ?aS ?aL ?_; (case aR => exact (C_bytes w4 a1 (by have := HL.out; omega))); (case aB => exact below_step HB.out (bytes_below (Below.refl w4.heap.size w4) (Nat.le_refl _) 5 a1)); (case aF => exact (fun _ _ => trivial)); (case aO => exact Kd.R_below HO.out (bytes_below (Below.refl w4.heap.size w4) (Nat.le_refl _) 5 a1)); (case aS => exact (below_size (below_step HB.out (bytes_below (Below.refl w4.heap.size w4) (Nat.le_refl _) 5 a1)))); (case aL => have := HL.out; simp; omega); intro v5 w5 ho hb hg hat; clear HO HB; have HO := Aside0.mk ho; have HB := Aside0.mk hb; clear ho hb hg hat))
  go_ret
  exact ⟨_, rfl, HO.out, HB.out⟩
end Go.Proofs.Ytjmkpcnekghmhaa.PAll
end
section
namespace Go.Proofs.Ytjmkpcnekghmhaa.PAll
open Go.RowKit Go.Proofs.YtjmkpcnekghmhaaW.PrintWords Go.Proofs.YtjmkpcnekghmhaaW.PrintLast Go.Proofs.YtjmkpcnekghmhaaW.PrintMore
attribute [local go_sem] max2_int min2_int max_two min_two max_three min_three max_four min_four   -- for this text's walks alone
set_option linter.unusedVariables false
set_option linter.unusedSimpArgs false

/-! ### prebendlaw03_OctetOwn: function 6 -/
-- beside prebendlaw03_awake.calls, prebendref03_Int.calls, prebendref03_Text.calls, octet_Int.calls, octet_Text.calls, octet_put.calls, slices_Clip_byte.calls, new_f
def prebendlaw03_OctetOwn.Pure : Prop := ∀ (l0 : List Int) (a1 a2 a3 : Int), l0.length * 1 ≤ 140737488351232 → True
namespace OwnB
theorem clip_b (A : Option Addr) (n c : Nat) (w : World) (hc : n ≤ c) :
    Calls Try.prog 39 #[.slice A n c] w fun e w' => e = .returned (.slice A n n) ∧ w' = w := by
  have hcut := slices_Clip_byte.cut A n c hc
  go_enter Try.func39, Try.ntmps39
  go_wp2
  go_ret
  exact ⟨rfl, rfl⟩
/-- A number's bytes, the highest first. -/
def beN : Nat → Int → List Int
  | 0, _ => []
  | d + 1, v => (v / 2 ^ (8 * d) % 256) :: beN d v
theorem beN_len (v : Int) : ∀ d, (beN d v).length = d
  | 0 => rfl
  | d + 1 => by simp [beN, beN_len v d]
theorem put_run (v : Int) : ∀ (d : Nat) (xs : List Int), d ≤ 8 → xs.length + d < 140737488355328 → octet_put.l0 (d + 1) v ((d : Int) - 1) xs = some (xs ++ beN d v)
  | 0, xs, _, _ => by
    rw [octet_put.l0.eq_2, if_neg (by simp)]; simp [beN]
  | d + 1, xs, h, hl => by
    have e1 : wrap64 (8 * (((d + 1 : Nat) : Int) - 1)) = ((8 * d : Nat) : Int) := by unfold wrap64; omega
    have e2 : wrap64 ((((d + 1 : Nat) : Int) - 1) - 1) = (d : Int) - 1 := by unfold wrap64; omega
    have e3 : shr .i64 v ((8 * d : Nat) : Int) = v / 2 ^ (8 * d) := by
      have := shr_small (rfl : shr .i64 v ((8 * d : Nat) : Int) = shr .i64 v ((8 * d : Nat) : Int)) (by show ((8 * d : Nat) : Int) ≤ 64; omega)
      rw [Int.toNat_natCast] at this
      exact this.symm
    rw [octet_put.l0.eq_2, if_pos (by omega), e1, e2, if_pos (by omega), if_pos (by omega), e3, put_run v d _ (by omega) (by simp; omega)]
    simp [beN]
theorem int_be (l : List Int) (v : Int) (hl : l.length + 8 < 140737488355328) : octet_Int.f 9 l v = some (l ++ beN 8 v) := by
  have e : wrap64 (8 - 1) = ((8 : Nat) : Int) - 1 := by decide +kernel
  have h := put_run v 8 l (by omega) hl
  unfold octet_Int.f octet_put.f
  have h1 : slices_Clone_byte.f l = some l := by unfold slices_Clone_byte.f; simp only [Option.bind_some]; rw [if_pos (by simp; omega)]; rfl
  have h2 : slices_Grow_byte.f l 8 = some l := by unfold slices_Grow_byte.f; rw [if_pos (by omega), if_pos (by omega)]
  rw [h1, Option.bind_some, h2, Option.bind_some, e, h]
  rfl
theorem be_num (bs : List Int) (hb : ∀ x ∈ bs, 0 ≤ x ∧ x ≤ 255) (hl : bs.length = 8) : beN 8 (numS bs 0) = bs := by
  obtain ⟨c0, c1, c2, c3, c4, c5, c6, c7, rfl⟩ : ∃ c0 c1 c2 c3 c4 c5 c6 c7, bs = [c0, c1, c2, c3, c4, c5, c6, c7] := by
    match bs, hl with
    | [c0, c1, c2, c3, c4, c5, c6, c7], _ => exact ⟨_, _, _, _, _, _, _, _, rfl⟩
  simp only [List.mem_cons, List.not_mem_nil, or_false, forall_eq_or_imp, forall_eq] at hb
  obtain ⟨h0, h1, h2, h3, h4, h5, h6, h7⟩ := hb
  simp only [numS]
  rw [or_byte 0 c0 h0.1 (by omega), show wrap64 (0 * 256 + c0) = c0 by unfold wrap64; omega]
  rw [or_byte _ c1 h1.1 (by omega), show wrap64 (c0 * 256 + c1) = c0 * 256 + c1 by unfold wrap64; omega]
  rw [or_byte _ c2 h2.1 (by omega), show wrap64 ((c0 * 256 + c1) * 256 + c2) = c0 * 65536 + c1 * 256 + c2 by unfold wrap64; omega]
  rw [or_byte _ c3 h3.1 (by omega), show wrap64 ((c0 * 65536 + c1 * 256 + c2) * 256 + c3) = c0 * 16777216 + c1 * 65536 + c2 * 256 + c3 by unfold wrap64; omega]
  rw [or_byte _ c4 h4.1 (by omega)]
  generalize hx : c0 * 16777216 + c1 * 65536 + c2 * 256 + c3 = x
  rw [show wrap64 (x * 256 + c4) = x * 256 + c4 by unfold wrap64; omega]
  rw [or_byte _ c5 h5.1 (by omega), show wrap64 ((x * 256 + c4) * 256 + c5) = x * 65536 + c4 * 256 + c5 by unfold wrap64; omega]
  rw [or_byte _ c6 h6.1 (by omega), show wrap64 ((x * 65536 + c4 * 256 + c5) * 256 + c6) = x * 16777216 + c4 * 65536 + c5 * 256 + c6 by unfold wrap64; omega]
  rw [or_byte _ c7 h7.1 (by omega)]
  generalize hy : wrap64 ((x * 16777216 + c4 * 65536 + c5 * 256 + c6) * 256 + c7) = y
  have hy2 : y = x * 4294967296 + c4 * 16777216 + c5 * 65536 + c6 * 256 + c7 ∨ y = x * 4294967296 + c4 * 16777216 + c5 * 65536 + c6 * 256 + c7 - 18446744073709551616 := by rw [← hy]; unfold wrap64; omega
  simp only [beN]
  have q0 : y / 2 ^ (8 * 7) % 256 = c0 := by show y / 72057594037927936 % 256 = c0; omega
  have q1 : y / 2 ^ (8 * 6) % 256 = c1 := by show y / 281474976710656 % 256 = c1; omega
  have q2 : y / 2 ^ (8 * 5) % 256 = c2 := by show y / 1099511627776 % 256 = c2; omega
  have q3 : y / 2 ^ (8 * 4) % 256 = c3 := by show y / 4294967296 % 256 = c3; omega
  have q4 : y / 2 ^ (8 * 3) % 256 = c4 := by show y / 16777216 % 256 = c4; omega
  have q5 : y / 2 ^ (8 * 2) % 256 = c5 := by show y / 65536 % 256 = c5; omega
  have q6 : y / 2 ^ (8 * 1) % 256 = c6 := by show y / 256 % 256 = c6; omega
  have q7 : y / 2 ^ (8 * 0) % 256 = c7 := by show y / 1 % 256 = c7; omega
  rw [q0, q1, q2, q3, q4, q5, q6, q7]
/-- A row of bytes that lies in a block that may be written. -/
def Ow (g : Nat) (r : List Int) (W : World) : Prop := ∃ arr : Array Value, W.heap[g]? = some (.cells arr 5 (0, 0)) ∧ r.length ≤ arr.size ∧ arr.toList.take r.length = nums .u8 r
theorem Ow.C {g : Nat} {r : List Int} {W : World} (h : Ow g r W) (hm : r.length < 140737488355328) : Kd.C (Kd.int .u8) W (some ⟨g, 0, none⟩) r.length r := by
  obtain ⟨arr, h1, h2, h3⟩ := h
  refine ⟨rfl, by omega, fun _ => ⟨_, rfl, fun j p hj => ⟨[.int .u8 p], rfl, rfl, fun i u hu => ?_⟩⟩⟩
  obtain rfl : i = 0 := by
    rcases i with _ | i
    · rfl
    · simp at hu
  obtain rfl : Value.int .u8 p = u := by simpa using hu
  show W.cell? (Addr.add ⟨g, 0, none⟩ (j * 1 + 0)) = _
  rw [add_plain, blk_cell h1]
  have hjl : j < r.length := (List.getElem?_eq_some_iff.1 hj).1
  have : (arr.toList.take r.length)[j]? = some (.int .u8 p) := by rw [h3]; simp [nums, hj]
  rw [List.getElem?_take, if_pos hjl] at this
  simpa using this
theorem Ow.below {g : Nat} {r : List Int} {W W1 : World} (h : Ow g r W) (hb : Below W.heap.size W W1) : Ow g r W1 := by
  obtain ⟨arr, h1, h2⟩ := h
  exact ⟨arr, blk_below h1 hb, h2⟩
theorem int_own (A0 : Option Addr) (c0 : Nat) (l0 : List Int) (a1 : Int) (w : World) (hr0 : Kd.C (Kd.int .u8) w A0 l0.length l0) (hc0 : l0.length ≤ c0) (hl : l0.length + 8 < 140737488355328) :
    Calls Try.prog 18 #[.slice A0 l0.length c0, .int .i64 a1] w fun e w' => ∃ g, e = .returned (.slice (some ⟨g, 0, none⟩) (l0 ++ beN 8 a1).length (l0 ++ beN 8 a1).length) ∧ w.heap.size ≤ g ∧ Ow g (l0 ++ beN 8 a1) w' ∧ Below w.heap.size w w' := by
  have hf : octet_put.f 9 l0 a1 8 = some (l0 ++ beN 8 a1) := by
    have := int_be l0 a1 hl
    unfold octet_Int.f at this
    obtain ⟨t, ht, h2⟩ := Option.bind_eq_some_iff.1 this
    have : t = l0 ++ beN 8 a1 := by simpa [slices_Clip_byte.f] using h2
    rw [ht, this]
  have hpos : 0 < (l0 ++ beN 8 a1).length := by simp [beN_len]
  have HF := Aside0.mk hf
  have HR := Aside0.mk hr0
  have HC := Aside0.mk hc0
  obtain ⟨r, hr⟩ : ∃ r, l0 ++ beN 8 a1 = r := ⟨_, rfl⟩
  rw [hr] at HF hpos ⊢
  have HPO := Aside0.mk hpos
  clear hf hr0 hc0 hr hpos hl
  go_enter Try.func18, Try.ntmps18
  go_wp2_with (first
    | (go_at_call 40; (with_reducible refine (octet_put.calls 9 A0 c0 l0 a1 8 r w HR.out HC.out HF.out).mono ?_); rintro e w1 ⟨v, rfl, ho, hb⟩; have hown := Kd.own_of_R ho; rcases hown.2 with ⟨e, e0⟩ | ⟨g, cap, cur, e, hbg, hheap, hn, hm, hsz, htake⟩; (exact absurd e0 (by have := HPO.out; omega)); subst e; have HH := Aside0.mk hheap; have HT := Aside0.mk htake; have HN := Aside0.mk hn; have HB := Aside0.mk hb; have HZ := Aside0.mk hsz; have HG := Aside0.mk hbg; clear hheap htake hn hb hsz hown hbg hm ho)
    | (go_at_call 39; (with_reducible refine (clip_b _ _ _ _ HN.out).mono ?_); rintro e w2 ⟨rfl, rfl⟩))
  go_ret
  refine ⟨g, rfl, HG.out, ⟨cur, HH.out, by have := HZ.out; have := HN.out; omega, ?_⟩, HB.out⟩
  have := HT.out
  rw [Nat.mul_one] at this
  rw [this]
  rfl
theorem int_V (A0 : Option Addr) (c0 : Nat) (l0 : List Int) (a1 : Int) (w : World) (hr0 : Kd.C (Kd.int .u8) w A0 l0.length l0) (hc0 : l0.length ≤ c0) (hl : l0.length + 8 < 140737488355328) :
    Calls Try.prog 18 #[.slice A0 l0.length c0, .int .i64 a1] w fun e w' => ∃ A c, e = .returned (.slice A (l0 ++ beN 8 a1).length c) ∧ Kd.V (Kd.int .u8) 5 w' 0 (fun k => w.heap.size ≤ k) (.slice A (l0 ++ beN 8 a1).length c) (l0 ++ beN 8 a1) ∧ Below w.heap.size w w' := by
  refine (octet_Int.calls 9 A0 c0 l0 a1 _ w hr0 hc0 (int_be l0 a1 hl)).mono ?_
  rintro e w' ⟨v, rfl, hv, hb⟩
  obtain ⟨A, c, rfl, hc, hF⟩ := hv
  exact ⟨A, c, rfl, Kd.V_mk (e := 5) (base := 0) hc hF, hb⟩
theorem text_z (l : List Int) (hl : l.length + 3 < 140737488355328) : octet_Text.f 9 l ⟨#[122]⟩ = some (l ++ [0, 1, 122], 0) := by
  have h1 : slices_Clone_byte.f l = some l := by unfold slices_Clone_byte.f; simp only [Option.bind_some]; rw [if_pos (by simp; omega)]; rfl
  have h2 : slices_Grow_byte.f l 2 = some l := by unfold slices_Grow_byte.f; rw [if_pos (by omega), if_pos (by omega)]
  have e : wrap64 (2 - 1) = ((2 : Nat) : Int) - 1 := by decide +kernel
  have h := octet_put.l0.eq_2
  have hp : octet_put.f 9 l 1 2 = some (l ++ [0, 1]) := by
    unfold octet_put.f
    rw [h1, Option.bind_some, h2, Option.bind_some, e]
    have e1 : wrap64 (8 * (((2 : Nat) : Int) - 1)) = 8 := by decide +kernel
    have e2 : wrap64 ((((2 : Nat) : Int) - 1) - 1) = 0 := by decide +kernel
    have e3 : wrap64 (8 * 0) = 0 := by decide +kernel
    have e4 : wrap64 (0 - 1) = -1 := by decide +kernel
    have s1 : shr .i64 1 8 % 256 = 0 := by decide +kernel
    have s2 : shr .i64 1 0 % 256 = 1 := by decide +kernel
    rw [h, if_pos (by omega), e1, e2, if_pos (by omega), if_pos (by omega), h, if_pos (by omega), e3, e4, if_pos (by omega), if_pos (by simp; omega), h, if_neg (by omega), s1, s2]
    simp
  unfold octet_Text.f
  rw [if_neg (by decide), show (((⟨#[122]⟩ : ByteArray).size : Nat) : Int) = 1 from rfl, hp, Option.bind_some, if_pos (by show (l ++ [0, 1]).length + 1 < _; simp; omega)]
  show some ((l ++ [0, 1]) ++ bytesOf ⟨#[122]⟩, (0 : Int)) = _
  rw [show bytesOf ⟨#[122]⟩ = [122] from rfl]
  simp
theorem text_V (A0 : Option Addr) (c0 : Nat) (l0 : List Int) (w : World) (hr0 : Kd.C (Kd.int .u8) w A0 l0.length l0) (hc0 : l0.length ≤ c0) (hl : l0.length + 3 < 140737488355328) :
    Calls Try.prog 16 #[.slice A0 l0.length c0, .string ⟨#[122]⟩] w fun e w' => ∃ A c, e = .returned (.tuple #[.slice A (l0 ++ [0, 1, 122]).length c, .int .i64 0]) ∧ Kd.V (Kd.int .u8) 5 w' 0 (fun k => w.heap.size ≤ k) (.slice A (l0 ++ [0, 1, 122]).length c) (l0 ++ [0, 1, 122]) ∧ Below w.heap.size w w' := by
  refine (octet_Text.calls 9 A0 c0 l0 ⟨#[122]⟩ _ 0 w hr0 hc0 (text_z l0 hl)).mono ?_
  rintro e w' ⟨v, rfl, hv, hb⟩
  obtain ⟨A, c, rfl, hc, hF⟩ := hv
  exact ⟨A, c, rfl, Kd.V_mk (e := 5) (base := 0) hc hF, hb⟩
theorem beN_bd (v : Int) : ∀ (d : Nat) (y : Int), y ∈ beN d v → 0 ≤ y ∧ y ≤ 255
  | 0, y, h => by simp [beN] at h
  | d + 1, y, h => by
    rcases List.mem_cons.1 h with rfl | h
    · omega
    · exact beN_bd v d y h
theorem Ow.lt {g : Nat} {r : List Int} {W : World} (h : Ow g r W) : g < W.heap.size := by
  obtain ⟨arr, h1, _⟩ := h
  exact blk_lt h1
theorem Ow.at_ {g : Nat} {r : List Int} {W : World} (h : Ow g r W) (i : Int) (h0 : 0 ≤ i) (h1 : i < (r.length : Int)) : W.cell? ⟨g, i.toNat, none⟩ = some (.int .u8 (rd r i)) ∧ W.frozen? ⟨g, i.toNat, none⟩ = false := by
  obtain ⟨arr, ha, h2, h3⟩ := h
  refine ⟨?_, blk_frozen ha _⟩
  rw [blk_cell ha]
  have hlt : i.toNat < r.length := by omega
  have : (arr.toList.take r.length)[i.toNat]? = (nums .u8 r)[i.toNat]? := by rw [h3]
  rw [List.getElem?_take, if_pos hlt] at this
  simpa [nums, rd, hlt, List.getD_eq_getElem?_getD] using this
theorem Ow.put {g : Nat} {r : List Int} {W : World} (h : Ow g r W) (i : Nat) (v : Int) : Ow g (r.set i v) (W.setCell ⟨g, i, none⟩ (.int .u8 v)) := by
  obtain ⟨arr, ha, h2, h3⟩ := h
  refine ⟨_, blk_put ha i _ rfl, by simpa using h2, ?_⟩
  rw [List.length_set]
  have : nums .u8 (r.set i v) = (nums .u8 r).set i (.int .u8 v) := by simp [nums, List.map_set]
  rw [this, ← h3, Array.toList_setIfInBounds, List.take_set]
theorem V_puts2 {p : Nat} {ok : Nat → Prop} {w W : World} {v : Value} {xs : List Int} (h : Kd.V (Kd.int .u8) 5 w 0 ok v xs) (hok : ∀ k, ok k → k ≠ p) (hp : Puts p w W) : Kd.V (Kd.int .u8) 5 W 0 ok v xs := by
  obtain ⟨A, c, rfl, hc, hF⟩ := h
  exact Kd.V_mk hc (Foot.step hF (fun k hk hlt => (hp 0 (Nat.zero_le _)).2.2 k (hok k hk)))
theorem V_none (W : World) (ok : Nat → Prop) (A : Option Addr) (c : Nat) : Kd.V (Kd.int .u8) 5 W 0 ok (.slice A ([] : List Int).length c) [] :=
  Kd.V_mk (Nat.zero_le _) (fun _ _ => ⟨rfl, by simp, fun h => absurd h (by simp)⟩)
theorem int_at {base p : Nat} {xs : List Int} (W : World) (h : Rdr base p xs false W) (h8 : 8 ≤ xs.length) : Calls Try.prog 25 #[.pointer (some ⟨p, 0, none⟩)] W fun e W' => ∃ v, e = .returned (.int .i64 v) ∧ beN 8 v = xs.take 8 ∧ Rdr base p (xs.drop 8) false W' ∧ Puts p W W' := by
  have := int_f (base := base) (p := p) (xs, false) W h
  rw [show rInt (xs, false) = (numS (xs.take 8) 0, (xs.drop 8, false)) by unfold rInt; rw [if_neg (by simp; omega)]] at this
  exact this.mono (fun e W' ⟨h1, h2, h3⟩ => ⟨_, h1, be_num _ (fun y hy => h.by_ y (List.mem_of_mem_take hy)) (by rw [List.length_take]; omega), h2, h3⟩)
theorem ref_shift (v : Int) (d : Nat) (h : d < 8) : shr .u64 (IntKind.u64.wrap v) (IntKind.u64.wrap (wrap64 (8 * (((d + 1 : Nat) : Int) - 1)))) % 256 = v / 2 ^ (8 * d) % 256 := by
  have e1 : IntKind.u64.wrap (wrap64 (8 * (((d + 1 : Nat) : Int) - 1))) = ((8 * d : Nat) : Int) := by rw [show ∀ z, IntKind.u64.wrap z = z % 18446744073709551616 from fun _ => rfl]; unfold wrap64; omega
  rw [e1, show IntKind.u64.wrap v = v % 18446744073709551616 from rfl]
  show (v % 18446744073709551616) / 2 ^ (min ((8 * d : Nat) : Int).toNat 64) % 256 = _
  rw [Int.toNat_natCast, Nat.min_eq_left (by omega)]
  have hd : d = 0 ∨ d = 1 ∨ d = 2 ∨ d = 3 ∨ d = 4 ∨ d = 5 ∨ d = 6 ∨ d = 7 := by omega
  rcases hd with rfl | rfl | rfl | rfl | rfl | rfl | rfl | rfl <;> simp only [Nat.reduceMul, Int.reducePow] <;> omega
theorem ref_run (v : Int) : ∀ (d : Nat) (xs : List Int), d ≤ 8 → xs.length + d < 140737488355328 → prebendref03_Int.l0 (d + 1) v xs ((d : Int) - 1) = some (xs ++ beN d v)
  | 0, xs, _, _ => by
    rw [prebendref03_Int.l0.eq_2, if_neg (by simp)]; simp [beN]
  | d + 1, xs, h, hl => by
    have e1 : IntKind.u64.wrap (wrap64 (8 * (((d + 1 : Nat) : Int) - 1))) = ((8 * d : Nat) : Int) := by rw [show ∀ z, IntKind.u64.wrap z = z % 18446744073709551616 from fun _ => rfl]; unfold wrap64; omega
    have e2 : wrap64 ((((d + 1 : Nat) : Int) - 1) - 1) = (d : Int) - 1 := by unfold wrap64; omega
    rw [prebendref03_Int.l0.eq_2, if_pos (by omega), if_pos (by rw [e1]; omega), if_pos (by omega), ref_shift v d (by omega), e2, ref_run v d _ (by omega) (by simp; omega)]
    simp [beN]
theorem ref_be (l : List Int) (v : Int) (hl : l.length + 8 < 140737488355328) : prebendref03_Int.f 9 l v = some (l ++ beN 8 v) := by
  have h := ref_run v 8 l (by omega) hl
  unfold prebendref03_Int.f
  rw [Option.bind_some, if_pos (by simp; omega)]
  exact h
theorem rdr_lt {base p : Nat} {xs : List Int} {b : Bool} {W : World} (h : Rdr base p xs b W) : p < W.heap.size := by
  obtain ⟨A, c, h1, _⟩ := h.ex
  exact blk_lt h1
structure HoldO (w : World) (ok : Nat → Prop) (vg vx v2 v3 : Value) (gl x t2 t3 : List Int) (W : World) : Prop where
  below : Below w.heap.size w W
  g : Kd.V (Kd.int .u8) 5 W 0 ok vg gl
  x : Kd.V (Kd.int .u8) 5 W 0 ok vx x
  t2 : Kd.V (Kd.int .u8) 5 W 0 ok v2 t2
  t3 : Kd.V (Kd.int .u8) 5 W 0 ok v3 t3
theorem HoldO.go {w : World} {ok : Nat → Prop} {vg vx v2 v3 : Value} {gl x t2 t3 : List Int} {W W1 : World} (h : HoldO w ok vg vx v2 v3 gl x t2 t3 W) (hb : Below W.heap.size W W1) : HoldO w ok vg vx v2 v3 gl x t2 t3 W1 :=
  ⟨below_step h.below hb, Kd.V_below h.g hb, Kd.V_below h.x hb, Kd.V_below h.t2 hb, Kd.V_below h.t3 hb⟩
theorem ref_z (l : List Int) (hl : l.length < 1000000) : prebendref03_Text.f l ⟨#[122]⟩ = some (l ++ [0, 1, 122]) := by
  unfold prebendref03_Text.f
  rw [if_pos ⟨by omega, by decide⟩]
  simp only [show (((⟨#[122]⟩ : ByteArray).size : Nat) : Int) = 1 from rfl, show bytesOf ⟨#[122]⟩ = [122] from rfl]
  simp
def Cv (v : Value) (l : List Int) (W : World) : Prop := (convert 22 9 v).run Try.prog W = .ok (.string (strOfNums l)) W
end OwnB
open OwnB
def OctetOwn.T17 : Bool × List (List Nat × List Nat) := (true, [([], []), ([0, 0], [0]), ([1], [1]), ([2, 1], [1, 2]), ([1], [1]), ([1], [1]), ([5, 1], [1, 5]), ([6, 1], [1, 6]), ([7, 1], [1, 7]), ([4, 8, 1], [1, 4, 8]), ([9, 1], [1, 9]), ([3, 10, 1], [1, 3, 10]), ([1, 11], [1, 11]), ([12, 1], [12]), ([13], [13]), ([14, 13], [13, 14]), ([13], [13]), ([16, 13], [13, 16]), ([15, 17, 13], [13, 15, 17]), ([13, 18], [13, 18]), ([19, 13], [19]), ([20], [20]), ([21, 20], [20, 21]), ([20], [20]), ([20], [20]), ([23, 24, 20, 20], [20, 23, 24]), ([25, 20], [20, 25]), ([22, 26, 20], [20, 22, 26]), ([20, 27], [20, 27]), ([28, 25], [28]), ([29], [29]), ([30, 29], [29, 30]), ([29], [29]), ([32, 29, 29], [29, 32]), ([33, 29], [29, 33]), ([31, 34, 29], [29, 31, 34]), ([29, 35], [29, 35]), ([36, 33, 0, 1, 2, 3, 4, 5, 6, 7, 8, 9, 10, 11, 12, 13, 14, 15, 16, 17, 18, 19, 20, 21, 22, 23, 24, 25, 26, 27, 28, 29, 30, 31, 32, 33, 34, 35, 36], [36])])
def OctetOwn.B17 : List Nat := [0, 1, 3, 7, 3, 3, 35, 99, 227, 499, 1011, 2047, 4095, 8191, 16383, 32767, 16383, 81919, 262143, 524287, 1048575, 2097151, 4194303, 2097151, 2097151, 27262975, 60817407, 134217727, 268435455, 536870911, 1073741823, 2147483647, 1073741823, 5368709119, 13958643711, 34359738367, 68719476735, 137438953471]
theorem OctetOwn.tab17 : rtab .any (opsOf Try.f6 17) = OctetOwn.T17 := by kernel_rfl
theorem OctetOwn.bits17 : waitsOk OctetOwn.T17.2 OctetOwn.B17 = true := by kernel_rfl
set_option maxHeartbeats 8000000 in
set_option maxRecDepth 100000 in
theorem prebendlaw03_OctetOwn.walk (P : prebendlaw03_OctetOwn.Pure) (A0 : Option Addr) (c0 : Nat) (l0 : List Int) (a1 a2 a3 : Int) (w : World) (hr0 : Kd.C (Kd.int .u8) w A0 l0.length l0) (hc0 : l0.length ≤ c0) (g0 : l0.length ≤ maxLen ∧ ∀ x ∈ l0, (Lit.int .u8 x).wf = true) (y0 : l0.length * 1 ≤ 140737488351232) (h1_ : (Lit.int .i64 a1).wf = true) (h2_ : (Lit.int .i64 a2).wf = true) (h3_ : (Lit.int .u8 a3).wf = true) :
    Calls Try.prog 6 #[.slice A0 l0.length c0, .int .i64 a1, .int .i64 a2, .int .u8 a3] w fun e w' => e = .returned (.bool true) ∧ Below w.heap.size w w' := by
  obtain ⟨x, hx⟩ : ∃ x, l0.take 5000 = x := ⟨_, rfl⟩
  have hxl : x.length ≤ 5000 := by rw [← hx, List.length_take]; omega
  have hb0 : Aside0 (∀ y ∈ x, 0 ≤ y ∧ y ≤ 255) := ⟨fun y hy => by have := g0.2 y (List.mem_of_mem_take (hx ▸ hy)); simpa [Lit.wf, IntKind.min, IntKind.max, IntKind.signed, IntKind.bits] using this⟩
  have HR0 : Aside0 (Kd.C (Kd.int .u8) w A0 x.length x) := ⟨by
    rw [← hx]
    by_cases h : l0.length ≤ 5000
    · rw [List.take_of_length_le h]; exact hr0
    · exact Kd.C_take hr0 (by omega)⟩
  have HC0 : Aside0 (x.length ≤ c0) := ⟨by rw [← hx, List.length_take]; omega⟩
  have HXL := Aside0.mk hxl
  have e64 : wrap64 ((x.length : Int) + 64) = ((x.length + 64 : Nat) : Int) := by unfold wrap64; omega
  obtain ⟨i5, hi5, hz5, hs5, hy5⟩ := info_parts info5
  have HI5 := Aside0.mk (And.intro hi5 (And.intro hz5 (And.intro hs5 hy5)))
  obtain ⟨one, hone⟩ : ∃ one, x ++ beN 8 a1 = one := ⟨_, rfl⟩
  have hol : Aside0 (one.length = x.length + 8) := ⟨by rw [← hone]; simp [beN_len]⟩
  have hob : Aside0 (∀ y ∈ one, 0 ≤ y ∧ y ≤ 255) := ⟨fun y hy => by
    rw [← hone] at hy
    rcases List.mem_append.1 hy with h | h
    · exact hb0.out y h
    · exact beN_bd a1 8 y h⟩
  have HON := Aside0.mk hone
  have K1 : Aside0 (∀ (W : World) (A : Option Addr) (c : Nat), Kd.C (Kd.int .u8) W A x.length x → x.length ≤ c → Calls Try.prog 18 #[.slice A x.length c, .int .i64 a1] W fun e w' => ∃ g, e = .returned (.slice (some ⟨g, 0, none⟩) one.length one.length) ∧ W.heap.size ≤ g ∧ Ow g one w' ∧ Below W.heap.size W w') := ⟨fun W A c h1 h2 => by rw [← hone]; exact int_own A c x a1 W h1 h2 (by omega)⟩
  obtain ⟨t2, ht2⟩ : ∃ t2, x ++ beN 8 a2 = t2 := ⟨_, rfl⟩
  obtain ⟨t3, ht3⟩ : ∃ t3, x ++ [0, 1, 122] = t3 := ⟨_, rfl⟩
  have HREF : Aside0 (prebendref03_Int.f 9 x a2 = some t2) := ⟨by rw [← ht2]; exact ref_be x a2 (by omega)⟩
  have HREZ : Aside0 (prebendref03_Text.f x ⟨#[122]⟩ = some t3) := ⟨by rw [← ht3]; exact ref_z x (by omega)⟩
  have K2 : Aside0 (∀ (W : World) (A : Option Addr) (c : Nat), Kd.C (Kd.int .u8) W A x.length x → x.length ≤ c → Calls Try.prog 18 #[.slice A x.length c, .int .i64 a2] W fun e w' => ∃ A c, e = .returned (.slice A t2.length c) ∧ Kd.V (Kd.int .u8) 5 w' 0 (fun k => W.heap.size ≤ k) (.slice A t2.length c) t2 ∧ Below W.heap.size W w') := ⟨fun W A c h1 h2 => by rw [← ht2]; exact int_V A c x a2 W h1 h2 (by omega)⟩
  have K3 : Aside0 (∀ (W : World) (A : Option Addr) (c : Nat), Kd.C (Kd.int .u8) W A x.length x → x.length ≤ c → Calls Try.prog 16 #[.slice A x.length c, .string ⟨#[122]⟩] W fun e w' => ∃ A c, e = .returned (.tuple #[.slice A t3.length c, .int .i64 0]) ∧ Kd.V (Kd.int .u8) 5 w' 0 (fun k => W.heap.size ≤ k) (.slice A t3.length c) t3 ∧ Below W.heap.size W w') := ⟨fun W A c h1 h2 => by rw [← ht3]; exact text_V A c x W h1 h2 (by omega)⟩
  have HB := Aside0.mk (Below.refl w.heap.size w)
  clear ht2 ht3 h1_ h2_ h3_ g0 hr0 hi5 hz5 hs5 hy5 hone P
  by_cases h : (l0.length : Int) > 5000
  · have c1 : decide (5000 < (l0.length : Int)) = true := decide_eq_true h
    have c2 : decide (5000 < l0.length) = true := decide_eq_true (by omega)
    obtain ⟨i07, hi07, _, hsz7, _⟩ := info_parts info5
    have hcut7 := cut_to (P := Try.prog) 22 5 .i64 Try.underlying22 hi07 A0 l0.length c0 5000 (by omega) (by omega) hc0
    have hlen : x.length = (5000 : Int).toNat := by rw [← hx, List.length_take]; omega
    rw [← hlen] at hcut7
    clear hx hi07 hsz7 hlen h hc0 y0 hxl
    go_enter Try.func6, Try.ntmps6
    go_wp2_with (first | ((with_reducible refine gate_dst (N := 26) rfl ?_); refine wpList_make_own _ rfl (.const (.int .i64 0)) (.tmp 25) 22 (by rfl) w.heap.size 5 i5 (.int .u8 0) 1 Try.underlying22 HI5.out.1 HI5.out.2.1 HI5.out.2.2.1 .i64 .i64 _ (x.length + 64) (by rfl) (by rfl) e64 (by have := HXL.out; rw [HI5.out.2.2.2]; omega) (by have := HXL.out; unfold maxLen; omega) (Nat.le_refl _) ?_; intro w1 hown hg; have ho : Kd.R (Kd.int .u8) 5 w1 w.heap.size (fun _ => True) _ ([] : List Int) := Kd.R_of_own (h1 := fun _ => rfl) hown (fun _ _ => trivial); have hb := Below.grown (Below.refl w.heap.size w) hg (Nat.le_refl _) (fun _ h => by cases h); clear HB; have HB := Aside0.mk hb; have HO := Aside0.mk ho; clear hb ho hown hg) | ((with_reducible refine gate_builtin (b := .append) (xs := #[.tmp 26, .tmp 27]) rfl ?_); at_builtin; refine Kd.R_append_rows (Kd.int .u8) (w0 := w) w.heap.size rfl (.tmp 26) (.tmp 27) 22 5 (.int .u8 0) 1 rfl Try.underlying22 info5 rfl (by decide) (by omega) _ ([] : List Int) x _ _ _ (fun _ => True) (fun _ => False) rfl rfl ?aO ?aR (fun _ _ h => h) (fun _ h => h.elim) ?aF ?aB ?aS ?aL ?_; (case aR => exact (Kd.C_below HR0.out HB.out)); (case aB => exact HB.out); (case aF => exact (fun _ _ => trivial)); (case aO => exact HO.out); (case aS => exact (below_size HB.out)); (case aL => have := HXL.out; simp; omega); intro v2 w2 ho hb hg hat; clear HO HB; have HB := Aside0.mk hb; obtain ⟨Ax, cx, ex⟩ := Kd.R_slice ho; subst ex; have HX : Aside0 (Kd.V (Kd.int .u8) 5 w2 0 (fun _ => True) (.slice Ax x.length cx) x) := ⟨Kd.V_mono (Kd.R_V (Kd.R_tight rfl ho)) (fun _ _ => trivial)⟩; clear ho hb hg hat) | (go_at_call 18; (with_reducible refine (K1.out _ Ax cx (Kd.V_reads' HX.out).2.2 (Kd.V_reads' HX.out).2.1).mono ?_); rintro e w3 ⟨g, rfl, hgs, how, hb⟩; have n1_ := Aside0.mk (Kd.V_mono (Kd.V_below (Kd.V_elderB HX.out g hgs) hb) (fun k hk => hk.2)); have n2_ := Aside0.mk (below_step HB.out hb); have HG := Aside0.mk (Nat.le_trans (below_size HB.out) hgs); clear HX HB; have HX := n1_; have HB := n2_; have HOW := Aside0.mk how; clear n1_ n2_ how hb hgs) | (go_at_call 18; (with_reducible refine (K2.out _ Ax cx (Kd.V_reads' HX.out).2.2 (Kd.V_reads' HX.out).2.1).mono ?_); rintro e w4 ⟨A2, c2_, rfl, hv, hb⟩; have n1_ := Aside0.mk (Kd.V_below HX.out hb); have n2_ := Aside0.mk (below_step HB.out hb); have n3_ := Aside0.mk (HOW.out.below hb); have H2 := Aside0.mk (Kd.V_mono (ok' := fun k => k ≠ g) hv (fun k hk => by have := HOW.out.lt; omega)); clear HX HB HOW; have HX := n1_; have HB := n2_; have HOW := n3_; clear n1_ n2_ n3_ hb hv) | (go_at_call 16; (with_reducible refine (K3.out _ Ax cx (Kd.V_reads' HX.out).2.2 (Kd.V_reads' HX.out).2.1).mono ?_); rintro e w5 ⟨A3, c3_, rfl, hv, hb⟩; have n1_ := Aside0.mk (Kd.V_below HX.out hb); have n2_ := Aside0.mk (below_step HB.out hb); have n3_ := Aside0.mk (HOW.out.below hb); have n4_ := Aside0.mk (Kd.V_below H2.out hb); have H3 := Aside0.mk (Kd.V_mono (ok' := fun k => k ≠ g) hv (fun k hk => by have := HOW.out.lt; omega)); clear HX HB HOW H2; have HX := n1_; have HB := n2_; have HOW := n3_; have H2 := n4_; clear n1_ n2_ n3_ n4_ hb hv) | (go_at_call 21; (with_reducible refine (new_f (some ⟨g, 0, none⟩) one.length one _ (HOW.out.C (by have := hol.out; have := HXL.out; omega)) (Nat.le_refl _) hob.out (by have := hol.out; have := HXL.out; omega)).mono ?_); rintro e w6 ⟨p, rfl, hp, hr, hb⟩; have n1_ := Aside0.mk (Kd.V_below (Kd.V_elderB HX.out p hp) hb); have n4_ := Aside0.mk (Kd.V_below (Kd.V_elderB H2.out p hp) hb); have n5_ := Aside0.mk (Kd.V_below (Kd.V_elderB H3.out p hp) hb); have n3_ := Aside0.mk (HOW.out.below hb); have HGL := Aside0.mk HOW.out.lt; have HP := Aside0.mk (Nat.le_trans (below_size HB.out) hp); have HGP : Aside0 (g < p) := ⟨Nat.lt_of_lt_of_le HGL.out hp⟩; have n2_ := Aside0.mk (below_step HB.out hb); have HRD := Aside0.mk hr; have HP5 := Aside0.mk hp; clear HX HB HOW H2 H3; have HX := n1_; have HB := n2_; have HOW := n3_; have H2 := n4_; have H3 := n5_; clear n1_ n2_ n3_ n4_ n5_ hb hr hp))
    go_loopg [15] one.length (fun kq v15 w' => ∃ x15 : Int, v15 = .int .i64 x15 ∧ Aside0 (0 ≤ x15 ∧ x15 + kq = (one.length : Int)) ∧ Aside0 (∃ ys, ys.length = one.length ∧ Ow g ys w') ∧ Aside0 (Puts g w6 w'))
    case atStart => exact ⟨0, rfl, ⟨by omega⟩, ⟨one, rfl, HOW.out⟩, ⟨Puts.refl _ _⟩⟩
    case round =>
      obtain ⟨x15, rfl, HXI, HYS, HPU⟩ := hrel
      by_cases d1 : x15 < (one.length : Int)
      · have d1b : decide (x15 < (one.length : Int)) = true := decide_eq_true d1
        obtain ⟨k1, rfl⟩ : ∃ k1, gk = k1 + 1 := ⟨gk - 1, by have := HXI.out; omega⟩
        obtain ⟨ys, hyl, hys⟩ := HYS.out
        obtain ⟨hc1, hf1⟩ := hys.at_ x15 HXI.out.1 (by omega)
        have p1 := eq_true HXI.out.1
        have q1 := eq_true d1
        have e15 : wrap64 (x15 + 1) = x15 + 1 := by have := hol.out; have := HXL.out; have := HXI.out; unfold wrap64; omega
        have HYW := Aside0.mk hys
        have HYL := Aside0.mk hyl
        clear d1 hyl hys
        go_wp2
        go_roundg k1
        case measure => omega
        case rel => exact ⟨x15 + 1, by rw [e15], ⟨by have := HXI.out; omega⟩, ⟨_, by rw [List.length_set]; exact HYL.out, HYW.out.put x15.toNat _⟩, ⟨HPU.out.set _ _⟩⟩
      · have d1b : decide (x15 < (one.length : Int)) = false := decide_eq_false d1
        clear d1
        have n1_ := Aside0.mk (Kd.V_mono (V_puts2 HX.out (fun k hk => hk.1) HPU.out) (fun k hk => hk.2))
        have n2_ := Aside0.mk (Kd.V_mono (V_puts2 H2.out (fun k hk => hk.1) HPU.out) (fun k hk => hk.2))
        have n3_ := Aside0.mk (Kd.V_mono (V_puts2 H3.out (fun k hk => hk.1) HPU.out) (fun k hk => hk.2))
        have n4_ := Aside0.mk (HRD.out.step (W1 := wr) (fun k hk hb => (HPU.out 0 (Nat.zero_le _)).2.2 k (by have := HGL.out; omega)) HP5.out)
        have n5_ := Aside0.mk (HPU.out.below HG.out HB.out)
        clear HX H2 H3 HRD HB HOW HYS HPU HXI
        have HX := n1_
        have H2 := n2_
        have H3 := n3_
        have HRD := n4_
        have HB := n5_
        clear n1_ n2_ n3_ n4_ n5_
        go_wp2
        obtain ⟨n8, hn8⟩ : ∃ n8, x.length / 8 = n8 := ⟨_, rfl⟩
        have hq : ((x.length : Int)).tdiv 8 = (n8 : Int) := by rw [← hn8]; rfl
        have hq2 : (x.length : Int) / 8 = (n8 : Int) := by omega
        have hq3 : wrap64 (n8 : Int) = (n8 : Int) := by (have := HXL.out); (have : n8 ≤ 5000 := by omega); (unfold wrap64; omega)
        have HN8 : Aside0 (8 * n8 ≤ x.length) := ⟨by omega⟩
        clear hn8
        go_loopg [16, 17] n8 (fun kq v16 v17 w' => ∃ (x17 : Int) (i c : Nat) (A : Option Addr) (gl : List Int), v17 = .int .i64 x17 ∧ v16 = .slice A gl.length c ∧ Aside0 (gl = x.take (8 * i)) ∧ Aside0 (x17 = (i : Int) ∧ i + kq = n8) ∧ Aside0 (Kd.V (Kd.int .u8) 5 w' 0 (fun k => k ≠ p) (.slice A gl.length c) gl) ∧ Aside0 (Kd.V (Kd.int .u8) 5 w' 0 (fun k => k ≠ p) (.slice Ax x.length cx) x) ∧ Aside0 (Kd.V (Kd.int .u8) 5 w' 0 (fun k => k ≠ p) (.slice A2 t2.length c2_) t2) ∧ Aside0 (Kd.V (Kd.int .u8) 5 w' 0 (fun k => k ≠ p) (.slice A3 t3.length c3_) t3) ∧ Aside0 (Rdr w5.heap.size p (one.drop (8 * i)) false w') ∧ Aside0 (Below w.heap.size w w'))
        case atStart => exact ⟨0, 0, 0, _, [], rfl, rfl, ⟨rfl⟩, ⟨⟨rfl, by omega⟩⟩, ⟨V_none _ _ _ _⟩, ⟨Kd.V_below HX.out (below_alloc (Below.refl _ _) _)⟩, ⟨Kd.V_below H2.out (below_alloc (Below.refl _ _) _)⟩, ⟨Kd.V_below H3.out (below_alloc (Below.refl _ _) _)⟩, ⟨HRD.out.below (below_alloc (Below.refl _ _) _)⟩, ⟨below_alloc HB.out _⟩⟩
        case round =>
          clear HX H2 H3 HRD HB
          obtain ⟨x17, i, cG, AG, gl, rfl, rfl, HGE, HI, HGT, HX, H2, H3, HRD, HB⟩ := hrel
          by_cases d2 : x17 < (n8 : Int)
          · have d2b : decide (x17 < (n8 : Int)) = true := decide_eq_true d2
            obtain ⟨k2, rfl⟩ : ∃ k2, gk = k2 + 1 := ⟨gk - 1, by have := HI.out; omega⟩
            have h8 : 8 ≤ (one.drop (8 * i)).length := by have := HI.out; have := HN8.out; have := hol.out; rw [List.length_drop]; omega
            have e17 : wrap64 (x17 + 1) = x17 + 1 := by have := HXL.out; have := HN8.out; have := HI.out; unfold wrap64; omega
            obtain ⟨gl2, hg2⟩ : ∃ gl2, gl ++ (one.drop (8 * i)).take 8 = gl2 := ⟨_, rfl⟩
            have HGE2 : Aside0 (gl2 = x.take (8 * (i + 1))) := ⟨by
              have := HI.out; have := HN8.out
              rw [← hg2, HGE.out, ← HON.out, List.drop_append_of_le_length (by omega), List.take_append_of_le_length (by rw [List.length_drop]; omega), Nat.mul_add, List.take_add]⟩
            have H8 := Aside0.mk h8
            have HG2 := Aside0.mk hg2
            clear d2 h8 hg2
            go_wp2_with (first | (go_at_call 25; (with_reducible refine (int_at _ HRD.out H8.out).mono ?_); rintro e w8 ⟨v8, rfl, hbe, hr, hp⟩; have n1_ := Aside0.mk (V_puts HX.out hp); have n2_ := Aside0.mk (V_puts H2.out hp); have n3_ := Aside0.mk (V_puts H3.out hp); have n4_ := Aside0.mk (V_puts HGT.out hp); have n5_ := Aside0.mk (hp.below HP.out HB.out); have HBE := Aside0.mk hbe; have HPP := Aside0.mk (rdr_lt hr); clear HX H2 H3 HGT HRD HB; have HX := n1_; have H2 := n2_; have H3 := n3_; have HGT := n4_; have HB := n5_; have HRD := Aside0.mk hr; clear n1_ n2_ n3_ n4_ n5_ hbe hr hp) | (go_at_call 18; have K5 := int_V AG cG gl v8 _ (Kd.V_reads' HGT.out).2.2 (Kd.V_reads' HGT.out).2.1 (by have := HXL.out; rw [HGE.out, List.length_take]; omega); rw [HBE.out, HG2.out] at K5; (with_reducible refine K5.mono ?_); clear K5; rintro e w9 ⟨A9, c9, rfl, hv, hb⟩; have n1_ := Aside0.mk (Kd.V_below HX.out hb); have n2_ := Aside0.mk (Kd.V_below H2.out hb); have n3_ := Aside0.mk (Kd.V_below H3.out hb); have n4_ := Aside0.mk (Kd.V_mono (ok' := fun k => k ≠ p) hv (fun k hk => by have := HPP.out; omega)); have n5_ := Aside0.mk (below_step HB.out hb); have n6_ := Aside0.mk (HRD.out.below hb); clear HX H2 H3 HGT HB HRD; have HX := n1_; have H2 := n2_; have H3 := n3_; have HGT := n4_; have HB := n5_; have HRD := n6_; clear n1_ n2_ n3_ n4_ n5_ n6_ hv hb))
            go_roundg k2
            case measure => omega
            case rel => exact ⟨x17 + 1, i + 1, _, _, gl2, by rw [e17], rfl, HGE2, ⟨by have := HI.out; omega⟩, HGT, HX, H2, H3, ⟨by have := HRD.out; rwa [List.drop_drop, ← Nat.mul_succ] at this⟩, HB⟩
          · have d2b : decide (x17 < (n8 : Int)) = false := decide_eq_false d2
            clear d2
            have hi : i = n8 := by have := HI.out; have := of_decide_eq_false d2b; omega
            subst hi
            have hgl : gl.length = 8 * i := by have := HN8.out; rw [HGE.out, List.length_take]; omega
            have hm8 : wrap64 ((i : Int) * 8) = (gl.length : Int) := by have := HXL.out; have := HN8.out; rw [hgl]; unfold wrap64; omega
            obtain ⟨i06, hi06, _, hsz6, _⟩ := info_parts info5
            have hcut6 := cut_to (P := Try.prog) 22 5 .i64 Try.underlying22 hi06 A0 x.length c0 (gl.length : Int) (by omega) (by have := HN8.out; omega) HC0.out
            rw [Int.toNat_natCast] at hcut6
            have HGC : Aside0 (Kd.C (Kd.int .u8) w A0 gl.length gl) := ⟨by
              have := Kd.C_take HR0.out (show 8 * i ≤ x.length from HN8.out)
              rw [← HGE.out] at this
              rwa [hgl] at this ⊢⟩
            have HH : Aside0 (HoldO w (fun k => k ≠ p) (.slice AG gl.length cG) (.slice Ax x.length cx) (.slice A2 t2.length c2_) (.slice A3 t3.length c3_) gl x t2 t3 wr) := ⟨⟨HB.out, HGT.out, HX.out, H2.out, H3.out⟩⟩
            clear HB HGT HX H2 H3 HRD HI HGE hi06 hsz6
            clear hgl
            go_upto_region 17 with (fail)
            refine start_ (n := 38) (S := fun w' => (convert 22 9 (.slice AG gl.length cG)).run Try.prog w' = .ok (.string (strOfNums gl)) w' ∧ (convert 22 9 (.slice A0 gl.length c0)).run Try.prog w' = .ok (.string (strOfNums gl)) w' ∧ (convert 22 9 (.slice Ax x.length cx)).run Try.prog w' = .ok (.string (strOfNums x)) w' ∧ (convert 22 9 (.slice A0 x.length c0)).run Try.prog w' = .ok (.string (strOfNums x)) w' ∧ (convert 22 9 (.slice A2 t2.length c2_)).run Try.prog w' = .ok (.string (strOfNums t2)) w' ∧ (convert 22 9 (.slice A3 t3.length c3_)).run Try.prog w' = .ok (.string (strOfNums t3)) w') (ds := []) #[false, false, false, false, false, false, false, false, false, false, false, false, false, false, false, false, false, false, false, false, false, false, false, false, false, false, false, false, false, false, false, false, false, false, false, false, false, false] (by kernel_rfl) rfl rfl (by have n_ := HH.out.go (below_drew (Below.refl _ _)); exact ⟨conv_C cG (Kd.V_reads' n_.g).2.2, conv_C c0 (Kd.C_below HGC.out n_.below), conv_C cx (Kd.V_reads' n_.x).2.2, conv_C c0 (Kd.C_below HR0.out n_.below), conv_C c2_ (Kd.V_reads' n_.t2).2.2, conv_C c3_ (Kd.V_reads' n_.t3).2.2⟩) (fun hHeld => ?_); refine with_tabW OctetOwn.tab17 OctetOwn.bits17 (fun HT_ HW_ => ?_)
            have n_ := Aside0.mk (HH.out.go (below_drew (Below.refl _ _)))
            clear HH
            have HH := n_
            clear n_
            generalize wr.drew = wz at HH hHeld ⊢
            refine one_ (i := 0) (N := some 67) #[true, false, false, false, false, false, false, false, false, false, false, false, false, false, false, false, false, false, false, false, false, false, false, false, false, false, false, false, false, false, false, false, false, false, false, false, false, false] rfl rfl (one_of HT_.out (by kernel_rfl)) (by decide) (fun K hK => ?_)
            refine goes_ Try.func17 (by kernel_rfl) rfl #[] (by rfl) rfl rfl (by (try simp only [List.map_toArray, List.map_cons, List.map_nil]); first | done | rfl | (simp only [List.length_drop, List.length_take]; rfl)) ?_
            with_reducible refine (prebendlaw03_awake.true_ _).mono ?_
            rintro e wq0 ⟨rfl, hb⟩; have n_ := Aside0.mk (HH.out.go hb); clear HH; have HH := n_; clear n_ hb
            refine ⟨_, rfl, ?_⟩
            refine hK.out _ _ ⟨conv_C cG (Kd.V_reads' HH.out.g).2.2, conv_C c0 (Kd.C_below HGC.out HH.out.below), conv_C cx (Kd.V_reads' HH.out.x).2.2, conv_C c0 (Kd.C_below HR0.out HH.out.below), conv_C c2_ (Kd.V_reads' HH.out.t2).2.2, conv_C c3_ (Kd.V_reads' HH.out.t3).2.2⟩ (fun hHeld => ?_)
            clear hK K
            refine norm_ (a' := ?_) ?_ ?_
            rotate_left
            · show Act.put _ (some 67) _ = _
              simp only [Act.put, List.setIfInBounds_toArray, List.set_cons_zero, List.set_cons_succ, i64_w, i32_w]
              rfl
            refine pure_ (i := 1) (N := some 68) (v := ?_) (a' := ?_) #[true, true, false, false, false, false, false, false, false, false, false, false, false, false, false, false, false, false, false, false, false, false, false, false, false, false, false, false, false, false, false, false, false, false, false, false, false, false] rfl rfl (any_of HT_.out (by kernel_rfl)) (fun _ _ _ h => h) (Or.inl ⟨by rfl, ?_⟩) ?_ ?_
            rotate_left
            · intro w'
              go_simp
              with_reducible rfl
            rotate_left
            · simp only [Act.put, List.setIfInBounds_toArray, List.set_cons_zero, List.set_cons_succ, i64_w, i32_w]
              rfl
            refine pure_ (i := 2) (N := some 69) (v := ?_) (a' := ?_) #[true, true, true, false, false, false, false, false, false, false, false, false, false, false, false, false, false, false, false, false, false, false, false, false, false, false, false, false, false, false, false, false, false, false, false, false, false, false] rfl rfl (any_of HT_.out (by kernel_rfl)) (fun _ _ _ h => h) (Or.inl ⟨by rfl, ?_⟩) ?_ ?_
            rotate_left
            · intro w'
              go_simp
              with_reducible rfl
            rotate_left
            · simp only [Act.put, List.setIfInBounds_toArray, List.set_cons_zero, List.set_cons_succ, i64_w, i32_w]
              rfl
            refine take_ (i := 3) (N := some 70) (v := ?_) (a' := ?_) #[true, true, true, true, false, false, false, false, false, false, false, false, false, false, false, false, false, false, false, false, false, false, false, false, false, false, false, false, false, false, false, false, false, false, false, false, false, false] rfl rfl (take_ofW HT_.out HW_.out (by kernel_rfl)) (fun _ _ _ h => h) (Or.inl ⟨by rfl, ?_⟩) hHeld ?_ ?_
            rotate_left
            · rintro w' hs_
              obtain ⟨s0, s1, s2, s3, s4, s5⟩ := hs_
              go_simp
              with_reducible rfl
            rotate_left
            · simp only [Act.put, List.setIfInBounds_toArray, List.set_cons_zero, List.set_cons_succ, i64_w, i32_w]
              rfl
            refine pure_ (i := 4) (N := some 71) (v := ?_) (a' := ?_) #[true, true, true, true, true, false, false, false, false, false, false, false, false, false, false, false, false, false, false, false, false, false, false, false, false, false, false, false, false, false, false, false, false, false, false, false, false, false] rfl rfl (any_of HT_.out (by kernel_rfl)) (fun _ _ _ h => h) (Or.inl ⟨by rfl, ?_⟩) ?_ ?_
            rotate_left
            · intro w'
              go_simp
              with_reducible rfl
            rotate_left
            · simp only [Act.put, List.setIfInBounds_toArray, List.set_cons_zero, List.set_cons_succ, i64_w, i32_w]
              rfl
            refine pure_ (i := 5) (N := some 72) (v := ?_) (a' := ?_) #[true, true, true, true, true, true, false, false, false, false, false, false, false, false, false, false, false, false, false, false, false, false, false, false, false, false, false, false, false, false, false, false, false, false, false, false, false, false] rfl rfl (any_of HT_.out (by kernel_rfl)) (fun _ _ _ h => h) (Or.inl ⟨by rfl, ?_⟩) ?_ ?_
            rotate_left
            · intro w'
              go_simp
              with_reducible rfl
            rotate_left
            · simp only [Act.put, List.setIfInBounds_toArray, List.set_cons_zero, List.set_cons_succ, i64_w, i32_w]
              rfl
            refine pure_ (i := 6) (N := some 73) (v := ?_) (a' := ?_) #[true, true, true, true, true, true, true, false, false, false, false, false, false, false, false, false, false, false, false, false, false, false, false, false, false, false, false, false, false, false, false, false, false, false, false, false, false, false] rfl rfl (any_of HT_.out (by kernel_rfl)) (fun _ _ _ h => h) (Or.inl ⟨by rfl, ?_⟩) ?_ ?_
            rotate_left
            · intro w'
              go_simp
              with_reducible rfl
            rotate_left
            · simp only [Act.put, List.setIfInBounds_toArray, List.set_cons_zero, List.set_cons_succ, i64_w, i32_w]
              rfl
            refine pure_ (i := 7) (N := some 74) (v := ?_) (a' := ?_) #[true, true, true, true, true, true, true, true, false, false, false, false, false, false, false, false, false, false, false, false, false, false, false, false, false, false, false, false, false, false, false, false, false, false, false, false, false, false] rfl rfl (any_of HT_.out (by kernel_rfl)) (fun _ _ _ h => h) (Or.inl ⟨by rfl, ?_⟩) ?_ ?_
            rotate_left
            · intro w'
              go_simp
              with_reducible rfl
            rotate_left
            · simp only [Act.put, List.setIfInBounds_toArray, List.set_cons_zero, List.set_cons_succ, i64_w, i32_w]
              rfl
            refine pure_ (i := 8) (N := some 75) (v := ?_) (a' := ?_) #[true, true, true, true, true, true, true, true, true, false, false, false, false, false, false, false, false, false, false, false, false, false, false, false, false, false, false, false, false, false, false, false, false, false, false, false, false, false] rfl rfl (any_of HT_.out (by kernel_rfl)) (fun _ _ _ h => h) (Or.inl ⟨by rfl, ?_⟩) ?_ ?_
            rotate_left
            · intro w'
              go_simp
              with_reducible rfl
            rotate_left
            · simp only [Act.put, List.setIfInBounds_toArray, List.set_cons_zero, List.set_cons_succ, i64_w, i32_w]
              rfl
            refine pure_ (i := 9) (N := some 76) (v := ?_) (a' := ?_) #[true, true, true, true, true, true, true, true, true, true, false, false, false, false, false, false, false, false, false, false, false, false, false, false, false, false, false, false, false, false, false, false, false, false, false, false, false, false] rfl rfl (any_of HT_.out (by kernel_rfl)) (fun _ _ _ h => h) (Or.inl ⟨by rfl, ?_⟩) ?_ ?_
            rotate_left
            · intro w'
              go_simp
              with_reducible rfl
            rotate_left
            · simp only [Act.put, List.setIfInBounds_toArray, List.set_cons_zero, List.set_cons_succ, i64_w, i32_w]
              rfl
            refine take_ (i := 10) (N := some 77) (v := ?_) (a' := ?_) #[true, true, true, true, true, true, true, true, true, true, true, false, false, false, false, false, false, false, false, false, false, false, false, false, false, false, false, false, false, false, false, false, false, false, false, false, false, false] rfl rfl (take_ofW HT_.out HW_.out (by kernel_rfl)) (fun _ _ _ h => h) (Or.inl ⟨by rfl, ?_⟩) hHeld ?_ ?_
            rotate_left
            · rintro w' hs_
              obtain ⟨s0, s1, s2, s3, s4, s5⟩ := hs_
              go_simp
              with_reducible rfl
            rotate_left
            · simp only [Act.put, List.setIfInBounds_toArray, List.set_cons_zero, List.set_cons_succ, i64_w, i32_w]
              rfl
            refine pure_ (i := 11) (N := some 78) (v := ?_) (a' := ?_) #[true, true, true, true, true, true, true, true, true, true, true, true, false, false, false, false, false, false, false, false, false, false, false, false, false, false, false, false, false, false, false, false, false, false, false, false, false, false] rfl rfl (any_of HT_.out (by kernel_rfl)) (fun _ _ _ h => h) (Or.inl ⟨by rfl, ?_⟩) ?_ ?_
            rotate_left
            · intro w'
              go_simp
              with_reducible rfl
            rotate_left
            · simp only [Act.put, List.setIfInBounds_toArray, List.set_cons_zero, List.set_cons_succ, i64_w, i32_w]
              rfl
            refine pure_ (i := 12) (N := some 79) (v := ?_) (a' := ?_) #[true, true, true, true, true, true, true, true, true, true, true, true, true, false, false, false, false, false, false, false, false, false, false, false, false, false, false, false, false, false, false, false, false, false, false, false, false, false] rfl rfl (any_of HT_.out (by kernel_rfl)) (fun _ _ _ h => h) (Or.inl ⟨by rfl, ?_⟩) ?_ ?_
            rotate_left
            · intro w'
              go_simp
              with_reducible rfl
            rotate_left
            · simp only [Act.put, List.setIfInBounds_toArray, List.set_cons_zero, List.set_cons_succ, i64_w, i32_w]
              rfl
            refine pure_ (i := 13) (N := some 80) (v := ?_) (a' := ?_) #[true, true, true, true, true, true, true, true, true, true, true, true, true, true, false, false, false, false, false, false, false, false, false, false, false, false, false, false, false, false, false, false, false, false, false, false, false, false] rfl rfl (any_of HT_.out (by kernel_rfl)) (fun _ _ _ h => h) (Or.inl ⟨by rfl, ?_⟩) ?_ ?_
            rotate_left
            · intro w'
              go_simp
              with_reducible rfl
            rotate_left
            · simp only [Act.put, List.setIfInBounds_toArray, List.set_cons_zero, List.set_cons_succ, i64_w, i32_w]
              rfl
            refine pure_ (i := 14) (N := some 81) (v := ?_) (a' := ?_) #[true, true, true, true, true, true, true, true, true, true, true, true, true, true, true, false, false, false, false, false, false, false, false, false, false, false, false, false, false, false, false, false, false, false, false, false, false, false] rfl rfl (any_of HT_.out (by kernel_rfl)) (fun _ _ _ h => h) (Or.inl ⟨by rfl, ?_⟩) ?_ ?_
            rotate_left
            · intro w'
              go_simp
              with_reducible rfl
            rotate_left
            · simp only [Act.put, List.setIfInBounds_toArray, List.set_cons_zero, List.set_cons_succ, i64_w, i32_w]
              rfl
            refine take_ (i := 15) (N := some 82) (v := ?_) (a' := ?_) #[true, true, true, true, true, true, true, true, true, true, true, true, true, true, true, true, false, false, false, false, false, false, false, false, false, false, false, false, false, false, false, false, false, false, false, false, false, false] rfl rfl (take_ofW HT_.out HW_.out (by kernel_rfl)) (fun _ _ _ h => h) (Or.inl ⟨by rfl, ?_⟩) hHeld ?_ ?_
            rotate_left
            · rintro w' hs_
              obtain ⟨s0, s1, s2, s3, s4, s5⟩ := hs_
              go_simp
              with_reducible rfl
            rotate_left
            · simp only [Act.put, List.setIfInBounds_toArray, List.set_cons_zero, List.set_cons_succ, i64_w, i32_w]
              rfl
            refine pure_ (i := 16) (N := some 83) (v := ?_) (a' := ?_) #[true, true, true, true, true, true, true, true, true, true, true, true, true, true, true, true, true, false, false, false, false, false, false, false, false, false, false, false, false, false, false, false, false, false, false, false, false, false] rfl rfl (any_of HT_.out (by kernel_rfl)) (fun _ _ _ h => h) (Or.inl ⟨by rfl, ?_⟩) ?_ ?_
            rotate_left
            · intro w'
              go_simp
              with_reducible rfl
            rotate_left
            · simp only [Act.put, List.setIfInBounds_toArray, List.set_cons_zero, List.set_cons_succ, i64_w, i32_w]
              rfl
            refine take_ (i := 17) (N := some 84) (v := ?_) (a' := ?_) #[true, true, true, true, true, true, true, true, true, true, true, true, true, true, true, true, true, true, false, false, false, false, false, false, false, false, false, false, false, false, false, false, false, false, false, false, false, false] rfl rfl (take_ofW HT_.out HW_.out (by kernel_rfl)) (fun _ _ _ h => h) (Or.inl ⟨by rfl, ?_⟩) hHeld ?_ ?_
            rotate_left
            · rintro w' hs_
              obtain ⟨s0, s1, s2, s3, s4, s5⟩ := hs_
              go_simp
              with_reducible rfl
            rotate_left
            · simp only [Act.put, List.setIfInBounds_toArray, List.set_cons_zero, List.set_cons_succ, i64_w, i32_w]
              rfl
            refine pure_ (i := 18) (N := some 85) (v := ?_) (a' := ?_) #[true, true, true, true, true, true, true, true, true, true, true, true, true, true, true, true, true, true, true, false, false, false, false, false, false, false, false, false, false, false, false, false, false, false, false, false, false, false] rfl rfl (any_of HT_.out (by kernel_rfl)) (fun _ _ _ h => h) (Or.inl ⟨by rfl, ?_⟩) ?_ ?_
            rotate_left
            · intro w'
              go_simp
              with_reducible rfl
            rotate_left
            · simp only [Act.put, List.setIfInBounds_toArray, List.set_cons_zero, List.set_cons_succ, i64_w, i32_w]
              rfl
            refine pure_ (i := 19) (N := some 86) (v := ?_) (a' := ?_) #[true, true, true, true, true, true, true, true, true, true, true, true, true, true, true, true, true, true, true, true, false, false, false, false, false, false, false, false, false, false, false, false, false, false, false, false, false, false] rfl rfl (any_of HT_.out (by kernel_rfl)) (fun _ _ _ h => h) (Or.inl ⟨by rfl, ?_⟩) ?_ ?_
            rotate_left
            · intro w'
              go_simp
              with_reducible rfl
            rotate_left
            · simp only [Act.put, List.setIfInBounds_toArray, List.set_cons_zero, List.set_cons_succ, i64_w, i32_w]
              rfl
            refine pure_ (i := 20) (N := some 87) (v := ?_) (a' := ?_) #[true, true, true, true, true, true, true, true, true, true, true, true, true, true, true, true, true, true, true, true, true, false, false, false, false, false, false, false, false, false, false, false, false, false, false, false, false, false] rfl rfl (any_of HT_.out (by kernel_rfl)) (fun _ _ _ h => h) (Or.inl ⟨by rfl, ?_⟩) ?_ ?_
            rotate_left
            · intro w'
              go_simp
              with_reducible rfl
            rotate_left
            · simp only [Act.put, List.setIfInBounds_toArray, List.set_cons_zero, List.set_cons_succ, i64_w, i32_w]
              rfl
            refine pure_ (i := 21) (N := some 88) (v := ?_) (a' := ?_) #[true, true, true, true, true, true, true, true, true, true, true, true, true, true, true, true, true, true, true, true, true, true, false, false, false, false, false, false, false, false, false, false, false, false, false, false, false, false] rfl rfl (any_of HT_.out (by kernel_rfl)) (fun _ _ _ h => h) (Or.inl ⟨by rfl, ?_⟩) ?_ ?_
            rotate_left
            · intro w'
              go_simp
              with_reducible rfl
            rotate_left
            · simp only [Act.put, List.setIfInBounds_toArray, List.set_cons_zero, List.set_cons_succ, i64_w, i32_w]
              rfl
            refine take_ (i := 22) (N := some 89) (v := ?_) (a' := ?_) #[true, true, true, true, true, true, true, true, true, true, true, true, true, true, true, true, true, true, true, true, true, true, true, false, false, false, false, false, false, false, false, false, false, false, false, false, false, false] rfl rfl (take_ofW HT_.out HW_.out (by kernel_rfl)) (fun _ _ _ h => h) (Or.inl ⟨by rfl, ?_⟩) hHeld ?_ ?_
            rotate_left
            · rintro w' hs_
              obtain ⟨s0, s1, s2, s3, s4, s5⟩ := hs_
              go_simp
              with_reducible rfl
            rotate_left
            · simp only [Act.put, List.setIfInBounds_toArray, List.set_cons_zero, List.set_cons_succ, i64_w, i32_w]
              rfl
            refine pure_ (i := 23) (N := some 90) (v := ?_) (a' := ?_) #[true, true, true, true, true, true, true, true, true, true, true, true, true, true, true, true, true, true, true, true, true, true, true, true, false, false, false, false, false, false, false, false, false, false, false, false, false, false] rfl rfl (any_of HT_.out (by kernel_rfl)) (fun _ _ _ h => h) (Or.inl ⟨by rfl, ?_⟩) ?_ ?_
            rotate_left
            · intro w'
              go_simp
              with_reducible rfl
            rotate_left
            · simp only [Act.put, List.setIfInBounds_toArray, List.set_cons_zero, List.set_cons_succ, i64_w, i32_w]
              rfl
            refine pure_ (i := 24) (N := some 91) (v := ?_) (a' := ?_) #[true, true, true, true, true, true, true, true, true, true, true, true, true, true, true, true, true, true, true, true, true, true, true, true, true, false, false, false, false, false, false, false, false, false, false, false, false, false] rfl rfl (any_of HT_.out (by kernel_rfl)) (fun _ _ _ h => h) (Or.inl ⟨by rfl, ?_⟩) ?_ ?_
            rotate_left
            · intro w'
              go_simp
              with_reducible rfl
            rotate_left
            · simp only [Act.put, List.setIfInBounds_toArray, List.set_cons_zero, List.set_cons_succ, i64_w, i32_w]
              rfl
            refine one_ (i := 25) (N := some 92) #[true, true, true, true, true, true, true, true, true, true, true, true, true, true, true, true, true, true, true, true, true, true, true, true, true, true, false, false, false, false, false, false, false, false, false, false, false, false] rfl rfl (one_of HT_.out (by kernel_rfl)) (by decide) (fun K hK => ?_)
            refine goes_ Try.func19 (by kernel_rfl) rfl #[.slice A0 x.length c0, .int .i64 a2] (by rfl) rfl rfl (by (try simp only [List.map_toArray, List.map_cons, List.map_nil]); first | done | rfl | (simp only [List.length_drop, List.length_take]; rfl)) ?_
            with_reducible refine (prebendref03_Int.calls 9 A0 c0 x a2 t2 _ (Kd.C_below HR0.out HH.out.below) HC0.out HREF.out).mono ?_
            rintro e wq1 ⟨v4, rfl, hr, hb⟩; obtain ⟨A4, c4, e4, hc4, hC4⟩ := Kd.R_reads hr; subst e4; have HC4 := Aside0.mk hC4; clear hr hc4 hC4; have n_ := Aside0.mk (HH.out.go hb); clear HH; have HH := n_; clear n_ hb
            refine ⟨_, rfl, ?_⟩
            refine hK.out _ _ ⟨conv_C cG (Kd.V_reads' HH.out.g).2.2, conv_C c0 (Kd.C_below HGC.out HH.out.below), conv_C cx (Kd.V_reads' HH.out.x).2.2, conv_C c0 (Kd.C_below HR0.out HH.out.below), conv_C c2_ (Kd.V_reads' HH.out.t2).2.2, conv_C c3_ (Kd.V_reads' HH.out.t3).2.2⟩ (fun hHeld => ?_)
            clear hK K
            refine norm_ (a' := ?_) ?_ ?_
            rotate_left
            · show Act.put _ (some 92) _ = _
              simp only [Act.put, List.setIfInBounds_toArray, List.set_cons_zero, List.set_cons_succ, i64_w, i32_w]
              rfl
            refine one_ (i := 26) (N := some 93) #[true, true, true, true, true, true, true, true, true, true, true, true, true, true, true, true, true, true, true, true, true, true, true, true, true, true, true, false, false, false, false, false, false, false, false, false, false, false] rfl rfl (one_of HT_.out (by kernel_rfl)) (by decide) (fun K hK => ?_)
            have hcv4 := conv_C c4 HC4.out
            refine value_ (v := .string (strOfNums t2)) (w1 := wq1) (by rfl) rfl ?_ ?_
            · first | (go_simp; done) | (go_simp; rfl)
            refine hK.out _ _ ⟨conv_C cG (Kd.V_reads' HH.out.g).2.2, conv_C c0 (Kd.C_below HGC.out HH.out.below), conv_C cx (Kd.V_reads' HH.out.x).2.2, conv_C c0 (Kd.C_below HR0.out HH.out.below), conv_C c2_ (Kd.V_reads' HH.out.t2).2.2, conv_C c3_ (Kd.V_reads' HH.out.t3).2.2⟩ (fun hHeld => ?_)
            clear hK K
            refine norm_ (a' := ?_) ?_ ?_
            rotate_left
            · show Act.put _ (some 93) _ = _
              simp only [Act.put, List.setIfInBounds_toArray, List.set_cons_zero, List.set_cons_succ, i64_w, i32_w]
              rfl
            refine pure_ (i := 27) (N := some 94) (v := ?_) (a' := ?_) #[true, true, true, true, true, true, true, true, true, true, true, true, true, true, true, true, true, true, true, true, true, true, true, true, true, true, true, true, false, false, false, false, false, false, false, false, false, false] rfl rfl (any_of HT_.out (by kernel_rfl)) (fun _ _ _ h => h) (Or.inl ⟨by rfl, ?_⟩) ?_ ?_
            rotate_left
            · intro w'
              go_simp
              with_reducible rfl
            rotate_left
            · simp only [Act.put, List.setIfInBounds_toArray, List.set_cons_zero, List.set_cons_succ, i64_w, i32_w]
              rfl
            refine pure_ (i := 28) (N := some 95) (v := ?_) (a' := ?_) #[true, true, true, true, true, true, true, true, true, true, true, true, true, true, true, true, true, true, true, true, true, true, true, true, true, true, true, true, true, false, false, false, false, false, false, false, false, false] rfl rfl (any_of HT_.out (by kernel_rfl)) (fun _ _ _ h => h) (Or.inl ⟨by rfl, ?_⟩) ?_ ?_
            rotate_left
            · intro w'
              go_simp
              with_reducible rfl
            rotate_left
            · simp only [Act.put, List.setIfInBounds_toArray, List.set_cons_zero, List.set_cons_succ, i64_w, i32_w]
              rfl
            refine pure_ (i := 29) (N := some 96) (v := ?_) (a' := ?_) #[true, true, true, true, true, true, true, true, true, true, true, true, true, true, true, true, true, true, true, true, true, true, true, true, true, true, true, true, true, true, false, false, false, false, false, false, false, false] rfl rfl (any_of HT_.out (by kernel_rfl)) (fun _ _ _ h => h) (Or.inl ⟨by rfl, ?_⟩) ?_ ?_
            rotate_left
            · intro w'
              go_simp
              with_reducible rfl
            rotate_left
            · simp only [Act.put, List.setIfInBounds_toArray, List.set_cons_zero, List.set_cons_succ, i64_w, i32_w]
              rfl
            refine pure_ (i := 30) (N := some 97) (v := ?_) (a' := ?_) #[true, true, true, true, true, true, true, true, true, true, true, true, true, true, true, true, true, true, true, true, true, true, true, true, true, true, true, true, true, true, true, false, false, false, false, false, false, false] rfl rfl (any_of HT_.out (by kernel_rfl)) (fun _ _ _ h => h) (Or.inl ⟨by rfl, ?_⟩) ?_ ?_
            rotate_left
            · intro w'
              go_simp
              with_reducible rfl
            rotate_left
            · simp only [Act.put, List.setIfInBounds_toArray, List.set_cons_zero, List.set_cons_succ, i64_w, i32_w]
              rfl
            refine take_ (i := 31) (N := some 98) (v := ?_) (a' := ?_) #[true, true, true, true, true, true, true, true, true, true, true, true, true, true, true, true, true, true, true, true, true, true, true, true, true, true, true, true, true, true, true, true, false, false, false, false, false, false] rfl rfl (take_ofW HT_.out HW_.out (by kernel_rfl)) (fun _ _ _ h => h) (Or.inl ⟨by rfl, ?_⟩) hHeld ?_ ?_
            rotate_left
            · rintro w' hs_
              obtain ⟨s0, s1, s2, s3, s4, s5⟩ := hs_
              go_simp
              with_reducible rfl
            rotate_left
            · simp only [Act.put, List.setIfInBounds_toArray, List.set_cons_zero, List.set_cons_succ, i64_w, i32_w]
              rfl
            refine pure_ (i := 32) (N := some 99) (v := ?_) (a' := ?_) #[true, true, true, true, true, true, true, true, true, true, true, true, true, true, true, true, true, true, true, true, true, true, true, true, true, true, true, true, true, true, true, true, true, false, false, false, false, false] rfl rfl (any_of HT_.out (by kernel_rfl)) (fun _ _ _ h => h) (Or.inl ⟨by rfl, ?_⟩) ?_ ?_
            rotate_left
            · intro w'
              go_simp
              with_reducible rfl
            rotate_left
            · simp only [Act.put, List.setIfInBounds_toArray, List.set_cons_zero, List.set_cons_succ, i64_w, i32_w]
              rfl
            refine one_ (i := 33) (N := some 100) #[true, true, true, true, true, true, true, true, true, true, true, true, true, true, true, true, true, true, true, true, true, true, true, true, true, true, true, true, true, true, true, true, true, true, false, false, false, false] rfl rfl (one_of HT_.out (by kernel_rfl)) (by decide) (fun K hK => ?_)
            refine goes_ Try.func20 (by kernel_rfl) rfl #[.slice A0 x.length c0, .string ⟨#[122]⟩] (by rfl) rfl rfl (by (try simp only [List.map_toArray, List.map_cons, List.map_nil]); first | done | rfl | (simp only [List.length_drop, List.length_take]; rfl)) ?_
            with_reducible refine (prebendref03_Text.calls A0 c0 x ⟨#[122]⟩ t3 _ (Kd.C_below HR0.out HH.out.below) HC0.out HREZ.out).mono ?_
            rintro e wq2 ⟨v5, rfl, hr, hb⟩; obtain ⟨A5, c5, e5, hc5, hC5⟩ := Kd.R_reads hr; subst e5; have HC5 := Aside0.mk hC5; clear hr hc5 hC5; have n_ := Aside0.mk (HH.out.go hb); clear HH; have HH := n_; clear n_ hb
            refine ⟨_, rfl, ?_⟩
            refine hK.out _ _ ⟨conv_C cG (Kd.V_reads' HH.out.g).2.2, conv_C c0 (Kd.C_below HGC.out HH.out.below), conv_C cx (Kd.V_reads' HH.out.x).2.2, conv_C c0 (Kd.C_below HR0.out HH.out.below), conv_C c2_ (Kd.V_reads' HH.out.t2).2.2, conv_C c3_ (Kd.V_reads' HH.out.t3).2.2⟩ (fun hHeld => ?_)
            clear hK K
            refine norm_ (a' := ?_) ?_ ?_
            rotate_left
            · show Act.put _ (some 100) _ = _
              simp only [Act.put, List.setIfInBounds_toArray, List.set_cons_zero, List.set_cons_succ, i64_w, i32_w]
              rfl
            refine one_ (i := 34) (N := some 101) #[true, true, true, true, true, true, true, true, true, true, true, true, true, true, true, true, true, true, true, true, true, true, true, true, true, true, true, true, true, true, true, true, true, true, true, false, false, false] rfl rfl (one_of HT_.out (by kernel_rfl)) (by decide) (fun K hK => ?_)
            have hcv5 := conv_C c5 HC5.out
            refine value_ (v := .string (strOfNums t3)) (w1 := wq2) (by rfl) rfl ?_ ?_
            · first | (go_simp; done) | (go_simp; rfl)
            refine hK.out _ _ ⟨conv_C cG (Kd.V_reads' HH.out.g).2.2, conv_C c0 (Kd.C_below HGC.out HH.out.below), conv_C cx (Kd.V_reads' HH.out.x).2.2, conv_C c0 (Kd.C_below HR0.out HH.out.below), conv_C c2_ (Kd.V_reads' HH.out.t2).2.2, conv_C c3_ (Kd.V_reads' HH.out.t3).2.2⟩ (fun hHeld => ?_)
            clear hK K
            refine norm_ (a' := ?_) ?_ ?_
            rotate_left
            · show Act.put _ (some 101) _ = _
              simp only [Act.put, List.setIfInBounds_toArray, List.set_cons_zero, List.set_cons_succ, i64_w, i32_w]
              rfl
            refine pure_ (i := 35) (N := some 102) (v := ?_) (a' := ?_) #[true, true, true, true, true, true, true, true, true, true, true, true, true, true, true, true, true, true, true, true, true, true, true, true, true, true, true, true, true, true, true, true, true, true, true, true, false, false] rfl rfl (any_of HT_.out (by kernel_rfl)) (fun _ _ _ h => h) (Or.inl ⟨by rfl, ?_⟩) ?_ ?_
            rotate_left
            · intro w'
              go_simp
              with_reducible rfl
            rotate_left
            · simp only [Act.put, List.setIfInBounds_toArray, List.set_cons_zero, List.set_cons_succ, i64_w, i32_w]
              rfl
            refine pure_ (i := 36) (N := some 103) (v := ?_) (a' := ?_) #[true, true, true, true, true, true, true, true, true, true, true, true, true, true, true, true, true, true, true, true, true, true, true, true, true, true, true, true, true, true, true, true, true, true, true, true, true, false] rfl rfl (any_of HT_.out (by kernel_rfl)) (fun _ _ _ h => h) (Or.inl ⟨by rfl, ?_⟩) ?_ ?_
            rotate_left
            · intro w'
              go_simp
              with_reducible rfl
            rotate_left
            · simp only [Act.put, List.setIfInBounds_toArray, List.set_cons_zero, List.set_cons_succ, i64_w, i32_w]
              rfl
            refine pure_ (i := 37) (N := some 8) (v := ?_) (a' := ?_) #[true, true, true, true, true, true, true, true, true, true, true, true, true, true, true, true, true, true, true, true, true, true, true, true, true, true, true, true, true, true, true, true, true, true, true, true, true, true] rfl rfl (any_of HT_.out (by kernel_rfl)) (fun _ _ _ h => h) (Or.inl ⟨by rfl, ?_⟩) ?_ ?_
            rotate_left
            · intro w'
              go_simp
              with_reducible rfl
            rotate_left
            · simp only [Act.put, List.setIfInBounds_toArray, List.set_cons_zero, List.set_cons_succ, i64_w, i32_w]
              rfl
            refine done_ (done_of HT_.out (by kernel_rfl)) ?_
            try go_wp2
            go_ret
            exact ⟨by simp, HH.out.below⟩
  · have c1 : decide (5000 < (l0.length : Int)) = false := decide_eq_false h
    have c2 : decide (5000 < l0.length) = false := decide_eq_false (by omega)
    have ee : x = l0 := by rw [← hx, List.take_of_length_le (by omega)]
    subst ee
    clear hx h hc0 y0 hxl
    go_enter Try.func6, Try.ntmps6
    go_wp2_with (first | ((with_reducible refine gate_dst (N := 26) rfl ?_); refine wpList_make_own _ rfl (.const (.int .i64 0)) (.tmp 25) 22 (by rfl) w.heap.size 5 i5 (.int .u8 0) 1 Try.underlying22 HI5.out.1 HI5.out.2.1 HI5.out.2.2.1 .i64 .i64 _ (x.length + 64) (by rfl) (by rfl) e64 (by have := HXL.out; rw [HI5.out.2.2.2]; omega) (by have := HXL.out; unfold maxLen; omega) (Nat.le_refl _) ?_; intro w1 hown hg; have ho : Kd.R (Kd.int .u8) 5 w1 w.heap.size (fun _ => True) _ ([] : List Int) := Kd.R_of_own (h1 := fun _ => rfl) hown (fun _ _ => trivial); have hb := Below.grown (Below.refl w.heap.size w) hg (Nat.le_refl _) (fun _ h => by cases h); clear HB; have HB := Aside0.mk hb; have HO := Aside0.mk ho; clear hb ho hown hg) | ((with_reducible refine gate_builtin (b := .append) (xs := #[.tmp 26, .tmp 27]) rfl ?_); at_builtin; refine Kd.R_append_rows (Kd.int .u8) (w0 := w) w.heap.size rfl (.tmp 26) (.tmp 27) 22 5 (.int .u8 0) 1 rfl Try.underlying22 info5 rfl (by decide) (by omega) _ ([] : List Int) x _ _ _ (fun _ => True) (fun _ => False) rfl rfl ?aO ?aR (fun _ _ h => h) (fun _ h => h.elim) ?aF ?aB ?aS ?aL ?_; (case aR => exact (Kd.C_below HR0.out HB.out)); (case aB => exact HB.out); (case aF => exact (fun _ _ => trivial)); (case aO => exact HO.out); (case aS => exact (below_size HB.out)); (case aL => have := HXL.out; simp; omega); intro v2 w2 ho hb hg hat; clear HO HB; have HB := Aside0.mk hb; obtain ⟨Ax, cx, ex⟩ := Kd.R_slice ho; subst ex; have HX : Aside0 (Kd.V (Kd.int .u8) 5 w2 0 (fun _ => True) (.slice Ax x.length cx) x) := ⟨Kd.V_mono (Kd.R_V (Kd.R_tight rfl ho)) (fun _ _ => trivial)⟩; clear ho hb hg hat) | (go_at_call 18; (with_reducible refine (K1.out _ Ax cx (Kd.V_reads' HX.out).2.2 (Kd.V_reads' HX.out).2.1).mono ?_); rintro e w3 ⟨g, rfl, hgs, how, hb⟩; have n1_ := Aside0.mk (Kd.V_mono (Kd.V_below (Kd.V_elderB HX.out g hgs) hb) (fun k hk => hk.2)); have n2_ := Aside0.mk (below_step HB.out hb); have HG := Aside0.mk (Nat.le_trans (below_size HB.out) hgs); clear HX HB; have HX := n1_; have HB := n2_; have HOW := Aside0.mk how; clear n1_ n2_ how hb hgs) | (go_at_call 18; (with_reducible refine (K2.out _ Ax cx (Kd.V_reads' HX.out).2.2 (Kd.V_reads' HX.out).2.1).mono ?_); rintro e w4 ⟨A2, c2_, rfl, hv, hb⟩; have n1_ := Aside0.mk (Kd.V_below HX.out hb); have n2_ := Aside0.mk (below_step HB.out hb); have n3_ := Aside0.mk (HOW.out.below hb); have H2 := Aside0.mk (Kd.V_mono (ok' := fun k => k ≠ g) hv (fun k hk => by have := HOW.out.lt; omega)); clear HX HB HOW; have HX := n1_; have HB := n2_; have HOW := n3_; clear n1_ n2_ n3_ hb hv) | (go_at_call 16; (with_reducible refine (K3.out _ Ax cx (Kd.V_reads' HX.out).2.2 (Kd.V_reads' HX.out).2.1).mono ?_); rintro e w5 ⟨A3, c3_, rfl, hv, hb⟩; have n1_ := Aside0.mk (Kd.V_below HX.out hb); have n2_ := Aside0.mk (below_step HB.out hb); have n3_ := Aside0.mk (HOW.out.below hb); have n4_ := Aside0.mk (Kd.V_below H2.out hb); have H3 := Aside0.mk (Kd.V_mono (ok' := fun k => k ≠ g) hv (fun k hk => by have := HOW.out.lt; omega)); clear HX HB HOW H2; have HX := n1_; have HB := n2_; have HOW := n3_; have H2 := n4_; clear n1_ n2_ n3_ n4_ hb hv) | (go_at_call 21; (with_reducible refine (new_f (some ⟨g, 0, none⟩) one.length one _ (HOW.out.C (by have := hol.out; have := HXL.out; omega)) (Nat.le_refl _) hob.out (by have := hol.out; have := HXL.out; omega)).mono ?_); rintro e w6 ⟨p, rfl, hp, hr, hb⟩; have n1_ := Aside0.mk (Kd.V_below (Kd.V_elderB HX.out p hp) hb); have n4_ := Aside0.mk (Kd.V_below (Kd.V_elderB H2.out p hp) hb); have n5_ := Aside0.mk (Kd.V_below (Kd.V_elderB H3.out p hp) hb); have n3_ := Aside0.mk (HOW.out.below hb); have HGL := Aside0.mk HOW.out.lt; have HP := Aside0.mk (Nat.le_trans (below_size HB.out) hp); have HGP : Aside0 (g < p) := ⟨Nat.lt_of_lt_of_le HGL.out hp⟩; have n2_ := Aside0.mk (below_step HB.out hb); have HRD := Aside0.mk hr; have HP5 := Aside0.mk hp; clear HX HB HOW H2 H3; have HX := n1_; have HB := n2_; have HOW := n3_; have H2 := n4_; have H3 := n5_; clear n1_ n2_ n3_ n4_ n5_ hb hr hp))
    go_loopg [15] one.length (fun kq v15 w' => ∃ x15 : Int, v15 = .int .i64 x15 ∧ Aside0 (0 ≤ x15 ∧ x15 + kq = (one.length : Int)) ∧ Aside0 (∃ ys, ys.length = one.length ∧ Ow g ys w') ∧ Aside0 (Puts g w6 w'))
    case atStart => exact ⟨0, rfl, ⟨by omega⟩, ⟨one, rfl, HOW.out⟩, ⟨Puts.refl _ _⟩⟩
    case round =>
      obtain ⟨x15, rfl, HXI, HYS, HPU⟩ := hrel
      by_cases d1 : x15 < (one.length : Int)
      · have d1b : decide (x15 < (one.length : Int)) = true := decide_eq_true d1
        obtain ⟨k1, rfl⟩ : ∃ k1, gk = k1 + 1 := ⟨gk - 1, by have := HXI.out; omega⟩
        obtain ⟨ys, hyl, hys⟩ := HYS.out
        obtain ⟨hc1, hf1⟩ := hys.at_ x15 HXI.out.1 (by omega)
        have p1 := eq_true HXI.out.1
        have q1 := eq_true d1
        have e15 : wrap64 (x15 + 1) = x15 + 1 := by have := hol.out; have := HXL.out; have := HXI.out; unfold wrap64; omega
        have HYW := Aside0.mk hys
        have HYL := Aside0.mk hyl
        clear d1 hyl hys
        go_wp2
        go_roundg k1
        case measure => omega
        case rel => exact ⟨x15 + 1, by rw [e15], ⟨by have := HXI.out; omega⟩, ⟨_, by rw [List.length_set]; exact HYL.out, HYW.out.put x15.toNat _⟩, ⟨HPU.out.set _ _⟩⟩
      · have d1b : decide (x15 < (one.length : Int)) = false := decide_eq_false d1
        clear d1
        have n1_ := Aside0.mk (Kd.V_mono (V_puts2 HX.out (fun k hk => hk.1) HPU.out) (fun k hk => hk.2))
        have n2_ := Aside0.mk (Kd.V_mono (V_puts2 H2.out (fun k hk => hk.1) HPU.out) (fun k hk => hk.2))
        have n3_ := Aside0.mk (Kd.V_mono (V_puts2 H3.out (fun k hk => hk.1) HPU.out) (fun k hk => hk.2))
        have n4_ := Aside0.mk (HRD.out.step (W1 := wr) (fun k hk hb => (HPU.out 0 (Nat.zero_le _)).2.2 k (by have := HGL.out; omega)) HP5.out)
        have n5_ := Aside0.mk (HPU.out.below HG.out HB.out)
        clear HX H2 H3 HRD HB HOW HYS HPU HXI
        have HX := n1_
        have H2 := n2_
        have H3 := n3_
        have HRD := n4_
        have HB := n5_
        clear n1_ n2_ n3_ n4_ n5_
        go_wp2
        obtain ⟨n8, hn8⟩ : ∃ n8, x.length / 8 = n8 := ⟨_, rfl⟩
        have hq : ((x.length : Int)).tdiv 8 = (n8 : Int) := by rw [← hn8]; rfl
        have hq2 : (x.length : Int) / 8 = (n8 : Int) := by omega
        have hq3 : wrap64 (n8 : Int) = (n8 : Int) := by (have := HXL.out); (have : n8 ≤ 5000 := by omega); (unfold wrap64; omega)
        have HN8 : Aside0 (8 * n8 ≤ x.length) := ⟨by omega⟩
        clear hn8
        go_loopg [16, 17] n8 (fun kq v16 v17 w' => ∃ (x17 : Int) (i c : Nat) (A : Option Addr) (gl : List Int), v17 = .int .i64 x17 ∧ v16 = .slice A gl.length c ∧ Aside0 (gl = x.take (8 * i)) ∧ Aside0 (x17 = (i : Int) ∧ i + kq = n8) ∧ Aside0 (Kd.V (Kd.int .u8) 5 w' 0 (fun k => k ≠ p) (.slice A gl.length c) gl) ∧ Aside0 (Kd.V (Kd.int .u8) 5 w' 0 (fun k => k ≠ p) (.slice Ax x.length cx) x) ∧ Aside0 (Kd.V (Kd.int .u8) 5 w' 0 (fun k => k ≠ p) (.slice A2 t2.length c2_) t2) ∧ Aside0 (Kd.V (Kd.int .u8) 5 w' 0 (fun k => k ≠ p) (.slice A3 t3.length c3_) t3) ∧ Aside0 (Rdr w5.heap.size p (one.drop (8 * i)) false w') ∧ Aside0 (Below w.heap.size w w'))
        case atStart => exact ⟨0, 0, 0, _, [], rfl, rfl, ⟨rfl⟩, ⟨⟨rfl, by omega⟩⟩, ⟨V_none _ _ _ _⟩, ⟨Kd.V_below HX.out (below_alloc (Below.refl _ _) _)⟩, ⟨Kd.V_below H2.out (below_alloc (Below.refl _ _) _)⟩, ⟨Kd.V_below H3.out (below_alloc (Below.refl _ _) _)⟩, ⟨HRD.out.below (below_alloc (Below.refl _ _) _)⟩, ⟨below_alloc HB.out _⟩⟩
        case round =>
          clear HX H2 H3 HRD HB
          obtain ⟨x17, i, cG, AG, gl, rfl, rfl, HGE, HI, HGT, HX, H2, H3, HRD, HB⟩ := hrel
          by_cases d2 : x17 < (n8 : Int)
          · have d2b : decide (x17 < (n8 : Int)) = true := decide_eq_true d2
            obtain ⟨k2, rfl⟩ : ∃ k2, gk = k2 + 1 := ⟨gk - 1, by have := HI.out; omega⟩
            have h8 : 8 ≤ (one.drop (8 * i)).length := by have := HI.out; have := HN8.out; have := hol.out; rw [List.length_drop]; omega
            have e17 : wrap64 (x17 + 1) = x17 + 1 := by have := HXL.out; have := HN8.out; have := HI.out; unfold wrap64; omega
            obtain ⟨gl2, hg2⟩ : ∃ gl2, gl ++ (one.drop (8 * i)).take 8 = gl2 := ⟨_, rfl⟩
            have HGE2 : Aside0 (gl2 = x.take (8 * (i + 1))) := ⟨by
              have := HI.out; have := HN8.out
              rw [← hg2, HGE.out, ← HON.out, List.drop_append_of_le_length (by omega), List.take_append_of_le_length (by rw [List.length_drop]; omega), Nat.mul_add, List.take_add]⟩
            have H8 := Aside0.mk h8
            have HG2 := Aside0.mk hg2
            clear d2 h8 hg2
            go_wp2_with (first | (go_at_call 25; (with_reducible refine (int_at _ HRD.out H8.out).mono ?_); rintro e w8 ⟨v8, rfl, hbe, hr, hp⟩; have n1_ := Aside0.mk (V_puts HX.out hp); have n2_ := Aside0.mk (V_puts H2.out hp); have n3_ := Aside0.mk (V_puts H3.out hp); have n4_ := Aside0.mk (V_puts HGT.out hp); have n5_ := Aside0.mk (hp.below HP.out HB.out); have HBE := Aside0.mk hbe; have HPP := Aside0.mk (rdr_lt hr); clear HX H2 H3 HGT HRD HB; have HX := n1_; have H2 := n2_; have H3 := n3_; have HGT := n4_; have HB := n5_; have HRD := Aside0.mk hr; clear n1_ n2_ n3_ n4_ n5_ hbe hr hp) | (go_at_call 18; have K5 := int_V AG cG gl v8 _ (Kd.V_reads' HGT.out).2.2 (Kd.V_reads' HGT.out).2.1 (by have := HXL.out; rw [HGE.out, List.length_take]; omega); rw [HBE.out, HG2.out] at K5; (with_reducible refine K5.mono ?_); clear K5; rintro e w9 ⟨A9, c9, rfl, hv, hb⟩; have n1_ := Aside0.mk (Kd.V_below HX.out hb); have n2_ := Aside0.mk (Kd.V_below H2.out hb); have n3_ := Aside0.mk (Kd.V_below H3.out hb); have n4_ := Aside0.mk (Kd.V_mono (ok' := fun k => k ≠ p) hv (fun k hk => by have := HPP.out; omega)); have n5_ := Aside0.mk (below_step HB.out hb); have n6_ := Aside0.mk (HRD.out.below hb); clear HX H2 H3 HGT HB HRD; have HX := n1_; have H2 := n2_; have H3 := n3_; have HGT := n4_; have HB := n5_; have HRD := n6_; clear n1_ n2_ n3_ n4_ n5_ n6_ hv hb))
            go_roundg k2
            case measure => omega
            case rel => exact ⟨x17 + 1, i + 1, _, _, gl2, by rw [e17], rfl, HGE2, ⟨by have := HI.out; omega⟩, HGT, HX, H2, H3, ⟨by have := HRD.out; rwa [List.drop_drop, ← Nat.mul_succ] at this⟩, HB⟩
          · have d2b : decide (x17 < (n8 : Int)) = false := decide_eq_false d2
            clear d2
            have hi : i = n8 := by have := HI.out; have := of_decide_eq_false d2b; omega
            subst hi
            have hgl : gl.length = 8 * i := by have := HN8.out; rw [HGE.out, List.length_take]; omega
            have hm8 : wrap64 ((i : Int) * 8) = (gl.length : Int) := by have := HXL.out; have := HN8.out; rw [hgl]; unfold wrap64; omega
            obtain ⟨i06, hi06, _, hsz6, _⟩ := info_parts info5
            have hcut6 := cut_to (P := Try.prog) 22 5 .i64 Try.underlying22 hi06 A0 x.length c0 (gl.length : Int) (by omega) (by have := HN8.out; omega) HC0.out
            rw [Int.toNat_natCast] at hcut6
            have HGC : Aside0 (Kd.C (Kd.int .u8) w A0 gl.length gl) := ⟨by
              have := Kd.C_take HR0.out (show 8 * i ≤ x.length from HN8.out)
              rw [← HGE.out] at this
              rwa [hgl] at this ⊢⟩
            have HH : Aside0 (HoldO w (fun k => k ≠ p) (.slice AG gl.length cG) (.slice Ax x.length cx) (.slice A2 t2.length c2_) (.slice A3 t3.length c3_) gl x t2 t3 wr) := ⟨⟨HB.out, HGT.out, HX.out, H2.out, H3.out⟩⟩
            clear HB HGT HX H2 H3 HRD HI HGE hi06 hsz6
            clear hgl
            go_upto_region 17 with (fail)
            refine start_ (n := 38) (S := fun w' => (convert 22 9 (.slice AG gl.length cG)).run Try.prog w' = .ok (.string (strOfNums gl)) w' ∧ (convert 22 9 (.slice A0 gl.length c0)).run Try.prog w' = .ok (.string (strOfNums gl)) w' ∧ (convert 22 9 (.slice Ax x.length cx)).run Try.prog w' = .ok (.string (strOfNums x)) w' ∧ (convert 22 9 (.slice A0 x.length c0)).run Try.prog w' = .ok (.string (strOfNums x)) w' ∧ (convert 22 9 (.slice A2 t2.length c2_)).run Try.prog w' = .ok (.string (strOfNums t2)) w' ∧ (convert 22 9 (.slice A3 t3.length c3_)).run Try.prog w' = .ok (.string (strOfNums t3)) w') (ds := []) #[false, false, false, false, false, false, false, false, false, false, false, false, false, false, false, false, false, false, false, false, false, false, false, false, false, false, false, false, false, false, false, false, false, false, false, false, false, false] (by kernel_rfl) rfl rfl (by have n_ := HH.out.go (below_drew (Below.refl _ _)); exact ⟨conv_C cG (Kd.V_reads' n_.g).2.2, conv_C c0 (Kd.C_below HGC.out n_.below), conv_C cx (Kd.V_reads' n_.x).2.2, conv_C c0 (Kd.C_below HR0.out n_.below), conv_C c2_ (Kd.V_reads' n_.t2).2.2, conv_C c3_ (Kd.V_reads' n_.t3).2.2⟩) (fun hHeld => ?_); refine with_tabW OctetOwn.tab17 OctetOwn.bits17 (fun HT_ HW_ => ?_)
            have n_ := Aside0.mk (HH.out.go (below_drew (Below.refl _ _)))
            clear HH
            have HH := n_
            clear n_
            generalize wr.drew = wz at HH hHeld ⊢
            refine one_ (i := 0) (N := some 67) #[true, false, false, false, false, false, false, false, false, false, false, false, false, false, false, false, false, false, false, false, false, false, false, false, false, false, false, false, false, false, false, false, false, false, false, false, false, false] rfl rfl (one_of HT_.out (by kernel_rfl)) (by decide) (fun K hK => ?_)
            refine goes_ Try.func17 (by kernel_rfl) rfl #[] (by rfl) rfl rfl (by (try simp only [List.map_toArray, List.map_cons, List.map_nil]); first | done | rfl | (simp only [List.length_drop, List.length_take]; rfl)) ?_
            with_reducible refine (prebendlaw03_awake.true_ _).mono ?_
            rintro e wq0 ⟨rfl, hb⟩; have n_ := Aside0.mk (HH.out.go hb); clear HH; have HH := n_; clear n_ hb
            refine ⟨_, rfl, ?_⟩
            refine hK.out _ _ ⟨conv_C cG (Kd.V_reads' HH.out.g).2.2, conv_C c0 (Kd.C_below HGC.out HH.out.below), conv_C cx (Kd.V_reads' HH.out.x).2.2, conv_C c0 (Kd.C_below HR0.out HH.out.below), conv_C c2_ (Kd.V_reads' HH.out.t2).2.2, conv_C c3_ (Kd.V_reads' HH.out.t3).2.2⟩ (fun hHeld => ?_)
            clear hK K
            refine norm_ (a' := ?_) ?_ ?_
            rotate_left
            · show Act.put _ (some 67) _ = _
              simp only [Act.put, List.setIfInBounds_toArray, List.set_cons_zero, List.set_cons_succ, i64_w, i32_w]
              rfl
            refine pure_ (i := 1) (N := some 68) (v := ?_) (a' := ?_) #[true, true, false, false, false, false, false, false, false, false, false, false, false, false, false, false, false, false, false, false, false, false, false, false, false, false, false, false, false, false, false, false, false, false, false, false, false, false] rfl rfl (any_of HT_.out (by kernel_rfl)) (fun _ _ _ h => h) (Or.inl ⟨by rfl, ?_⟩) ?_ ?_
            rotate_left
            · intro w'
              go_simp
              with_reducible rfl
            rotate_left
            · simp only [Act.put, List.setIfInBounds_toArray, List.set_cons_zero, List.set_cons_succ, i64_w, i32_w]
              rfl
            refine pure_ (i := 2) (N := some 69) (v := ?_) (a' := ?_) #[true, true, true, false, false, false, false, false, false, false, false, false, false, false, false, false, false, false, false, false, false, false, false, false, false, false, false, false, false, false, false, false, false, false, false, false, false, false] rfl rfl (any_of HT_.out (by kernel_rfl)) (fun _ _ _ h => h) (Or.inl ⟨by rfl, ?_⟩) ?_ ?_
            rotate_left
            · intro w'
              go_simp
              with_reducible rfl
            rotate_left
            · simp only [Act.put, List.setIfInBounds_toArray, List.set_cons_zero, List.set_cons_succ, i64_w, i32_w]
              rfl
            refine take_ (i := 3) (N := some 70) (v := ?_) (a' := ?_) #[true, true, true, true, false, false, false, false, false, false, false, false, false, false, false, false, false, false, false, false, false, false, false, false, false, false, false, false, false, false, false, false, false, false, false, false, false, false] rfl rfl (take_ofW HT_.out HW_.out (by kernel_rfl)) (fun _ _ _ h => h) (Or.inl ⟨by rfl, ?_⟩) hHeld ?_ ?_
            rotate_left
            · rintro w' hs_
              obtain ⟨s0, s1, s2, s3, s4, s5⟩ := hs_
              go_simp
              with_reducible rfl
            rotate_left
            · simp only [Act.put, List.setIfInBounds_toArray, List.set_cons_zero, List.set_cons_succ, i64_w, i32_w]
              rfl
            refine pure_ (i := 4) (N := some 71) (v := ?_) (a' := ?_) #[true, true, true, true, true, false, false, false, false, false, false, false, false, false, false, false, false, false, false, false, false, false, false, false, false, false, false, false, false, false, false, false, false, false, false, false, false, false] rfl rfl (any_of HT_.out (by kernel_rfl)) (fun _ _ _ h => h) (Or.inl ⟨by rfl, ?_⟩) ?_ ?_
            rotate_left
            · intro w'
              go_simp
              with_reducible rfl
            rotate_left
            · simp only [Act.put, List.setIfInBounds_toArray, List.set_cons_zero, List.set_cons_succ, i64_w, i32_w]
              rfl
            refine pure_ (i := 5) (N := some 72) (v := ?_) (a' := ?_) #[true, true, true, true, true, true, false, false, false, false, false, false, false, false, false, false, false, false, false, false, false, false, false, false, false, false, false, false, false, false, false, false, false, false, false, false, false, false] rfl rfl (any_of HT_.out (by kernel_rfl)) (fun _ _ _ h => h) (Or.inl ⟨by rfl, ?_⟩) ?_ ?_
            rotate_left
            · intro w'
              go_simp
              with_reducible rfl
            rotate_left
            · simp only [Act.put, List.setIfInBounds_toArray, List.set_cons_zero, List.set_cons_succ, i64_w, i32_w]
              rfl
            refine pure_ (i := 6) (N := some 73) (v := ?_) (a' := ?_) #[true, true, true, true, true, true, true, false, false, false, false, false, false, false, false, false, false, false, false, false, false, false, false, false, false, false, false, false, false, false, false, false, false, false, false, false, false, false] rfl rfl (any_of HT_.out (by kernel_rfl)) (fun _ _ _ h => h) (Or.inl ⟨by rfl, ?_⟩) ?_ ?_
            rotate_left
            · intro w'
              go_simp
              with_reducible rfl
            rotate_left
            · simp only [Act.put, List.setIfInBounds_toArray, List.set_cons_zero, List.set_cons_succ, i64_w, i32_w]
              rfl
            refine pure_ (i := 7) (N := some 74) (v := ?_) (a' := ?_) #[true, true, true, true, true, true, true, true, false, false, false, false, false, false, false, false, false, false, false, false, false, false, false, false, false, false, false, false, false, false, false, false, false, false, false, false, false, false] rfl rfl (any_of HT_.out (by kernel_rfl)) (fun _ _ _ h => h) (Or.inl ⟨by rfl, ?_⟩) ?_ ?_
            rotate_left
            · intro w'
              go_simp
              with_reducible rfl
            rotate_left
            · simp only [Act.put, List.setIfInBounds_toArray, List.set_cons_zero, List.set_cons_succ, i64_w, i32_w]
              rfl
            refine pure_ (i := 8) (N := some 75) (v := ?_) (a' := ?_) #[true, true, true, true, true, true, true, true, true, false, false, false, false, false, false, false, false, false, false, false, false, false, false, false, false, false, false, false, false, false, false, false, false, false, false, false, false, false] rfl rfl (any_of HT_.out (by kernel_rfl)) (fun _ _ _ h => h) (Or.inl ⟨by rfl, ?_⟩) ?_ ?_
            rotate_left
            · intro w'
              go_simp
              with_reducible rfl
            rotate_left
            · simp only [Act.put, List.setIfInBounds_toArray, List.set_cons_zero, List.set_cons_succ, i64_w, i32_w]
              rfl
            refine pure_ (i := 9) (N := some 76) (v := ?_) (a' := ?_) #[true, true, true, true, true, true, true, true, true, true, false, false, false, false, false, false, false, false, false, false, false, false, false, false, false, false, false, false, false, false, false, false, false, false, false, false, false, false] rfl rfl (any_of HT_.out (by kernel_rfl)) (fun _ _ _ h => h) (Or.inl ⟨by rfl, ?_⟩) ?_ ?_
            rotate_left
            · intro w'
              go_simp
              with_reducible rfl
            rotate_left
            · simp only [Act.put, List.setIfInBounds_toArray, List.set_cons_zero, List.set_cons_succ, i64_w, i32_w]
              rfl
            refine take_ (i := 10) (N := some 77) (v := ?_) (a' := ?_) #[true, true, true, true, true, true, true, true, true, true, true, false, false, false, false, false, false, false, false, false, false, false, false, false, false, false, false, false, false, false, false, false, false, false, false, false, false, false] rfl rfl (take_ofW HT_.out HW_.out (by kernel_rfl)) (fun _ _ _ h => h) (Or.inl ⟨by rfl, ?_⟩) hHeld ?_ ?_
            rotate_left
            · rintro w' hs_
              obtain ⟨s0, s1, s2, s3, s4, s5⟩ := hs_
              go_simp
              with_reducible rfl
            rotate_left
            · simp only [Act.put, List.setIfInBounds_toArray, List.set_cons_zero, List.set_cons_succ, i64_w, i32_w]
              rfl
            refine pure_ (i := 11) (N := some 78) (v := ?_) (a' := ?_) #[true, true, true, true, true, true, true, true, true, true, true, true, false, false, false, false, false, false, false, false, false, false, false, false, false, false, false, false, false, false, false, false, false, false, false, false, false, false] rfl rfl (any_of HT_.out (by kernel_rfl)) (fun _ _ _ h => h) (Or.inl ⟨by rfl, ?_⟩) ?_ ?_
            rotate_left
            · intro w'
              go_simp
              with_reducible rfl
            rotate_left
            · simp only [Act.put, List.setIfInBounds_toArray, List.set_cons_zero, List.set_cons_succ, i64_w, i32_w]
              rfl
            refine pure_ (i := 12) (N := some 79) (v := ?_) (a' := ?_) #[true, true, true, true, true, true, true, true, true, true, true, true, true, false, false, false, false, false, false, false, false, false, false, false, false, false, false, false, false, false, false, false, false, false, false, false, false, false] rfl rfl (any_of HT_.out (by kernel_rfl)) (fun _ _ _ h => h) (Or.inl ⟨by rfl, ?_⟩) ?_ ?_
            rotate_left
            · intro w'
              go_simp
              with_reducible rfl
            rotate_left
            · simp only [Act.put, List.setIfInBounds_toArray, List.set_cons_zero, List.set_cons_succ, i64_w, i32_w]
              rfl
            refine pure_ (i := 13) (N := some 80) (v := ?_) (a' := ?_) #[true, true, true, true, true, true, true, true, true, true, true, true, true, true, false, false, false, false, false, false, false, false, false, false, false, false, false, false, false, false, false, false, false, false, false, false, false, false] rfl rfl (any_of HT_.out (by kernel_rfl)) (fun _ _ _ h => h) (Or.inl ⟨by rfl, ?_⟩) ?_ ?_
            rotate_left
            · intro w'
              go_simp
              with_reducible rfl
            rotate_left
            · simp only [Act.put, List.setIfInBounds_toArray, List.set_cons_zero, List.set_cons_succ, i64_w, i32_w]
              rfl
            refine pure_ (i := 14) (N := some 81) (v := ?_) (a' := ?_) #[true, true, true, true, true, true, true, true, true, true, true, true, true, true, true, false, false, false, false, false, false, false, false, false, false, false, false, false, false, false, false, false, false, false, false, false, false, false] rfl rfl (any_of HT_.out (by kernel_rfl)) (fun _ _ _ h => h) (Or.inl ⟨by rfl, ?_⟩) ?_ ?_
            rotate_left
            · intro w'
              go_simp
              with_reducible rfl
            rotate_left
            · simp only [Act.put, List.setIfInBounds_toArray, List.set_cons_zero, List.set_cons_succ, i64_w, i32_w]
              rfl
            refine take_ (i := 15) (N := some 82) (v := ?_) (a' := ?_) #[true, true, true, true, true, true, true, true, true, true, true, true, true, true, true, true, false, false, false, false, false, false, false, false, false, false, false, false, false, false, false, false, false, false, false, false, false, false] rfl rfl (take_ofW HT_.out HW_.out (by kernel_rfl)) (fun _ _ _ h => h) (Or.inl ⟨by rfl, ?_⟩) hHeld ?_ ?_
            rotate_left
            · rintro w' hs_
              obtain ⟨s0, s1, s2, s3, s4, s5⟩ := hs_
              go_simp
              with_reducible rfl
            rotate_left
            · simp only [Act.put, List.setIfInBounds_toArray, List.set_cons_zero, List.set_cons_succ, i64_w, i32_w]
              rfl
            refine pure_ (i := 16) (N := some 83) (v := ?_) (a' := ?_) #[true, true, true, true, true, true, true, true, true, true, true, true, true, true, true, true, true, false, false, false, false, false, false, false, false, false, false, false, false, false, false, false, false, false, false, false, false, false] rfl rfl (any_of HT_.out (by kernel_rfl)) (fun _ _ _ h => h) (Or.inl ⟨by rfl, ?_⟩) ?_ ?_
            rotate_left
            · intro w'
              go_simp
              with_reducible rfl
            rotate_left
            · simp only [Act.put, List.setIfInBounds_toArray, List.set_cons_zero, List.set_cons_succ, i64_w, i32_w]
              rfl
            refine take_ (i := 17) (N := some 84) (v := ?_) (a' := ?_) #[true, true, true, true, true, true, true, true, true, true, true, true, true, true, true, true, true, true, false, false, false, false, false, false, false, false, false, false, false, false, false, false, false, false, false, false, false, false] rfl rfl (take_ofW HT_.out HW_.out (by kernel_rfl)) (fun _ _ _ h => h) (Or.inl ⟨by rfl, ?_⟩) hHeld ?_ ?_
            rotate_left
            · rintro w' hs_
              obtain ⟨s0, s1, s2, s3, s4, s5⟩ := hs_
              go_simp
              with_reducible rfl
            rotate_left
            · simp only [Act.put, List.setIfInBounds_toArray, List.set_cons_zero, List.set_cons_succ, i64_w, i32_w]
              rfl
            refine pure_ (i := 18) (N := some 85) (v := ?_) (a' := ?_) #[true, true, true, true, true, true, true, true, true, true, true, true, true, true, true, true, true, true, true, false, false, false, false, false, false, false, false, false, false, false, false, false, false, false, false, false, false, false] rfl rfl (any_of HT_.out (by kernel_rfl)) (fun _ _ _ h => h) (Or.inl ⟨by rfl, ?_⟩) ?_ ?_
            rotate_left
            · intro w'
              go_simp
              with_reducible rfl
            rotate_left
            · simp only [Act.put, List.setIfInBounds_toArray, List.set_cons_zero, List.set_cons_succ, i64_w, i32_w]
              rfl
            refine pure_ (i := 19) (N := some 86) (v := ?_) (a' := ?_) #[true, true, true, true, true, true, true, true, true, true, true, true, true, true, true, true, true, true, true, true, false, false, false, false, false, false, false, false, false, false, false, false, false, false, false, false, false, false] rfl rfl (any_of HT_.out (by kernel_rfl)) (fun _ _ _ h => h) (Or.inl ⟨by rfl, ?_⟩) ?_ ?_
            rotate_left
            · intro w'
              go_simp
              with_reducible rfl
            rotate_left
            · simp only [Act.put, List.setIfInBounds_toArray, List.set_cons_zero, List.set_cons_succ, i64_w, i32_w]
              rfl
            refine pure_ (i := 20) (N := some 87) (v := ?_) (a' := ?_) #[true, true, true, true, true, true, true, true, true, true, true, true, true, true, true, true, true, true, true, true, true, false, false, false, false, false, false, false, false, false, false, false, false, false, false, false, false, false] rfl rfl (any_of HT_.out (by kernel_rfl)) (fun _ _ _ h => h) (Or.inl ⟨by rfl, ?_⟩) ?_ ?_
            rotate_left
            · intro w'
              go_simp
              with_reducible rfl
            rotate_left
            · simp only [Act.put, List.setIfInBounds_toArray, List.set_cons_zero, List.set_cons_succ, i64_w, i32_w]
              rfl
            refine pure_ (i := 21) (N := some 88) (v := ?_) (a' := ?_) #[true, true, true, true, true, true, true, true, true, true, true, true, true, true, true, true, true, true, true, true, true, true, false, false, false, false, false, false, false, false, false, false, false, false, false, false, false, false] rfl rfl (any_of HT_.out (by kernel_rfl)) (fun _ _ _ h => h) (Or.inl ⟨by rfl, ?_⟩) ?_ ?_
            rotate_left
            · intro w'
              go_simp
              with_reducible rfl
            rotate_left
            · simp only [Act.put, List.setIfInBounds_toArray, List.set_cons_zero, List.set_cons_succ, i64_w, i32_w]
              rfl
            refine take_ (i := 22) (N := some 89) (v := ?_) (a' := ?_) #[true, true, true, true, true, true, true, true, true, true, true, true, true, true, true, true, true, true, true, true, true, true, true, false, false, false, false, false, false, false, false, false, false, false, false, false, false, false] rfl rfl (take_ofW HT_.out HW_.out (by kernel_rfl)) (fun _ _ _ h => h) (Or.inl ⟨by rfl, ?_⟩) hHeld ?_ ?_
            rotate_left
            · rintro w' hs_
              obtain ⟨s0, s1, s2, s3, s4, s5⟩ := hs_
              go_simp
              with_reducible rfl
            rotate_left
            · simp only [Act.put, List.setIfInBounds_toArray, List.set_cons_zero, List.set_cons_succ, i64_w, i32_w]
              rfl
            refine pure_ (i := 23) (N := some 90) (v := ?_) (a' := ?_) #[true, true, true, true, true, true, true, true, true, true, true, true, true, true, true, true, true, true, true, true, true, true, true, true, false, false, false, false, false, false, false, false, false, false, false, false, false, false] rfl rfl (any_of HT_.out (by kernel_rfl)) (fun _ _ _ h => h) (Or.inl ⟨by rfl, ?_⟩) ?_ ?_
            rotate_left
            · intro w'
              go_simp
              with_reducible rfl
            rotate_left
            · simp only [Act.put, List.setIfInBounds_toArray, List.set_cons_zero, List.set_cons_succ, i64_w, i32_w]
              rfl
            refine pure_ (i := 24) (N := some 91) (v := ?_) (a' := ?_) #[true, true, true, true, true, true, true, true, true, true, true, true, true, true, true, true, true, true, true, true, true, true, true, true, true, false, false, false, false, false, false, false, false, false, false, false, false, false] rfl rfl (any_of HT_.out (by kernel_rfl)) (fun _ _ _ h => h) (Or.inl ⟨by rfl, ?_⟩) ?_ ?_
            rotate_left
            · intro w'
              go_simp
              with_reducible rfl
            rotate_left
            · simp only [Act.put, List.setIfInBounds_toArray, List.set_cons_zero, List.set_cons_succ, i64_w, i32_w]
              rfl
            refine one_ (i := 25) (N := some 92) #[true, true, true, true, true, true, true, true, true, true, true, true, true, true, true, true, true, true, true, true, true, true, true, true, true, true, false, false, false, false, false, false, false, false, false, false, false, false] rfl rfl (one_of HT_.out (by kernel_rfl)) (by decide) (fun K hK => ?_)
            refine goes_ Try.func19 (by kernel_rfl) rfl #[.slice A0 x.length c0, .int .i64 a2] (by rfl) rfl rfl (by (try simp only [List.map_toArray, List.map_cons, List.map_nil]); first | done | rfl | (simp only [List.length_drop, List.length_take]; rfl)) ?_
            with_reducible refine (prebendref03_Int.calls 9 A0 c0 x a2 t2 _ (Kd.C_below HR0.out HH.out.below) HC0.out HREF.out).mono ?_
            rintro e wq1 ⟨v4, rfl, hr, hb⟩; obtain ⟨A4, c4, e4, hc4, hC4⟩ := Kd.R_reads hr; subst e4; have HC4 := Aside0.mk hC4; clear hr hc4 hC4; have n_ := Aside0.mk (HH.out.go hb); clear HH; have HH := n_; clear n_ hb
            refine ⟨_, rfl, ?_⟩
            refine hK.out _ _ ⟨conv_C cG (Kd.V_reads' HH.out.g).2.2, conv_C c0 (Kd.C_below HGC.out HH.out.below), conv_C cx (Kd.V_reads' HH.out.x).2.2, conv_C c0 (Kd.C_below HR0.out HH.out.below), conv_C c2_ (Kd.V_reads' HH.out.t2).2.2, conv_C c3_ (Kd.V_reads' HH.out.t3).2.2⟩ (fun hHeld => ?_)
            clear hK K
            refine norm_ (a' := ?_) ?_ ?_
            rotate_left
            · show Act.put _ (some 92) _ = _
              simp only [Act.put, List.setIfInBounds_toArray, List.set_cons_zero, List.set_cons_succ, i64_w, i32_w]
              rfl
            refine one_ (i := 26) (N := some 93) #[true, true, true, true, true, true, true, true, true, true, true, true, true, true, true, true, true, true, true, true, true, true, true, true, true, true, true, false, false, false, false, false, false, false, false, false, false, false] rfl rfl (one_of HT_.out (by kernel_rfl)) (by decide) (fun K hK => ?_)
            have hcv4 := conv_C c4 HC4.out
            refine value_ (v := .string (strOfNums t2)) (w1 := wq1) (by rfl) rfl ?_ ?_
            · first | (go_simp; done) | (go_simp; rfl)
            refine hK.out _ _ ⟨conv_C cG (Kd.V_reads' HH.out.g).2.2, conv_C c0 (Kd.C_below HGC.out HH.out.below), conv_C cx (Kd.V_reads' HH.out.x).2.2, conv_C c0 (Kd.C_below HR0.out HH.out.below), conv_C c2_ (Kd.V_reads' HH.out.t2).2.2, conv_C c3_ (Kd.V_reads' HH.out.t3).2.2⟩ (fun hHeld => ?_)
            clear hK K
            refine norm_ (a' := ?_) ?_ ?_
            rotate_left
            · show Act.put _ (some 93) _ = _
              simp only [Act.put, List.setIfInBounds_toArray, List.set_cons_zero, List.set_cons_succ, i64_w, i32_w]
              rfl
            refine pure_ (i := 27) (N := some 94) (v := ?_) (a' := ?_) #[true, true, true, true, true, true, true, true, true, true, true, true, true, true, true, true, true, true, true, true, true, true, true, true, true, true, true, true, false, false, false, false, false, false, false, false, false, false] rfl rfl (any_of HT_.out (by kernel_rfl)) (fun _ _ _ h => h) (Or.inl ⟨by rfl, ?_⟩) ?_ ?_
            rotate_left
            · intro w'
              go_simp
              with_reducible rfl
            rotate_left
            · simp only [Act.put, List.setIfInBounds_toArray, List.set_cons_zero, List.set_cons_succ, i64_w, i32_w]
              rfl
            refine pure_ (i := 28) (N := some 95) (v := ?_) (a' := ?_) #[true, true, true, true, true, true, true, true, true, true, true, true, true, true, true, true, true, true, true, true, true, true, true, true, true, true, true, true, true, false, false, false, false, false, false, false, false, false] rfl rfl (any_of HT_.out (by kernel_rfl)) (fun _ _ _ h => h) (Or.inl ⟨by rfl, ?_⟩) ?_ ?_
            rotate_left
            · intro w'
              go_simp
              with_reducible rfl
            rotate_left
            · simp only [Act.put, List.setIfInBounds_toArray, List.set_cons_zero, List.set_cons_succ, i64_w, i32_w]
              rfl
            refine pure_ (i := 29) (N := some 96) (v := ?_) (a' := ?_) #[true, true, true, true, true, true, true, true, true, true, true, true, true, true, true, true, true, true, true, true, true, true, true, true, true, true, true, true, true, true, false, false, false, false, false, false, false, false] rfl rfl (any_of HT_.out (by kernel_rfl)) (fun _ _ _ h => h) (Or.inl ⟨by rfl, ?_⟩) ?_ ?_
            rotate_left
            · intro w'
              go_simp
              with_reducible rfl
            rotate_left
            · simp only [Act.put, List.setIfInBounds_toArray, List.set_cons_zero, List.set_cons_succ, i64_w, i32_w]
              rfl
            refine pure_ (i := 30) (N := some 97) (v := ?_) (a' := ?_) #[true, true, true, true, true, true, true, true, true, true, true, true, true, true, true, true, true, true, true, true, true, true, true, true, true, true, true, true, true, true, true, false, false, false, false, false, false, false] rfl rfl (any_of HT_.out (by kernel_rfl)) (fun _ _ _ h => h) (Or.inl ⟨by rfl, ?_⟩) ?_ ?_
            rotate_left
            · intro w'
              go_simp
              with_reducible rfl
            rotate_left
            · simp only [Act.put, List.setIfInBounds_toArray, List.set_cons_zero, List.set_cons_succ, i64_w, i32_w]
              rfl
            refine take_ (i := 31) (N := some 98) (v := ?_) (a' := ?_) #[true, true, true, true, true, true, true, true, true, true, true, true, true, true, true, true, true, true, true, true, true, true, true, true, true, true, true, true, true, true, true, true, false, false, false, false, false, false] rfl rfl (take_ofW HT_.out HW_.out (by kernel_rfl)) (fun _ _ _ h => h) (Or.inl ⟨by rfl, ?_⟩) hHeld ?_ ?_
            rotate_left
            · rintro w' hs_
              obtain ⟨s0, s1, s2, s3, s4, s5⟩ := hs_
              go_simp
              with_reducible rfl
            rotate_left
            · simp only [Act.put, List.setIfInBounds_toArray, List.set_cons_zero, List.set_cons_succ, i64_w, i32_w]
              rfl
            refine pure_ (i := 32) (N := some 99) (v := ?_) (a' := ?_) #[true, true, true, true, true, true, true, true, true, true, true, true, true, true, true, true, true, true, true, true, true, true, true, true, true, true, true, true, true, true, true, true, true, false, false, false, false, false] rfl rfl (any_of HT_.out (by kernel_rfl)) (fun _ _ _ h => h) (Or.inl ⟨by rfl, ?_⟩) ?_ ?_
            rotate_left
            · intro w'
              go_simp
              with_reducible rfl
            rotate_left
            · simp only [Act.put, List.setIfInBounds_toArray, List.set_cons_zero, List.set_cons_succ, i64_w, i32_w]
              rfl
            refine one_ (i := 33) (N := some 100) #[true, true, true, true, true, true, true, true, true, true, true, true, true, true, true, true, true, true, true, true, true, true, true, true, true, true, true, true, true, true, true, true, true, true, false, false, false, false] rfl rfl (one_of HT_.out (by kernel_rfl)) (by decide) (fun K hK => ?_)
            refine goes_ Try.func20 (by kernel_rfl) rfl #[.slice A0 x.length c0, .string ⟨#[122]⟩] (by rfl) rfl rfl (by (try simp only [List.map_toArray, List.map_cons, List.map_nil]); first | done | rfl | (simp only [List.length_drop, List.length_take]; rfl)) ?_
            with_reducible refine (prebendref03_Text.calls A0 c0 x ⟨#[122]⟩ t3 _ (Kd.C_below HR0.out HH.out.below) HC0.out HREZ.out).mono ?_
            rintro e wq2 ⟨v5, rfl, hr, hb⟩; obtain ⟨A5, c5, e5, hc5, hC5⟩ := Kd.R_reads hr; subst e5; have HC5 := Aside0.mk hC5; clear hr hc5 hC5; have n_ := Aside0.mk (HH.out.go hb); clear HH; have HH := n_; clear n_ hb
            refine ⟨_, rfl, ?_⟩
            refine hK.out _ _ ⟨conv_C cG (Kd.V_reads' HH.out.g).2.2, conv_C c0 (Kd.C_below HGC.out HH.out.below), conv_C cx (Kd.V_reads' HH.out.x).2.2, conv_C c0 (Kd.C_below HR0.out HH.out.below), conv_C c2_ (Kd.V_reads' HH.out.t2).2.2, conv_C c3_ (Kd.V_reads' HH.out.t3).2.2⟩ (fun hHeld => ?_)
            clear hK K
            refine norm_ (a' := ?_) ?_ ?_
            rotate_left
            · show Act.put _ (some 100) _ = _
              simp only [Act.put, List.setIfInBounds_toArray, List.set_cons_zero, List.set_cons_succ, i64_w, i32_w]
              rfl
            refine one_ (i := 34) (N := some 101) #[true, true, true, true, true, true, true, true, true, true, true, true, true, true, true, true, true, true, true, true, true, true, true, true, true, true, true, true, true, true, true, true, true, true, true, false, false, false] rfl rfl (one_of HT_.out (by kernel_rfl)) (by decide) (fun K hK => ?_)
            have hcv5 := conv_C c5 HC5.out
            refine value_ (v := .string (strOfNums t3)) (w1 := wq2) (by rfl) rfl ?_ ?_
            · first | (go_simp; done) | (go_simp; rfl)
            refine hK.out _ _ ⟨conv_C cG (Kd.V_reads' HH.out.g).2.2, conv_C c0 (Kd.C_below HGC.out HH.out.below), conv_C cx (Kd.V_reads' HH.out.x).2.2, conv_C c0 (Kd.C_below HR0.out HH.out.below), conv_C c2_ (Kd.V_reads' HH.out.t2).2.2, conv_C c3_ (Kd.V_reads' HH.out.t3).2.2⟩ (fun hHeld => ?_)
            clear hK K
            refine norm_ (a' := ?_) ?_ ?_
            rotate_left
            · show Act.put _ (some 101) _ = _
              simp only [Act.put, List.setIfInBounds_toArray, List.set_cons_zero, List.set_cons_succ, i64_w, i32_w]
              rfl
            refine pure_ (i := 35) (N := some 102) (v := ?_) (a' := ?_) #[true, true, true, true, true, true, true, true, true, true, true, true, true, true, true, true, true, true, true, true, true, true, true, true, true, true, true, true, true, true, true, true, true, true, true, true, false, false] rfl rfl (any_of HT_.out (by kernel_rfl)) (fun _ _ _ h => h) (Or.inl ⟨by rfl, ?_⟩) ?_ ?_
            rotate_left
            · intro w'
              go_simp
              with_reducible rfl
            rotate_left
            · simp only [Act.put, List.setIfInBounds_toArray, List.set_cons_zero, List.set_cons_succ, i64_w, i32_w]
              rfl
            refine pure_ (i := 36) (N := some 103) (v := ?_) (a' := ?_) #[true, true, true, true, true, true, true, true, true, true, true, true, true, true, true, true, true, true, true, true, true, true, true, true, true, true, true, true, true, true, true, true, true, true, true, true, true, false] rfl rfl (any_of HT_.out (by kernel_rfl)) (fun _ _ _ h => h) (Or.inl ⟨by rfl, ?_⟩) ?_ ?_
            rotate_left
            · intro w'
              go_simp
              with_reducible rfl
            rotate_left
            · simp only [Act.put, List.setIfInBounds_toArray, List.set_cons_zero, List.set_cons_succ, i64_w, i32_w]
              rfl
            refine pure_ (i := 37) (N := some 8) (v := ?_) (a' := ?_) #[true, true, true, true, true, true, true, true, true, true, true, true, true, true, true, true, true, true, true, true, true, true, true, true, true, true, true, true, true, true, true, true, true, true, true, true, true, true] rfl rfl (any_of HT_.out (by kernel_rfl)) (fun _ _ _ h => h) (Or.inl ⟨by rfl, ?_⟩) ?_ ?_
            rotate_left
            · intro w'
              go_simp
              with_reducible rfl
            rotate_left
            · simp only [Act.put, List.setIfInBounds_toArray, List.set_cons_zero, List.set_cons_succ, i64_w, i32_w]
              rfl
            refine done_ (done_of HT_.out (by kernel_rfl)) ?_
            try go_wp2
            go_ret
            exact ⟨by simp, HH.out.below⟩
end Go.Proofs.Ytjmkpcnekghmhaa.PAll
end
