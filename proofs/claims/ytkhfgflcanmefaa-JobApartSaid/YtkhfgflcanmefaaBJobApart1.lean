/- Words, plain functions and contracts of the functions that the law of this claim reaches; no conditions. -/
import Derived.Test.YtkhfgflcanmefaaBJobApart0
import Derived.Test.YtkhfgflcanmefaaProg
import Derived.Lib.SliceRun
import Derived.WalkLawsBesides
import Derived.Outline
import Derived.Deep.RegionWith
import Derived.Deep.CutRange
import Derived.ScopeJumps
import Derived.Scope
import Derived.WalkMore
import Derived.Laws.FloatArith
import Derived.Lib.Tables
import Derived.Lib.BitFns
section
namespace Go.Proofs.Ytkhfgflcanmefaa.PAll
open Go.RowKit Go.Proofs.YtkhfgflcanmefaaW.PrintWords Go.Proofs.YtkhfgflcanmefaaW.PrintLast Go.Proofs.YtkhfgflcanmefaaW.PrintMore
attribute [local go_sem] max2_int min2_int max_two min_two max_three min_three max_four min_four   -- for this text's walks alone
set_option linter.unusedVariables false
set_option linter.unusedSimpArgs false



def errW : Option Int → Value
  | none => .nilIface
  | some c => .iface 0 (.int .i64 c)
theorem errW_none : errW none = .nilIface := rfl
theorem errW_some (c : Int) : errW (some c) = .iface 0 (.int .i64 c) := rfl

theorem goesV_ {P : Program} {ops : Array Oper} {Q : Exit → Act → World → Prop} {oi : Oper} {N : Option Tmp} {a : Act} {w : World} {K : Act → World → Prop} {f : FuncId} {fn : Func} {c : Operand} {as_ : Array Operand} {ts : Array TypeId} (hf : P.funcs[f]? = some fn) (hname : (fn.name == "runtime.NumGoroutine") = false) (hb : fn.body.isSome = true) (args : Array Value)
    (hw : Region.wanted oi (yielded ops a.tmps) = true) (hN : oi.dst = N) (hop : oi.op = .call { callee := .value c, args := as_, argTypes := ts }) (hargs : as_.map a.eval = args)
    (hc : a.eval c = .func (.func f) #[] #[])
    (h : Calls P f args w fun e w' => ∃ v, e = .returned v ∧ K (a.put N v) w') : if Region.wanted oi (yielded ops a.tmps) = true then Oper.wp P oi a w K Q else K (a.put N undef) w := by
  refine call_ f args hw hN ?_ h
  have he := enters_ hf hname hb args w
  unfold execOp
  simp [hop, resolve, Deferred.ofValue, invoke, hc, hargs, he]
theorem info3 : (Try.prog.info? 3).map (fun i => (i.zero, i.size, i.bytes)) = some (some (.int .i64 0), 1, 8) := by kernel_rfl
theorem info32 : (Try.prog.info? 32).map (fun i => (i.zero, i.size, i.bytes)) = some (some (.agg #[(.int .i64 0), (.int .i64 0), (.int .i64 0), (.int .i64 0), (.int .i64 0), (.int .i64 0), (.int .i64 0), (.int .i64 0), (.int .i64 0), (.int .i64 0), (.int .i64 0), (.slice none 0 0)]), 12, 112) := by kernel_rfl
theorem info59 : (Try.prog.info? 59).map (fun i => (i.zero, i.size, i.bytes)) = some (some (.agg #[(.int .i64 0), (.int .i64 0)]), 2, 16) := by kernel_rfl
theorem info63 : (Try.prog.info? 63).map (fun i => (i.zero, i.size, i.bytes)) = some (some (.agg #[(.int .i64 0), (.int .i64 0), (.int .i64 0), (.int .i64 0)]), 4, 32) := by kernel_rfl
structure SH where
  A : Option Addr
  n : Nat
  c : Nat
def SH.nil : SH := ⟨none, 0, 0⟩
def kSH : Kd SH := Kd.scalar (fun x : SH => .slice x.A x.n x.c) (fun _ => rfl)
structure S32 where
  f0 : Int
  f1 : Int
  f2 : Int
  f3 : Int
  f4 : Int
  f5 : Int
  f6 : Int
  f7 : Int
  f8 : Int
  f9 : Int
  f10 : Int
  f11 : SH
def z32 : S32 := ⟨(0 : Int), (0 : Int), (0 : Int), (0 : Int), (0 : Int), (0 : Int), (0 : Int), (0 : Int), (0 : Int), (0 : Int), (0 : Int), SH.nil⟩
def k32 : Kd S32 := Kd.iso (Kd.pair (Kd.int .i64) (Kd.pair (Kd.int .i64) (Kd.pair (Kd.int .i64) (Kd.pair (Kd.int .i64) (Kd.pair (Kd.int .i64) (Kd.pair (Kd.int .i64) (Kd.pair (Kd.int .i64) (Kd.pair (Kd.int .i64) (Kd.pair (Kd.int .i64) (Kd.pair (Kd.int .i64) (Kd.pair (Kd.int .i64) kSH))))))))))) (fun x : S32 => (x.f0, x.f1, x.f2, x.f3, x.f4, x.f5, x.f6, x.f7, x.f8, x.f9, x.f10, x.f11))
theorem k32_open {w : World} {x : S32} {cs : List Value} (h : k32.K w x cs) : cs = [.int .i64 x.f0, .int .i64 x.f1, .int .i64 x.f2, .int .i64 x.f3, .int .i64 x.f4, .int .i64 x.f5, .int .i64 x.f6, .int .i64 x.f7, .int .i64 x.f8, .int .i64 x.f9, .int .i64 x.f10, .slice x.f11.A x.f11.n x.f11.c] := by
  obtain ⟨_, _, rfl, rfl, ⟨_, _, rfl, rfl, ⟨_, _, rfl, rfl, ⟨_, _, rfl, rfl, ⟨_, _, rfl, rfl, ⟨_, _, rfl, rfl, ⟨_, _, rfl, rfl, ⟨_, _, rfl, rfl, ⟨_, _, rfl, rfl, ⟨_, _, rfl, rfl, ⟨_, _, rfl, rfl, rfl⟩⟩⟩⟩⟩⟩⟩⟩⟩⟩⟩ := h
  exact rfl
theorem k32_openM {w : World} {base : Nat} {ok : Nat → Prop} {x : S32} {cs : List Value} (h : k32.M w base ok x cs) : cs = [.int .i64 x.f0, .int .i64 x.f1, .int .i64 x.f2, .int .i64 x.f3, .int .i64 x.f4, .int .i64 x.f5, .int .i64 x.f6, .int .i64 x.f7, .int .i64 x.f8, .int .i64 x.f9, .int .i64 x.f10, .slice x.f11.A x.f11.n x.f11.c] := by
  obtain ⟨_, _, rfl, rfl, ⟨_, _, rfl, rfl, ⟨_, _, rfl, rfl, ⟨_, _, rfl, rfl, ⟨_, _, rfl, rfl, ⟨_, _, rfl, rfl, ⟨_, _, rfl, rfl, ⟨_, _, rfl, rfl, ⟨_, _, rfl, rfl, ⟨_, _, rfl, rfl, ⟨_, _, rfl, rfl, rfl⟩⟩⟩⟩⟩⟩⟩⟩⟩⟩⟩ := h
  exact rfl
theorem k32_mk (w : World) (x : S32)  : k32.K w x [.int .i64 x.f0, .int .i64 x.f1, .int .i64 x.f2, .int .i64 x.f3, .int .i64 x.f4, .int .i64 x.f5, .int .i64 x.f6, .int .i64 x.f7, .int .i64 x.f8, .int .i64 x.f9, .int .i64 x.f10, .slice x.f11.A x.f11.n x.f11.c] := ⟨[.int .i64 x.f0], [.int .i64 x.f1, .int .i64 x.f2, .int .i64 x.f3, .int .i64 x.f4, .int .i64 x.f5, .int .i64 x.f6, .int .i64 x.f7, .int .i64 x.f8, .int .i64 x.f9, .int .i64 x.f10, .slice x.f11.A x.f11.n x.f11.c], rfl, rfl, ⟨[.int .i64 x.f1], [.int .i64 x.f2, .int .i64 x.f3, .int .i64 x.f4, .int .i64 x.f5, .int .i64 x.f6, .int .i64 x.f7, .int .i64 x.f8, .int .i64 x.f9, .int .i64 x.f10, .slice x.f11.A x.f11.n x.f11.c], rfl, rfl, ⟨[.int .i64 x.f2], [.int .i64 x.f3, .int .i64 x.f4, .int .i64 x.f5, .int .i64 x.f6, .int .i64 x.f7, .int .i64 x.f8, .int .i64 x.f9, .int .i64 x.f10, .slice x.f11.A x.f11.n x.f11.c], rfl, rfl, ⟨[.int .i64 x.f3], [.int .i64 x.f4, .int .i64 x.f5, .int .i64 x.f6, .int .i64 x.f7, .int .i64 x.f8, .int .i64 x.f9, .int .i64 x.f10, .slice x.f11.A x.f11.n x.f11.c], rfl, rfl, ⟨[.int .i64 x.f4], [.int .i64 x.f5, .int .i64 x.f6, .int .i64 x.f7, .int .i64 x.f8, .int .i64 x.f9, .int .i64 x.f10, .slice x.f11.A x.f11.n x.f11.c], rfl, rfl, ⟨[.int .i64 x.f5], [.int .i64 x.f6, .int .i64 x.f7, .int .i64 x.f8, .int .i64 x.f9, .int .i64 x.f10, .slice x.f11.A x.f11.n x.f11.c], rfl, rfl, ⟨[.int .i64 x.f6], [.int .i64 x.f7, .int .i64 x.f8, .int .i64 x.f9, .int .i64 x.f10, .slice x.f11.A x.f11.n x.f11.c], rfl, rfl, ⟨[.int .i64 x.f7], [.int .i64 x.f8, .int .i64 x.f9, .int .i64 x.f10, .slice x.f11.A x.f11.n x.f11.c], rfl, rfl, ⟨[.int .i64 x.f8], [.int .i64 x.f9, .int .i64 x.f10, .slice x.f11.A x.f11.n x.f11.c], rfl, rfl, ⟨[.int .i64 x.f9], [.int .i64 x.f10, .slice x.f11.A x.f11.n x.f11.c], rfl, rfl, ⟨[.int .i64 x.f10], [.slice x.f11.A x.f11.n x.f11.c], rfl, rfl, rfl⟩⟩⟩⟩⟩⟩⟩⟩⟩⟩⟩
theorem k32_mkM (w : World) (base : Nat) (ok : Nat → Prop) (x : S32)  : k32.M w base ok x [.int .i64 x.f0, .int .i64 x.f1, .int .i64 x.f2, .int .i64 x.f3, .int .i64 x.f4, .int .i64 x.f5, .int .i64 x.f6, .int .i64 x.f7, .int .i64 x.f8, .int .i64 x.f9, .int .i64 x.f10, .slice x.f11.A x.f11.n x.f11.c] := ⟨[.int .i64 x.f0], [.int .i64 x.f1, .int .i64 x.f2, .int .i64 x.f3, .int .i64 x.f4, .int .i64 x.f5, .int .i64 x.f6, .int .i64 x.f7, .int .i64 x.f8, .int .i64 x.f9, .int .i64 x.f10, .slice x.f11.A x.f11.n x.f11.c], rfl, rfl, ⟨[.int .i64 x.f1], [.int .i64 x.f2, .int .i64 x.f3, .int .i64 x.f4, .int .i64 x.f5, .int .i64 x.f6, .int .i64 x.f7, .int .i64 x.f8, .int .i64 x.f9, .int .i64 x.f10, .slice x.f11.A x.f11.n x.f11.c], rfl, rfl, ⟨[.int .i64 x.f2], [.int .i64 x.f3, .int .i64 x.f4, .int .i64 x.f5, .int .i64 x.f6, .int .i64 x.f7, .int .i64 x.f8, .int .i64 x.f9, .int .i64 x.f10, .slice x.f11.A x.f11.n x.f11.c], rfl, rfl, ⟨[.int .i64 x.f3], [.int .i64 x.f4, .int .i64 x.f5, .int .i64 x.f6, .int .i64 x.f7, .int .i64 x.f8, .int .i64 x.f9, .int .i64 x.f10, .slice x.f11.A x.f11.n x.f11.c], rfl, rfl, ⟨[.int .i64 x.f4], [.int .i64 x.f5, .int .i64 x.f6, .int .i64 x.f7, .int .i64 x.f8, .int .i64 x.f9, .int .i64 x.f10, .slice x.f11.A x.f11.n x.f11.c], rfl, rfl, ⟨[.int .i64 x.f5], [.int .i64 x.f6, .int .i64 x.f7, .int .i64 x.f8, .int .i64 x.f9, .int .i64 x.f10, .slice x.f11.A x.f11.n x.f11.c], rfl, rfl, ⟨[.int .i64 x.f6], [.int .i64 x.f7, .int .i64 x.f8, .int .i64 x.f9, .int .i64 x.f10, .slice x.f11.A x.f11.n x.f11.c], rfl, rfl, ⟨[.int .i64 x.f7], [.int .i64 x.f8, .int .i64 x.f9, .int .i64 x.f10, .slice x.f11.A x.f11.n x.f11.c], rfl, rfl, ⟨[.int .i64 x.f8], [.int .i64 x.f9, .int .i64 x.f10, .slice x.f11.A x.f11.n x.f11.c], rfl, rfl, ⟨[.int .i64 x.f9], [.int .i64 x.f10, .slice x.f11.A x.f11.n x.f11.c], rfl, rfl, ⟨[.int .i64 x.f10], [.slice x.f11.A x.f11.n x.f11.c], rfl, rfl, rfl⟩⟩⟩⟩⟩⟩⟩⟩⟩⟩⟩
def rd_T32 (xs : List S32) (i : Int) : S32 := xs.getD i.toNat z32
theorem at_T32 {w : World} {A : Option Addr} {n : Nat} {xs : List S32} (h : Kd.C k32 w A n xs) (i : Int) (h0 : 0 ≤ i) (h1 : i < n) : ∃ ad , A = some ad ∧ w.cell? (ad.add (i.toNat * 12)) = some (.int .i64 (rd_T32 xs i).f0) ∧ w.cell? ⟨(ad.add (i.toNat * 12)).block, (ad.add (i.toNat * 12)).off + 1, none⟩ = some (.int .i64 (rd_T32 xs i).f1) ∧ w.cell? ⟨(ad.add (i.toNat * 12)).block, (ad.add (i.toNat * 12)).off + 2, none⟩ = some (.int .i64 (rd_T32 xs i).f2) ∧ w.cell? ⟨(ad.add (i.toNat * 12)).block, (ad.add (i.toNat * 12)).off + 3, none⟩ = some (.int .i64 (rd_T32 xs i).f3) ∧ w.cell? ⟨(ad.add (i.toNat * 12)).block, (ad.add (i.toNat * 12)).off + 4, none⟩ = some (.int .i64 (rd_T32 xs i).f4) ∧ w.cell? ⟨(ad.add (i.toNat * 12)).block, (ad.add (i.toNat * 12)).off + 5, none⟩ = some (.int .i64 (rd_T32 xs i).f5) ∧ w.cell? ⟨(ad.add (i.toNat * 12)).block, (ad.add (i.toNat * 12)).off + 6, none⟩ = some (.int .i64 (rd_T32 xs i).f6) ∧ w.cell? ⟨(ad.add (i.toNat * 12)).block, (ad.add (i.toNat * 12)).off + 7, none⟩ = some (.int .i64 (rd_T32 xs i).f7) ∧ w.cell? ⟨(ad.add (i.toNat * 12)).block, (ad.add (i.toNat * 12)).off + 8, none⟩ = some (.int .i64 (rd_T32 xs i).f8) ∧ w.cell? ⟨(ad.add (i.toNat * 12)).block, (ad.add (i.toNat * 12)).off + 9, none⟩ = some (.int .i64 (rd_T32 xs i).f9) ∧ w.cell? ⟨(ad.add (i.toNat * 12)).block, (ad.add (i.toNat * 12)).off + 10, none⟩ = some (.int .i64 (rd_T32 xs i).f10) ∧ w.cell? ⟨(ad.add (i.toNat * 12)).block, (ad.add (i.toNat * 12)).off + 11, none⟩ = some (.slice (rd_T32 xs i).f11.A (rd_T32 xs i).f11.n (rd_T32 xs i).f11.c) := by
  obtain ⟨ad, c, e, _, hK, hc0⟩ := Kd.C_get h z32 i h0 h1
  have hc : ∀ j u, c[j]? = some u → w.cell? (ad.add (i.toNat * 12 + j)) = some u := hc0
  obtain rfl := k32_open hK
  exact ⟨ad, e, hc 0 _ rfl, by rw [← add_field _ _ 1 (by omega)]; exact hc 1 _ rfl, by rw [← add_field _ _ 2 (by omega)]; exact hc 2 _ rfl, by rw [← add_field _ _ 3 (by omega)]; exact hc 3 _ rfl, by rw [← add_field _ _ 4 (by omega)]; exact hc 4 _ rfl, by rw [← add_field _ _ 5 (by omega)]; exact hc 5 _ rfl, by rw [← add_field _ _ 6 (by omega)]; exact hc 6 _ rfl, by rw [← add_field _ _ 7 (by omega)]; exact hc 7 _ rfl, by rw [← add_field _ _ 8 (by omega)]; exact hc 8 _ rfl, by rw [← add_field _ _ 9 (by omega)]; exact hc 9 _ rfl, by rw [← add_field _ _ 10 (by omega)]; exact hc 10 _ rfl, by rw [← add_field _ _ 11 (by omega)]; exact hc 11 _ rfl⟩

def rd_L3 (xs : List (List Int)) (i : Int) : (List Int) := xs.getD i.toNat ([] : List Int)
structure S29 where
  f0 : Int
  f1 : Int
def z29 : S29 := ⟨(0 : Int), (0 : Int)⟩
def k29 : Kd S29 := Kd.iso (Kd.pair (Kd.int .i64) (Kd.int .i64)) (fun x : S29 => (x.f0, x.f1))
def rd_T29 (xs : List S29) (i : Int) : S29 := xs.getD i.toNat z29
def rd_L5 (xs : List (List S29)) (i : Int) : (List S29) := xs.getD i.toNat ([] : List S29)
structure S59 where
  f0 : Int
  f1 : Int
def z59 : S59 := ⟨(0 : Int), (0 : Int)⟩
def k59 : Kd S59 := Kd.iso (Kd.pair (Kd.int .i64) (Kd.int .i64)) (fun x : S59 => (x.f0, x.f1))
theorem k59_open {w : World} {x : S59} {cs : List Value} (h : k59.K w x cs) : cs = [.int .i64 x.f0, .int .i64 x.f1] := by
  obtain ⟨_, _, rfl, rfl, rfl⟩ := h
  exact rfl
theorem k59_mkM (w : World) (base : Nat) (ok : Nat → Prop) (x : S59)  : k59.M w base ok x [.int .i64 x.f0, .int .i64 x.f1] := ⟨[.int .i64 x.f0], [.int .i64 x.f1], rfl, rfl, rfl⟩
def rd_T59 (xs : List S59) (i : Int) : S59 := xs.getD i.toNat z59
theorem at_T59 {w : World} {A : Option Addr} {n : Nat} {xs : List S59} (h : Kd.C k59 w A n xs) (i : Int) (h0 : 0 ≤ i) (h1 : i < n) : ∃ ad , A = some ad ∧ w.cell? (ad.add (i.toNat * 2)) = some (.int .i64 (rd_T59 xs i).f0) ∧ w.cell? ⟨(ad.add (i.toNat * 2)).block, (ad.add (i.toNat * 2)).off + 1, none⟩ = some (.int .i64 (rd_T59 xs i).f1) := by
  obtain ⟨ad, c, e, _, hK, hc0⟩ := Kd.C_get h z59 i h0 h1
  have hc : ∀ j u, c[j]? = some u → w.cell? (ad.add (i.toNat * 2 + j)) = some u := hc0
  obtain rfl := k59_open hK
  exact ⟨ad, e, hc 0 _ rfl, by rw [← add_field _ _ 1 (by omega)]; exact hc 1 _ rfl⟩

def rd_L8 (xs : List (List S59)) (i : Int) : (List S59) := xs.getD i.toNat ([] : List S59)
structure S63 where
  f0 : Int
  f1 : Int
  f2 : Int
  f3 : Int
def z63 : S63 := ⟨(0 : Int), (0 : Int), (0 : Int), (0 : Int)⟩
def k63 : Kd S63 := Kd.iso (Kd.pair (Kd.int .i64) (Kd.pair (Kd.int .i64) (Kd.pair (Kd.int .i64) (Kd.int .i64)))) (fun x : S63 => (x.f0, x.f1, x.f2, x.f3))
theorem k63_open {w : World} {x : S63} {cs : List Value} (h : k63.K w x cs) : cs = [.int .i64 x.f0, .int .i64 x.f1, .int .i64 x.f2, .int .i64 x.f3] := by
  obtain ⟨_, _, rfl, rfl, ⟨_, _, rfl, rfl, ⟨_, _, rfl, rfl, rfl⟩⟩⟩ := h
  exact rfl
theorem k63_mkM (w : World) (base : Nat) (ok : Nat → Prop) (x : S63)  : k63.M w base ok x [.int .i64 x.f0, .int .i64 x.f1, .int .i64 x.f2, .int .i64 x.f3] := ⟨[.int .i64 x.f0], [.int .i64 x.f1, .int .i64 x.f2, .int .i64 x.f3], rfl, rfl, ⟨[.int .i64 x.f1], [.int .i64 x.f2, .int .i64 x.f3], rfl, rfl, ⟨[.int .i64 x.f2], [.int .i64 x.f3], rfl, rfl, rfl⟩⟩⟩
def rd_T63 (xs : List S63) (i : Int) : S63 := xs.getD i.toNat z63
theorem at_T63 {w : World} {A : Option Addr} {n : Nat} {xs : List S63} (h : Kd.C k63 w A n xs) (i : Int) (h0 : 0 ≤ i) (h1 : i < n) : ∃ ad , A = some ad ∧ w.cell? (ad.add (i.toNat * 4)) = some (.int .i64 (rd_T63 xs i).f0) ∧ w.cell? ⟨(ad.add (i.toNat * 4)).block, (ad.add (i.toNat * 4)).off + 1, none⟩ = some (.int .i64 (rd_T63 xs i).f1) ∧ w.cell? ⟨(ad.add (i.toNat * 4)).block, (ad.add (i.toNat * 4)).off + 2, none⟩ = some (.int .i64 (rd_T63 xs i).f2) ∧ w.cell? ⟨(ad.add (i.toNat * 4)).block, (ad.add (i.toNat * 4)).off + 3, none⟩ = some (.int .i64 (rd_T63 xs i).f3) := by
  obtain ⟨ad, c, e, _, hK, hc0⟩ := Kd.C_get h z63 i h0 h1
  have hc : ∀ j u, c[j]? = some u → w.cell? (ad.add (i.toNat * 4 + j)) = some u := hc0
  obtain rfl := k63_open hK
  exact ⟨ad, e, hc 0 _ rfl, by rw [← add_field _ _ 1 (by omega)]; exact hc 1 _ rfl, by rw [← add_field _ _ 2 (by omega)]; exact hc 2 _ rfl, by rw [← add_field _ _ 3 (by omega)]; exact hc 3 _ rfl⟩

def rd_L10 (xs : List (List S63)) (i : Int) : (List S63) := xs.getD i.toNat ([] : List S63)
def g32 (x : S32) : Prop := ((Lit.int .i64 x.f0).wf = true) ∧ ((Lit.int .i64 x.f1).wf = true) ∧ ((Lit.int .i64 x.f2).wf = true) ∧ ((Lit.int .i64 x.f3).wf = true) ∧ ((Lit.int .i64 x.f4).wf = true) ∧ ((Lit.int .i64 x.f5).wf = true) ∧ ((Lit.int .i64 x.f6).wf = true) ∧ ((Lit.int .i64 x.f7).wf = true) ∧ ((Lit.int .i64 x.f8).wf = true) ∧ ((Lit.int .i64 x.f9).wf = true) ∧ ((Lit.int .i64 x.f10).wf = true) ∧ (True)
end Go.Proofs.Ytkhfgflcanmefaa.PAll
end
section
namespace Go.Proofs.Ytkhfgflcanmefaa.PAll
open Go.RowKit Go.Proofs.YtkhfgflcanmefaaW.PrintWords Go.Proofs.YtkhfgflcanmefaaW.PrintLast Go.Proofs.YtkhfgflcanmefaaW.PrintMore
attribute [local go_sem] max2_int min2_int max_two min_two max_three min_three max_four min_four   -- for this text's walks alone
set_option linter.unusedVariables false
set_option linter.unusedSimpArgs false

def Plan (is : List (Nat × Nat)) (p : Prop) : Prop := p
theorem plan_ (is : List (Nat × Nat)) {p : Prop} (h : Plan is p) : p := h
theorem planEnd_ {p : Prop} (h : p) : Plan [] p := h
section
variable {P : Program} {ops : Array Oper} {Q : Exit → Act → World → Prop} {md : Region.Mode} {S : World → Prop} {ds : List Nat} {i N : Nat} {is : List (Nat × Nat)} {oi : Oper} {v : Value} {fuel : Nat} {l : Array Bool} {a : Act} {w : World}
theorem planP_ (hi : ops[i]? = some oi) (hN : oi.dst = some N) (hc : anyB md ops l (l.setIfInBounds i true) i = true) (hQ : ∀ c a w, Q (.panic c) (a.put oi.dst v) w → Q (.panic c) a w) (hy : Yields P ops oi v a) {a' : Act} (ha : a.put (some N) v = a')
    (h : Plan is (wpAnyLast P md ops Q S ds fuel (l.setIfInBounds i true) a' w)) : Plan ((i, N) :: is) (wpAnyLast P md ops Q S ds (fuel + 1) l a w) := pure_ _ hi hN hc hQ hy ha h
theorem planT_ (hi : ops[i]? = some oi) (hN : oi.dst = some N) (hc : takeB md ops ds l (l.setIfInBounds i true) i = true) (hQ : ∀ c a w, Q (.panic c) (a.put oi.dst v) w → Q (.panic c) a w) (hy : YieldsIf P ops S oi v a) (hS : S w) {a' : Act} (ha : a.put (some N) v = a')
    (h : Plan is (wpAnyLast P md ops Q S ds fuel (l.setIfInBounds i true) a' w)) : Plan ((i, N) :: is) (wpAnyLast P md ops Q S ds (fuel + 1) l a w) := take_ _ hi hN hc hQ hy hS ha h
end

theorem mB {p q : Prop} (h : p) (f : p → q := by intro h; repeat (first | (with_reducible first | exact h | apply below_alloc | apply pw_below_drewN | apply below_drew1) | exact h)) : q := f h
theorem mK {p q : Prop} (h : p) (f : p → q := by intro h; repeat (first | (with_reducible first | exact h | apply Kept.alloc | apply Kept.drewN | apply Kept.drew) | exact h)) : q := f h
theorem mR {p q : Prop} (h : p) (f : p → q := by intro h; (with_reducible repeat (first | apply Kd.R_alloc | apply Kd.R_drewN | apply Kd.R_drew)); exact h) : q := f h
theorem mV {p q : Prop} (h : p) (f : p → q := by intro h; (with_reducible repeat (first | apply Kd.V_alloc | apply Kd.V_drewN | apply Kd.V_drew)); exact h) : q := f h
theorem oda {p : Prop} [Decidable p] (h : decide p = true := by first | (with_reducible assumption) | assumption) : p := of_decide_eq_true h
theorem ez {p : Prop} (h : p := by first | rfl | (simp; done) | (simp [*]; done)) : p := h
theorem mBs {p q : Prop} (h : p) (f : p → q := by intro h; repeat (first | (with_reducible first | exact h | apply below_alloc | apply pw_below_drewN | apply below_drew1 | refine below_set ?_ (Aside0.out (by assumption))) | exact h)) : q := f h
theorem mBK {p q : Prop} (h : p) (f : p → q := by intro h; (with_reducible repeat first | apply blk_drewN | apply blk_drew | apply blk_alloc); exact h) : q := f h
theorem mC {p q : Prop} (h : p) (f : p → q := by intro h; repeat (first | exact h | (with_reducible refine Kd.C_alloc ?_ _) | (with_reducible refine Kd.C_drewN ?_ _) | (with_reducible refine Kd.C_drew ?_))) : q := f h
theorem mt {p : Prop} (h : p := by (try simp only [List.map_toArray, List.map_cons, List.map_nil]); first | done | rfl | (simp only [List.length_drop, List.length_take]; rfl)) : p := h
theorem mH {r p q : Prop} (hy : r) (H : p) (f : r → p → q := by intro hy H; first | (rw [hy]; with_reducible exact H) | (have H2_ := (Option.bind_some _ _).symm.trans H; rw [hy]; with_reducible exact H2_) | (have H2_ := (Option.bind_some _ _).symm.trans H; with_reducible exact H2_) | with_reducible exact H | (rw [hy]; exact H) | exact H) : q := f hy H
end Go.Proofs.Ytkhfgflcanmefaa.PAll
end
section
namespace Go.Proofs.Ytkhfgflcanmefaa.PAll
open Go.RowKit
abbrev cJ (x : S32) : Array Value := #[.int .i64 (x.f0), .int .i64 (x.f1), .int .i64 (x.f2), .int .i64 (x.f3), .int .i64 (x.f4), .int .i64 (x.f5), .int .i64 (x.f6), .int .i64 (x.f7), .int .i64 (x.f8), .int .i64 (x.f9), .int .i64 (x.f10), .slice (x.f11).A (x.f11).n (x.f11).c]
abbrev c12 (w : World) (p : Addr) (x : S32) (q : Prop) : Prop := w.cell? p = some (.int .i64 (x.f0)) ∧ w.cell? ⟨p.block, p.off + 1, none⟩ = some (.int .i64 (x.f1)) ∧ w.cell? ⟨p.block, p.off + 2, none⟩ = some (.int .i64 (x.f2)) ∧ w.cell? ⟨p.block, p.off + 3, none⟩ = some (.int .i64 (x.f3)) ∧ w.cell? ⟨p.block, p.off + 4, none⟩ = some (.int .i64 (x.f4)) ∧ w.cell? ⟨p.block, p.off + 5, none⟩ = some (.int .i64 (x.f5)) ∧ w.cell? ⟨p.block, p.off + 6, none⟩ = some (.int .i64 (x.f6)) ∧ w.cell? ⟨p.block, p.off + 7, none⟩ = some (.int .i64 (x.f7)) ∧ w.cell? ⟨p.block, p.off + 8, none⟩ = some (.int .i64 (x.f8)) ∧ w.cell? ⟨p.block, p.off + 9, none⟩ = some (.int .i64 (x.f9)) ∧ w.cell? ⟨p.block, p.off + 10, none⟩ = some (.int .i64 (x.f10)) ∧ w.cell? ⟨p.block, p.off + 11, none⟩ = some (.slice (x.f11).A (x.f11).n (x.f11).c) ∧ q
abbrev c12e (w : World) (p : Addr) (x : S32) : Prop := w.cell? p = some (.int .i64 (x.f0)) ∧ w.cell? ⟨p.block, p.off + 1, none⟩ = some (.int .i64 (x.f1)) ∧ w.cell? ⟨p.block, p.off + 2, none⟩ = some (.int .i64 (x.f2)) ∧ w.cell? ⟨p.block, p.off + 3, none⟩ = some (.int .i64 (x.f3)) ∧ w.cell? ⟨p.block, p.off + 4, none⟩ = some (.int .i64 (x.f4)) ∧ w.cell? ⟨p.block, p.off + 5, none⟩ = some (.int .i64 (x.f5)) ∧ w.cell? ⟨p.block, p.off + 6, none⟩ = some (.int .i64 (x.f6)) ∧ w.cell? ⟨p.block, p.off + 7, none⟩ = some (.int .i64 (x.f7)) ∧ w.cell? ⟨p.block, p.off + 8, none⟩ = some (.int .i64 (x.f8)) ∧ w.cell? ⟨p.block, p.off + 9, none⟩ = some (.int .i64 (x.f9)) ∧ w.cell? ⟨p.block, p.off + 10, none⟩ = some (.int .i64 (x.f10)) ∧ w.cell? ⟨p.block, p.off + 11, none⟩ = some (.slice (x.f11).A (x.f11).n (x.f11).c)
theorem hs_ {w w1 : World} {a : Addr} {v : Value} (hb : Below w.heap.size w w1) (h : w.cell? a = some v) : w1.cell? a = some v := (hb.cell (World.block_lt_of_cell? _ _ h)).trans h
end Go.Proofs.Ytkhfgflcanmefaa.PAll
end
section
namespace Go.Proofs.Ytkhfgflcanmefaa.PAll
open Go.RowKit Go.Proofs.YtkhfgflcanmefaaW.PrintWords Go.Proofs.YtkhfgflcanmefaaW.PrintLast Go.Proofs.YtkhfgflcanmefaaW.PrintMore
set_option linter.unusedVariables false
set_option linter.unusedSimpArgs false
structure S80 where
  f0 : Int
  f1 : Int
def z80 : S80 := ⟨(0 : Int), (0 : Int)⟩
def k80 : Kd S80 := Kd.iso (Kd.pair (Kd.int .i64) (Kd.int .i64)) (fun x : S80 => (x.f0, x.f1))
theorem k80_open {w : World} {x : S80} {cs : List Value} (h : k80.K w x cs) : cs = [.int .i64 x.f0, .int .i64 x.f1] := by
  obtain ⟨_, _, rfl, rfl, rfl⟩ := h
  exact rfl
def rd_T80 (xs : List S80) (i : Int) : S80 := xs.getD i.toNat z80
theorem at_T80 {w : World} {A : Option Addr} {n : Nat} {xs : List S80} (h : Kd.C k80 w A n xs) (i : Int) (h0 : 0 ≤ i) (h1 : i < n) : ∃ ad , A = some ad ∧ w.cell? (ad.add (i.toNat * 2)) = some (.int .i64 (rd_T80 xs i).f0) ∧ w.cell? ⟨(ad.add (i.toNat * 2)).block, (ad.add (i.toNat * 2)).off + 1, none⟩ = some (.int .i64 (rd_T80 xs i).f1) := by
  obtain ⟨ad, c, e, _, hK, hc0⟩ := Kd.C_get h z80 i h0 h1
  have hc : ∀ j u, c[j]? = some u → w.cell? (ad.add (i.toNat * 2 + j)) = some u := hc0
  obtain rfl := k80_open hK
  exact ⟨ad, e, hc 0 _ rfl, by rw [← add_field _ _ 1 (by omega)]; exact hc 1 _ rfl⟩


structure S32R where
  f0 : Int
  f1 : Int
  f2 : Int
  f3 : Int
  f4 : Int
  f5 : Int
  f6 : Int
  f7 : Int
  f8 : Int
  f9 : Int
  f10 : Int
  f11 : (List S80)
def z32R : S32R := ⟨(0 : Int), (0 : Int), (0 : Int), (0 : Int), (0 : Int), (0 : Int), (0 : Int), (0 : Int), (0 : Int), (0 : Int), (0 : Int), ([] : List S80)⟩
def k32R : Kd S32R := Kd.iso (Kd.pair (Kd.int .i64) (Kd.pair (Kd.int .i64) (Kd.pair (Kd.int .i64) (Kd.pair (Kd.int .i64) (Kd.pair (Kd.int .i64) (Kd.pair (Kd.int .i64) (Kd.pair (Kd.int .i64) (Kd.pair (Kd.int .i64) (Kd.pair (Kd.int .i64) (Kd.pair (Kd.int .i64) (Kd.pair (Kd.int .i64) (Kd.slice 80 k80)))))))))))) (fun x : S32R => (x.f0, x.f1, x.f2, x.f3, x.f4, x.f5, x.f6, x.f7, x.f8, x.f9, x.f10, x.f11))
theorem k32R_open {w : World} {x : S32R} {cs : List Value} (h : k32R.K w x cs) : ∃ A11 c11, cs = [.int .i64 x.f0, .int .i64 x.f1, .int .i64 x.f2, .int .i64 x.f3, .int .i64 x.f4, .int .i64 x.f5, .int .i64 x.f6, .int .i64 x.f7, .int .i64 x.f8, .int .i64 x.f9, .int .i64 x.f10, .slice A11 x.f11.length c11] ∧ x.f11.length ≤ c11 ∧ k80.C w A11 x.f11.length x.f11 := by
  obtain ⟨_, _, rfl, rfl, ⟨_, _, rfl, rfl, ⟨_, _, rfl, rfl, ⟨_, _, rfl, rfl, ⟨_, _, rfl, rfl, ⟨_, _, rfl, rfl, ⟨_, _, rfl, rfl, ⟨_, _, rfl, rfl, ⟨_, _, rfl, rfl, ⟨_, _, rfl, rfl, ⟨_, _, rfl, rfl, ⟨A11, c11, rfl, l11, g11⟩⟩⟩⟩⟩⟩⟩⟩⟩⟩⟩⟩ := h
  exact ⟨A11, c11, rfl, l11, g11⟩
def rd_T32R (xs : List S32R) (i : Int) : S32R := xs.getD i.toNat z32R
def rd_L4 (xs : List (List S32R)) (i : Int) : (List S32R) := xs.getD i.toNat ([] : List S32R)
def rd_L6 (xs : List (List Int)) (i : Int) : (List Int) := xs.getD i.toNat ([] : List Int)
def g80 (x : S80) : Prop := ((Lit.int .i64 x.f0).wf = true) ∧ ((Lit.int .i64 x.f1).wf = true)
def g32R (x : S32R) : Prop := ((Lit.int .i64 x.f0).wf = true) ∧ ((Lit.int .i64 x.f1).wf = true) ∧ ((Lit.int .i64 x.f2).wf = true) ∧ ((Lit.int .i64 x.f3).wf = true) ∧ ((Lit.int .i64 x.f4).wf = true) ∧ ((Lit.int .i64 x.f5).wf = true) ∧ ((Lit.int .i64 x.f6).wf = true) ∧ ((Lit.int .i64 x.f7).wf = true) ∧ ((Lit.int .i64 x.f8).wf = true) ∧ ((Lit.int .i64 x.f9).wf = true) ∧ ((Lit.int .i64 x.f10).wf = true) ∧ ((x.f11.length ≤ maxLen ∧ ∀ y ∈ x.f11, g80 y))
end Go.Proofs.Ytkhfgflcanmefaa.PAll
end
section
namespace Go.Proofs.Ytkhfgflcanmefaa.PAll
open Go.RowKit Go.Proofs.YtkhfgflcanmefaaW.PrintWords Go.Proofs.YtkhfgflcanmefaaW.PrintLast Go.Proofs.YtkhfgflcanmefaaW.PrintMore
attribute [local go_sem] max2_int min2_int max_two min_two max_three min_three max_four min_four   -- for this text's walks alone
set_option linter.unusedVariables false
set_option linter.unusedSimpArgs false

def job_in.f (a0 : Int) (a1 : Int) (a2 : Int) : Option (Bool) := if a0 ≥ a1 then (some (decide (a0 ≤ a2))) else (some false)
set_option maxHeartbeats 8000000 in
set_option maxRecDepth 100000 in
theorem job_in.calls (a0 : Int) (a1 : Int) (a2 : Int) (r : Bool) (w : World) (h : job_in.f a0 a1 a2 = some r) :
    Calls Try.prog 48 #[.int .i64 a0, .int .i64 a1, .int .i64 a2] w fun e w' => e = .returned (.bool r) ∧ Drawn0 w w' := by
  have H : (if a0 ≥ a1 then (some (decide (a0 ≤ a2))) else (some false)) = some r := h
  clear h
  by_cases c4 : a0 ≥ a1
  · rw [if_pos c4] at H
    have c4b0 : decide (a1 ≤ a0) = true := decide_eq_true c4
    clear c4
    obtain rfl := Option.some.inj H
    go_enter Try.func48, Try.ntmps48
    go_wp2
    go_ret
    exact ⟨by first | rfl | (simp; done) | (simp [*]; done), by repeat (first | exact Drawn0.refl _ | apply Drawn0.step)⟩
  · rw [if_neg c4] at H
    have c4b0 : decide (a1 ≤ a0) = false := decide_eq_false c4
    clear c4
    obtain rfl := Option.some.inj H
    go_enter Try.func48, Try.ntmps48
    go_wp2
    go_ret
    exact ⟨by first | rfl | (simp; done) | (simp [*]; done), by repeat (first | exact Drawn0.refl _ | apply Drawn0.step)⟩

end Go.Proofs.Ytkhfgflcanmefaa.PAll
end
section
namespace Go.Proofs.Ytkhfgflcanmefaa.PAll
open Go.RowKit Go.Proofs.YtkhfgflcanmefaaW.PrintWords Go.Proofs.YtkhfgflcanmefaaW.PrintLast Go.Proofs.YtkhfgflcanmefaaW.PrintMore
set_option linter.unusedVariables false
set_option linter.unusedSimpArgs false

theorem and_255 (x : Int) (h0 : 0 ≤ x) (h1 : x < 4294967296) : Go.bits .and .u32 x 255 = x % 256 := by
  have hk : ∀ n : Int, 0 ≤ n → n < 2 ^ 32 → IntKind.u32.wrap n = n := fun n a b => by rw [IntKind.wrap_u32]; omega
  exact bits_mask .u32 32 (by decide) hk 8 (by decide) x h0 (by omega)
theorem pop8_bd (x : Int) (h0 : 0 ≤ x) (h1 : x < 256) : 0 ≤ Go.Lib.pop8 x ∧ Go.Lib.pop8 x ≤ 8 := by
  have e := Go.Lib.pop8_eq ⟨x.toNat, by omega⟩
  have l := Go.Lib.onesCount_le8 ⟨x.toNat, by omega⟩
  simp only [Int.toNat_of_nonneg h0] at e l
  omega
theorem idx_gen {oi : Oper} {a : Act} {n : Tmp} {T : ByteArray} (x : Int) (hop : oi.op = .index 9 (.const (.string T)) (.tmp n)) (hx : a.eval (.tmp n) = .int .u32 x) (h0 : 0 ≤ x) (hs : x.toNat < T.size) (w' : World) : (execOp a.eval oi).run Try.prog w' = .ok (.value (.int .u8 (((T[x.toNat]?).getD 0).toNat : Int))) w' := by
  obtain ⟨q, hg⟩ : ∃ q, T[x.toNat]? = some q := ⟨T[x.toNat]'hs, getElem?_pos T x.toNat hs⟩
  rw [hg]
  have hc : a.eval (.const (.string T)) = .string T := rfl
  unfold execOp
  simp [hop, hx, hc, Instr.index, asIntOf, run_underlying Try.underlying9, h0, hg]
theorem idx_pop {oi : Oper} {a : Act} {n : Tmp} {T : ByteArray} (hT : T = Go.Lib.pop8tab) (x : Int) (hop : oi.op = .index 9 (.const (.string T)) (.tmp n)) (hx : a.eval (.tmp n) = .int .u32 x) (h0 : 0 ≤ x) (h1 : x < 256) (w' : World) : (execOp a.eval oi).run Try.prog w' = .ok (.value (.int .u8 (Go.Lib.pop8 x))) w' := by
  have hs : x.toNat < T.size := by rw [hT, Go.Lib.pop8tab_size]; omega
  have h := idx_gen x hop hx h0 hs w'
  rw [hT] at h
  exact h
def pop4 (a0 : Int) : Int := Go.Lib.pop8 (a0 / 16777216) + Go.Lib.pop8 (a0 / 65536 % 256) + Go.Lib.pop8 (a0 / 256 % 256) + Go.Lib.pop8 (a0 % 256)
def bits_OnesCount32.f (a0 : Int) : Option (Int) := if 0 ≤ a0 ∧ a0 < 4294967296 then some (pop4 a0) else none
set_option maxHeartbeats 8000000 in
set_option maxRecDepth 100000 in
theorem bits_OnesCount32.calls (a0 : Int) (r : Int) (w : World) (h : bits_OnesCount32.f a0 = some r) :
    Calls Try.prog 60 #[.int .u32 a0] w fun e w' => e = .returned (.int .i64 r) ∧ Drawn0 w w' := by
  unfold bits_OnesCount32.f at h
  by_cases c : 0 ≤ a0 ∧ a0 < 4294967296
  · rw [if_pos c] at h
    obtain rfl := Option.some.inj h
    obtain ⟨c1, c2⟩ := c
    have e1 := and_255 (a0 / 65536) (by omega) (by omega)
    have e2 := and_255 (a0 / 256) (by omega) (by omega)
    have e3 := and_255 a0 c1 c2
    obtain ⟨x1, h1_⟩ : ∃ x, a0 / 16777216 = x := ⟨_, rfl⟩
    obtain ⟨x2, h2⟩ : ∃ x, a0 / 65536 % 256 = x := ⟨_, rfl⟩
    obtain ⟨x3, h3⟩ : ∃ x, a0 / 256 % 256 = x := ⟨_, rfl⟩
    obtain ⟨x4, h4⟩ : ∃ x, a0 % 256 = x := ⟨_, rfl⟩
    have b1 : 0 ≤ x1 ∧ x1 < 256 := by omega
    have b2 : 0 ≤ x2 ∧ x2 < 256 := by omega
    have b3 : 0 ≤ x3 ∧ x3 < 256 := by omega
    have b4 : 0 ≤ x4 ∧ x4 < 256 := by omega
    rw [h2] at e1; rw [h3] at e2; rw [h4] at e3
    unfold pop4
    rw [h1_, h2, h3, h4]
    clear h2 h3 h4 c1 c2 h
    go_enter Try.func60, Try.ntmps60
    go_wp2
    refine start_ (n := 19) (S := fun _ => True) (ds := []) #[false, false, false, false, false, false, false, false, false, false, false, false, false, false, false, false, false, false, false] (by kernel_rfl) rfl rfl trivial (fun hHeld => ?_)
    refine pure_ (i := 0) (N := some 3) (v := ?_) (a' := ?_) #[true, false, false, false, false, false, false, false, false, false, false, false, false, false, false, false, false, false, false] rfl rfl (by kernel_rfl) (fun _ _ _ h => h) (Or.inl ⟨by rfl, ?_⟩) ?_ ?_
    rotate_left
    · intro w'
      go_simp
      (try simp only [e1, e2, e3, h1_])
      with_reducible rfl
    rotate_left
    · simp only [Act.put, List.setIfInBounds_toArray, List.set_cons_zero, List.set_cons_succ, i64_w, i32_w]
      rfl
    refine pure_ (i := 1) (N := some 4) (v := ?_) (a' := ?_) #[true, true, false, false, false, false, false, false, false, false, false, false, false, false, false, false, false, false, false] rfl rfl (by kernel_rfl) (fun _ _ _ h => h) (Or.inl ⟨by rfl, ?_⟩) ?_ ?_
    rotate_left
    · intro w'
      go_simp
      (try simp only [e1, e2, e3, h1_])
      with_reducible rfl
    rotate_left
    · simp only [Act.put, List.setIfInBounds_toArray, List.set_cons_zero, List.set_cons_succ, i64_w, i32_w]
      rfl
    refine pure_ (i := 2) (N := some 5) (v := .int .u8 (Go.Lib.pop8 x1)) (a' := ?_) #[true, true, true, false, false, false, false, false, false, false, false, false, false, false, false, false, false, false, false] rfl rfl (by kernel_rfl) (fun _ _ _ h => h) (Or.inl ⟨by rfl, fun w' => idx_pop (by kernel_rfl) x1 rfl rfl b1.1 b1.2 w'⟩) ?_ ?_
    rotate_left
    · simp only [Act.put, List.setIfInBounds_toArray, List.set_cons_zero, List.set_cons_succ, i64_w, i32_w]
      rfl
    refine pure_ (i := 3) (N := some 6) (v := ?_) (a' := ?_) #[true, true, true, true, false, false, false, false, false, false, false, false, false, false, false, false, false, false, false] rfl rfl (by kernel_rfl) (fun _ _ _ h => h) (Or.inl ⟨by rfl, ?_⟩) ?_ ?_
    rotate_left
    · intro w'
      go_simp
      (try simp only [e1, e2, e3, h1_])
      with_reducible rfl
    rotate_left
    · simp only [Act.put, List.setIfInBounds_toArray, List.set_cons_zero, List.set_cons_succ, i64_w, i32_w]
      rfl
    refine pure_ (i := 4) (N := some 7) (v := ?_) (a' := ?_) #[true, true, true, true, true, false, false, false, false, false, false, false, false, false, false, false, false, false, false] rfl rfl (by kernel_rfl) (fun _ _ _ h => h) (Or.inl ⟨by rfl, ?_⟩) ?_ ?_
    rotate_left
    · intro w'
      go_simp
      (try simp only [e1, e2, e3, h1_])
      with_reducible rfl
    rotate_left
    · simp only [Act.put, List.setIfInBounds_toArray, List.set_cons_zero, List.set_cons_succ, i64_w, i32_w]
      rfl
    refine pure_ (i := 5) (N := some 8) (v := ?_) (a' := ?_) #[true, true, true, true, true, true, false, false, false, false, false, false, false, false, false, false, false, false, false] rfl rfl (by kernel_rfl) (fun _ _ _ h => h) (Or.inl ⟨by rfl, ?_⟩) ?_ ?_
    rotate_left
    · intro w'
      go_simp
      (try simp only [e1, e2, e3, h1_])
      with_reducible rfl
    rotate_left
    · simp only [Act.put, List.setIfInBounds_toArray, List.set_cons_zero, List.set_cons_succ, i64_w, i32_w]
      rfl
    refine pure_ (i := 6) (N := some 9) (v := .int .u8 (Go.Lib.pop8 x2)) (a' := ?_) #[true, true, true, true, true, true, true, false, false, false, false, false, false, false, false, false, false, false, false] rfl rfl (by kernel_rfl) (fun _ _ _ h => h) (Or.inl ⟨by rfl, fun w' => idx_pop (by kernel_rfl) x2 rfl rfl b2.1 b2.2 w'⟩) ?_ ?_
    rotate_left
    · simp only [Act.put, List.setIfInBounds_toArray, List.set_cons_zero, List.set_cons_succ, i64_w, i32_w]
      rfl
    refine pure_ (i := 7) (N := some 10) (v := ?_) (a' := ?_) #[true, true, true, true, true, true, true, true, false, false, false, false, false, false, false, false, false, false, false] rfl rfl (by kernel_rfl) (fun _ _ _ h => h) (Or.inl ⟨by rfl, ?_⟩) ?_ ?_
    rotate_left
    · intro w'
      go_simp
      (try simp only [e1, e2, e3, h1_])
      with_reducible rfl
    rotate_left
    · simp only [Act.put, List.setIfInBounds_toArray, List.set_cons_zero, List.set_cons_succ, i64_w, i32_w]
      rfl
    refine pure_ (i := 8) (N := some 11) (v := ?_) (a' := ?_) #[true, true, true, true, true, true, true, true, true, false, false, false, false, false, false, false, false, false, false] rfl rfl (by kernel_rfl) (fun _ _ _ h => h) (Or.inl ⟨by rfl, ?_⟩) ?_ ?_
    rotate_left
    · intro w'
      go_simp
      (try simp only [e1, e2, e3, h1_])
      with_reducible rfl
    rotate_left
    · simp only [Act.put, List.setIfInBounds_toArray, List.set_cons_zero, List.set_cons_succ, i64_w, i32_w]
      rfl
    refine pure_ (i := 9) (N := some 12) (v := ?_) (a' := ?_) #[true, true, true, true, true, true, true, true, true, true, false, false, false, false, false, false, false, false, false] rfl rfl (by kernel_rfl) (fun _ _ _ h => h) (Or.inl ⟨by rfl, ?_⟩) ?_ ?_
    rotate_left
    · intro w'
      go_simp
      (try simp only [e1, e2, e3, h1_])
      with_reducible rfl
    rotate_left
    · simp only [Act.put, List.setIfInBounds_toArray, List.set_cons_zero, List.set_cons_succ, i64_w, i32_w]
      rfl
    refine pure_ (i := 10) (N := some 13) (v := ?_) (a' := ?_) #[true, true, true, true, true, true, true, true, true, true, true, false, false, false, false, false, false, false, false] rfl rfl (by kernel_rfl) (fun _ _ _ h => h) (Or.inl ⟨by rfl, ?_⟩) ?_ ?_
    rotate_left
    · intro w'
      go_simp
      (try simp only [e1, e2, e3, h1_])
      with_reducible rfl
    rotate_left
    · simp only [Act.put, List.setIfInBounds_toArray, List.set_cons_zero, List.set_cons_succ, i64_w, i32_w]
      rfl
    refine pure_ (i := 11) (N := some 14) (v := .int .u8 (Go.Lib.pop8 x3)) (a' := ?_) #[true, true, true, true, true, true, true, true, true, true, true, true, false, false, false, false, false, false, false] rfl rfl (by kernel_rfl) (fun _ _ _ h => h) (Or.inl ⟨by rfl, fun w' => idx_pop (by kernel_rfl) x3 rfl rfl b3.1 b3.2 w'⟩) ?_ ?_
    rotate_left
    · simp only [Act.put, List.setIfInBounds_toArray, List.set_cons_zero, List.set_cons_succ, i64_w, i32_w]
      rfl
    refine pure_ (i := 12) (N := some 15) (v := ?_) (a' := ?_) #[true, true, true, true, true, true, true, true, true, true, true, true, true, false, false, false, false, false, false] rfl rfl (by kernel_rfl) (fun _ _ _ h => h) (Or.inl ⟨by rfl, ?_⟩) ?_ ?_
    rotate_left
    · intro w'
      go_simp
      (try simp only [e1, e2, e3, h1_])
      with_reducible rfl
    rotate_left
    · simp only [Act.put, List.setIfInBounds_toArray, List.set_cons_zero, List.set_cons_succ, i64_w, i32_w]
      rfl
    refine pure_ (i := 13) (N := some 16) (v := ?_) (a' := ?_) #[true, true, true, true, true, true, true, true, true, true, true, true, true, true, false, false, false, false, false] rfl rfl (by kernel_rfl) (fun _ _ _ h => h) (Or.inl ⟨by rfl, ?_⟩) ?_ ?_
    rotate_left
    · intro w'
      go_simp
      (try simp only [e1, e2, e3, h1_])
      with_reducible rfl
    rotate_left
    · simp only [Act.put, List.setIfInBounds_toArray, List.set_cons_zero, List.set_cons_succ, i64_w, i32_w]
      rfl
    refine pure_ (i := 14) (N := some 17) (v := ?_) (a' := ?_) #[true, true, true, true, true, true, true, true, true, true, true, true, true, true, true, false, false, false, false] rfl rfl (by kernel_rfl) (fun _ _ _ h => h) (Or.inl ⟨by rfl, ?_⟩) ?_ ?_
    rotate_left
    · intro w'
      go_simp
      (try simp only [e1, e2, e3, h1_])
      with_reducible rfl
    rotate_left
    · simp only [Act.put, List.setIfInBounds_toArray, List.set_cons_zero, List.set_cons_succ, i64_w, i32_w]
      rfl
    refine pure_ (i := 15) (N := some 18) (v := .int .u8 (Go.Lib.pop8 x4)) (a' := ?_) #[true, true, true, true, true, true, true, true, true, true, true, true, true, true, true, true, false, false, false] rfl rfl (by kernel_rfl) (fun _ _ _ h => h) (Or.inl ⟨by rfl, fun w' => idx_pop (by kernel_rfl) x4 rfl rfl b4.1 b4.2 w'⟩) ?_ ?_
    rotate_left
    · simp only [Act.put, List.setIfInBounds_toArray, List.set_cons_zero, List.set_cons_succ, i64_w, i32_w]
      rfl
    refine pure_ (i := 16) (N := some 19) (v := ?_) (a' := ?_) #[true, true, true, true, true, true, true, true, true, true, true, true, true, true, true, true, true, false, false] rfl rfl (by kernel_rfl) (fun _ _ _ h => h) (Or.inl ⟨by rfl, ?_⟩) ?_ ?_
    rotate_left
    · intro w'
      go_simp
      (try simp only [e1, e2, e3, h1_])
      with_reducible rfl
    rotate_left
    · simp only [Act.put, List.setIfInBounds_toArray, List.set_cons_zero, List.set_cons_succ, i64_w, i32_w]
      rfl
    refine pure_ (i := 17) (N := some 20) (v := ?_) (a' := ?_) #[true, true, true, true, true, true, true, true, true, true, true, true, true, true, true, true, true, true, false] rfl rfl (by kernel_rfl) (fun _ _ _ h => h) (Or.inl ⟨by rfl, ?_⟩) ?_ ?_
    rotate_left
    · intro w'
      go_simp
      (try simp only [e1, e2, e3, h1_])
      with_reducible rfl
    rotate_left
    · simp only [Act.put, List.setIfInBounds_toArray, List.set_cons_zero, List.set_cons_succ, i64_w, i32_w]
      rfl
    refine pure_ (i := 18) (N := some 2) (v := ?_) (a' := ?_) #[true, true, true, true, true, true, true, true, true, true, true, true, true, true, true, true, true, true, true] rfl rfl (by kernel_rfl) (fun _ _ _ h => h) (Or.inl ⟨by rfl, ?_⟩) ?_ ?_
    rotate_left
    · intro w'
      go_simp
      (try simp only [e1, e2, e3, h1_])
      with_reducible rfl
    rotate_left
    · simp only [Act.put, List.setIfInBounds_toArray, List.set_cons_zero, List.set_cons_succ, i64_w, i32_w]
      rfl
    refine done_ (by kernel_rfl) ?_
    obtain ⟨p1, q1⟩ := pop8_bd x1 b1.1 b1.2
    obtain ⟨p2, q2⟩ := pop8_bd x2 b2.1 b2.2
    obtain ⟨p3, q3⟩ := pop8_bd x3 b3.1 b3.2
    obtain ⟨p4, q4⟩ := pop8_bd x4 b4.1 b4.2
    have z1 : IntKind.u8.wrap (Go.Lib.pop8 x1 + Go.Lib.pop8 x2) = Go.Lib.pop8 x1 + Go.Lib.pop8 x2 := by rw [IntKind.wrap_u8]; omega
    have z2 : IntKind.u8.wrap (Go.Lib.pop8 x1 + Go.Lib.pop8 x2 + Go.Lib.pop8 x3) = Go.Lib.pop8 x1 + Go.Lib.pop8 x2 + Go.Lib.pop8 x3 := by rw [IntKind.wrap_u8]; omega
    have z3 : IntKind.u8.wrap (Go.Lib.pop8 x1 + Go.Lib.pop8 x2 + Go.Lib.pop8 x3 + Go.Lib.pop8 x4) = Go.Lib.pop8 x1 + Go.Lib.pop8 x2 + Go.Lib.pop8 x3 + Go.Lib.pop8 x4 := by rw [IntKind.wrap_u8]; omega
    have z4 : wrap64 (Go.Lib.pop8 x1 + Go.Lib.pop8 x2 + Go.Lib.pop8 x3 + Go.Lib.pop8 x4) = Go.Lib.pop8 x1 + Go.Lib.pop8 x2 + Go.Lib.pop8 x3 + Go.Lib.pop8 x4 := by unfold wrap64; omega
    simp only [z1, z2, z3, z4]
    clear z1 z2 z3 z4
    try go_wp2
    go_ret
    exact ⟨by first | rfl | simp, by repeat (first | exact Drawn0.refl _ | apply Drawn0.step)⟩
  · rw [if_neg c] at h; simp at h
end Go.Proofs.Ytkhfgflcanmefaa.PAll
end
section
namespace Go.Proofs.Ytkhfgflcanmefaa.PAll
open Go.RowKit Go.Proofs.YtkhfgflcanmefaaW.PrintWords Go.Proofs.YtkhfgflcanmefaaW.PrintLast Go.Proofs.YtkhfgflcanmefaaW.PrintMore
attribute [local go_sem] max2_int min2_int max_two min_two max_three min_three max_four min_four   -- for this text's walks alone
set_option linter.unusedVariables false
set_option linter.unusedSimpArgs false

def pool_Count.f (a0 : Int) : Option (Int) := (bits_OnesCount32.f ((a0) % 4294967296)).bind fun t319 => (some t319)
set_option maxHeartbeats 8000000 in
set_option maxRecDepth 100000 in
theorem pool_Count.calls (a0 : Int) (r : Int) (w : World) (h : pool_Count.f a0 = some r) :
    Calls Try.prog 49 #[.int .i64 a0] w fun e w' => e = .returned (.int .i64 r) ∧ Drawn0 w w' := by
  have H : ((bits_OnesCount32.f ((a0) % 4294967296)).bind fun t319 => (some t319)) = some r := h
  clear h
  replace H := Option.bind_eq_some_iff.mp H
  obtain ⟨t319, A20, H⟩ := H
  replace H : (some t319) = some r := H
  have A2 := Aside0.mk A20
  clear A20
  obtain rfl := Option.some.inj H
  go_enter Try.func49, Try.ntmps49
  go_wp2_with (first | ((with_reducible refine gate_callee (f := 60) rfl ?_); refine goesL_ (some 5) rfl rfl Try.func60 (by kernel_rfl) rfl #[.int .u32 ((a0) % 4294967296)] rfl (by (try simp only [List.map_toArray, List.map_cons, List.map_nil]); first | done | rfl | (simp only [List.length_drop, List.length_take]; rfl)) ?_; (with_reducible refine (bits_OnesCount32.calls ((a0) % 4294967296) t319 _ A2.out).mono ?_); rintro e w' ⟨rfl, ⟨nd, rfl⟩⟩; refine ⟨_, rfl, ?_⟩))
  go_ret
  exact ⟨by first | rfl | (simp; done) | (simp [*]; done), by repeat (first | exact Drawn0.refl _ | apply Drawn0.step)⟩

end Go.Proofs.Ytkhfgflcanmefaa.PAll
end
section
namespace Go.Proofs.Ytkhfgflcanmefaa.PAll
open Go.RowKit Go.Proofs.YtkhfgflcanmefaaW.PrintWords Go.Proofs.YtkhfgflcanmefaaW.PrintLast Go.Proofs.YtkhfgflcanmefaaW.PrintMore
attribute [local go_sem] max2_int min2_int max_two min_two max_three min_three max_four min_four   -- for this text's walks alone
set_option linter.unusedVariables false
set_option linter.unusedSimpArgs false

def job_draws.l0 : Nat → Int → List (S80) → Int → Int → Option (Bool)
 | 0, _, _, _, _ => none
 | k + 1, x3, x6, x7, x8 => if x8 < x7 then (if 0 ≤ x8 then (if x8 < (x6.length : Int) then ((job_in.f ((rd_T80 x6 x8).f0) 0 15).bind fun t397 => (if t397 = true then ((job_in.f ((rd_T80 x6 x8).f1) 1 1152921504606846976).bind fun t398 => (if t398 = true then (if 0 ≤ ((rd_T80 x6 x8).f0) then (if (Go.bits .and .i64 (shr .i64 x3 ((rd_T80 x6 x8).f0)) 1) = 1 then (some false) else (job_draws.l0 k (Go.bits .or .i64 x3 (shl .i64 1 ((rd_T80 x6 x8).f0))) x6 x7 (wrap64 (x8 + 1)))) else (none)) else (some false))) else (some false))) else (none)) else (none)) else (some true)
def job_draws.f (k : Nat) (l0 : List (S80)) : Option (Bool) := job_draws.l0 k 0 l0 (l0.length : Int) 0
theorem job_draws.mono_l : ∀ k, (∀ y0 y1 y2 y3, LeO (job_draws.l0 k y0 y1 y2 y3) (job_draws.l0 (k + 1) y0 y1 y2 y3))
 | 0 => fun _ _ _ _ r h => by simp [job_draws.l0] at h
 | k + 1 => by
  have ih0 := job_draws.mono_l k
  ·intro y0 y1 y2 y3
   unfold job_draws.l0
   repeat' first
   | (with_reducible exact ih0 _ _ _ _)
   | (with_reducible exact LeO.refl _)
   | (with_reducible exact LeO.none _)
   | (with_reducible refine LeO.ite ?_ ?_)
   | (with_reducible refine LeO.bind ?_ (fun _ => ?_))
   | exact ih0 _ _ _ _
   | exact LeO.none _
   | refine LeO.ite ?_ ?_
   | refine LeO.bind ?_ (fun _ => ?_)
theorem job_draws.mono : ∀ a0 k, LeO (job_draws.f k a0) (job_draws.f (k + 1) a0) := by
 intro a0 k
 have ih0 := job_draws.mono_l k
 unfold job_draws.f
 repeat' first
   | (with_reducible exact ih0 _ _ _ _)
   | (with_reducible exact LeO.refl _)
   | (with_reducible exact LeO.none _)
   | (with_reducible refine LeO.ite ?_ ?_)
   | (with_reducible refine LeO.bind ?_ (fun _ => ?_))
   | exact ih0 _ _ _ _
   | exact LeO.none _
   | refine LeO.ite ?_ ?_
   | refine LeO.bind ?_ (fun _ => ?_)
set_option maxHeartbeats 8000000 in
set_option maxRecDepth 100000 in
theorem job_draws.calls (k : Nat) (A0 : Option Addr) (c0 : Nat) (l0 : List (S80)) (r : Bool) (w : World) (hr0 : Kd.C k80 w A0 l0.length l0) (hc0 : l0.length ≤ c0) (h : job_draws.f k l0 = some r) :
  Calls Try.prog 50 #[.slice A0 l0.length c0] w fun e w' => e = .returned (.bool r) ∧ Below w.heap.size w w' := by
 have hu80 := Try.underlying80
 have HR0 := Aside0.mk hr0
 have HC0 := Aside0.mk hc0
 clear hr0; clear hc0
 have HB := Aside0.mk (Below.refl w.heap.size w)
 have H : (job_draws.l0 k 0 l0 (l0.length : Int) 0) = some r := h
 clear h
 have H' := Aside0.mk H
 clear H
 go_enter Try.func50, Try.ntmps50
 go_wp2
 go_loopg [3, 8] k (fun kq v3 v8 w' => ∃ (x3_1 : Int) (x8_1 : Int), v3 = .int .i64 x3_1 ∧ v8 = .int .i64 x8_1 ∧ Aside0 (job_draws.l0 kq x3_1 l0 (l0.length : Int) x8_1 = some r) ∧ Aside0 (kq ≤ k) ∧ Aside0 (Below w.heap.size w w'))
 case atStart => exact ⟨(0), (0), ez, ez, H', ⟨Nat.le_refl _⟩, ⟨mB HB.out⟩⟩
 case round =>
  clear H'
  obtain ⟨x3_1, x8_1, rfl, rfl, HA, HK1, HB⟩ := hrel
  cases gk with
  | zero => exact absurd HA.out (by simp [job_draws.l0])
  | succ k1 =>
   have H := HA.out
   clear HA
   simp only [job_draws.l0] at H
   by_cases c2 : x8_1 < (l0.length : Int)
   ·rw [if_pos c2] at H
    have c2b0 : decide (x8_1 < (l0.length : Int)) = true := decide_eq_true c2
    clear c2
    by_cases c3 : 0 ≤ x8_1
    ·rw [if_pos c3] at H
     have c3b0 : decide (0 ≤ x8_1) = true := decide_eq_true c3
     clear c3
     by_cases c4 : x8_1 < (l0.length : Int)
     ·rw [if_pos c4] at H
      have c4b0 : decide (x8_1 < (l0.length : Int)) = true := decide_eq_true c4
      clear c4
      replace H := Option.bind_eq_some_iff.mp H
      obtain ⟨t397, A50, H⟩ := H
      replace H : (if t397 = true then ((job_in.f ((rd_T80 l0 x8_1).f1) 1 1152921504606846976).bind fun t398 => (if t398 = true then (if 0 ≤ ((rd_T80 l0 x8_1).f0) then (if (Go.bits .and .i64 (shr .i64 x3_1 ((rd_T80 l0 x8_1).f0)) 1) = 1 then (some false) else (job_draws.l0 k1 (Go.bits .or .i64 x3_1 (shl .i64 1 ((rd_T80 l0 x8_1).f0))) l0 (l0.length : Int) (wrap64 (x8_1 + 1)))) else (none)) else (some false))) else (some false)) = some r := H
      have A5 := Aside0.mk A50
      clear A50
      by_cases c6 : t397 = true
      ·subst c6
       have H1 : ((job_in.f ((rd_T80 l0 x8_1).f1) 1 1152921504606846976).bind fun t398 => (if t398 = true then (if 0 ≤ ((rd_T80 l0 x8_1).f0) then (if (Go.bits .and .i64 (shr .i64 x3_1 ((rd_T80 l0 x8_1).f0)) 1) = 1 then (some false) else (job_draws.l0 k1 (Go.bits .or .i64 x3_1 (shl .i64 1 ((rd_T80 l0 x8_1).f0))) l0 (l0.length : Int) (wrap64 (x8_1 + 1)))) else (none)) else (some false))) = some r := by rw [if_pos rfl] at H; exact H
       clear H
       have H := H1
       clear H1
       replace H := Option.bind_eq_some_iff.mp H
       obtain ⟨t398, A70, H⟩ := H
       replace H : (if t398 = true then (if 0 ≤ ((rd_T80 l0 x8_1).f0) then (if (Go.bits .and .i64 (shr .i64 x3_1 ((rd_T80 l0 x8_1).f0)) 1) = 1 then (some false) else (job_draws.l0 k1 (Go.bits .or .i64 x3_1 (shl .i64 1 ((rd_T80 l0 x8_1).f0))) l0 (l0.length : Int) (wrap64 (x8_1 + 1)))) else (none)) else (some false)) = some r := H
       have A7 := Aside0.mk A70
       clear A70
       by_cases c8 : t398 = true
       ·subst c8
        have H1 : (if 0 ≤ ((rd_T80 l0 x8_1).f0) then (if (Go.bits .and .i64 (shr .i64 x3_1 ((rd_T80 l0 x8_1).f0)) 1) = 1 then (some false) else (job_draws.l0 k1 (Go.bits .or .i64 x3_1 (shl .i64 1 ((rd_T80 l0 x8_1).f0))) l0 (l0.length : Int) (wrap64 (x8_1 + 1)))) else (none)) = some r := by rw [if_pos rfl] at H; exact H
        clear H
        have H := H1
        clear H1
        by_cases c9 : 0 ≤ ((rd_T80 l0 x8_1).f0)
        ·rw [if_pos c9] at H
         have c9b0 := eq_true c9
         have c9b1 : decide (0 ≤ ((rd_T80 l0 x8_1).f0)) = true := decide_eq_true c9
         clear c9
         obtain ⟨ji10, hji10⟩ : ∃ j_ : Int, (shr .i64 x3_1 ((rd_T80 l0 x8_1).f0)) = j_ := ⟨_, rfl⟩
         replace H : (if (Go.bits .and .i64 (ji10) 1) = 1 then (some false) else (job_draws.l0 k1 (Go.bits .or .i64 x3_1 (shl .i64 1 ((rd_T80 l0 x8_1).f0))) l0 (l0.length : Int) (wrap64 (x8_1 + 1)))) = some r := by first | (rw [hji10] at H; exact H) | (simp only [hji10] at H ⊢; exact H)
         (try rw [hji10] at A5)
         (try rw [hji10] at A7)
         have hji10_ : (x3_1 / 2 ^ min ((rd_T80 l0 x8_1).f0).toNat 64) = ji10 := hji10
         have hji10z : ((rd_T80 l0 x8_1).f0) ≤ 64 → (x3_1 / 2 ^ ((rd_T80 l0 x8_1).f0).toNat) = ji10 := shr_small hji10
         by_cases c11 : (Go.bits .and .i64 (ji10) 1) = 1
         ·rw [if_pos c11] at H
          have c11b0 : ((Go.bits .and .i64 (ji10) 1) == 1) = true := beq_iff_eq.mpr c11
          have c11b1 : ((Go.bits .and .i64 (ji10) 1) != 1) = false := bne_eq_false_iff_eq.mpr c11
          clear c11
          obtain rfl := Option.some.inj H
          have p395 : 0 ≤ (x8_1 : Int) := oda
          have q395 : x8_1 < (l0.length : Int) := oda
          obtain ⟨ad395, e395, hx395_0, hx395_1⟩ := at_T80 HR0.out x8_1 p395 q395
          cases e395
          replace hx395_0 := (HB.out.cell (World.block_lt_of_cell? w _ hx395_0)).trans hx395_0
          replace hx395_1 := (HB.out.cell (World.block_lt_of_cell? w _ hx395_1)).trans hx395_1
          replace p395 := eq_true p395
          replace q395 := eq_true q395
          go_wp2_with (first | ((with_reducible refine gate_dst (N := 5) rfl ?_); refine box_event ?hg (N := 5) ?hd (cs := #[.int .i64 0, .int .i64 0]) (t := 80) ?hr ?_; (case hd => rfl); (case hg => rfl); (case hr => first | (go_simp; done) | (go_simp; rfl)); intro gb396 hg w12 hbox hb; have n0_ := Aside0.mk (below_step (mB HB.out) hb); have n1_ := Aside0.mk (hbox); have n2_ := Aside0.mk ((by rw [hg]; exact (below_size (mB HB.out)) : w.heap.size ≤ gb396)); have n3_ := Aside0.mk ((by rw [hg]; exact (below_size (mB HB.out)) : w.heap.size ≤ gb396)); clear HB; have HB := n0_; have BK396 := n1_; have GW396 := n2_; have GE396 := n3_; clear n0_ n1_ n2_ n3_; clear hb hbox hg; have hcz13_0 : w12.cell? ⟨gb396, 0, none⟩ = some (.int .i64 0) := (blk_cell BK396.out 0).trans rfl; have hcz13_1 : w12.cell? ⟨gb396, 1, none⟩ = some (.int .i64 0) := (blk_cell BK396.out 1).trans rfl; have hfz13_0 := blk_frozen BK396.out 0; have hfz13_1 := blk_frozen BK396.out 1) | ((with_reducible refine gate_callee (f := 48) rfl ?_); refine goesL_ (some 14) rfl rfl Try.func48 (by kernel_rfl) rfl #[.int .i64 ((rd_T80 l0 x8_1).f0), .int .i64 0, .int .i64 15] rfl mt ?_; (with_reducible refine (job_in.calls ((rd_T80 l0 x8_1).f0) 0 15 true _ A5.out).mono ?_); rintro e w' ⟨rfl, ⟨nd, rfl⟩⟩; refine ⟨_, rfl, ?_⟩) | (go_at_call 48; (with_reducible refine (job_in.calls ((rd_T80 l0 x8_1).f1) 1 1152921504606846976 true _ A7.out).mono ?_); rintro e w' ⟨rfl, ⟨nd, rfl⟩⟩))
          go_ret
          exact ⟨by first | rfl | (simp [errW_none, errW_some] <;> rfl) | (simp only [← hji10]; first | rfl | (simp [errW_none, errW_some] <;> rfl)) | (simp [*, errW_none, errW_some] <;> rfl), by repeat (first | (with_reducible first | exact HB.out | apply below_alloc | apply pw_below_drewN | apply below_drew1 | refine below_set ?_ GE396.out) | exact HB.out)⟩
         ·rw [if_neg c11] at H
          have c11b0 : ((Go.bits .and .i64 (ji10) 1) == 1) = false := beq_eq_false_iff_ne.mpr c11
          have c11b1 : ((Go.bits .and .i64 (ji10) 1) != 1) = true := bne_iff_ne.mpr c11
          have c14b0 := eq_true (oda : 0 ≤ ((rd_T80 l0 x8_1).f0))
          obtain ⟨ji15, hji15⟩ : ∃ j_ : Int, (shl .i64 1 ((rd_T80 l0 x8_1).f0)) = j_ := ⟨_, rfl⟩
          replace H : (job_draws.l0 k1 (Go.bits .or .i64 x3_1 (ji15)) l0 (l0.length : Int) (wrap64 (x8_1 + 1))) = some r := by first | (rw [hji15] at H; exact H) | (simp only [hji15] at H ⊢; exact H)
          (try rw [hji15] at A5)
          (try rw [hji15] at A7)
          have hji15_ : (IntKind.i64.wrap (1 * 2 ^ min ((rd_T80 l0 x8_1).f0).toNat 64)) = ji15 := hji15
          have hji15z : ((rd_T80 l0 x8_1).f0) ≤ 64 → (IntKind.i64.wrap (1 * 2 ^ ((rd_T80 l0 x8_1).f0).toNat)) = ji15 := shl_small hji15
          have hji15u : (IntKind.i64.wrap (2 ^ min ((rd_T80 l0 x8_1).f0).toNat 64)) = ji15 := by have h_ := hji15_; rw [Int.one_mul] at h_; exact h_
          have hji15v : ((rd_T80 l0 x8_1).f0) ≤ 64 → (IntKind.i64.wrap (2 ^ ((rd_T80 l0 x8_1).f0).toNat)) = ji15 := fun hle_ => by have h_ := hji15z hle_; rw [Int.one_mul] at h_; exact h_
          have hji15y : (wrap64 (1 * 2 ^ min ((rd_T80 l0 x8_1).f0).toNat 64)) = ji15 := (i64_w _).symm.trans hji15_
          have hji15x : ((rd_T80 l0 x8_1).f0) ≤ 64 → (wrap64 (1 * 2 ^ ((rd_T80 l0 x8_1).f0).toNat)) = ji15 := fun h_ => (i64_w _).symm.trans (hji15z h_)
          have H' := Aside0.mk H
          clear H
          have p395 : 0 ≤ (x8_1 : Int) := oda
          have q395 : x8_1 < (l0.length : Int) := oda
          obtain ⟨ad395, e395, hx395_0, hx395_1⟩ := at_T80 HR0.out x8_1 p395 q395
          cases e395
          replace hx395_0 := (HB.out.cell (World.block_lt_of_cell? w _ hx395_0)).trans hx395_0
          replace hx395_1 := (HB.out.cell (World.block_lt_of_cell? w _ hx395_1)).trans hx395_1
          replace p395 := eq_true p395
          replace q395 := eq_true q395
          go_wp2_with (first | ((with_reducible refine gate_dst (N := 5) rfl ?_); refine box_event ?hg (N := 5) ?hd (cs := #[.int .i64 0, .int .i64 0]) (t := 80) ?hr ?_; (case hd => rfl); (case hg => rfl); (case hr => first | (go_simp; done) | (go_simp; rfl)); intro gb396 hg w16 hbox hb; have n0_ := Aside0.mk (below_step (mB HB.out) hb); have n1_ := Aside0.mk (hbox); have n2_ := Aside0.mk ((by rw [hg]; exact (below_size (mB HB.out)) : w.heap.size ≤ gb396)); have n3_ := Aside0.mk ((by rw [hg]; exact (below_size (mB HB.out)) : w.heap.size ≤ gb396)); clear HB; have HB := n0_; have BK396 := n1_; have GW396 := n2_; have GE396 := n3_; clear n0_ n1_ n2_ n3_; clear hb hbox hg; have hcz17_0 : w16.cell? ⟨gb396, 0, none⟩ = some (.int .i64 0) := (blk_cell BK396.out 0).trans rfl; have hcz17_1 : w16.cell? ⟨gb396, 1, none⟩ = some (.int .i64 0) := (blk_cell BK396.out 1).trans rfl; have hfz17_0 := blk_frozen BK396.out 0; have hfz17_1 := blk_frozen BK396.out 1) | ((with_reducible refine gate_callee (f := 48) rfl ?_); refine goesL_ (some 14) rfl rfl Try.func48 (by kernel_rfl) rfl #[.int .i64 ((rd_T80 l0 x8_1).f0), .int .i64 0, .int .i64 15] rfl mt ?_; (with_reducible refine (job_in.calls ((rd_T80 l0 x8_1).f0) 0 15 true _ A5.out).mono ?_); rintro e w' ⟨rfl, ⟨nd, rfl⟩⟩; refine ⟨_, rfl, ?_⟩) | (go_at_call 48; (with_reducible refine (job_in.calls ((rd_T80 l0 x8_1).f1) 1 1152921504606846976 true _ A7.out).mono ?_); rintro e w' ⟨rfl, ⟨nd, rfl⟩⟩))
          go_roundg k1
          case measure => have := HK1.out; omega
          case rel => exact ⟨(Go.bits .or .i64 x3_1 (ji15)), (wrap64 (x8_1 + 1)), (by first | rfl | (simp; done) | (simp only [← hji15] <;> (first | rfl | simp)) | (simp [*]; done)), ez, H', ⟨by have := HK1.out; omega⟩, ⟨mBs HB.out⟩⟩
        ·rw [if_neg c9] at H
         exact absurd H (by simp)
       ·replace c8 := Bool.eq_false_iff.mpr c8
        subst c8
        have H1 : (some false) = some r := by rw [if_neg (show ¬ (false = true) by decide)] at H; exact H
        clear H
        have H := H1
        clear H1
        obtain rfl := Option.some.inj H
        have p395 : 0 ≤ (x8_1 : Int) := oda
        have q395 : x8_1 < (l0.length : Int) := oda
        obtain ⟨ad395, e395, hx395_0, hx395_1⟩ := at_T80 HR0.out x8_1 p395 q395
        cases e395
        replace hx395_0 := (HB.out.cell (World.block_lt_of_cell? w _ hx395_0)).trans hx395_0
        replace hx395_1 := (HB.out.cell (World.block_lt_of_cell? w _ hx395_1)).trans hx395_1
        replace p395 := eq_true p395
        replace q395 := eq_true q395
        go_wp2_with (first | ((with_reducible refine gate_dst (N := 5) rfl ?_); refine box_event ?hg (N := 5) ?hd (cs := #[.int .i64 0, .int .i64 0]) (t := 80) ?hr ?_; (case hd => rfl); (case hg => rfl); (case hr => first | (go_simp; done) | (go_simp; rfl)); intro gb396 hg w18 hbox hb; have n0_ := Aside0.mk (below_step (mB HB.out) hb); have n1_ := Aside0.mk (hbox); have n2_ := Aside0.mk ((by rw [hg]; exact (below_size (mB HB.out)) : w.heap.size ≤ gb396)); have n3_ := Aside0.mk ((by rw [hg]; exact (below_size (mB HB.out)) : w.heap.size ≤ gb396)); clear HB; have HB := n0_; have BK396 := n1_; have GW396 := n2_; have GE396 := n3_; clear n0_ n1_ n2_ n3_; clear hb hbox hg; have hcz19_0 : w18.cell? ⟨gb396, 0, none⟩ = some (.int .i64 0) := (blk_cell BK396.out 0).trans rfl; have hcz19_1 : w18.cell? ⟨gb396, 1, none⟩ = some (.int .i64 0) := (blk_cell BK396.out 1).trans rfl; have hfz19_0 := blk_frozen BK396.out 0; have hfz19_1 := blk_frozen BK396.out 1) | ((with_reducible refine gate_callee (f := 48) rfl ?_); refine goesL_ (some 14) rfl rfl Try.func48 (by kernel_rfl) rfl #[.int .i64 ((rd_T80 l0 x8_1).f0), .int .i64 0, .int .i64 15] rfl mt ?_; (with_reducible refine (job_in.calls ((rd_T80 l0 x8_1).f0) 0 15 true _ A5.out).mono ?_); rintro e w' ⟨rfl, ⟨nd, rfl⟩⟩; refine ⟨_, rfl, ?_⟩) | (go_at_call 48; (with_reducible refine (job_in.calls ((rd_T80 l0 x8_1).f1) 1 1152921504606846976 false _ A7.out).mono ?_); rintro e w' ⟨rfl, ⟨nd, rfl⟩⟩))
        go_ret
        exact ⟨by first | rfl | (simp [errW_none, errW_some] <;> rfl) | (simp [*, errW_none, errW_some] <;> rfl), by repeat (first | (with_reducible first | exact HB.out | apply below_alloc | apply pw_below_drewN | apply below_drew1 | refine below_set ?_ GE396.out) | exact HB.out)⟩
      ·replace c6 := Bool.eq_false_iff.mpr c6
       subst c6
       have H1 : (some false) = some r := by rw [if_neg (show ¬ (false = true) by decide)] at H; exact H
       clear H
       have H := H1
       clear H1
       obtain rfl := Option.some.inj H
       have p395 : 0 ≤ (x8_1 : Int) := oda
       have q395 : x8_1 < (l0.length : Int) := oda
       obtain ⟨ad395, e395, hx395_0, hx395_1⟩ := at_T80 HR0.out x8_1 p395 q395
       cases e395
       replace hx395_0 := (HB.out.cell (World.block_lt_of_cell? w _ hx395_0)).trans hx395_0
       replace hx395_1 := (HB.out.cell (World.block_lt_of_cell? w _ hx395_1)).trans hx395_1
       replace p395 := eq_true p395
       replace q395 := eq_true q395
       go_wp2_with (first | ((with_reducible refine gate_dst (N := 5) rfl ?_); refine box_event ?hg (N := 5) ?hd (cs := #[.int .i64 0, .int .i64 0]) (t := 80) ?hr ?_; (case hd => rfl); (case hg => rfl); (case hr => first | (go_simp; done) | (go_simp; rfl)); intro gb396 hg w20 hbox hb; have n0_ := Aside0.mk (below_step (mB HB.out) hb); have n1_ := Aside0.mk (hbox); have n2_ := Aside0.mk ((by rw [hg]; exact (below_size (mB HB.out)) : w.heap.size ≤ gb396)); have n3_ := Aside0.mk ((by rw [hg]; exact (below_size (mB HB.out)) : w.heap.size ≤ gb396)); clear HB; have HB := n0_; have BK396 := n1_; have GW396 := n2_; have GE396 := n3_; clear n0_ n1_ n2_ n3_; clear hb hbox hg; have hcz21_0 : w20.cell? ⟨gb396, 0, none⟩ = some (.int .i64 0) := (blk_cell BK396.out 0).trans rfl; have hcz21_1 : w20.cell? ⟨gb396, 1, none⟩ = some (.int .i64 0) := (blk_cell BK396.out 1).trans rfl; have hfz21_0 := blk_frozen BK396.out 0; have hfz21_1 := blk_frozen BK396.out 1) | ((with_reducible refine gate_callee (f := 48) rfl ?_); refine goesL_ (some 14) rfl rfl Try.func48 (by kernel_rfl) rfl #[.int .i64 ((rd_T80 l0 x8_1).f0), .int .i64 0, .int .i64 15] rfl mt ?_; (with_reducible refine (job_in.calls ((rd_T80 l0 x8_1).f0) 0 15 false _ A5.out).mono ?_); rintro e w' ⟨rfl, ⟨nd, rfl⟩⟩; refine ⟨_, rfl, ?_⟩))
       go_ret
       exact ⟨by first | rfl | (simp [errW_none, errW_some] <;> rfl) | (simp [*, errW_none, errW_some] <;> rfl), by repeat (first | (with_reducible first | exact HB.out | apply below_alloc | apply pw_below_drewN | apply below_drew1 | refine below_set ?_ GE396.out) | exact HB.out)⟩
     ·rw [if_neg c4] at H
      exact absurd H (by simp)
    ·rw [if_neg c3] at H
     exact absurd H (by simp)
   ·rw [if_neg c2] at H
    have c2b0 : decide (x8_1 < (l0.length : Int)) = false := decide_eq_false c2
    clear c2
    obtain rfl := Option.some.inj H
    go_wp2
    go_ret
    exact ⟨by first | rfl | (simp [errW_none, errW_some] <;> rfl) | (simp [*, errW_none, errW_some] <;> rfl), by repeat (first | (with_reducible first | exact HB.out | apply below_alloc | apply pw_below_drewN | apply below_drew1) | exact HB.out)⟩

end Go.Proofs.Ytkhfgflcanmefaa.PAll
end
section
namespace Go.Proofs.Ytkhfgflcanmefaa.PAll
open Go.RowKit Go.Proofs.YtkhfgflcanmefaaW.PrintWords Go.Proofs.YtkhfgflcanmefaaW.PrintLast Go.Proofs.YtkhfgflcanmefaaW.PrintMore
attribute [local go_sem] max2_int min2_int max_two min_two max_three min_three max_four min_four   -- for this text's walks alone
set_option linter.unusedVariables false
set_option linter.unusedSimpArgs false

mutual
def job_GoodR.j0 : Nat → Bool → Int → Int → Int → Int → Int → Int → Int → Int → Int → Int → Int → List (S80) → Option (Bool)
 | 0, _, _, _, _, _, _, _, _, _, _, _, _, _ => none
 | k + 1, x41, x400000, x400001, x400002, x400003, x400004, x400005, x400006, x400007, x400008, x400009, x400010, x400011 => if x41 = true then (some false) else (if x400007 = 1 then (job_GoodR.j1 k x400007 (x400007 == 1) x400000 x400001 x400002 x400003 x400004 x400005 x400006 x400007 x400008 x400009 x400010 x400011) else (job_GoodR.j1 k x400007 (x400007 == 2) x400000 x400001 x400002 x400003 x400004 x400005 x400006 x400007 x400008 x400009 x400010 x400011))
def job_GoodR.j1 : Nat → Int → Bool → Int → Int → Int → Int → Int → Int → Int → Int → Int → Int → Int → List (S80) → Option (Bool)
 | 0, _, _, _, _, _, _, _, _, _, _, _, _, _, _ => none
 | k + 1, x43, x44, x400000, x400001, x400002, x400003, x400004, x400005, x400006, x400007, x400008, x400009, x400010, x400011 => if x44 = true then (if x400008 = 0 then (if x400009 = 0 then (if x400010 = 0 then (some ((x400011.length : Int) == 0)) else (some false)) else (some false)) else (some false)) else (if x43 = 3 then ((job_in.f x400008 0 1099511627776).bind fun t406 => (if t406 = true then ((job_in.f x400009 0 4294967295).bind fun t407 => (if t407 = true then ((pool_Count.f x400009).bind fun t408 => (if t408 = x400002 then (if x400010 = 0 then ((job_draws.f k x400011).bind fun t409 => (some t409)) else (some false)) else (some false))) else (some false))) else (some false))) else (if x43 = 4 then ((job_in.f x400008 0 1099511627776).bind fun t410 => (if t410 = true then (if x400009 = 0 then ((job_in.f x400010 0 x400003).bind fun t411 => (if t411 = true then ((job_draws.f k x400011).bind fun t412 => (some t412)) else (some false))) else (some false)) else (some false))) else (some false)))
end
def job_GoodR.f (k : Nat) (a0_0 : Int) (a0_1 : Int) (a0_2 : Int) (a0_3 : Int) (a0_4 : Int) (a0_5 : Int) (a0_6 : Int) (a0_7 : Int) (a0_8 : Int) (a0_9 : Int) (a0_10 : Int) (l0_11 : List (S80)) : Option (Bool) := if a0_0 < 1 then (job_GoodR.j0 k true a0_0 a0_1 a0_2 a0_3 a0_4 a0_5 a0_6 a0_7 a0_8 a0_9 a0_10 l0_11) else ((job_in.f a0_1 0 7).bind fun t400 => (if t400 = true then ((job_in.f a0_2 1 32).bind fun t401 => (if t401 = true then ((job_in.f a0_3 1 1048576).bind fun t402 => (if t402 = true then ((job_in.f a0_4 0 7).bind fun t403 => (if t403 = true then ((job_in.f a0_5 0 1048576).bind fun t404 => (if t404 = true then ((job_in.f a0_6 0 1099511627776).bind fun t405 => (job_GoodR.j0 k (!t405) a0_0 a0_1 a0_2 a0_3 a0_4 a0_5 a0_6 a0_7 a0_8 a0_9 a0_10 l0_11)) else (job_GoodR.j0 k true a0_0 a0_1 a0_2 a0_3 a0_4 a0_5 a0_6 a0_7 a0_8 a0_9 a0_10 l0_11))) else (job_GoodR.j0 k true a0_0 a0_1 a0_2 a0_3 a0_4 a0_5 a0_6 a0_7 a0_8 a0_9 a0_10 l0_11))) else (job_GoodR.j0 k true a0_0 a0_1 a0_2 a0_3 a0_4 a0_5 a0_6 a0_7 a0_8 a0_9 a0_10 l0_11))) else (job_GoodR.j0 k true a0_0 a0_1 a0_2 a0_3 a0_4 a0_5 a0_6 a0_7 a0_8 a0_9 a0_10 l0_11))) else (job_GoodR.j0 k true a0_0 a0_1 a0_2 a0_3 a0_4 a0_5 a0_6 a0_7 a0_8 a0_9 a0_10 l0_11)))
theorem job_GoodR.mono_l : ∀ k, (∀ y0 y1 y2 y3 y4 y5 y6 y7 y8 y9 y10 y11 y12, LeO (job_GoodR.j0 k y0 y1 y2 y3 y4 y5 y6 y7 y8 y9 y10 y11 y12) (job_GoodR.j0 (k + 1) y0 y1 y2 y3 y4 y5 y6 y7 y8 y9 y10 y11 y12)) ∧ (∀ y0 y1 y2 y3 y4 y5 y6 y7 y8 y9 y10 y11 y12 y13, LeO (job_GoodR.j1 k y0 y1 y2 y3 y4 y5 y6 y7 y8 y9 y10 y11 y12 y13) (job_GoodR.j1 (k + 1) y0 y1 y2 y3 y4 y5 y6 y7 y8 y9 y10 y11 y12 y13))
 | 0 => ⟨fun _ _ _ _ _ _ _ _ _ _ _ _ _ r h => by simp [job_GoodR.j0] at h, fun _ _ _ _ _ _ _ _ _ _ _ _ _ _ r h => by simp [job_GoodR.j1] at h⟩
 | k + 1 => by
  obtain ⟨ih0, ih1⟩ := job_GoodR.mono_l k
  refine ⟨?_, ?_⟩
  ·intro y0 y1 y2 y3 y4 y5 y6 y7 y8 y9 y10 y11 y12
   unfold job_GoodR.j0
   repeat' first
   | (with_reducible exact ih0 _ _ _ _ _ _ _ _ _ _ _ _ _)
   | (with_reducible exact ih1 _ _ _ _ _ _ _ _ _ _ _ _ _ _)
   | (with_reducible exact job_draws.mono _ _)
   | (with_reducible exact LeO.refl _)
   | (with_reducible exact LeO.none _)
   | (with_reducible refine LeO.ite ?_ ?_)
   | (with_reducible refine LeO.bind ?_ (fun _ => ?_))
   | exact ih0 _ _ _ _ _ _ _ _ _ _ _ _ _
   | exact ih1 _ _ _ _ _ _ _ _ _ _ _ _ _ _
   | exact job_draws.mono _ _
   | exact LeO.none _
   | refine LeO.ite ?_ ?_
   | refine LeO.bind ?_ (fun _ => ?_)
  ·intro y0 y1 y2 y3 y4 y5 y6 y7 y8 y9 y10 y11 y12 y13
   unfold job_GoodR.j1
   repeat' first
   | (with_reducible exact ih0 _ _ _ _ _ _ _ _ _ _ _ _ _)
   | (with_reducible exact ih1 _ _ _ _ _ _ _ _ _ _ _ _ _ _)
   | (with_reducible exact job_draws.mono _ _)
   | (with_reducible exact LeO.refl _)
   | (with_reducible exact LeO.none _)
   | (with_reducible refine LeO.ite ?_ ?_)
   | (with_reducible refine LeO.bind ?_ (fun _ => ?_))
   | exact ih0 _ _ _ _ _ _ _ _ _ _ _ _ _
   | exact ih1 _ _ _ _ _ _ _ _ _ _ _ _ _ _
   | exact job_draws.mono _ _
   | exact LeO.none _
   | refine LeO.ite ?_ ?_
   | refine LeO.bind ?_ (fun _ => ?_)
theorem job_GoodR.mono : ∀ a0 a1 a2 a3 a4 a5 a6 a7 a8 a9 a10 a11 k, LeO (job_GoodR.f k a0 a1 a2 a3 a4 a5 a6 a7 a8 a9 a10 a11) (job_GoodR.f (k + 1) a0 a1 a2 a3 a4 a5 a6 a7 a8 a9 a10 a11) := by
 intro a0 a1 a2 a3 a4 a5 a6 a7 a8 a9 a10 a11 k
 obtain ⟨ih0, ih1⟩ := job_GoodR.mono_l k
 unfold job_GoodR.f
 repeat' first
   | (with_reducible exact ih0 _ _ _ _ _ _ _ _ _ _ _ _ _)
   | (with_reducible exact ih1 _ _ _ _ _ _ _ _ _ _ _ _ _ _)
   | (with_reducible exact job_draws.mono _ _)
   | (with_reducible exact LeO.refl _)
   | (with_reducible exact LeO.none _)
   | (with_reducible refine LeO.ite ?_ ?_)
   | (with_reducible refine LeO.bind ?_ (fun _ => ?_))
   | exact ih0 _ _ _ _ _ _ _ _ _ _ _ _ _
   | exact ih1 _ _ _ _ _ _ _ _ _ _ _ _ _ _
   | exact job_draws.mono _ _
   | exact LeO.none _
   | refine LeO.ite ?_ ?_
   | refine LeO.bind ?_ (fun _ => ?_)
def job_GoodR.T8 : Bool × List (List Nat × List Nat) := (true, [([], []), ([0], [0]), ([1], [1]), ([2, 2], [2]), ([3], [3]), ([4, 3], [3, 4]), ([5, 3, 3], [3, 5]), ([3, 6], [3, 6]), ([7, 6], [7]), ([8], [8]), ([9, 8], [8, 9]), ([10, 8, 8], [8, 10]), ([8], [8]), ([12, 8], [8, 12]), ([11, 13, 8], [8, 11, 13]), ([8, 14], [8, 14]), ([15, 11], [15]), ([16], [16]), ([17, 16], [16, 17]), ([18, 16], [16, 18]), ([16, 19], [16, 19]), ([20, 16], [20]), ([21], [21]), ([22, 21], [21, 22]), ([23, 21, 21], [21, 23]), ([21, 24], [21, 24]), ([25, 24, 0, 1, 2, 3, 4, 5, 6, 7, 8, 9, 10, 11, 12, 13, 14, 15, 16, 17, 18, 19, 20, 21, 22, 23, 24, 25], [25])])
def job_GoodR.B8 : List Nat := [0, 1, 3, 7, 15, 31, 63, 127, 255, 511, 1023, 2047, 511, 4607, 16383, 32767, 65535, 131071, 262143, 524287, 1048575, 2097151, 4194303, 8388607, 16777215, 33554431, 67108863]
theorem job_GoodR.tab8 : rtab .any (opsOf Try.f29 8) = job_GoodR.T8 := by kernel_rfl
theorem job_GoodR.bits8 : waitsOk job_GoodR.T8.2 job_GoodR.B8 = true := by kernel_rfl
set_option maxHeartbeats 8000000 in
set_option maxRecDepth 100000 in
theorem job_GoodR.calls (k : Nat) (a0_0 : Int) (a0_1 : Int) (a0_2 : Int) (a0_3 : Int) (a0_4 : Int) (a0_5 : Int) (a0_6 : Int) (a0_7 : Int) (a0_8 : Int) (a0_9 : Int) (a0_10 : Int) (A0_11 : Option Addr) (c0_11 : Nat) (l0_11 : List (S80)) (r : Bool) (w : World) (hr0_11 : Kd.C k80 w A0_11 l0_11.length l0_11) (hc0_11 : l0_11.length ≤ c0_11) (h : job_GoodR.f k a0_0 a0_1 a0_2 a0_3 a0_4 a0_5 a0_6 a0_7 a0_8 a0_9 a0_10 l0_11 = some r) :
  Calls Try.prog 29 #[.agg #[.int .i64 a0_0, .int .i64 a0_1, .int .i64 a0_2, .int .i64 a0_3, .int .i64 a0_4, .int .i64 a0_5, .int .i64 a0_6, .int .i64 a0_7, .int .i64 a0_8, .int .i64 a0_9, .int .i64 a0_10, .slice A0_11 l0_11.length c0_11]] w fun e w' => e = .returned (.bool r) ∧ Below w.heap.size w w' := by
 have hu32 := Try.underlying32
 have HR0_11 := Aside0.mk hr0_11
 have HC0_11 := Aside0.mk hc0_11
 clear hr0_11; clear hc0_11
 have HB := Aside0.mk (Below.refl w.heap.size w)
 have H : (if a0_0 < 1 then (job_GoodR.j0 k true a0_0 a0_1 a0_2 a0_3 a0_4 a0_5 a0_6 a0_7 a0_8 a0_9 a0_10 l0_11) else ((job_in.f a0_1 0 7).bind fun t400 => (if t400 = true then ((job_in.f a0_2 1 32).bind fun t401 => (if t401 = true then ((job_in.f a0_3 1 1048576).bind fun t402 => (if t402 = true then ((job_in.f a0_4 0 7).bind fun t403 => (if t403 = true then ((job_in.f a0_5 0 1048576).bind fun t404 => (if t404 = true then ((job_in.f a0_6 0 1099511627776).bind fun t405 => (job_GoodR.j0 k (!t405) a0_0 a0_1 a0_2 a0_3 a0_4 a0_5 a0_6 a0_7 a0_8 a0_9 a0_10 l0_11)) else (job_GoodR.j0 k true a0_0 a0_1 a0_2 a0_3 a0_4 a0_5 a0_6 a0_7 a0_8 a0_9 a0_10 l0_11))) else (job_GoodR.j0 k true a0_0 a0_1 a0_2 a0_3 a0_4 a0_5 a0_6 a0_7 a0_8 a0_9 a0_10 l0_11))) else (job_GoodR.j0 k true a0_0 a0_1 a0_2 a0_3 a0_4 a0_5 a0_6 a0_7 a0_8 a0_9 a0_10 l0_11))) else (job_GoodR.j0 k true a0_0 a0_1 a0_2 a0_3 a0_4 a0_5 a0_6 a0_7 a0_8 a0_9 a0_10 l0_11))) else (job_GoodR.j0 k true a0_0 a0_1 a0_2 a0_3 a0_4 a0_5 a0_6 a0_7 a0_8 a0_9 a0_10 l0_11)))) = some r := h
 clear h
 have HC2 := Aside0.mk H
 clear H
 go_enter Try.func29, Try.ntmps29
 go_upto_region 1 with (first | ((with_reducible refine gate_dst (N := 1) rfl ?_); refine box_event ?hg (N := 1) ?hd (cs := #[.int .i64 a0_0, .int .i64 a0_1, .int .i64 a0_2, .int .i64 a0_3, .int .i64 a0_4, .int .i64 a0_5, .int .i64 a0_6, .int .i64 a0_7, .int .i64 a0_8, .int .i64 a0_9, .int .i64 a0_10, .slice A0_11 l0_11.length c0_11]) (t := 32) ?hr ?_; (case hd => rfl); (case hg => rfl); (case hr => first | (go_simp; done) | (go_simp; rfl)); intro gb399 hg w3 hbox hb; have n0_ := Aside0.mk (below_step (mB HB.out) hb); have n1_ := Aside0.mk (hbox); have n2_ := Aside0.mk ((by rw [hg]; exact (below_size (mB HB.out)) : w.heap.size ≤ gb399)); have n3_ := Aside0.mk ((by rw [hg]; exact (below_size (mB HB.out)) : w.heap.size ≤ gb399)); clear HB; have HB := n0_; have BK399 := n1_; have GW399 := n2_; have GE399 := n3_; clear n0_ n1_ n2_ n3_; clear hb hbox hg))
 (try simp only [Act.put, List.setIfInBounds_toArray, List.set_cons_zero, List.set_cons_succ])
 go_cut [41] (fun v41 wc => ∃ (kq : Nat) (x41_1 : Bool), v41 = .bool x41_1 ∧ Aside0 (job_GoodR.j0 kq x41_1 a0_0 a0_1 a0_2 a0_3 a0_4 a0_5 a0_6 a0_7 a0_8 a0_9 a0_10 l0_11 = some r) ∧ Aside0 (kq ≤ k) ∧ Aside0 (wc.heap[gb399]? = some (.cells #[.int .i64 a0_0, .int .i64 a0_1, .int .i64 a0_2, .int .i64 a0_3, .int .i64 a0_4, .int .i64 a0_5, .int .i64 a0_6, .int .i64 a0_7, .int .i64 a0_8, .int .i64 a0_9, .int .i64 a0_10, (.slice A0_11 l0_11.length c0_11)] 32 (0, 0))) ∧ Aside0 (Below w.heap.size w wc))
 case first =>
  have H := HC2.out
  clear HC2
  by_cases c4 : a0_0 < 1
  ·rw [if_pos c4] at H
   have c4b0 : decide (a0_0 < 1) = true := decide_eq_true c4
   clear c4
   (first | rw [c4b0] | (simp only [i64_w, i32_w]; rw [c4b0]) | skip)
   have H' := Aside0.mk H
   clear H
   have hcz5_0 : w3.cell? ⟨gb399, 0, none⟩ = some (.int .i64 a0_0) := (blk_cell BK399.out 0).trans rfl
   have hcz5_1 : w3.cell? ⟨gb399, 1, none⟩ = some (.int .i64 a0_1) := (blk_cell BK399.out 1).trans rfl
   have hcz5_2 : w3.cell? ⟨gb399, 2, none⟩ = some (.int .i64 a0_2) := (blk_cell BK399.out 2).trans rfl
   have hcz5_3 : w3.cell? ⟨gb399, 3, none⟩ = some (.int .i64 a0_3) := (blk_cell BK399.out 3).trans rfl
   have hcz5_4 : w3.cell? ⟨gb399, 4, none⟩ = some (.int .i64 a0_4) := (blk_cell BK399.out 4).trans rfl
   have hcz5_5 : w3.cell? ⟨gb399, 5, none⟩ = some (.int .i64 a0_5) := (blk_cell BK399.out 5).trans rfl
   have hcz5_6 : w3.cell? ⟨gb399, 6, none⟩ = some (.int .i64 a0_6) := (blk_cell BK399.out 6).trans rfl
   have hcz5_7 : w3.cell? ⟨gb399, 7, none⟩ = some (.int .i64 a0_7) := (blk_cell BK399.out 7).trans rfl
   have hcz5_8 : w3.cell? ⟨gb399, 8, none⟩ = some (.int .i64 a0_8) := (blk_cell BK399.out 8).trans rfl
   have hcz5_9 : w3.cell? ⟨gb399, 9, none⟩ = some (.int .i64 a0_9) := (blk_cell BK399.out 9).trans rfl
   have hcz5_10 : w3.cell? ⟨gb399, 10, none⟩ = some (.int .i64 a0_10) := (blk_cell BK399.out 10).trans rfl
   have hcz5_11 : w3.cell? ⟨gb399, 11, none⟩ = some (.slice A0_11 l0_11.length c0_11) := (blk_cell BK399.out 11).trans rfl
   have hfz5_0 := blk_frozen BK399.out 0
   have hfz5_1 := blk_frozen BK399.out 1
   have hfz5_2 := blk_frozen BK399.out 2
   have hfz5_3 := blk_frozen BK399.out 3
   have hfz5_4 := blk_frozen BK399.out 4
   have hfz5_5 := blk_frozen BK399.out 5
   have hfz5_6 := blk_frozen BK399.out 6
   have hfz5_7 := blk_frozen BK399.out 7
   have hfz5_8 := blk_frozen BK399.out 8
   have hfz5_9 := blk_frozen BK399.out 9
   have hfz5_10 := blk_frozen BK399.out 10
   have hfz5_11 := blk_frozen BK399.out 11
   go_wp2
   go_meet
   case rel => exact ⟨_, (true), ez, H', ⟨by first | omega | exact Nat.le_refl _⟩, ⟨mBK BK399.out⟩, ⟨mBs HB.out⟩⟩
  ·rw [if_neg c4] at H
   have c4b0 : decide (a0_0 < 1) = false := decide_eq_false c4
   clear c4
   (first | rw [c4b0] | (simp only [i64_w, i32_w]; rw [c4b0]) | skip)
   replace H := Option.bind_eq_some_iff.mp H
   obtain ⟨t400, A60, H⟩ := H
   replace H : (if t400 = true then ((job_in.f a0_2 1 32).bind fun t401 => (if t401 = true then ((job_in.f a0_3 1 1048576).bind fun t402 => (if t402 = true then ((job_in.f a0_4 0 7).bind fun t403 => (if t403 = true then ((job_in.f a0_5 0 1048576).bind fun t404 => (if t404 = true then ((job_in.f a0_6 0 1099511627776).bind fun t405 => (job_GoodR.j0 k (!t405) a0_0 a0_1 a0_2 a0_3 a0_4 a0_5 a0_6 a0_7 a0_8 a0_9 a0_10 l0_11)) else (job_GoodR.j0 k true a0_0 a0_1 a0_2 a0_3 a0_4 a0_5 a0_6 a0_7 a0_8 a0_9 a0_10 l0_11))) else (job_GoodR.j0 k true a0_0 a0_1 a0_2 a0_3 a0_4 a0_5 a0_6 a0_7 a0_8 a0_9 a0_10 l0_11))) else (job_GoodR.j0 k true a0_0 a0_1 a0_2 a0_3 a0_4 a0_5 a0_6 a0_7 a0_8 a0_9 a0_10 l0_11))) else (job_GoodR.j0 k true a0_0 a0_1 a0_2 a0_3 a0_4 a0_5 a0_6 a0_7 a0_8 a0_9 a0_10 l0_11))) else (job_GoodR.j0 k true a0_0 a0_1 a0_2 a0_3 a0_4 a0_5 a0_6 a0_7 a0_8 a0_9 a0_10 l0_11)) = some r := H
   have A6 := Aside0.mk A60
   clear A60
   by_cases c7 : t400 = true
   ·subst c7
    have H1 : ((job_in.f a0_2 1 32).bind fun t401 => (if t401 = true then ((job_in.f a0_3 1 1048576).bind fun t402 => (if t402 = true then ((job_in.f a0_4 0 7).bind fun t403 => (if t403 = true then ((job_in.f a0_5 0 1048576).bind fun t404 => (if t404 = true then ((job_in.f a0_6 0 1099511627776).bind fun t405 => (job_GoodR.j0 k (!t405) a0_0 a0_1 a0_2 a0_3 a0_4 a0_5 a0_6 a0_7 a0_8 a0_9 a0_10 l0_11)) else (job_GoodR.j0 k true a0_0 a0_1 a0_2 a0_3 a0_4 a0_5 a0_6 a0_7 a0_8 a0_9 a0_10 l0_11))) else (job_GoodR.j0 k true a0_0 a0_1 a0_2 a0_3 a0_4 a0_5 a0_6 a0_7 a0_8 a0_9 a0_10 l0_11))) else (job_GoodR.j0 k true a0_0 a0_1 a0_2 a0_3 a0_4 a0_5 a0_6 a0_7 a0_8 a0_9 a0_10 l0_11))) else (job_GoodR.j0 k true a0_0 a0_1 a0_2 a0_3 a0_4 a0_5 a0_6 a0_7 a0_8 a0_9 a0_10 l0_11))) = some r := by rw [if_pos rfl] at H; exact H
    clear H
    have H := H1
    clear H1
    replace H := Option.bind_eq_some_iff.mp H
    obtain ⟨t401, A80, H⟩ := H
    replace H : (if t401 = true then ((job_in.f a0_3 1 1048576).bind fun t402 => (if t402 = true then ((job_in.f a0_4 0 7).bind fun t403 => (if t403 = true then ((job_in.f a0_5 0 1048576).bind fun t404 => (if t404 = true then ((job_in.f a0_6 0 1099511627776).bind fun t405 => (job_GoodR.j0 k (!t405) a0_0 a0_1 a0_2 a0_3 a0_4 a0_5 a0_6 a0_7 a0_8 a0_9 a0_10 l0_11)) else (job_GoodR.j0 k true a0_0 a0_1 a0_2 a0_3 a0_4 a0_5 a0_6 a0_7 a0_8 a0_9 a0_10 l0_11))) else (job_GoodR.j0 k true a0_0 a0_1 a0_2 a0_3 a0_4 a0_5 a0_6 a0_7 a0_8 a0_9 a0_10 l0_11))) else (job_GoodR.j0 k true a0_0 a0_1 a0_2 a0_3 a0_4 a0_5 a0_6 a0_7 a0_8 a0_9 a0_10 l0_11))) else (job_GoodR.j0 k true a0_0 a0_1 a0_2 a0_3 a0_4 a0_5 a0_6 a0_7 a0_8 a0_9 a0_10 l0_11)) = some r := H
    have A8 := Aside0.mk A80
    clear A80
    by_cases c9 : t401 = true
    ·subst c9
     have H1 : ((job_in.f a0_3 1 1048576).bind fun t402 => (if t402 = true then ((job_in.f a0_4 0 7).bind fun t403 => (if t403 = true then ((job_in.f a0_5 0 1048576).bind fun t404 => (if t404 = true then ((job_in.f a0_6 0 1099511627776).bind fun t405 => (job_GoodR.j0 k (!t405) a0_0 a0_1 a0_2 a0_3 a0_4 a0_5 a0_6 a0_7 a0_8 a0_9 a0_10 l0_11)) else (job_GoodR.j0 k true a0_0 a0_1 a0_2 a0_3 a0_4 a0_5 a0_6 a0_7 a0_8 a0_9 a0_10 l0_11))) else (job_GoodR.j0 k true a0_0 a0_1 a0_2 a0_3 a0_4 a0_5 a0_6 a0_7 a0_8 a0_9 a0_10 l0_11))) else (job_GoodR.j0 k true a0_0 a0_1 a0_2 a0_3 a0_4 a0_5 a0_6 a0_7 a0_8 a0_9 a0_10 l0_11))) = some r := by rw [if_pos rfl] at H; exact H
     clear H
     have H := H1
     clear H1
     replace H := Option.bind_eq_some_iff.mp H
     obtain ⟨t402, A100, H⟩ := H
     replace H : (if t402 = true then ((job_in.f a0_4 0 7).bind fun t403 => (if t403 = true then ((job_in.f a0_5 0 1048576).bind fun t404 => (if t404 = true then ((job_in.f a0_6 0 1099511627776).bind fun t405 => (job_GoodR.j0 k (!t405) a0_0 a0_1 a0_2 a0_3 a0_4 a0_5 a0_6 a0_7 a0_8 a0_9 a0_10 l0_11)) else (job_GoodR.j0 k true a0_0 a0_1 a0_2 a0_3 a0_4 a0_5 a0_6 a0_7 a0_8 a0_9 a0_10 l0_11))) else (job_GoodR.j0 k true a0_0 a0_1 a0_2 a0_3 a0_4 a0_5 a0_6 a0_7 a0_8 a0_9 a0_10 l0_11))) else (job_GoodR.j0 k true a0_0 a0_1 a0_2 a0_3 a0_4 a0_5 a0_6 a0_7 a0_8 a0_9 a0_10 l0_11)) = some r := H
     have A10 := Aside0.mk A100
     clear A100
     by_cases c11 : t402 = true
     ·subst c11
      have H1 : ((job_in.f a0_4 0 7).bind fun t403 => (if t403 = true then ((job_in.f a0_5 0 1048576).bind fun t404 => (if t404 = true then ((job_in.f a0_6 0 1099511627776).bind fun t405 => (job_GoodR.j0 k (!t405) a0_0 a0_1 a0_2 a0_3 a0_4 a0_5 a0_6 a0_7 a0_8 a0_9 a0_10 l0_11)) else (job_GoodR.j0 k true a0_0 a0_1 a0_2 a0_3 a0_4 a0_5 a0_6 a0_7 a0_8 a0_9 a0_10 l0_11))) else (job_GoodR.j0 k true a0_0 a0_1 a0_2 a0_3 a0_4 a0_5 a0_6 a0_7 a0_8 a0_9 a0_10 l0_11))) = some r := by rw [if_pos rfl] at H; exact H
      clear H
      have H := H1
      clear H1
      replace H := Option.bind_eq_some_iff.mp H
      obtain ⟨t403, A120, H⟩ := H
      replace H : (if t403 = true then ((job_in.f a0_5 0 1048576).bind fun t404 => (if t404 = true then ((job_in.f a0_6 0 1099511627776).bind fun t405 => (job_GoodR.j0 k (!t405) a0_0 a0_1 a0_2 a0_3 a0_4 a0_5 a0_6 a0_7 a0_8 a0_9 a0_10 l0_11)) else (job_GoodR.j0 k true a0_0 a0_1 a0_2 a0_3 a0_4 a0_5 a0_6 a0_7 a0_8 a0_9 a0_10 l0_11))) else (job_GoodR.j0 k true a0_0 a0_1 a0_2 a0_3 a0_4 a0_5 a0_6 a0_7 a0_8 a0_9 a0_10 l0_11)) = some r := H
      have A12 := Aside0.mk A120
      clear A120
      by_cases c13 : t403 = true
      ·subst c13
       have H1 : ((job_in.f a0_5 0 1048576).bind fun t404 => (if t404 = true then ((job_in.f a0_6 0 1099511627776).bind fun t405 => (job_GoodR.j0 k (!t405) a0_0 a0_1 a0_2 a0_3 a0_4 a0_5 a0_6 a0_7 a0_8 a0_9 a0_10 l0_11)) else (job_GoodR.j0 k true a0_0 a0_1 a0_2 a0_3 a0_4 a0_5 a0_6 a0_7 a0_8 a0_9 a0_10 l0_11))) = some r := by rw [if_pos rfl] at H; exact H
       clear H
       have H := H1
       clear H1
       replace H := Option.bind_eq_some_iff.mp H
       obtain ⟨t404, A140, H⟩ := H
       replace H : (if t404 = true then ((job_in.f a0_6 0 1099511627776).bind fun t405 => (job_GoodR.j0 k (!t405) a0_0 a0_1 a0_2 a0_3 a0_4 a0_5 a0_6 a0_7 a0_8 a0_9 a0_10 l0_11)) else (job_GoodR.j0 k true a0_0 a0_1 a0_2 a0_3 a0_4 a0_5 a0_6 a0_7 a0_8 a0_9 a0_10 l0_11)) = some r := H
       have A14 := Aside0.mk A140
       clear A140
       by_cases c15 : t404 = true
       ·subst c15
        have H1 : ((job_in.f a0_6 0 1099511627776).bind fun t405 => (job_GoodR.j0 k (!t405) a0_0 a0_1 a0_2 a0_3 a0_4 a0_5 a0_6 a0_7 a0_8 a0_9 a0_10 l0_11)) = some r := by rw [if_pos rfl] at H; exact H
        clear H
        have H := H1
        clear H1
        replace H := Option.bind_eq_some_iff.mp H
        obtain ⟨t405, A160, H⟩ := H
        replace H : (job_GoodR.j0 k (!t405) a0_0 a0_1 a0_2 a0_3 a0_4 a0_5 a0_6 a0_7 a0_8 a0_9 a0_10 l0_11) = some r := H
        have A16 := Aside0.mk A160
        clear A160
        have H' := Aside0.mk H
        clear H
        have hcz17_0 : w3.cell? ⟨gb399, 0, none⟩ = some (.int .i64 a0_0) := (blk_cell BK399.out 0).trans rfl
        have hcz17_1 : w3.cell? ⟨gb399, 1, none⟩ = some (.int .i64 a0_1) := (blk_cell BK399.out 1).trans rfl
        have hcz17_2 : w3.cell? ⟨gb399, 2, none⟩ = some (.int .i64 a0_2) := (blk_cell BK399.out 2).trans rfl
        have hcz17_3 : w3.cell? ⟨gb399, 3, none⟩ = some (.int .i64 a0_3) := (blk_cell BK399.out 3).trans rfl
        have hcz17_4 : w3.cell? ⟨gb399, 4, none⟩ = some (.int .i64 a0_4) := (blk_cell BK399.out 4).trans rfl
        have hcz17_5 : w3.cell? ⟨gb399, 5, none⟩ = some (.int .i64 a0_5) := (blk_cell BK399.out 5).trans rfl
        have hcz17_6 : w3.cell? ⟨gb399, 6, none⟩ = some (.int .i64 a0_6) := (blk_cell BK399.out 6).trans rfl
        have hcz17_7 : w3.cell? ⟨gb399, 7, none⟩ = some (.int .i64 a0_7) := (blk_cell BK399.out 7).trans rfl
        have hcz17_8 : w3.cell? ⟨gb399, 8, none⟩ = some (.int .i64 a0_8) := (blk_cell BK399.out 8).trans rfl
        have hcz17_9 : w3.cell? ⟨gb399, 9, none⟩ = some (.int .i64 a0_9) := (blk_cell BK399.out 9).trans rfl
        have hcz17_10 : w3.cell? ⟨gb399, 10, none⟩ = some (.int .i64 a0_10) := (blk_cell BK399.out 10).trans rfl
        have hcz17_11 : w3.cell? ⟨gb399, 11, none⟩ = some (.slice A0_11 l0_11.length c0_11) := (blk_cell BK399.out 11).trans rfl
        have hfz17_0 := blk_frozen BK399.out 0
        have hfz17_1 := blk_frozen BK399.out 1
        have hfz17_2 := blk_frozen BK399.out 2
        have hfz17_3 := blk_frozen BK399.out 3
        have hfz17_4 := blk_frozen BK399.out 4
        have hfz17_5 := blk_frozen BK399.out 5
        have hfz17_6 := blk_frozen BK399.out 6
        have hfz17_7 := blk_frozen BK399.out 7
        have hfz17_8 := blk_frozen BK399.out 8
        have hfz17_9 := blk_frozen BK399.out 9
        have hfz17_10 := blk_frozen BK399.out 10
        have hfz17_11 := blk_frozen BK399.out 11
        go_wp2_with (first | (go_at_call 48; (with_reducible refine (job_in.calls a0_1 0 7 true _ A6.out).mono ?_); rintro e w' ⟨rfl, ⟨nd, rfl⟩⟩) | (go_at_call 48; (with_reducible refine (job_in.calls a0_2 1 32 true _ A8.out).mono ?_); rintro e w' ⟨rfl, ⟨nd, rfl⟩⟩) | (go_at_call 48; (with_reducible refine (job_in.calls a0_3 1 1048576 true _ A10.out).mono ?_); rintro e w' ⟨rfl, ⟨nd, rfl⟩⟩) | (go_at_call 48; (with_reducible refine (job_in.calls a0_4 0 7 true _ A12.out).mono ?_); rintro e w' ⟨rfl, ⟨nd, rfl⟩⟩) | (go_at_call 48; (with_reducible refine (job_in.calls a0_5 0 1048576 true _ A14.out).mono ?_); rintro e w' ⟨rfl, ⟨nd, rfl⟩⟩) | (go_at_call 48; (with_reducible refine (job_in.calls a0_6 0 1099511627776 t405 _ A16.out).mono ?_); rintro e w' ⟨rfl, ⟨nd, rfl⟩⟩))
        go_meet
        case rel => exact ⟨_, (!t405), ez, H', ⟨by first | omega | exact Nat.le_refl _⟩, ⟨mBK BK399.out⟩, ⟨mBs HB.out⟩⟩
       ·replace c15 := Bool.eq_false_iff.mpr c15
        subst c15
        have H1 : (job_GoodR.j0 k true a0_0 a0_1 a0_2 a0_3 a0_4 a0_5 a0_6 a0_7 a0_8 a0_9 a0_10 l0_11) = some r := by rw [if_neg (show ¬ (false = true) by decide)] at H; exact H
        clear H
        have H := H1
        clear H1
        have H' := Aside0.mk H
        clear H
        have hcz18_0 : w3.cell? ⟨gb399, 0, none⟩ = some (.int .i64 a0_0) := (blk_cell BK399.out 0).trans rfl
        have hcz18_1 : w3.cell? ⟨gb399, 1, none⟩ = some (.int .i64 a0_1) := (blk_cell BK399.out 1).trans rfl
        have hcz18_2 : w3.cell? ⟨gb399, 2, none⟩ = some (.int .i64 a0_2) := (blk_cell BK399.out 2).trans rfl
        have hcz18_3 : w3.cell? ⟨gb399, 3, none⟩ = some (.int .i64 a0_3) := (blk_cell BK399.out 3).trans rfl
        have hcz18_4 : w3.cell? ⟨gb399, 4, none⟩ = some (.int .i64 a0_4) := (blk_cell BK399.out 4).trans rfl
        have hcz18_5 : w3.cell? ⟨gb399, 5, none⟩ = some (.int .i64 a0_5) := (blk_cell BK399.out 5).trans rfl
        have hcz18_6 : w3.cell? ⟨gb399, 6, none⟩ = some (.int .i64 a0_6) := (blk_cell BK399.out 6).trans rfl
        have hcz18_7 : w3.cell? ⟨gb399, 7, none⟩ = some (.int .i64 a0_7) := (blk_cell BK399.out 7).trans rfl
        have hcz18_8 : w3.cell? ⟨gb399, 8, none⟩ = some (.int .i64 a0_8) := (blk_cell BK399.out 8).trans rfl
        have hcz18_9 : w3.cell? ⟨gb399, 9, none⟩ = some (.int .i64 a0_9) := (blk_cell BK399.out 9).trans rfl
        have hcz18_10 : w3.cell? ⟨gb399, 10, none⟩ = some (.int .i64 a0_10) := (blk_cell BK399.out 10).trans rfl
        have hcz18_11 : w3.cell? ⟨gb399, 11, none⟩ = some (.slice A0_11 l0_11.length c0_11) := (blk_cell BK399.out 11).trans rfl
        have hfz18_0 := blk_frozen BK399.out 0
        have hfz18_1 := blk_frozen BK399.out 1
        have hfz18_2 := blk_frozen BK399.out 2
        have hfz18_3 := blk_frozen BK399.out 3
        have hfz18_4 := blk_frozen BK399.out 4
        have hfz18_5 := blk_frozen BK399.out 5
        have hfz18_6 := blk_frozen BK399.out 6
        have hfz18_7 := blk_frozen BK399.out 7
        have hfz18_8 := blk_frozen BK399.out 8
        have hfz18_9 := blk_frozen BK399.out 9
        have hfz18_10 := blk_frozen BK399.out 10
        have hfz18_11 := blk_frozen BK399.out 11
        go_wp2_with (first | (go_at_call 48; (with_reducible refine (job_in.calls a0_1 0 7 true _ A6.out).mono ?_); rintro e w' ⟨rfl, ⟨nd, rfl⟩⟩) | (go_at_call 48; (with_reducible refine (job_in.calls a0_2 1 32 true _ A8.out).mono ?_); rintro e w' ⟨rfl, ⟨nd, rfl⟩⟩) | (go_at_call 48; (with_reducible refine (job_in.calls a0_3 1 1048576 true _ A10.out).mono ?_); rintro e w' ⟨rfl, ⟨nd, rfl⟩⟩) | (go_at_call 48; (with_reducible refine (job_in.calls a0_4 0 7 true _ A12.out).mono ?_); rintro e w' ⟨rfl, ⟨nd, rfl⟩⟩) | (go_at_call 48; (with_reducible refine (job_in.calls a0_5 0 1048576 false _ A14.out).mono ?_); rintro e w' ⟨rfl, ⟨nd, rfl⟩⟩))
        go_meet
        case rel => exact ⟨_, (true), ez, H', ⟨by first | omega | exact Nat.le_refl _⟩, ⟨mBK BK399.out⟩, ⟨mBs HB.out⟩⟩
      ·replace c13 := Bool.eq_false_iff.mpr c13
       subst c13
       have H1 : (job_GoodR.j0 k true a0_0 a0_1 a0_2 a0_3 a0_4 a0_5 a0_6 a0_7 a0_8 a0_9 a0_10 l0_11) = some r := by rw [if_neg (show ¬ (false = true) by decide)] at H; exact H
       clear H
       have H := H1
       clear H1
       have H' := Aside0.mk H
       clear H
       have hcz19_0 : w3.cell? ⟨gb399, 0, none⟩ = some (.int .i64 a0_0) := (blk_cell BK399.out 0).trans rfl
       have hcz19_1 : w3.cell? ⟨gb399, 1, none⟩ = some (.int .i64 a0_1) := (blk_cell BK399.out 1).trans rfl
       have hcz19_2 : w3.cell? ⟨gb399, 2, none⟩ = some (.int .i64 a0_2) := (blk_cell BK399.out 2).trans rfl
       have hcz19_3 : w3.cell? ⟨gb399, 3, none⟩ = some (.int .i64 a0_3) := (blk_cell BK399.out 3).trans rfl
       have hcz19_4 : w3.cell? ⟨gb399, 4, none⟩ = some (.int .i64 a0_4) := (blk_cell BK399.out 4).trans rfl
       have hcz19_5 : w3.cell? ⟨gb399, 5, none⟩ = some (.int .i64 a0_5) := (blk_cell BK399.out 5).trans rfl
       have hcz19_6 : w3.cell? ⟨gb399, 6, none⟩ = some (.int .i64 a0_6) := (blk_cell BK399.out 6).trans rfl
       have hcz19_7 : w3.cell? ⟨gb399, 7, none⟩ = some (.int .i64 a0_7) := (blk_cell BK399.out 7).trans rfl
       have hcz19_8 : w3.cell? ⟨gb399, 8, none⟩ = some (.int .i64 a0_8) := (blk_cell BK399.out 8).trans rfl
       have hcz19_9 : w3.cell? ⟨gb399, 9, none⟩ = some (.int .i64 a0_9) := (blk_cell BK399.out 9).trans rfl
       have hcz19_10 : w3.cell? ⟨gb399, 10, none⟩ = some (.int .i64 a0_10) := (blk_cell BK399.out 10).trans rfl
       have hcz19_11 : w3.cell? ⟨gb399, 11, none⟩ = some (.slice A0_11 l0_11.length c0_11) := (blk_cell BK399.out 11).trans rfl
       have hfz19_0 := blk_frozen BK399.out 0
       have hfz19_1 := blk_frozen BK399.out 1
       have hfz19_2 := blk_frozen BK399.out 2
       have hfz19_3 := blk_frozen BK399.out 3
       have hfz19_4 := blk_frozen BK399.out 4
       have hfz19_5 := blk_frozen BK399.out 5
       have hfz19_6 := blk_frozen BK399.out 6
       have hfz19_7 := blk_frozen BK399.out 7
       have hfz19_8 := blk_frozen BK399.out 8
       have hfz19_9 := blk_frozen BK399.out 9
       have hfz19_10 := blk_frozen BK399.out 10
       have hfz19_11 := blk_frozen BK399.out 11
       go_wp2_with (first | (go_at_call 48; (with_reducible refine (job_in.calls a0_1 0 7 true _ A6.out).mono ?_); rintro e w' ⟨rfl, ⟨nd, rfl⟩⟩) | (go_at_call 48; (with_reducible refine (job_in.calls a0_2 1 32 true _ A8.out).mono ?_); rintro e w' ⟨rfl, ⟨nd, rfl⟩⟩) | (go_at_call 48; (with_reducible refine (job_in.calls a0_3 1 1048576 true _ A10.out).mono ?_); rintro e w' ⟨rfl, ⟨nd, rfl⟩⟩) | (go_at_call 48; (with_reducible refine (job_in.calls a0_4 0 7 false _ A12.out).mono ?_); rintro e w' ⟨rfl, ⟨nd, rfl⟩⟩))
       go_meet
       case rel => exact ⟨_, (true), ez, H', ⟨by first | omega | exact Nat.le_refl _⟩, ⟨mBK BK399.out⟩, ⟨mBs HB.out⟩⟩
     ·replace c11 := Bool.eq_false_iff.mpr c11
      subst c11
      have H1 : (job_GoodR.j0 k true a0_0 a0_1 a0_2 a0_3 a0_4 a0_5 a0_6 a0_7 a0_8 a0_9 a0_10 l0_11) = some r := by rw [if_neg (show ¬ (false = true) by decide)] at H; exact H
      clear H
      have H := H1
      clear H1
      have H' := Aside0.mk H
      clear H
      have hcz20_0 : w3.cell? ⟨gb399, 0, none⟩ = some (.int .i64 a0_0) := (blk_cell BK399.out 0).trans rfl
      have hcz20_1 : w3.cell? ⟨gb399, 1, none⟩ = some (.int .i64 a0_1) := (blk_cell BK399.out 1).trans rfl
      have hcz20_2 : w3.cell? ⟨gb399, 2, none⟩ = some (.int .i64 a0_2) := (blk_cell BK399.out 2).trans rfl
      have hcz20_3 : w3.cell? ⟨gb399, 3, none⟩ = some (.int .i64 a0_3) := (blk_cell BK399.out 3).trans rfl
      have hcz20_4 : w3.cell? ⟨gb399, 4, none⟩ = some (.int .i64 a0_4) := (blk_cell BK399.out 4).trans rfl
      have hcz20_5 : w3.cell? ⟨gb399, 5, none⟩ = some (.int .i64 a0_5) := (blk_cell BK399.out 5).trans rfl
      have hcz20_6 : w3.cell? ⟨gb399, 6, none⟩ = some (.int .i64 a0_6) := (blk_cell BK399.out 6).trans rfl
      have hcz20_7 : w3.cell? ⟨gb399, 7, none⟩ = some (.int .i64 a0_7) := (blk_cell BK399.out 7).trans rfl
      have hcz20_8 : w3.cell? ⟨gb399, 8, none⟩ = some (.int .i64 a0_8) := (blk_cell BK399.out 8).trans rfl
      have hcz20_9 : w3.cell? ⟨gb399, 9, none⟩ = some (.int .i64 a0_9) := (blk_cell BK399.out 9).trans rfl
      have hcz20_10 : w3.cell? ⟨gb399, 10, none⟩ = some (.int .i64 a0_10) := (blk_cell BK399.out 10).trans rfl
      have hcz20_11 : w3.cell? ⟨gb399, 11, none⟩ = some (.slice A0_11 l0_11.length c0_11) := (blk_cell BK399.out 11).trans rfl
      have hfz20_0 := blk_frozen BK399.out 0
      have hfz20_1 := blk_frozen BK399.out 1
      have hfz20_2 := blk_frozen BK399.out 2
      have hfz20_3 := blk_frozen BK399.out 3
      have hfz20_4 := blk_frozen BK399.out 4
      have hfz20_5 := blk_frozen BK399.out 5
      have hfz20_6 := blk_frozen BK399.out 6
      have hfz20_7 := blk_frozen BK399.out 7
      have hfz20_8 := blk_frozen BK399.out 8
      have hfz20_9 := blk_frozen BK399.out 9
      have hfz20_10 := blk_frozen BK399.out 10
      have hfz20_11 := blk_frozen BK399.out 11
      go_wp2_with (first | (go_at_call 48; (with_reducible refine (job_in.calls a0_1 0 7 true _ A6.out).mono ?_); rintro e w' ⟨rfl, ⟨nd, rfl⟩⟩) | (go_at_call 48; (with_reducible refine (job_in.calls a0_2 1 32 true _ A8.out).mono ?_); rintro e w' ⟨rfl, ⟨nd, rfl⟩⟩) | (go_at_call 48; (with_reducible refine (job_in.calls a0_3 1 1048576 false _ A10.out).mono ?_); rintro e w' ⟨rfl, ⟨nd, rfl⟩⟩))
      go_meet
      case rel => exact ⟨_, (true), ez, H', ⟨by first | omega | exact Nat.le_refl _⟩, ⟨mBK BK399.out⟩, ⟨mBs HB.out⟩⟩
    ·replace c9 := Bool.eq_false_iff.mpr c9
     subst c9
     have H1 : (job_GoodR.j0 k true a0_0 a0_1 a0_2 a0_3 a0_4 a0_5 a0_6 a0_7 a0_8 a0_9 a0_10 l0_11) = some r := by rw [if_neg (show ¬ (false = true) by decide)] at H; exact H
     clear H
     have H := H1
     clear H1
     have H' := Aside0.mk H
     clear H
     have hcz21_0 : w3.cell? ⟨gb399, 0, none⟩ = some (.int .i64 a0_0) := (blk_cell BK399.out 0).trans rfl
     have hcz21_1 : w3.cell? ⟨gb399, 1, none⟩ = some (.int .i64 a0_1) := (blk_cell BK399.out 1).trans rfl
     have hcz21_2 : w3.cell? ⟨gb399, 2, none⟩ = some (.int .i64 a0_2) := (blk_cell BK399.out 2).trans rfl
     have hcz21_3 : w3.cell? ⟨gb399, 3, none⟩ = some (.int .i64 a0_3) := (blk_cell BK399.out 3).trans rfl
     have hcz21_4 : w3.cell? ⟨gb399, 4, none⟩ = some (.int .i64 a0_4) := (blk_cell BK399.out 4).trans rfl
     have hcz21_5 : w3.cell? ⟨gb399, 5, none⟩ = some (.int .i64 a0_5) := (blk_cell BK399.out 5).trans rfl
     have hcz21_6 : w3.cell? ⟨gb399, 6, none⟩ = some (.int .i64 a0_6) := (blk_cell BK399.out 6).trans rfl
     have hcz21_7 : w3.cell? ⟨gb399, 7, none⟩ = some (.int .i64 a0_7) := (blk_cell BK399.out 7).trans rfl
     have hcz21_8 : w3.cell? ⟨gb399, 8, none⟩ = some (.int .i64 a0_8) := (blk_cell BK399.out 8).trans rfl
     have hcz21_9 : w3.cell? ⟨gb399, 9, none⟩ = some (.int .i64 a0_9) := (blk_cell BK399.out 9).trans rfl
     have hcz21_10 : w3.cell? ⟨gb399, 10, none⟩ = some (.int .i64 a0_10) := (blk_cell BK399.out 10).trans rfl
     have hcz21_11 : w3.cell? ⟨gb399, 11, none⟩ = some (.slice A0_11 l0_11.length c0_11) := (blk_cell BK399.out 11).trans rfl
     have hfz21_0 := blk_frozen BK399.out 0
     have hfz21_1 := blk_frozen BK399.out 1
     have hfz21_2 := blk_frozen BK399.out 2
     have hfz21_3 := blk_frozen BK399.out 3
     have hfz21_4 := blk_frozen BK399.out 4
     have hfz21_5 := blk_frozen BK399.out 5
     have hfz21_6 := blk_frozen BK399.out 6
     have hfz21_7 := blk_frozen BK399.out 7
     have hfz21_8 := blk_frozen BK399.out 8
     have hfz21_9 := blk_frozen BK399.out 9
     have hfz21_10 := blk_frozen BK399.out 10
     have hfz21_11 := blk_frozen BK399.out 11
     go_wp2_with (first | (go_at_call 48; (with_reducible refine (job_in.calls a0_1 0 7 true _ A6.out).mono ?_); rintro e w' ⟨rfl, ⟨nd, rfl⟩⟩) | (go_at_call 48; (with_reducible refine (job_in.calls a0_2 1 32 false _ A8.out).mono ?_); rintro e w' ⟨rfl, ⟨nd, rfl⟩⟩))
     go_meet
     case rel => exact ⟨_, (true), ez, H', ⟨by first | omega | exact Nat.le_refl _⟩, ⟨mBK BK399.out⟩, ⟨mBs HB.out⟩⟩
   ·replace c7 := Bool.eq_false_iff.mpr c7
    subst c7
    have H1 : (job_GoodR.j0 k true a0_0 a0_1 a0_2 a0_3 a0_4 a0_5 a0_6 a0_7 a0_8 a0_9 a0_10 l0_11) = some r := by rw [if_neg (show ¬ (false = true) by decide)] at H; exact H
    clear H
    have H := H1
    clear H1
    have H' := Aside0.mk H
    clear H
    have hcz22_0 : w3.cell? ⟨gb399, 0, none⟩ = some (.int .i64 a0_0) := (blk_cell BK399.out 0).trans rfl
    have hcz22_1 : w3.cell? ⟨gb399, 1, none⟩ = some (.int .i64 a0_1) := (blk_cell BK399.out 1).trans rfl
    have hcz22_2 : w3.cell? ⟨gb399, 2, none⟩ = some (.int .i64 a0_2) := (blk_cell BK399.out 2).trans rfl
    have hcz22_3 : w3.cell? ⟨gb399, 3, none⟩ = some (.int .i64 a0_3) := (blk_cell BK399.out 3).trans rfl
    have hcz22_4 : w3.cell? ⟨gb399, 4, none⟩ = some (.int .i64 a0_4) := (blk_cell BK399.out 4).trans rfl
    have hcz22_5 : w3.cell? ⟨gb399, 5, none⟩ = some (.int .i64 a0_5) := (blk_cell BK399.out 5).trans rfl
    have hcz22_6 : w3.cell? ⟨gb399, 6, none⟩ = some (.int .i64 a0_6) := (blk_cell BK399.out 6).trans rfl
    have hcz22_7 : w3.cell? ⟨gb399, 7, none⟩ = some (.int .i64 a0_7) := (blk_cell BK399.out 7).trans rfl
    have hcz22_8 : w3.cell? ⟨gb399, 8, none⟩ = some (.int .i64 a0_8) := (blk_cell BK399.out 8).trans rfl
    have hcz22_9 : w3.cell? ⟨gb399, 9, none⟩ = some (.int .i64 a0_9) := (blk_cell BK399.out 9).trans rfl
    have hcz22_10 : w3.cell? ⟨gb399, 10, none⟩ = some (.int .i64 a0_10) := (blk_cell BK399.out 10).trans rfl
    have hcz22_11 : w3.cell? ⟨gb399, 11, none⟩ = some (.slice A0_11 l0_11.length c0_11) := (blk_cell BK399.out 11).trans rfl
    have hfz22_0 := blk_frozen BK399.out 0
    have hfz22_1 := blk_frozen BK399.out 1
    have hfz22_2 := blk_frozen BK399.out 2
    have hfz22_3 := blk_frozen BK399.out 3
    have hfz22_4 := blk_frozen BK399.out 4
    have hfz22_5 := blk_frozen BK399.out 5
    have hfz22_6 := blk_frozen BK399.out 6
    have hfz22_7 := blk_frozen BK399.out 7
    have hfz22_8 := blk_frozen BK399.out 8
    have hfz22_9 := blk_frozen BK399.out 9
    have hfz22_10 := blk_frozen BK399.out 10
    have hfz22_11 := blk_frozen BK399.out 11
    go_wp2_with (first | (go_at_call 48; (with_reducible refine (job_in.calls a0_1 0 7 false _ A6.out).mono ?_); rintro e w' ⟨rfl, ⟨nd, rfl⟩⟩))
    go_meet
    case rel => exact ⟨_, (true), ez, H', ⟨by first | omega | exact Nat.le_refl _⟩, ⟨mBK BK399.out⟩, ⟨mBs HB.out⟩⟩
 case rest =>
  clear HC2
  (try clear c1); (try clear c2); (try clear p2); (try clear c4); (try clear c4b0); (try clear c7); (try clear c9); (try clear c11); (try clear c13); (try clear c15); (try clear hcz17_0 hcz17_1 hcz17_10 hcz17_11 hcz17_2 hcz17_3 hcz17_4 hcz17_5 hcz17_6 hcz17_7 hcz17_8 hcz17_9); (try clear hcz18_0 hcz18_1 hcz18_10 hcz18_11 hcz18_2 hcz18_3 hcz18_4 hcz18_5 hcz18_6 hcz18_7 hcz18_8 hcz18_9); (try clear hcz19_0 hcz19_1 hcz19_10 hcz19_11 hcz19_2 hcz19_3 hcz19_4 hcz19_5 hcz19_6 hcz19_7 hcz19_8 hcz19_9); (try clear hcz20_0 hcz20_1 hcz20_10 hcz20_11 hcz20_2 hcz20_3 hcz20_4 hcz20_5 hcz20_6 hcz20_7 hcz20_8 hcz20_9); (try clear hcz21_0 hcz21_1 hcz21_10 hcz21_11 hcz21_2 hcz21_3 hcz21_4 hcz21_5 hcz21_6 hcz21_7 hcz21_8 hcz21_9); (try clear hcz22_0 hcz22_1 hcz22_10 hcz22_11 hcz22_2 hcz22_3 hcz22_4 hcz22_5 hcz22_6 hcz22_7 hcz22_8 hcz22_9); (try clear hcz5_0 hcz5_1 hcz5_10 hcz5_11 hcz5_2 hcz5_3 hcz5_4 hcz5_5 hcz5_6 hcz5_7 hcz5_8 hcz5_9); (try clear hfz17_0 hfz17_1 hfz17_10 hfz17_11 hfz17_2 hfz17_3 hfz17_4 hfz17_5 hfz17_6 hfz17_7 hfz17_8 hfz17_9); (try clear hfz18_0 hfz18_1 hfz18_10 hfz18_11 hfz18_2 hfz18_3 hfz18_4 hfz18_5 hfz18_6 hfz18_7 hfz18_8 hfz18_9); (try clear hfz19_0 hfz19_1 hfz19_10 hfz19_11 hfz19_2 hfz19_3 hfz19_4 hfz19_5 hfz19_6 hfz19_7 hfz19_8 hfz19_9); (try clear hfz20_0 hfz20_1 hfz20_10 hfz20_11 hfz20_2 hfz20_3 hfz20_4 hfz20_5 hfz20_6 hfz20_7 hfz20_8 hfz20_9); (try clear hfz21_0 hfz21_1 hfz21_10 hfz21_11 hfz21_2 hfz21_3 hfz21_4 hfz21_5 hfz21_6 hfz21_7 hfz21_8 hfz21_9); (try clear hfz22_0 hfz22_1 hfz22_10 hfz22_11 hfz22_2 hfz22_3 hfz22_4 hfz22_5 hfz22_6 hfz22_7 hfz22_8 hfz22_9); (try clear hfz5_0 hfz5_1 hfz5_10 hfz5_11 hfz5_2 hfz5_3 hfz5_4 hfz5_5 hfz5_6 hfz5_7 hfz5_8 hfz5_9)
  obtain ⟨kq, x41_1, rfl, HA, HJ1, BK399, HB⟩ := hcut
  cases kq with
  | zero => exact absurd HA.out (by simp [job_GoodR.j0])
  | succ kj1 =>
   have H := HA.out
   clear HA
   simp only [job_GoodR.j0] at H
   by_cases c23 : x41_1 = true
   ·subst c23
    have H1 : (some false) = some r := by rw [if_pos rfl] at H; exact H
    clear H
    have H := H1
    clear H1
    obtain rfl := Option.some.inj H
    go_wp2
    go_ret
    exact ⟨by first | rfl | (simp [errW_none, errW_some] <;> rfl) | (simp [*, errW_none, errW_some] <;> rfl), by repeat (first | (with_reducible first | exact HB.out | apply below_alloc | apply pw_below_drewN | apply below_drew1 | refine below_set ?_ GE399.out) | exact HB.out)⟩
   ·replace c23 := Bool.eq_false_iff.mpr c23
    subst c23
    have H1 : (if a0_7 = 1 then (job_GoodR.j1 kj1 a0_7 (a0_7 == 1) a0_0 a0_1 a0_2 a0_3 a0_4 a0_5 a0_6 a0_7 a0_8 a0_9 a0_10 l0_11) else (job_GoodR.j1 kj1 a0_7 (a0_7 == 2) a0_0 a0_1 a0_2 a0_3 a0_4 a0_5 a0_6 a0_7 a0_8 a0_9 a0_10 l0_11)) = some r := by rw [if_neg (show ¬ (false = true) by decide)] at H; exact H
    clear H
    have H := H1
    clear H1
    have HC24 := Aside0.mk H
    clear H
    have hcz25_0 : wc.cell? ⟨gb399, 0, none⟩ = some (.int .i64 a0_0) := (blk_cell BK399.out 0).trans rfl
    have hcz25_1 : wc.cell? ⟨gb399, 1, none⟩ = some (.int .i64 a0_1) := (blk_cell BK399.out 1).trans rfl
    have hcz25_2 : wc.cell? ⟨gb399, 2, none⟩ = some (.int .i64 a0_2) := (blk_cell BK399.out 2).trans rfl
    have hcz25_3 : wc.cell? ⟨gb399, 3, none⟩ = some (.int .i64 a0_3) := (blk_cell BK399.out 3).trans rfl
    have hcz25_4 : wc.cell? ⟨gb399, 4, none⟩ = some (.int .i64 a0_4) := (blk_cell BK399.out 4).trans rfl
    have hcz25_5 : wc.cell? ⟨gb399, 5, none⟩ = some (.int .i64 a0_5) := (blk_cell BK399.out 5).trans rfl
    have hcz25_6 : wc.cell? ⟨gb399, 6, none⟩ = some (.int .i64 a0_6) := (blk_cell BK399.out 6).trans rfl
    have hcz25_7 : wc.cell? ⟨gb399, 7, none⟩ = some (.int .i64 a0_7) := (blk_cell BK399.out 7).trans rfl
    have hcz25_8 : wc.cell? ⟨gb399, 8, none⟩ = some (.int .i64 a0_8) := (blk_cell BK399.out 8).trans rfl
    have hcz25_9 : wc.cell? ⟨gb399, 9, none⟩ = some (.int .i64 a0_9) := (blk_cell BK399.out 9).trans rfl
    have hcz25_10 : wc.cell? ⟨gb399, 10, none⟩ = some (.int .i64 a0_10) := (blk_cell BK399.out 10).trans rfl
    have hcz25_11 : wc.cell? ⟨gb399, 11, none⟩ = some (.slice A0_11 l0_11.length c0_11) := (blk_cell BK399.out 11).trans rfl
    have hfz25_0 := blk_frozen BK399.out 0
    have hfz25_1 := blk_frozen BK399.out 1
    have hfz25_2 := blk_frozen BK399.out 2
    have hfz25_3 := blk_frozen BK399.out 3
    have hfz25_4 := blk_frozen BK399.out 4
    have hfz25_5 := blk_frozen BK399.out 5
    have hfz25_6 := blk_frozen BK399.out 6
    have hfz25_7 := blk_frozen BK399.out 7
    have hfz25_8 := blk_frozen BK399.out 8
    have hfz25_9 := blk_frozen BK399.out 9
    have hfz25_10 := blk_frozen BK399.out 10
    have hfz25_11 := blk_frozen BK399.out 11
    go_upto_if 44 with (fail)
    go_cut [44] (fun v44 wc => ∃ (kq : Nat) (x44_23 : Bool), v44 = .bool x44_23 ∧ Aside0 (job_GoodR.j1 kq a0_7 x44_23 a0_0 a0_1 a0_2 a0_3 a0_4 a0_5 a0_6 a0_7 a0_8 a0_9 a0_10 l0_11 = some r) ∧ Aside0 (kq ≤ kj1) ∧ Aside0 (wc.heap[gb399]? = some (.cells #[.int .i64 a0_0, .int .i64 a0_1, .int .i64 a0_2, .int .i64 a0_3, .int .i64 a0_4, .int .i64 a0_5, .int .i64 a0_6, .int .i64 a0_7, .int .i64 a0_8, .int .i64 a0_9, .int .i64 a0_10, (.slice A0_11 l0_11.length c0_11)] 32 (0, 0))) ∧ Aside0 (Below w.heap.size w wc))
    case first =>
     have H := HC24.out
     clear HC24
     by_cases c26 : a0_7 = 1
     ·rw [if_pos c26] at H
      have c26b0 : (a0_7 == 1) = true := beq_iff_eq.mpr c26
      have c26b1 : (a0_7 != 1) = false := bne_eq_false_iff_eq.mpr c26
      clear c26
      (first | rw [c26b0] | (simp only [i64_w, i32_w]; rw [c26b0]) | skip)
      have H' := Aside0.mk H
      clear H
      go_wp2
      go_meet
      case rel => exact ⟨_, ((a0_7 == 1)), ez, H', ⟨by have := HJ1.out; first | omega | exact Nat.le_refl _⟩, ⟨mBK BK399.out⟩, ⟨mBs HB.out⟩⟩
     ·rw [if_neg c26] at H
      have c26b0 : (a0_7 == 1) = false := beq_eq_false_iff_ne.mpr c26
      have c26b1 : (a0_7 != 1) = true := bne_iff_ne.mpr c26
      (first | rw [c26b0] | (simp only [i64_w, i32_w]; rw [c26b0]) | skip)
      have H' := Aside0.mk H
      clear H
      go_wp2
      go_meet
      case rel => exact ⟨_, ((a0_7 == 2)), ez, H', ⟨by have := HJ1.out; first | omega | exact Nat.le_refl _⟩, ⟨mBK BK399.out⟩, ⟨mBs HB.out⟩⟩
    case rest =>
     clear HC24
     (try clear c1); (try clear c2); (try clear p2); (try clear c4); (try clear c4b0); (try clear c7); (try clear c9); (try clear c11); (try clear c13); (try clear c15); (try clear c23); (try clear c26); (try clear c26b0); (try clear c26b1); (try clear hcz17_0 hcz17_1 hcz17_10 hcz17_11 hcz17_2 hcz17_3 hcz17_4 hcz17_5 hcz17_6 hcz17_7 hcz17_8 hcz17_9); (try clear hcz18_0 hcz18_1 hcz18_10 hcz18_11 hcz18_2 hcz18_3 hcz18_4 hcz18_5 hcz18_6 hcz18_7 hcz18_8 hcz18_9); (try clear hcz19_0 hcz19_1 hcz19_10 hcz19_11 hcz19_2 hcz19_3 hcz19_4 hcz19_5 hcz19_6 hcz19_7 hcz19_8 hcz19_9); (try clear hcz20_0 hcz20_1 hcz20_10 hcz20_11 hcz20_2 hcz20_3 hcz20_4 hcz20_5 hcz20_6 hcz20_7 hcz20_8 hcz20_9); (try clear hcz21_0 hcz21_1 hcz21_10 hcz21_11 hcz21_2 hcz21_3 hcz21_4 hcz21_5 hcz21_6 hcz21_7 hcz21_8 hcz21_9); (try clear hcz22_0 hcz22_1 hcz22_10 hcz22_11 hcz22_2 hcz22_3 hcz22_4 hcz22_5 hcz22_6 hcz22_7 hcz22_8 hcz22_9); (try clear hcz25_0 hcz25_1 hcz25_10 hcz25_11 hcz25_2 hcz25_3 hcz25_4 hcz25_5 hcz25_6 hcz25_7 hcz25_8 hcz25_9); (try clear hcz5_0 hcz5_1 hcz5_10 hcz5_11 hcz5_2 hcz5_3 hcz5_4 hcz5_5 hcz5_6 hcz5_7 hcz5_8 hcz5_9); (try clear hfz17_0 hfz17_1 hfz17_10 hfz17_11 hfz17_2 hfz17_3 hfz17_4 hfz17_5 hfz17_6 hfz17_7 hfz17_8 hfz17_9); (try clear hfz18_0 hfz18_1 hfz18_10 hfz18_11 hfz18_2 hfz18_3 hfz18_4 hfz18_5 hfz18_6 hfz18_7 hfz18_8 hfz18_9); (try clear hfz19_0 hfz19_1 hfz19_10 hfz19_11 hfz19_2 hfz19_3 hfz19_4 hfz19_5 hfz19_6 hfz19_7 hfz19_8 hfz19_9); (try clear hfz20_0 hfz20_1 hfz20_10 hfz20_11 hfz20_2 hfz20_3 hfz20_4 hfz20_5 hfz20_6 hfz20_7 hfz20_8 hfz20_9); (try clear hfz21_0 hfz21_1 hfz21_10 hfz21_11 hfz21_2 hfz21_3 hfz21_4 hfz21_5 hfz21_6 hfz21_7 hfz21_8 hfz21_9); (try clear hfz22_0 hfz22_1 hfz22_10 hfz22_11 hfz22_2 hfz22_3 hfz22_4 hfz22_5 hfz22_6 hfz22_7 hfz22_8 hfz22_9); (try clear hfz25_0 hfz25_1 hfz25_10 hfz25_11 hfz25_2 hfz25_3 hfz25_4 hfz25_5 hfz25_6 hfz25_7 hfz25_8 hfz25_9); (try clear hfz5_0 hfz5_1 hfz5_10 hfz5_11 hfz5_2 hfz5_3 hfz5_4 hfz5_5 hfz5_6 hfz5_7 hfz5_8 hfz5_9); (try clear p2)
     obtain ⟨kq, x44_23, rfl, HA, HJ23, BK399, HB⟩ := hcut
     cases kq with
     | zero => exact absurd HA.out (by simp [job_GoodR.j1])
     | succ kj23 =>
      have H := HA.out
      clear HA
      simp only [job_GoodR.j1] at H
      by_cases c27 : x44_23 = true
      ·subst c27
       have H1 : (if a0_8 = 0 then (if a0_9 = 0 then (if a0_10 = 0 then (some ((l0_11.length : Int) == 0)) else (some false)) else (some false)) else (some false)) = some r := by rw [if_pos rfl] at H; exact H
       clear H
       have H := H1
       clear H1
       by_cases c28 : a0_8 = 0
       ·rw [if_pos c28] at H
        have c28b0 : (a0_8 == 0) = true := beq_iff_eq.mpr c28
        have c28b1 : (a0_8 != 0) = false := bne_eq_false_iff_eq.mpr c28
        clear c28
        by_cases c29 : a0_9 = 0
        ·rw [if_pos c29] at H
         have c29b0 : (a0_9 == 0) = true := beq_iff_eq.mpr c29
         have c29b1 : (a0_9 != 0) = false := bne_eq_false_iff_eq.mpr c29
         clear c29
         by_cases c30 : a0_10 = 0
         ·rw [if_pos c30] at H
          have c30b0 : (a0_10 == 0) = true := beq_iff_eq.mpr c30
          have c30b1 : (a0_10 != 0) = false := bne_eq_false_iff_eq.mpr c30
          clear c30
          obtain rfl := Option.some.inj H
          have hcz31_0 : wc.cell? ⟨gb399, 0, none⟩ = some (.int .i64 a0_0) := (blk_cell BK399.out 0).trans rfl
          have hcz31_1 : wc.cell? ⟨gb399, 1, none⟩ = some (.int .i64 a0_1) := (blk_cell BK399.out 1).trans rfl
          have hcz31_2 : wc.cell? ⟨gb399, 2, none⟩ = some (.int .i64 a0_2) := (blk_cell BK399.out 2).trans rfl
          have hcz31_3 : wc.cell? ⟨gb399, 3, none⟩ = some (.int .i64 a0_3) := (blk_cell BK399.out 3).trans rfl
          have hcz31_4 : wc.cell? ⟨gb399, 4, none⟩ = some (.int .i64 a0_4) := (blk_cell BK399.out 4).trans rfl
          have hcz31_5 : wc.cell? ⟨gb399, 5, none⟩ = some (.int .i64 a0_5) := (blk_cell BK399.out 5).trans rfl
          have hcz31_6 : wc.cell? ⟨gb399, 6, none⟩ = some (.int .i64 a0_6) := (blk_cell BK399.out 6).trans rfl
          have hcz31_7 : wc.cell? ⟨gb399, 7, none⟩ = some (.int .i64 a0_7) := (blk_cell BK399.out 7).trans rfl
          have hcz31_8 : wc.cell? ⟨gb399, 8, none⟩ = some (.int .i64 a0_8) := (blk_cell BK399.out 8).trans rfl
          have hcz31_9 : wc.cell? ⟨gb399, 9, none⟩ = some (.int .i64 a0_9) := (blk_cell BK399.out 9).trans rfl
          have hcz31_10 : wc.cell? ⟨gb399, 10, none⟩ = some (.int .i64 a0_10) := (blk_cell BK399.out 10).trans rfl
          have hcz31_11 : wc.cell? ⟨gb399, 11, none⟩ = some (.slice A0_11 l0_11.length c0_11) := (blk_cell BK399.out 11).trans rfl
          have hfz31_0 := blk_frozen BK399.out 0
          have hfz31_1 := blk_frozen BK399.out 1
          have hfz31_2 := blk_frozen BK399.out 2
          have hfz31_3 := blk_frozen BK399.out 3
          have hfz31_4 := blk_frozen BK399.out 4
          have hfz31_5 := blk_frozen BK399.out 5
          have hfz31_6 := blk_frozen BK399.out 6
          have hfz31_7 := blk_frozen BK399.out 7
          have hfz31_8 := blk_frozen BK399.out 8
          have hfz31_9 := blk_frozen BK399.out 9
          have hfz31_10 := blk_frozen BK399.out 10
          have hfz31_11 := blk_frozen BK399.out 11
          go_wp2
          go_ret
          exact ⟨by first | rfl | (simp [errW_none, errW_some] <;> rfl) | (simp [*, errW_none, errW_some] <;> rfl), by repeat (first | (with_reducible first | exact HB.out | apply below_alloc | apply pw_below_drewN | apply below_drew1 | refine below_set ?_ GE399.out) | exact HB.out)⟩
         ·rw [if_neg c30] at H
          have c30b0 : (a0_10 == 0) = false := beq_eq_false_iff_ne.mpr c30
          have c30b1 : (a0_10 != 0) = true := bne_iff_ne.mpr c30
          obtain rfl := Option.some.inj H
          have hcz32_0 : wc.cell? ⟨gb399, 0, none⟩ = some (.int .i64 a0_0) := (blk_cell BK399.out 0).trans rfl
          have hcz32_1 : wc.cell? ⟨gb399, 1, none⟩ = some (.int .i64 a0_1) := (blk_cell BK399.out 1).trans rfl
          have hcz32_2 : wc.cell? ⟨gb399, 2, none⟩ = some (.int .i64 a0_2) := (blk_cell BK399.out 2).trans rfl
          have hcz32_3 : wc.cell? ⟨gb399, 3, none⟩ = some (.int .i64 a0_3) := (blk_cell BK399.out 3).trans rfl
          have hcz32_4 : wc.cell? ⟨gb399, 4, none⟩ = some (.int .i64 a0_4) := (blk_cell BK399.out 4).trans rfl
          have hcz32_5 : wc.cell? ⟨gb399, 5, none⟩ = some (.int .i64 a0_5) := (blk_cell BK399.out 5).trans rfl
          have hcz32_6 : wc.cell? ⟨gb399, 6, none⟩ = some (.int .i64 a0_6) := (blk_cell BK399.out 6).trans rfl
          have hcz32_7 : wc.cell? ⟨gb399, 7, none⟩ = some (.int .i64 a0_7) := (blk_cell BK399.out 7).trans rfl
          have hcz32_8 : wc.cell? ⟨gb399, 8, none⟩ = some (.int .i64 a0_8) := (blk_cell BK399.out 8).trans rfl
          have hcz32_9 : wc.cell? ⟨gb399, 9, none⟩ = some (.int .i64 a0_9) := (blk_cell BK399.out 9).trans rfl
          have hcz32_10 : wc.cell? ⟨gb399, 10, none⟩ = some (.int .i64 a0_10) := (blk_cell BK399.out 10).trans rfl
          have hcz32_11 : wc.cell? ⟨gb399, 11, none⟩ = some (.slice A0_11 l0_11.length c0_11) := (blk_cell BK399.out 11).trans rfl
          have hfz32_0 := blk_frozen BK399.out 0
          have hfz32_1 := blk_frozen BK399.out 1
          have hfz32_2 := blk_frozen BK399.out 2
          have hfz32_3 := blk_frozen BK399.out 3
          have hfz32_4 := blk_frozen BK399.out 4
          have hfz32_5 := blk_frozen BK399.out 5
          have hfz32_6 := blk_frozen BK399.out 6
          have hfz32_7 := blk_frozen BK399.out 7
          have hfz32_8 := blk_frozen BK399.out 8
          have hfz32_9 := blk_frozen BK399.out 9
          have hfz32_10 := blk_frozen BK399.out 10
          have hfz32_11 := blk_frozen BK399.out 11
          go_wp2
          go_ret
          exact ⟨by first | rfl | (simp [errW_none, errW_some] <;> rfl) | (simp [*, errW_none, errW_some] <;> rfl), by repeat (first | (with_reducible first | exact HB.out | apply below_alloc | apply pw_below_drewN | apply below_drew1 | refine below_set ?_ GE399.out) | exact HB.out)⟩
        ·rw [if_neg c29] at H
         have c29b0 : (a0_9 == 0) = false := beq_eq_false_iff_ne.mpr c29
         have c29b1 : (a0_9 != 0) = true := bne_iff_ne.mpr c29
         obtain rfl := Option.some.inj H
         have hcz33_0 : wc.cell? ⟨gb399, 0, none⟩ = some (.int .i64 a0_0) := (blk_cell BK399.out 0).trans rfl
         have hcz33_1 : wc.cell? ⟨gb399, 1, none⟩ = some (.int .i64 a0_1) := (blk_cell BK399.out 1).trans rfl
         have hcz33_2 : wc.cell? ⟨gb399, 2, none⟩ = some (.int .i64 a0_2) := (blk_cell BK399.out 2).trans rfl
         have hcz33_3 : wc.cell? ⟨gb399, 3, none⟩ = some (.int .i64 a0_3) := (blk_cell BK399.out 3).trans rfl
         have hcz33_4 : wc.cell? ⟨gb399, 4, none⟩ = some (.int .i64 a0_4) := (blk_cell BK399.out 4).trans rfl
         have hcz33_5 : wc.cell? ⟨gb399, 5, none⟩ = some (.int .i64 a0_5) := (blk_cell BK399.out 5).trans rfl
         have hcz33_6 : wc.cell? ⟨gb399, 6, none⟩ = some (.int .i64 a0_6) := (blk_cell BK399.out 6).trans rfl
         have hcz33_7 : wc.cell? ⟨gb399, 7, none⟩ = some (.int .i64 a0_7) := (blk_cell BK399.out 7).trans rfl
         have hcz33_8 : wc.cell? ⟨gb399, 8, none⟩ = some (.int .i64 a0_8) := (blk_cell BK399.out 8).trans rfl
         have hcz33_9 : wc.cell? ⟨gb399, 9, none⟩ = some (.int .i64 a0_9) := (blk_cell BK399.out 9).trans rfl
         have hcz33_10 : wc.cell? ⟨gb399, 10, none⟩ = some (.int .i64 a0_10) := (blk_cell BK399.out 10).trans rfl
         have hcz33_11 : wc.cell? ⟨gb399, 11, none⟩ = some (.slice A0_11 l0_11.length c0_11) := (blk_cell BK399.out 11).trans rfl
         have hfz33_0 := blk_frozen BK399.out 0
         have hfz33_1 := blk_frozen BK399.out 1
         have hfz33_2 := blk_frozen BK399.out 2
         have hfz33_3 := blk_frozen BK399.out 3
         have hfz33_4 := blk_frozen BK399.out 4
         have hfz33_5 := blk_frozen BK399.out 5
         have hfz33_6 := blk_frozen BK399.out 6
         have hfz33_7 := blk_frozen BK399.out 7
         have hfz33_8 := blk_frozen BK399.out 8
         have hfz33_9 := blk_frozen BK399.out 9
         have hfz33_10 := blk_frozen BK399.out 10
         have hfz33_11 := blk_frozen BK399.out 11
         go_wp2
         go_ret
         exact ⟨by first | rfl | (simp [errW_none, errW_some] <;> rfl) | (simp [*, errW_none, errW_some] <;> rfl), by repeat (first | (with_reducible first | exact HB.out | apply below_alloc | apply pw_below_drewN | apply below_drew1 | refine below_set ?_ GE399.out) | exact HB.out)⟩
       ·rw [if_neg c28] at H
        have c28b0 : (a0_8 == 0) = false := beq_eq_false_iff_ne.mpr c28
        have c28b1 : (a0_8 != 0) = true := bne_iff_ne.mpr c28
        obtain rfl := Option.some.inj H
        have hcz34_0 : wc.cell? ⟨gb399, 0, none⟩ = some (.int .i64 a0_0) := (blk_cell BK399.out 0).trans rfl
        have hcz34_1 : wc.cell? ⟨gb399, 1, none⟩ = some (.int .i64 a0_1) := (blk_cell BK399.out 1).trans rfl
        have hcz34_2 : wc.cell? ⟨gb399, 2, none⟩ = some (.int .i64 a0_2) := (blk_cell BK399.out 2).trans rfl
        have hcz34_3 : wc.cell? ⟨gb399, 3, none⟩ = some (.int .i64 a0_3) := (blk_cell BK399.out 3).trans rfl
        have hcz34_4 : wc.cell? ⟨gb399, 4, none⟩ = some (.int .i64 a0_4) := (blk_cell BK399.out 4).trans rfl
        have hcz34_5 : wc.cell? ⟨gb399, 5, none⟩ = some (.int .i64 a0_5) := (blk_cell BK399.out 5).trans rfl
        have hcz34_6 : wc.cell? ⟨gb399, 6, none⟩ = some (.int .i64 a0_6) := (blk_cell BK399.out 6).trans rfl
        have hcz34_7 : wc.cell? ⟨gb399, 7, none⟩ = some (.int .i64 a0_7) := (blk_cell BK399.out 7).trans rfl
        have hcz34_8 : wc.cell? ⟨gb399, 8, none⟩ = some (.int .i64 a0_8) := (blk_cell BK399.out 8).trans rfl
        have hcz34_9 : wc.cell? ⟨gb399, 9, none⟩ = some (.int .i64 a0_9) := (blk_cell BK399.out 9).trans rfl
        have hcz34_10 : wc.cell? ⟨gb399, 10, none⟩ = some (.int .i64 a0_10) := (blk_cell BK399.out 10).trans rfl
        have hcz34_11 : wc.cell? ⟨gb399, 11, none⟩ = some (.slice A0_11 l0_11.length c0_11) := (blk_cell BK399.out 11).trans rfl
        have hfz34_0 := blk_frozen BK399.out 0
        have hfz34_1 := blk_frozen BK399.out 1
        have hfz34_2 := blk_frozen BK399.out 2
        have hfz34_3 := blk_frozen BK399.out 3
        have hfz34_4 := blk_frozen BK399.out 4
        have hfz34_5 := blk_frozen BK399.out 5
        have hfz34_6 := blk_frozen BK399.out 6
        have hfz34_7 := blk_frozen BK399.out 7
        have hfz34_8 := blk_frozen BK399.out 8
        have hfz34_9 := blk_frozen BK399.out 9
        have hfz34_10 := blk_frozen BK399.out 10
        have hfz34_11 := blk_frozen BK399.out 11
        go_wp2
        go_ret
        exact ⟨by first | rfl | (simp [errW_none, errW_some] <;> rfl) | (simp [*, errW_none, errW_some] <;> rfl), by repeat (first | (with_reducible first | exact HB.out | apply below_alloc | apply pw_below_drewN | apply below_drew1 | refine below_set ?_ GE399.out) | exact HB.out)⟩
      ·replace c27 := Bool.eq_false_iff.mpr c27
       subst c27
       have H1 : (if a0_7 = 3 then ((job_in.f a0_8 0 1099511627776).bind fun t406 => (if t406 = true then ((job_in.f a0_9 0 4294967295).bind fun t407 => (if t407 = true then ((pool_Count.f a0_9).bind fun t408 => (if t408 = a0_2 then (if a0_10 = 0 then ((job_draws.f kj23 l0_11).bind fun t409 => (some t409)) else (some false)) else (some false))) else (some false))) else (some false))) else (if a0_7 = 4 then ((job_in.f a0_8 0 1099511627776).bind fun t410 => (if t410 = true then (if a0_9 = 0 then ((job_in.f a0_10 0 a0_3).bind fun t411 => (if t411 = true then ((job_draws.f kj23 l0_11).bind fun t412 => (some t412)) else (some false))) else (some false)) else (some false))) else (some false))) = some r := by rw [if_neg (show ¬ (false = true) by decide)] at H; exact H
       clear H
       have H := H1
       clear H1
       by_cases c35 : a0_7 = 3
       ·rw [if_pos c35] at H
        have c35b0 : (a0_7 == 3) = true := beq_iff_eq.mpr c35
        have c35b1 : (a0_7 != 3) = false := bne_eq_false_iff_eq.mpr c35
        clear c35
        replace H := Option.bind_eq_some_iff.mp H
        obtain ⟨t406, A360, H⟩ := H
        replace H : (if t406 = true then ((job_in.f a0_9 0 4294967295).bind fun t407 => (if t407 = true then ((pool_Count.f a0_9).bind fun t408 => (if t408 = a0_2 then (if a0_10 = 0 then ((job_draws.f kj23 l0_11).bind fun t409 => (some t409)) else (some false)) else (some false))) else (some false))) else (some false)) = some r := H
        have A36 := Aside0.mk A360
        clear A360
        by_cases c37 : t406 = true
        ·subst c37
         have H1 : ((job_in.f a0_9 0 4294967295).bind fun t407 => (if t407 = true then ((pool_Count.f a0_9).bind fun t408 => (if t408 = a0_2 then (if a0_10 = 0 then ((job_draws.f kj23 l0_11).bind fun t409 => (some t409)) else (some false)) else (some false))) else (some false))) = some r := by rw [if_pos rfl] at H; exact H
         clear H
         have H := H1
         clear H1
         replace H := Option.bind_eq_some_iff.mp H
         obtain ⟨t407, A380, H⟩ := H
         replace H : (if t407 = true then ((pool_Count.f a0_9).bind fun t408 => (if t408 = a0_2 then (if a0_10 = 0 then ((job_draws.f kj23 l0_11).bind fun t409 => (some t409)) else (some false)) else (some false))) else (some false)) = some r := H
         have A38 := Aside0.mk A380
         clear A380
         by_cases c39 : t407 = true
         ·subst c39
          have H1 : ((pool_Count.f a0_9).bind fun t408 => (if t408 = a0_2 then (if a0_10 = 0 then ((job_draws.f kj23 l0_11).bind fun t409 => (some t409)) else (some false)) else (some false))) = some r := by rw [if_pos rfl] at H; exact H
          clear H
          have H := H1
          clear H1
          replace H := Option.bind_eq_some_iff.mp H
          obtain ⟨t408, A400, H⟩ := H
          replace H : (if t408 = a0_2 then (if a0_10 = 0 then ((job_draws.f kj23 l0_11).bind fun t409 => (some t409)) else (some false)) else (some false)) = some r := H
          have A40 := Aside0.mk A400
          clear A400
          by_cases c41 : t408 = a0_2
          ·rw [if_pos c41] at H
           have c41b0 : (t408 == a0_2) = true := beq_iff_eq.mpr c41
           have c41b1 : (t408 != a0_2) = false := bne_eq_false_iff_eq.mpr c41
           clear c41
           by_cases c42 : a0_10 = 0
           ·rw [if_pos c42] at H
            have c42b0 : (a0_10 == 0) = true := beq_iff_eq.mpr c42
            have c42b1 : (a0_10 != 0) = false := bne_eq_false_iff_eq.mpr c42
            clear c42
            replace H := Option.bind_eq_some_iff.mp H
            obtain ⟨t409, A430, H⟩ := H
            replace H : (some t409) = some r := H
            have A43 := Aside0.mk A430
            clear A430
            obtain rfl := Option.some.inj H
            try go_wp2
            have n0_ := Aside0.mk (blk_drew BK399.out)
            have n1_ := Aside0.mk (below_drew1 HB.out)
            clear BK399; clear HB
            have BK399 := n0_
            have HB := n1_
            clear n0_; clear n1_
            refine start_ (n := 27) (S := fun w' => w'.cell? ⟨gb399, 0, none⟩ = some (.int .i64 a0_0) ∧ w'.cell? ⟨gb399, 1, none⟩ = some (.int .i64 a0_1) ∧ w'.cell? ⟨gb399, 2, none⟩ = some (.int .i64 a0_2) ∧ w'.cell? ⟨gb399, 3, none⟩ = some (.int .i64 a0_3) ∧ w'.cell? ⟨gb399, 4, none⟩ = some (.int .i64 a0_4) ∧ w'.cell? ⟨gb399, 5, none⟩ = some (.int .i64 a0_5) ∧ w'.cell? ⟨gb399, 6, none⟩ = some (.int .i64 a0_6) ∧ w'.cell? ⟨gb399, 7, none⟩ = some (.int .i64 a0_7) ∧ w'.cell? ⟨gb399, 8, none⟩ = some (.int .i64 a0_8) ∧ w'.cell? ⟨gb399, 9, none⟩ = some (.int .i64 a0_9) ∧ w'.cell? ⟨gb399, 10, none⟩ = some (.int .i64 a0_10) ∧ w'.cell? ⟨gb399, 11, none⟩ = some (.slice A0_11 l0_11.length c0_11)) (ds := []) #[false, false, false, false, false, false, false, false, false, false, false, false, false, false, false, false, false, false, false, false, false, false, false, false, false, false, false] (by kernel_rfl) rfl rfl ⟨(blk_cell BK399.out 0).trans rfl, (blk_cell BK399.out 1).trans rfl, (blk_cell BK399.out 2).trans rfl, (blk_cell BK399.out 3).trans rfl, (blk_cell BK399.out 4).trans rfl, (blk_cell BK399.out 5).trans rfl, (blk_cell BK399.out 6).trans rfl, (blk_cell BK399.out 7).trans rfl, (blk_cell BK399.out 8).trans rfl, (blk_cell BK399.out 9).trans rfl, (blk_cell BK399.out 10).trans rfl, (blk_cell BK399.out 11).trans rfl⟩ (fun hHeld => ?_); refine with_tabW job_GoodR.tab8 job_GoodR.bits8 (fun HT_ HW_ => ?_)
            generalize wc.drew = w44 at BK399 HB hHeld ⊢
            refine plan_ [(0, 68)] ?_
            refine planP_ (v := ?_) (a' := ?_) rfl rfl (any_of HT_.out (by kernel_rfl)) (fun _ _ _ h => h) (Or.inl ⟨by rfl, ?_⟩) ?_ ?_; rotate_left; (intro w'; go_simp; with_reducible rfl); rotate_left; (simp only [Act.put, List.setIfInBounds_toArray, List.set_cons_zero, List.set_cons_succ, i64_w, i32_w]; rfl)
            refine planEnd_ ?_
            refine plan_ [(1, 69)] ?_
            refine planT_ (v := ?_) (a' := ?_) rfl rfl (take_ofW HT_.out HW_.out (by kernel_rfl)) (fun _ _ _ h => h) (Or.inl ⟨by rfl, ?_⟩) hHeld ?_ ?_; rotate_left; (rintro w' ⟨s0, s1, s2, s3, s4, s5, s6, s7, s8, s9, s10, s11⟩; go_simp; with_reducible rfl); rotate_left; (simp only [Act.put, List.setIfInBounds_toArray, List.set_cons_zero, List.set_cons_succ, i64_w, i32_w]; rfl)
            refine planEnd_ ?_
            refine one_ (i := 2) (N := some 70) #[true, true, true, false, false, false, false, false, false, false, false, false, false, false, false, false, false, false, false, false, false, false, false, false, false, false, false] rfl rfl (one_of HT_.out (by kernel_rfl)) (by decide) (fun K hK => ?_)
            refine goes_ Try.func48 (by kernel_rfl) rfl #[.int .i64 a0_8, .int .i64 0, .int .i64 1099511627776] (by rfl) rfl rfl mt ?_
            with_reducible refine (job_in.calls a0_8 0 1099511627776 true _ A36.out).mono ?_
            rintro e w' ⟨rfl, ⟨nd, rfl⟩⟩
            refine ⟨_, rfl, ?_⟩
            refine hK.out _ _ ⟨(blk_cell BK399.out 0).trans rfl, (blk_cell BK399.out 1).trans rfl, (blk_cell BK399.out 2).trans rfl, (blk_cell BK399.out 3).trans rfl, (blk_cell BK399.out 4).trans rfl, (blk_cell BK399.out 5).trans rfl, (blk_cell BK399.out 6).trans rfl, (blk_cell BK399.out 7).trans rfl, (blk_cell BK399.out 8).trans rfl, (blk_cell BK399.out 9).trans rfl, (blk_cell BK399.out 10).trans rfl, (blk_cell BK399.out 11).trans rfl⟩ (fun hHeld => ?_)
            clear hK; clear K
            refine norm_ (a' := ?_) ?_ ?_
            rotate_left
            ·show Act.put _ (some 70) _ = _
             simp only [Act.put, List.setIfInBounds_toArray, List.set_cons_zero, List.set_cons_succ, i64_w, i32_w]
             rfl
            refine plan_ [(3, 71), (4, 72)] ?_
            iterate 2 (refine planP_ (v := ?_) (a' := ?_) rfl rfl (any_of HT_.out (by kernel_rfl)) (fun _ _ _ h => h) (Or.inl ⟨by rfl, ?_⟩) ?_ ?_; rotate_left; (intro w'; go_simp; with_reducible rfl); rotate_left; (simp only [Act.put, List.setIfInBounds_toArray, List.set_cons_zero, List.set_cons_succ, i64_w, i32_w]; rfl))
            refine planEnd_ ?_
            refine plan_ [(5, 73)] ?_
            refine planT_ (v := ?_) (a' := ?_) rfl rfl (take_ofW HT_.out HW_.out (by kernel_rfl)) (fun _ _ _ h => h) (Or.inl ⟨by rfl, ?_⟩) hHeld ?_ ?_; rotate_left; (rintro w' ⟨s0, s1, s2, s3, s4, s5, s6, s7, s8, s9, s10, s11⟩; go_simp; with_reducible rfl); rotate_left; (simp only [Act.put, List.setIfInBounds_toArray, List.set_cons_zero, List.set_cons_succ, i64_w, i32_w]; rfl)
            refine planEnd_ ?_
            refine one_ (i := 6) (N := some 74) #[true, true, true, true, true, true, true, false, false, false, false, false, false, false, false, false, false, false, false, false, false, false, false, false, false, false, false] rfl rfl (one_of HT_.out (by kernel_rfl)) (by decide) (fun K hK => ?_)
            refine goes_ Try.func48 (by kernel_rfl) rfl #[.int .i64 a0_9, .int .i64 0, .int .i64 4294967295] (by rfl) rfl rfl mt ?_
            with_reducible refine (job_in.calls a0_9 0 4294967295 true _ A38.out).mono ?_
            rintro e w' ⟨rfl, ⟨nd, rfl⟩⟩
            refine ⟨_, rfl, ?_⟩
            refine hK.out _ _ ⟨(blk_cell BK399.out 0).trans rfl, (blk_cell BK399.out 1).trans rfl, (blk_cell BK399.out 2).trans rfl, (blk_cell BK399.out 3).trans rfl, (blk_cell BK399.out 4).trans rfl, (blk_cell BK399.out 5).trans rfl, (blk_cell BK399.out 6).trans rfl, (blk_cell BK399.out 7).trans rfl, (blk_cell BK399.out 8).trans rfl, (blk_cell BK399.out 9).trans rfl, (blk_cell BK399.out 10).trans rfl, (blk_cell BK399.out 11).trans rfl⟩ (fun hHeld => ?_)
            clear hK; clear K
            refine norm_ (a' := ?_) ?_ ?_
            rotate_left
            ·show Act.put _ (some 74) _ = _
             simp only [Act.put, List.setIfInBounds_toArray, List.set_cons_zero, List.set_cons_succ, i64_w, i32_w]
             rfl
            refine plan_ [(7, 75), (8, 76), (9, 77), (12, 80)] ?_
            iterate 4 (refine planP_ (v := ?_) (a' := ?_) rfl rfl (any_of HT_.out (by kernel_rfl)) (fun _ _ _ h => h) (Or.inl ⟨by rfl, ?_⟩) ?_ ?_; rotate_left; (intro w'; go_simp; with_reducible rfl); rotate_left; (simp only [Act.put, List.setIfInBounds_toArray, List.set_cons_zero, List.set_cons_succ, i64_w, i32_w]; rfl))
            refine planEnd_ ?_
            refine plan_ [(10, 78), (13, 81)] ?_
            iterate 2 (refine planT_ (v := ?_) (a' := ?_) rfl rfl (take_ofW HT_.out HW_.out (by kernel_rfl)) (fun _ _ _ h => h) (Or.inl ⟨by rfl, ?_⟩) hHeld ?_ ?_; rotate_left; (rintro w' ⟨s0, s1, s2, s3, s4, s5, s6, s7, s8, s9, s10, s11⟩; go_simp; with_reducible rfl); rotate_left; (simp only [Act.put, List.setIfInBounds_toArray, List.set_cons_zero, List.set_cons_succ, i64_w, i32_w]; rfl))
            refine planEnd_ ?_
            refine one_ (i := 11) (N := some 79) #[true, true, true, true, true, true, true, true, true, true, true, true, true, true, false, false, false, false, false, false, false, false, false, false, false, false, false] rfl rfl (one_of HT_.out (by kernel_rfl)) (by decide) (fun K hK => ?_)
            refine goes_ Try.func49 (by kernel_rfl) rfl #[.int .i64 a0_9] (by rfl) rfl rfl mt ?_
            with_reducible refine (pool_Count.calls a0_9 t408 _ A40.out).mono ?_
            rintro e w' ⟨rfl, ⟨nd, rfl⟩⟩
            refine ⟨_, rfl, ?_⟩
            refine hK.out _ _ ⟨(blk_cell BK399.out 0).trans rfl, (blk_cell BK399.out 1).trans rfl, (blk_cell BK399.out 2).trans rfl, (blk_cell BK399.out 3).trans rfl, (blk_cell BK399.out 4).trans rfl, (blk_cell BK399.out 5).trans rfl, (blk_cell BK399.out 6).trans rfl, (blk_cell BK399.out 7).trans rfl, (blk_cell BK399.out 8).trans rfl, (blk_cell BK399.out 9).trans rfl, (blk_cell BK399.out 10).trans rfl, (blk_cell BK399.out 11).trans rfl⟩ (fun hHeld => ?_)
            clear hK; clear K
            refine norm_ (a' := ?_) ?_ ?_
            rotate_left
            ·show Act.put _ (some 79) _ = _
             simp only [Act.put, List.setIfInBounds_toArray, List.set_cons_zero, List.set_cons_succ, i64_w, i32_w]
             rfl
            refine plan_ [(14, 82), (15, 83), (16, 84), (17, 85)] ?_
            iterate 4 (refine planP_ (v := ?_) (a' := ?_) rfl rfl (any_of HT_.out (by kernel_rfl)) (fun _ _ _ h => h) (Or.inl ⟨by rfl, ?_⟩) ?_ ?_; rotate_left; (intro w'; go_simp; with_reducible rfl); rotate_left; (simp only [Act.put, List.setIfInBounds_toArray, List.set_cons_zero, List.set_cons_succ, i64_w, i32_w]; rfl))
            refine planEnd_ ?_
            refine plan_ [(18, 86)] ?_
            refine planT_ (v := ?_) (a' := ?_) rfl rfl (take_ofW HT_.out HW_.out (by kernel_rfl)) (fun _ _ _ h => h) (Or.inl ⟨by rfl, ?_⟩) hHeld ?_ ?_; rotate_left; (rintro w' ⟨s0, s1, s2, s3, s4, s5, s6, s7, s8, s9, s10, s11⟩; go_simp; with_reducible rfl); rotate_left; (simp only [Act.put, List.setIfInBounds_toArray, List.set_cons_zero, List.set_cons_succ, i64_w, i32_w]; rfl)
            refine planEnd_ ?_
            refine plan_ [(19, 87), (20, 88), (21, 89), (22, 90)] ?_
            iterate 4 (refine planP_ (v := ?_) (a' := ?_) rfl rfl (any_of HT_.out (by kernel_rfl)) (fun _ _ _ h => h) (Or.inl ⟨by rfl, ?_⟩) ?_ ?_; rotate_left; (intro w'; go_simp; with_reducible rfl); rotate_left; (simp only [Act.put, List.setIfInBounds_toArray, List.set_cons_zero, List.set_cons_succ, i64_w, i32_w]; rfl))
            refine planEnd_ ?_
            refine plan_ [(23, 91)] ?_
            refine planT_ (v := ?_) (a' := ?_) rfl rfl (take_ofW HT_.out HW_.out (by kernel_rfl)) (fun _ _ _ h => h) (Or.inl ⟨by rfl, ?_⟩) hHeld ?_ ?_; rotate_left; (rintro w' ⟨s0, s1, s2, s3, s4, s5, s6, s7, s8, s9, s10, s11⟩; go_simp; with_reducible rfl); rotate_left; (simp only [Act.put, List.setIfInBounds_toArray, List.set_cons_zero, List.set_cons_succ, i64_w, i32_w]; rfl)
            refine planEnd_ ?_
            refine one_ (i := 24) (N := some 92) #[true, true, true, true, true, true, true, true, true, true, true, true, true, true, true, true, true, true, true, true, true, true, true, true, true, false, false] rfl rfl (one_of HT_.out (by kernel_rfl)) (by decide) (fun K hK => ?_)
            refine goes_ Try.func50 (by kernel_rfl) rfl #[.slice A0_11 l0_11.length c0_11] (by rfl) rfl rfl mt ?_
            with_reducible refine (job_draws.calls kj23 _ _ l0_11 t409 _ ?side1 ?side2 A43.out).mono ?_
            (case side1 => repeat (first | exact (Kd.C_below HR0_11.out (mBs HB.out)) | (with_reducible refine Kd.C_alloc ?_ _) | (with_reducible refine Kd.C_drewN ?_ _) | (with_reducible refine Kd.C_drew ?_)))
            (case side2 => exact HC0_11.out)
            rintro e w45 ⟨rfl, hb⟩
            refine ⟨_, rfl, ?_⟩
            have n0_ := Aside0.mk (blk_below (g := gb399) (o := .cells #[.int .i64 a0_0, .int .i64 a0_1, .int .i64 a0_2, .int .i64 a0_3, .int .i64 a0_4, .int .i64 a0_5, .int .i64 a0_6, .int .i64 a0_7, .int .i64 a0_8, .int .i64 a0_9, .int .i64 a0_10, .slice A0_11 l0_11.length c0_11] 32 (0, 0)) (mBK BK399.out) hb)
            have n1_ := Aside0.mk (below_step (mBs HB.out) hb)
            clear BK399; clear HB
            have BK399 := n0_
            have HB := n1_
            clear n0_; clear n1_
            (try clear hb); (try clear hb2); (try clear hk); (try clear hi)
            refine hK.out _ _ ⟨(blk_cell BK399.out 0).trans rfl, (blk_cell BK399.out 1).trans rfl, (blk_cell BK399.out 2).trans rfl, (blk_cell BK399.out 3).trans rfl, (blk_cell BK399.out 4).trans rfl, (blk_cell BK399.out 5).trans rfl, (blk_cell BK399.out 6).trans rfl, (blk_cell BK399.out 7).trans rfl, (blk_cell BK399.out 8).trans rfl, (blk_cell BK399.out 9).trans rfl, (blk_cell BK399.out 10).trans rfl, (blk_cell BK399.out 11).trans rfl⟩ (fun hHeld => ?_)
            clear hK; clear K
            refine norm_ (a' := ?_) ?_ ?_
            rotate_left
            ·show Act.put _ (some 92) _ = _
             simp only [Act.put, List.setIfInBounds_toArray, List.set_cons_zero, List.set_cons_succ, i64_w, i32_w]
             rfl
            refine plan_ [(25, 93), (26, 2)] ?_
            iterate 2 (refine planP_ (v := ?_) (a' := ?_) rfl rfl (any_of HT_.out (by kernel_rfl)) (fun _ _ _ h => h) (Or.inl ⟨by rfl, ?_⟩) ?_ ?_; rotate_left; (intro w'; go_simp; with_reducible rfl); rotate_left; (simp only [Act.put, List.setIfInBounds_toArray, List.set_cons_zero, List.set_cons_succ, i64_w, i32_w]; rfl))
            refine planEnd_ ?_
            refine done_ (done_of HT_.out (by kernel_rfl)) ?_
            try go_wp2
            go_ret
            exact ⟨by first | rfl | (simp [errW_none, errW_some] <;> rfl) | (simp [*, errW_none, errW_some] <;> rfl), by repeat (first | (with_reducible first | exact HB.out | apply below_alloc | apply pw_below_drewN | apply below_drew1 | refine below_set ?_ GE399.out) | exact HB.out)⟩
           ·rw [if_neg c42] at H
            have c42b0 : (a0_10 == 0) = false := beq_eq_false_iff_ne.mpr c42
            have c42b1 : (a0_10 != 0) = true := bne_iff_ne.mpr c42
            obtain rfl := Option.some.inj H
            try go_wp2
            have n0_ := Aside0.mk (blk_drew BK399.out)
            have n1_ := Aside0.mk (below_drew1 HB.out)
            clear BK399; clear HB
            have BK399 := n0_
            have HB := n1_
            clear n0_; clear n1_
            refine start_ (n := 27) (S := fun w' => w'.cell? ⟨gb399, 0, none⟩ = some (.int .i64 a0_0) ∧ w'.cell? ⟨gb399, 1, none⟩ = some (.int .i64 a0_1) ∧ w'.cell? ⟨gb399, 2, none⟩ = some (.int .i64 a0_2) ∧ w'.cell? ⟨gb399, 3, none⟩ = some (.int .i64 a0_3) ∧ w'.cell? ⟨gb399, 4, none⟩ = some (.int .i64 a0_4) ∧ w'.cell? ⟨gb399, 5, none⟩ = some (.int .i64 a0_5) ∧ w'.cell? ⟨gb399, 6, none⟩ = some (.int .i64 a0_6) ∧ w'.cell? ⟨gb399, 7, none⟩ = some (.int .i64 a0_7) ∧ w'.cell? ⟨gb399, 8, none⟩ = some (.int .i64 a0_8) ∧ w'.cell? ⟨gb399, 9, none⟩ = some (.int .i64 a0_9) ∧ w'.cell? ⟨gb399, 10, none⟩ = some (.int .i64 a0_10) ∧ w'.cell? ⟨gb399, 11, none⟩ = some (.slice A0_11 l0_11.length c0_11)) (ds := []) #[false, false, false, false, false, false, false, false, false, false, false, false, false, false, false, false, false, false, false, false, false, false, false, false, false, false, false] (by kernel_rfl) rfl rfl ⟨(blk_cell BK399.out 0).trans rfl, (blk_cell BK399.out 1).trans rfl, (blk_cell BK399.out 2).trans rfl, (blk_cell BK399.out 3).trans rfl, (blk_cell BK399.out 4).trans rfl, (blk_cell BK399.out 5).trans rfl, (blk_cell BK399.out 6).trans rfl, (blk_cell BK399.out 7).trans rfl, (blk_cell BK399.out 8).trans rfl, (blk_cell BK399.out 9).trans rfl, (blk_cell BK399.out 10).trans rfl, (blk_cell BK399.out 11).trans rfl⟩ (fun hHeld => ?_); refine with_tabW job_GoodR.tab8 job_GoodR.bits8 (fun HT_ HW_ => ?_)
            generalize wc.drew = w46 at BK399 HB hHeld ⊢
            refine plan_ [(0, 68)] ?_
            refine planP_ (v := ?_) (a' := ?_) rfl rfl (any_of HT_.out (by kernel_rfl)) (fun _ _ _ h => h) (Or.inl ⟨by rfl, ?_⟩) ?_ ?_; rotate_left; (intro w'; go_simp; with_reducible rfl); rotate_left; (simp only [Act.put, List.setIfInBounds_toArray, List.set_cons_zero, List.set_cons_succ, i64_w, i32_w]; rfl)
            refine planEnd_ ?_
            refine plan_ [(1, 69)] ?_
            refine planT_ (v := ?_) (a' := ?_) rfl rfl (take_ofW HT_.out HW_.out (by kernel_rfl)) (fun _ _ _ h => h) (Or.inl ⟨by rfl, ?_⟩) hHeld ?_ ?_; rotate_left; (rintro w' ⟨s0, s1, s2, s3, s4, s5, s6, s7, s8, s9, s10, s11⟩; go_simp; with_reducible rfl); rotate_left; (simp only [Act.put, List.setIfInBounds_toArray, List.set_cons_zero, List.set_cons_succ, i64_w, i32_w]; rfl)
            refine planEnd_ ?_
            refine one_ (i := 2) (N := some 70) #[true, true, true, false, false, false, false, false, false, false, false, false, false, false, false, false, false, false, false, false, false, false, false, false, false, false, false] rfl rfl (one_of HT_.out (by kernel_rfl)) (by decide) (fun K hK => ?_)
            refine goes_ Try.func48 (by kernel_rfl) rfl #[.int .i64 a0_8, .int .i64 0, .int .i64 1099511627776] (by rfl) rfl rfl mt ?_
            with_reducible refine (job_in.calls a0_8 0 1099511627776 true _ A36.out).mono ?_
            rintro e w' ⟨rfl, ⟨nd, rfl⟩⟩
            refine ⟨_, rfl, ?_⟩
            refine hK.out _ _ ⟨(blk_cell BK399.out 0).trans rfl, (blk_cell BK399.out 1).trans rfl, (blk_cell BK399.out 2).trans rfl, (blk_cell BK399.out 3).trans rfl, (blk_cell BK399.out 4).trans rfl, (blk_cell BK399.out 5).trans rfl, (blk_cell BK399.out 6).trans rfl, (blk_cell BK399.out 7).trans rfl, (blk_cell BK399.out 8).trans rfl, (blk_cell BK399.out 9).trans rfl, (blk_cell BK399.out 10).trans rfl, (blk_cell BK399.out 11).trans rfl⟩ (fun hHeld => ?_)
            clear hK; clear K
            refine norm_ (a' := ?_) ?_ ?_
            rotate_left
            ·show Act.put _ (some 70) _ = _
             simp only [Act.put, List.setIfInBounds_toArray, List.set_cons_zero, List.set_cons_succ, i64_w, i32_w]
             rfl
            refine plan_ [(3, 71), (4, 72)] ?_
            iterate 2 (refine planP_ (v := ?_) (a' := ?_) rfl rfl (any_of HT_.out (by kernel_rfl)) (fun _ _ _ h => h) (Or.inl ⟨by rfl, ?_⟩) ?_ ?_; rotate_left; (intro w'; go_simp; with_reducible rfl); rotate_left; (simp only [Act.put, List.setIfInBounds_toArray, List.set_cons_zero, List.set_cons_succ, i64_w, i32_w]; rfl))
            refine planEnd_ ?_
            refine plan_ [(5, 73)] ?_
            refine planT_ (v := ?_) (a' := ?_) rfl rfl (take_ofW HT_.out HW_.out (by kernel_rfl)) (fun _ _ _ h => h) (Or.inl ⟨by rfl, ?_⟩) hHeld ?_ ?_; rotate_left; (rintro w' ⟨s0, s1, s2, s3, s4, s5, s6, s7, s8, s9, s10, s11⟩; go_simp; with_reducible rfl); rotate_left; (simp only [Act.put, List.setIfInBounds_toArray, List.set_cons_zero, List.set_cons_succ, i64_w, i32_w]; rfl)
            refine planEnd_ ?_
            refine one_ (i := 6) (N := some 74) #[true, true, true, true, true, true, true, false, false, false, false, false, false, false, false, false, false, false, false, false, false, false, false, false, false, false, false] rfl rfl (one_of HT_.out (by kernel_rfl)) (by decide) (fun K hK => ?_)
            refine goes_ Try.func48 (by kernel_rfl) rfl #[.int .i64 a0_9, .int .i64 0, .int .i64 4294967295] (by rfl) rfl rfl mt ?_
            with_reducible refine (job_in.calls a0_9 0 4294967295 true _ A38.out).mono ?_
            rintro e w' ⟨rfl, ⟨nd, rfl⟩⟩
            refine ⟨_, rfl, ?_⟩
            refine hK.out _ _ ⟨(blk_cell BK399.out 0).trans rfl, (blk_cell BK399.out 1).trans rfl, (blk_cell BK399.out 2).trans rfl, (blk_cell BK399.out 3).trans rfl, (blk_cell BK399.out 4).trans rfl, (blk_cell BK399.out 5).trans rfl, (blk_cell BK399.out 6).trans rfl, (blk_cell BK399.out 7).trans rfl, (blk_cell BK399.out 8).trans rfl, (blk_cell BK399.out 9).trans rfl, (blk_cell BK399.out 10).trans rfl, (blk_cell BK399.out 11).trans rfl⟩ (fun hHeld => ?_)
            clear hK; clear K
            refine norm_ (a' := ?_) ?_ ?_
            rotate_left
            ·show Act.put _ (some 74) _ = _
             simp only [Act.put, List.setIfInBounds_toArray, List.set_cons_zero, List.set_cons_succ, i64_w, i32_w]
             rfl
            refine plan_ [(7, 75), (8, 76), (9, 77), (12, 80)] ?_
            iterate 4 (refine planP_ (v := ?_) (a' := ?_) rfl rfl (any_of HT_.out (by kernel_rfl)) (fun _ _ _ h => h) (Or.inl ⟨by rfl, ?_⟩) ?_ ?_; rotate_left; (intro w'; go_simp; with_reducible rfl); rotate_left; (simp only [Act.put, List.setIfInBounds_toArray, List.set_cons_zero, List.set_cons_succ, i64_w, i32_w]; rfl))
            refine planEnd_ ?_
            refine plan_ [(10, 78), (13, 81)] ?_
            iterate 2 (refine planT_ (v := ?_) (a' := ?_) rfl rfl (take_ofW HT_.out HW_.out (by kernel_rfl)) (fun _ _ _ h => h) (Or.inl ⟨by rfl, ?_⟩) hHeld ?_ ?_; rotate_left; (rintro w' ⟨s0, s1, s2, s3, s4, s5, s6, s7, s8, s9, s10, s11⟩; go_simp; with_reducible rfl); rotate_left; (simp only [Act.put, List.setIfInBounds_toArray, List.set_cons_zero, List.set_cons_succ, i64_w, i32_w]; rfl))
            refine planEnd_ ?_
            refine one_ (i := 11) (N := some 79) #[true, true, true, true, true, true, true, true, true, true, true, true, true, true, false, false, false, false, false, false, false, false, false, false, false, false, false] rfl rfl (one_of HT_.out (by kernel_rfl)) (by decide) (fun K hK => ?_)
            refine goes_ Try.func49 (by kernel_rfl) rfl #[.int .i64 a0_9] (by rfl) rfl rfl mt ?_
            with_reducible refine (pool_Count.calls a0_9 t408 _ A40.out).mono ?_
            rintro e w' ⟨rfl, ⟨nd, rfl⟩⟩
            refine ⟨_, rfl, ?_⟩
            refine hK.out _ _ ⟨(blk_cell BK399.out 0).trans rfl, (blk_cell BK399.out 1).trans rfl, (blk_cell BK399.out 2).trans rfl, (blk_cell BK399.out 3).trans rfl, (blk_cell BK399.out 4).trans rfl, (blk_cell BK399.out 5).trans rfl, (blk_cell BK399.out 6).trans rfl, (blk_cell BK399.out 7).trans rfl, (blk_cell BK399.out 8).trans rfl, (blk_cell BK399.out 9).trans rfl, (blk_cell BK399.out 10).trans rfl, (blk_cell BK399.out 11).trans rfl⟩ (fun hHeld => ?_)
            clear hK; clear K
            refine norm_ (a' := ?_) ?_ ?_
            rotate_left
            ·show Act.put _ (some 79) _ = _
             simp only [Act.put, List.setIfInBounds_toArray, List.set_cons_zero, List.set_cons_succ, i64_w, i32_w]
             rfl
            refine plan_ [(14, 82), (15, 83), (16, 84), (17, 85)] ?_
            iterate 4 (refine planP_ (v := ?_) (a' := ?_) rfl rfl (any_of HT_.out (by kernel_rfl)) (fun _ _ _ h => h) (Or.inl ⟨by rfl, ?_⟩) ?_ ?_; rotate_left; (intro w'; go_simp; with_reducible rfl); rotate_left; (simp only [Act.put, List.setIfInBounds_toArray, List.set_cons_zero, List.set_cons_succ, i64_w, i32_w]; rfl))
            refine planEnd_ ?_
            refine plan_ [(18, 86)] ?_
            refine planT_ (v := ?_) (a' := ?_) rfl rfl (take_ofW HT_.out HW_.out (by kernel_rfl)) (fun _ _ _ h => h) (Or.inl ⟨by rfl, ?_⟩) hHeld ?_ ?_; rotate_left; (rintro w' ⟨s0, s1, s2, s3, s4, s5, s6, s7, s8, s9, s10, s11⟩; go_simp; with_reducible rfl); rotate_left; (simp only [Act.put, List.setIfInBounds_toArray, List.set_cons_zero, List.set_cons_succ, i64_w, i32_w]; rfl)
            refine planEnd_ ?_
            refine plan_ [(19, 87), (20, 88), (21, 89)] ?_
            iterate 3 (refine planP_ (v := ?_) (a' := ?_) rfl rfl (any_of HT_.out (by kernel_rfl)) (fun _ _ _ h => h) (Or.inl ⟨by rfl, ?_⟩) ?_ ?_; rotate_left; (intro w'; go_simp; with_reducible rfl); rotate_left; (simp only [Act.put, List.setIfInBounds_toArray, List.set_cons_zero, List.set_cons_succ, i64_w, i32_w]; rfl))
            refine planEnd_ ?_
            refine plan_ [(22, 90), (23, 91), (24, 92)] ?_
            iterate 3 (refine planP_ (v := undef) (a' := ?_) rfl rfl (any_of HT_.out (by kernel_rfl)) (fun _ _ _ h => h) (Or.inr ⟨by rfl, rfl⟩) ?_ ?_; rotate_left; (simp only [Act.put, List.setIfInBounds_toArray, List.set_cons_zero, List.set_cons_succ, i64_w, i32_w]; rfl))
            refine planEnd_ ?_
            refine plan_ [(25, 93), (26, 2)] ?_
            iterate 2 (refine planP_ (v := ?_) (a' := ?_) rfl rfl (any_of HT_.out (by kernel_rfl)) (fun _ _ _ h => h) (Or.inl ⟨by rfl, ?_⟩) ?_ ?_; rotate_left; (intro w'; go_simp; with_reducible rfl); rotate_left; (simp only [Act.put, List.setIfInBounds_toArray, List.set_cons_zero, List.set_cons_succ, i64_w, i32_w]; rfl))
            refine planEnd_ ?_
            refine done_ (done_of HT_.out (by kernel_rfl)) ?_
            try go_wp2
            go_ret
            exact ⟨by first | rfl | (simp [errW_none, errW_some] <;> rfl) | (simp [*, errW_none, errW_some] <;> rfl), by repeat (first | (with_reducible first | exact HB.out | apply below_alloc | apply pw_below_drewN | apply below_drew1 | refine below_set ?_ GE399.out) | exact HB.out)⟩
          ·rw [if_neg c41] at H
           have c41b0 : (t408 == a0_2) = false := beq_eq_false_iff_ne.mpr c41
           have c41b1 : (t408 != a0_2) = true := bne_iff_ne.mpr c41
           obtain rfl := Option.some.inj H
           try go_wp2
           have n0_ := Aside0.mk (blk_drew BK399.out)
           have n1_ := Aside0.mk (below_drew1 HB.out)
           clear BK399; clear HB
           have BK399 := n0_
           have HB := n1_
           clear n0_; clear n1_
           refine start_ (n := 27) (S := fun w' => w'.cell? ⟨gb399, 0, none⟩ = some (.int .i64 a0_0) ∧ w'.cell? ⟨gb399, 1, none⟩ = some (.int .i64 a0_1) ∧ w'.cell? ⟨gb399, 2, none⟩ = some (.int .i64 a0_2) ∧ w'.cell? ⟨gb399, 3, none⟩ = some (.int .i64 a0_3) ∧ w'.cell? ⟨gb399, 4, none⟩ = some (.int .i64 a0_4) ∧ w'.cell? ⟨gb399, 5, none⟩ = some (.int .i64 a0_5) ∧ w'.cell? ⟨gb399, 6, none⟩ = some (.int .i64 a0_6) ∧ w'.cell? ⟨gb399, 7, none⟩ = some (.int .i64 a0_7) ∧ w'.cell? ⟨gb399, 8, none⟩ = some (.int .i64 a0_8) ∧ w'.cell? ⟨gb399, 9, none⟩ = some (.int .i64 a0_9) ∧ w'.cell? ⟨gb399, 10, none⟩ = some (.int .i64 a0_10) ∧ w'.cell? ⟨gb399, 11, none⟩ = some (.slice A0_11 l0_11.length c0_11)) (ds := []) #[false, false, false, false, false, false, false, false, false, false, false, false, false, false, false, false, false, false, false, false, false, false, false, false, false, false, false] (by kernel_rfl) rfl rfl ⟨(blk_cell BK399.out 0).trans rfl, (blk_cell BK399.out 1).trans rfl, (blk_cell BK399.out 2).trans rfl, (blk_cell BK399.out 3).trans rfl, (blk_cell BK399.out 4).trans rfl, (blk_cell BK399.out 5).trans rfl, (blk_cell BK399.out 6).trans rfl, (blk_cell BK399.out 7).trans rfl, (blk_cell BK399.out 8).trans rfl, (blk_cell BK399.out 9).trans rfl, (blk_cell BK399.out 10).trans rfl, (blk_cell BK399.out 11).trans rfl⟩ (fun hHeld => ?_); refine with_tabW job_GoodR.tab8 job_GoodR.bits8 (fun HT_ HW_ => ?_)
           generalize wc.drew = w47 at BK399 HB hHeld ⊢
           refine plan_ [(0, 68)] ?_
           refine planP_ (v := ?_) (a' := ?_) rfl rfl (any_of HT_.out (by kernel_rfl)) (fun _ _ _ h => h) (Or.inl ⟨by rfl, ?_⟩) ?_ ?_; rotate_left; (intro w'; go_simp; with_reducible rfl); rotate_left; (simp only [Act.put, List.setIfInBounds_toArray, List.set_cons_zero, List.set_cons_succ, i64_w, i32_w]; rfl)
           refine planEnd_ ?_
           refine plan_ [(1, 69)] ?_
           refine planT_ (v := ?_) (a' := ?_) rfl rfl (take_ofW HT_.out HW_.out (by kernel_rfl)) (fun _ _ _ h => h) (Or.inl ⟨by rfl, ?_⟩) hHeld ?_ ?_; rotate_left; (rintro w' ⟨s0, s1, s2, s3, s4, s5, s6, s7, s8, s9, s10, s11⟩; go_simp; with_reducible rfl); rotate_left; (simp only [Act.put, List.setIfInBounds_toArray, List.set_cons_zero, List.set_cons_succ, i64_w, i32_w]; rfl)
           refine planEnd_ ?_
           refine one_ (i := 2) (N := some 70) #[true, true, true, false, false, false, false, false, false, false, false, false, false, false, false, false, false, false, false, false, false, false, false, false, false, false, false] rfl rfl (one_of HT_.out (by kernel_rfl)) (by decide) (fun K hK => ?_)
           refine goes_ Try.func48 (by kernel_rfl) rfl #[.int .i64 a0_8, .int .i64 0, .int .i64 1099511627776] (by rfl) rfl rfl mt ?_
           with_reducible refine (job_in.calls a0_8 0 1099511627776 true _ A36.out).mono ?_
           rintro e w' ⟨rfl, ⟨nd, rfl⟩⟩
           refine ⟨_, rfl, ?_⟩
           refine hK.out _ _ ⟨(blk_cell BK399.out 0).trans rfl, (blk_cell BK399.out 1).trans rfl, (blk_cell BK399.out 2).trans rfl, (blk_cell BK399.out 3).trans rfl, (blk_cell BK399.out 4).trans rfl, (blk_cell BK399.out 5).trans rfl, (blk_cell BK399.out 6).trans rfl, (blk_cell BK399.out 7).trans rfl, (blk_cell BK399.out 8).trans rfl, (blk_cell BK399.out 9).trans rfl, (blk_cell BK399.out 10).trans rfl, (blk_cell BK399.out 11).trans rfl⟩ (fun hHeld => ?_)
           clear hK; clear K
           refine norm_ (a' := ?_) ?_ ?_
           rotate_left
           ·show Act.put _ (some 70) _ = _
            simp only [Act.put, List.setIfInBounds_toArray, List.set_cons_zero, List.set_cons_succ, i64_w, i32_w]
            rfl
           refine plan_ [(3, 71), (4, 72)] ?_
           iterate 2 (refine planP_ (v := ?_) (a' := ?_) rfl rfl (any_of HT_.out (by kernel_rfl)) (fun _ _ _ h => h) (Or.inl ⟨by rfl, ?_⟩) ?_ ?_; rotate_left; (intro w'; go_simp; with_reducible rfl); rotate_left; (simp only [Act.put, List.setIfInBounds_toArray, List.set_cons_zero, List.set_cons_succ, i64_w, i32_w]; rfl))
           refine planEnd_ ?_
           refine plan_ [(5, 73)] ?_
           refine planT_ (v := ?_) (a' := ?_) rfl rfl (take_ofW HT_.out HW_.out (by kernel_rfl)) (fun _ _ _ h => h) (Or.inl ⟨by rfl, ?_⟩) hHeld ?_ ?_; rotate_left; (rintro w' ⟨s0, s1, s2, s3, s4, s5, s6, s7, s8, s9, s10, s11⟩; go_simp; with_reducible rfl); rotate_left; (simp only [Act.put, List.setIfInBounds_toArray, List.set_cons_zero, List.set_cons_succ, i64_w, i32_w]; rfl)
           refine planEnd_ ?_
           refine one_ (i := 6) (N := some 74) #[true, true, true, true, true, true, true, false, false, false, false, false, false, false, false, false, false, false, false, false, false, false, false, false, false, false, false] rfl rfl (one_of HT_.out (by kernel_rfl)) (by decide) (fun K hK => ?_)
           refine goes_ Try.func48 (by kernel_rfl) rfl #[.int .i64 a0_9, .int .i64 0, .int .i64 4294967295] (by rfl) rfl rfl mt ?_
           with_reducible refine (job_in.calls a0_9 0 4294967295 true _ A38.out).mono ?_
           rintro e w' ⟨rfl, ⟨nd, rfl⟩⟩
           refine ⟨_, rfl, ?_⟩
           refine hK.out _ _ ⟨(blk_cell BK399.out 0).trans rfl, (blk_cell BK399.out 1).trans rfl, (blk_cell BK399.out 2).trans rfl, (blk_cell BK399.out 3).trans rfl, (blk_cell BK399.out 4).trans rfl, (blk_cell BK399.out 5).trans rfl, (blk_cell BK399.out 6).trans rfl, (blk_cell BK399.out 7).trans rfl, (blk_cell BK399.out 8).trans rfl, (blk_cell BK399.out 9).trans rfl, (blk_cell BK399.out 10).trans rfl, (blk_cell BK399.out 11).trans rfl⟩ (fun hHeld => ?_)
           clear hK; clear K
           refine norm_ (a' := ?_) ?_ ?_
           rotate_left
           ·show Act.put _ (some 74) _ = _
            simp only [Act.put, List.setIfInBounds_toArray, List.set_cons_zero, List.set_cons_succ, i64_w, i32_w]
            rfl
           refine plan_ [(7, 75), (8, 76), (9, 77), (12, 80)] ?_
           iterate 4 (refine planP_ (v := ?_) (a' := ?_) rfl rfl (any_of HT_.out (by kernel_rfl)) (fun _ _ _ h => h) (Or.inl ⟨by rfl, ?_⟩) ?_ ?_; rotate_left; (intro w'; go_simp; with_reducible rfl); rotate_left; (simp only [Act.put, List.setIfInBounds_toArray, List.set_cons_zero, List.set_cons_succ, i64_w, i32_w]; rfl))
           refine planEnd_ ?_
           refine plan_ [(10, 78), (13, 81)] ?_
           iterate 2 (refine planT_ (v := ?_) (a' := ?_) rfl rfl (take_ofW HT_.out HW_.out (by kernel_rfl)) (fun _ _ _ h => h) (Or.inl ⟨by rfl, ?_⟩) hHeld ?_ ?_; rotate_left; (rintro w' ⟨s0, s1, s2, s3, s4, s5, s6, s7, s8, s9, s10, s11⟩; go_simp; with_reducible rfl); rotate_left; (simp only [Act.put, List.setIfInBounds_toArray, List.set_cons_zero, List.set_cons_succ, i64_w, i32_w]; rfl))
           refine planEnd_ ?_
           refine one_ (i := 11) (N := some 79) #[true, true, true, true, true, true, true, true, true, true, true, true, true, true, false, false, false, false, false, false, false, false, false, false, false, false, false] rfl rfl (one_of HT_.out (by kernel_rfl)) (by decide) (fun K hK => ?_)
           refine goes_ Try.func49 (by kernel_rfl) rfl #[.int .i64 a0_9] (by rfl) rfl rfl mt ?_
           with_reducible refine (pool_Count.calls a0_9 t408 _ A40.out).mono ?_
           rintro e w' ⟨rfl, ⟨nd, rfl⟩⟩
           refine ⟨_, rfl, ?_⟩
           refine hK.out _ _ ⟨(blk_cell BK399.out 0).trans rfl, (blk_cell BK399.out 1).trans rfl, (blk_cell BK399.out 2).trans rfl, (blk_cell BK399.out 3).trans rfl, (blk_cell BK399.out 4).trans rfl, (blk_cell BK399.out 5).trans rfl, (blk_cell BK399.out 6).trans rfl, (blk_cell BK399.out 7).trans rfl, (blk_cell BK399.out 8).trans rfl, (blk_cell BK399.out 9).trans rfl, (blk_cell BK399.out 10).trans rfl, (blk_cell BK399.out 11).trans rfl⟩ (fun hHeld => ?_)
           clear hK; clear K
           refine norm_ (a' := ?_) ?_ ?_
           rotate_left
           ·show Act.put _ (some 79) _ = _
            simp only [Act.put, List.setIfInBounds_toArray, List.set_cons_zero, List.set_cons_succ, i64_w, i32_w]
            rfl
           refine plan_ [(14, 82), (15, 83), (16, 84)] ?_
           iterate 3 (refine planP_ (v := ?_) (a' := ?_) rfl rfl (any_of HT_.out (by kernel_rfl)) (fun _ _ _ h => h) (Or.inl ⟨by rfl, ?_⟩) ?_ ?_; rotate_left; (intro w'; go_simp; with_reducible rfl); rotate_left; (simp only [Act.put, List.setIfInBounds_toArray, List.set_cons_zero, List.set_cons_succ, i64_w, i32_w]; rfl))
           refine planEnd_ ?_
           refine plan_ [(17, 85), (18, 86), (19, 87)] ?_
           iterate 3 (refine planP_ (v := undef) (a' := ?_) rfl rfl (any_of HT_.out (by kernel_rfl)) (fun _ _ _ h => h) (Or.inr ⟨by rfl, rfl⟩) ?_ ?_; rotate_left; (simp only [Act.put, List.setIfInBounds_toArray, List.set_cons_zero, List.set_cons_succ, i64_w, i32_w]; rfl))
           refine planEnd_ ?_
           refine plan_ [(20, 88), (21, 89)] ?_
           iterate 2 (refine planP_ (v := ?_) (a' := ?_) rfl rfl (any_of HT_.out (by kernel_rfl)) (fun _ _ _ h => h) (Or.inl ⟨by rfl, ?_⟩) ?_ ?_; rotate_left; (intro w'; go_simp; with_reducible rfl); rotate_left; (simp only [Act.put, List.setIfInBounds_toArray, List.set_cons_zero, List.set_cons_succ, i64_w, i32_w]; rfl))
           refine planEnd_ ?_
           refine plan_ [(22, 90), (23, 91), (24, 92)] ?_
           iterate 3 (refine planP_ (v := undef) (a' := ?_) rfl rfl (any_of HT_.out (by kernel_rfl)) (fun _ _ _ h => h) (Or.inr ⟨by rfl, rfl⟩) ?_ ?_; rotate_left; (simp only [Act.put, List.setIfInBounds_toArray, List.set_cons_zero, List.set_cons_succ, i64_w, i32_w]; rfl))
           refine planEnd_ ?_
           refine plan_ [(25, 93), (26, 2)] ?_
           iterate 2 (refine planP_ (v := ?_) (a' := ?_) rfl rfl (any_of HT_.out (by kernel_rfl)) (fun _ _ _ h => h) (Or.inl ⟨by rfl, ?_⟩) ?_ ?_; rotate_left; (intro w'; go_simp; with_reducible rfl); rotate_left; (simp only [Act.put, List.setIfInBounds_toArray, List.set_cons_zero, List.set_cons_succ, i64_w, i32_w]; rfl))
           refine planEnd_ ?_
           refine done_ (done_of HT_.out (by kernel_rfl)) ?_
           try go_wp2
           go_ret
           exact ⟨by first | rfl | (simp [errW_none, errW_some] <;> rfl) | (simp [*, errW_none, errW_some] <;> rfl), by repeat (first | (with_reducible first | exact HB.out | apply below_alloc | apply pw_below_drewN | apply below_drew1 | refine below_set ?_ GE399.out) | exact HB.out)⟩
         ·replace c39 := Bool.eq_false_iff.mpr c39
          subst c39
          have H1 : (some false) = some r := by rw [if_neg (show ¬ (false = true) by decide)] at H; exact H
          clear H
          have H := H1
          clear H1
          obtain rfl := Option.some.inj H
          try go_wp2
          have n0_ := Aside0.mk (blk_drew BK399.out)
          have n1_ := Aside0.mk (below_drew1 HB.out)
          clear BK399; clear HB
          have BK399 := n0_
          have HB := n1_
          clear n0_; clear n1_
          refine start_ (n := 27) (S := fun w' => w'.cell? ⟨gb399, 0, none⟩ = some (.int .i64 a0_0) ∧ w'.cell? ⟨gb399, 1, none⟩ = some (.int .i64 a0_1) ∧ w'.cell? ⟨gb399, 2, none⟩ = some (.int .i64 a0_2) ∧ w'.cell? ⟨gb399, 3, none⟩ = some (.int .i64 a0_3) ∧ w'.cell? ⟨gb399, 4, none⟩ = some (.int .i64 a0_4) ∧ w'.cell? ⟨gb399, 5, none⟩ = some (.int .i64 a0_5) ∧ w'.cell? ⟨gb399, 6, none⟩ = some (.int .i64 a0_6) ∧ w'.cell? ⟨gb399, 7, none⟩ = some (.int .i64 a0_7) ∧ w'.cell? ⟨gb399, 8, none⟩ = some (.int .i64 a0_8) ∧ w'.cell? ⟨gb399, 9, none⟩ = some (.int .i64 a0_9) ∧ w'.cell? ⟨gb399, 10, none⟩ = some (.int .i64 a0_10) ∧ w'.cell? ⟨gb399, 11, none⟩ = some (.slice A0_11 l0_11.length c0_11)) (ds := []) #[false, false, false, false, false, false, false, false, false, false, false, false, false, false, false, false, false, false, false, false, false, false, false, false, false, false, false] (by kernel_rfl) rfl rfl ⟨(blk_cell BK399.out 0).trans rfl, (blk_cell BK399.out 1).trans rfl, (blk_cell BK399.out 2).trans rfl, (blk_cell BK399.out 3).trans rfl, (blk_cell BK399.out 4).trans rfl, (blk_cell BK399.out 5).trans rfl, (blk_cell BK399.out 6).trans rfl, (blk_cell BK399.out 7).trans rfl, (blk_cell BK399.out 8).trans rfl, (blk_cell BK399.out 9).trans rfl, (blk_cell BK399.out 10).trans rfl, (blk_cell BK399.out 11).trans rfl⟩ (fun hHeld => ?_); refine with_tabW job_GoodR.tab8 job_GoodR.bits8 (fun HT_ HW_ => ?_)
          generalize wc.drew = w48 at BK399 HB hHeld ⊢
          refine plan_ [(0, 68)] ?_
          refine planP_ (v := ?_) (a' := ?_) rfl rfl (any_of HT_.out (by kernel_rfl)) (fun _ _ _ h => h) (Or.inl ⟨by rfl, ?_⟩) ?_ ?_; rotate_left; (intro w'; go_simp; with_reducible rfl); rotate_left; (simp only [Act.put, List.setIfInBounds_toArray, List.set_cons_zero, List.set_cons_succ, i64_w, i32_w]; rfl)
          refine planEnd_ ?_
          refine plan_ [(1, 69)] ?_
          refine planT_ (v := ?_) (a' := ?_) rfl rfl (take_ofW HT_.out HW_.out (by kernel_rfl)) (fun _ _ _ h => h) (Or.inl ⟨by rfl, ?_⟩) hHeld ?_ ?_; rotate_left; (rintro w' ⟨s0, s1, s2, s3, s4, s5, s6, s7, s8, s9, s10, s11⟩; go_simp; with_reducible rfl); rotate_left; (simp only [Act.put, List.setIfInBounds_toArray, List.set_cons_zero, List.set_cons_succ, i64_w, i32_w]; rfl)
          refine planEnd_ ?_
          refine one_ (i := 2) (N := some 70) #[true, true, true, false, false, false, false, false, false, false, false, false, false, false, false, false, false, false, false, false, false, false, false, false, false, false, false] rfl rfl (one_of HT_.out (by kernel_rfl)) (by decide) (fun K hK => ?_)
          refine goes_ Try.func48 (by kernel_rfl) rfl #[.int .i64 a0_8, .int .i64 0, .int .i64 1099511627776] (by rfl) rfl rfl mt ?_
          with_reducible refine (job_in.calls a0_8 0 1099511627776 true _ A36.out).mono ?_
          rintro e w' ⟨rfl, ⟨nd, rfl⟩⟩
          refine ⟨_, rfl, ?_⟩
          refine hK.out _ _ ⟨(blk_cell BK399.out 0).trans rfl, (blk_cell BK399.out 1).trans rfl, (blk_cell BK399.out 2).trans rfl, (blk_cell BK399.out 3).trans rfl, (blk_cell BK399.out 4).trans rfl, (blk_cell BK399.out 5).trans rfl, (blk_cell BK399.out 6).trans rfl, (blk_cell BK399.out 7).trans rfl, (blk_cell BK399.out 8).trans rfl, (blk_cell BK399.out 9).trans rfl, (blk_cell BK399.out 10).trans rfl, (blk_cell BK399.out 11).trans rfl⟩ (fun hHeld => ?_)
          clear hK; clear K
          refine norm_ (a' := ?_) ?_ ?_
          rotate_left
          ·show Act.put _ (some 70) _ = _
           simp only [Act.put, List.setIfInBounds_toArray, List.set_cons_zero, List.set_cons_succ, i64_w, i32_w]
           rfl
          refine plan_ [(3, 71), (4, 72)] ?_
          iterate 2 (refine planP_ (v := ?_) (a' := ?_) rfl rfl (any_of HT_.out (by kernel_rfl)) (fun _ _ _ h => h) (Or.inl ⟨by rfl, ?_⟩) ?_ ?_; rotate_left; (intro w'; go_simp; with_reducible rfl); rotate_left; (simp only [Act.put, List.setIfInBounds_toArray, List.set_cons_zero, List.set_cons_succ, i64_w, i32_w]; rfl))
          refine planEnd_ ?_
          refine plan_ [(5, 73)] ?_
          refine planT_ (v := ?_) (a' := ?_) rfl rfl (take_ofW HT_.out HW_.out (by kernel_rfl)) (fun _ _ _ h => h) (Or.inl ⟨by rfl, ?_⟩) hHeld ?_ ?_; rotate_left; (rintro w' ⟨s0, s1, s2, s3, s4, s5, s6, s7, s8, s9, s10, s11⟩; go_simp; with_reducible rfl); rotate_left; (simp only [Act.put, List.setIfInBounds_toArray, List.set_cons_zero, List.set_cons_succ, i64_w, i32_w]; rfl)
          refine planEnd_ ?_
          refine one_ (i := 6) (N := some 74) #[true, true, true, true, true, true, true, false, false, false, false, false, false, false, false, false, false, false, false, false, false, false, false, false, false, false, false] rfl rfl (one_of HT_.out (by kernel_rfl)) (by decide) (fun K hK => ?_)
          refine goes_ Try.func48 (by kernel_rfl) rfl #[.int .i64 a0_9, .int .i64 0, .int .i64 4294967295] (by rfl) rfl rfl mt ?_
          with_reducible refine (job_in.calls a0_9 0 4294967295 false _ A38.out).mono ?_
          rintro e w' ⟨rfl, ⟨nd, rfl⟩⟩
          refine ⟨_, rfl, ?_⟩
          refine hK.out _ _ ⟨(blk_cell BK399.out 0).trans rfl, (blk_cell BK399.out 1).trans rfl, (blk_cell BK399.out 2).trans rfl, (blk_cell BK399.out 3).trans rfl, (blk_cell BK399.out 4).trans rfl, (blk_cell BK399.out 5).trans rfl, (blk_cell BK399.out 6).trans rfl, (blk_cell BK399.out 7).trans rfl, (blk_cell BK399.out 8).trans rfl, (blk_cell BK399.out 9).trans rfl, (blk_cell BK399.out 10).trans rfl, (blk_cell BK399.out 11).trans rfl⟩ (fun hHeld => ?_)
          clear hK; clear K
          refine norm_ (a' := ?_) ?_ ?_
          rotate_left
          ·show Act.put _ (some 74) _ = _
           simp only [Act.put, List.setIfInBounds_toArray, List.set_cons_zero, List.set_cons_succ, i64_w, i32_w]
           rfl
          refine plan_ [(7, 75), (8, 76)] ?_
          iterate 2 (refine planP_ (v := ?_) (a' := ?_) rfl rfl (any_of HT_.out (by kernel_rfl)) (fun _ _ _ h => h) (Or.inl ⟨by rfl, ?_⟩) ?_ ?_; rotate_left; (intro w'; go_simp; with_reducible rfl); rotate_left; (simp only [Act.put, List.setIfInBounds_toArray, List.set_cons_zero, List.set_cons_succ, i64_w, i32_w]; rfl))
          refine planEnd_ ?_
          refine plan_ [(9, 77), (10, 78), (11, 79), (12, 80), (13, 81), (14, 82)] ?_
          iterate 6 (refine planP_ (v := undef) (a' := ?_) rfl rfl (any_of HT_.out (by kernel_rfl)) (fun _ _ _ h => h) (Or.inr ⟨by rfl, rfl⟩) ?_ ?_; rotate_left; (simp only [Act.put, List.setIfInBounds_toArray, List.set_cons_zero, List.set_cons_succ, i64_w, i32_w]; rfl))
          refine planEnd_ ?_
          refine plan_ [(15, 83), (16, 84)] ?_
          iterate 2 (refine planP_ (v := ?_) (a' := ?_) rfl rfl (any_of HT_.out (by kernel_rfl)) (fun _ _ _ h => h) (Or.inl ⟨by rfl, ?_⟩) ?_ ?_; rotate_left; (intro w'; go_simp; with_reducible rfl); rotate_left; (simp only [Act.put, List.setIfInBounds_toArray, List.set_cons_zero, List.set_cons_succ, i64_w, i32_w]; rfl))
          refine planEnd_ ?_
          refine plan_ [(17, 85), (18, 86), (19, 87)] ?_
          iterate 3 (refine planP_ (v := undef) (a' := ?_) rfl rfl (any_of HT_.out (by kernel_rfl)) (fun _ _ _ h => h) (Or.inr ⟨by rfl, rfl⟩) ?_ ?_; rotate_left; (simp only [Act.put, List.setIfInBounds_toArray, List.set_cons_zero, List.set_cons_succ, i64_w, i32_w]; rfl))
          refine planEnd_ ?_
          refine plan_ [(20, 88), (21, 89)] ?_
          iterate 2 (refine planP_ (v := ?_) (a' := ?_) rfl rfl (any_of HT_.out (by kernel_rfl)) (fun _ _ _ h => h) (Or.inl ⟨by rfl, ?_⟩) ?_ ?_; rotate_left; (intro w'; go_simp; with_reducible rfl); rotate_left; (simp only [Act.put, List.setIfInBounds_toArray, List.set_cons_zero, List.set_cons_succ, i64_w, i32_w]; rfl))
          refine planEnd_ ?_
          refine plan_ [(22, 90), (23, 91), (24, 92)] ?_
          iterate 3 (refine planP_ (v := undef) (a' := ?_) rfl rfl (any_of HT_.out (by kernel_rfl)) (fun _ _ _ h => h) (Or.inr ⟨by rfl, rfl⟩) ?_ ?_; rotate_left; (simp only [Act.put, List.setIfInBounds_toArray, List.set_cons_zero, List.set_cons_succ, i64_w, i32_w]; rfl))
          refine planEnd_ ?_
          refine plan_ [(25, 93), (26, 2)] ?_
          iterate 2 (refine planP_ (v := ?_) (a' := ?_) rfl rfl (any_of HT_.out (by kernel_rfl)) (fun _ _ _ h => h) (Or.inl ⟨by rfl, ?_⟩) ?_ ?_; rotate_left; (intro w'; go_simp; with_reducible rfl); rotate_left; (simp only [Act.put, List.setIfInBounds_toArray, List.set_cons_zero, List.set_cons_succ, i64_w, i32_w]; rfl))
          refine planEnd_ ?_
          refine done_ (done_of HT_.out (by kernel_rfl)) ?_
          try go_wp2
          go_ret
          exact ⟨by first | rfl | (simp [errW_none, errW_some] <;> rfl) | (simp [*, errW_none, errW_some] <;> rfl), by repeat (first | (with_reducible first | exact HB.out | apply below_alloc | apply pw_below_drewN | apply below_drew1 | refine below_set ?_ GE399.out) | exact HB.out)⟩
        ·replace c37 := Bool.eq_false_iff.mpr c37
         subst c37
         have H1 : (some false) = some r := by rw [if_neg (show ¬ (false = true) by decide)] at H; exact H
         clear H
         have H := H1
         clear H1
         obtain rfl := Option.some.inj H
         try go_wp2
         have n0_ := Aside0.mk (blk_drew BK399.out)
         have n1_ := Aside0.mk (below_drew1 HB.out)
         clear BK399; clear HB
         have BK399 := n0_
         have HB := n1_
         clear n0_; clear n1_
         refine start_ (n := 27) (S := fun w' => w'.cell? ⟨gb399, 0, none⟩ = some (.int .i64 a0_0) ∧ w'.cell? ⟨gb399, 1, none⟩ = some (.int .i64 a0_1) ∧ w'.cell? ⟨gb399, 2, none⟩ = some (.int .i64 a0_2) ∧ w'.cell? ⟨gb399, 3, none⟩ = some (.int .i64 a0_3) ∧ w'.cell? ⟨gb399, 4, none⟩ = some (.int .i64 a0_4) ∧ w'.cell? ⟨gb399, 5, none⟩ = some (.int .i64 a0_5) ∧ w'.cell? ⟨gb399, 6, none⟩ = some (.int .i64 a0_6) ∧ w'.cell? ⟨gb399, 7, none⟩ = some (.int .i64 a0_7) ∧ w'.cell? ⟨gb399, 8, none⟩ = some (.int .i64 a0_8) ∧ w'.cell? ⟨gb399, 9, none⟩ = some (.int .i64 a0_9) ∧ w'.cell? ⟨gb399, 10, none⟩ = some (.int .i64 a0_10) ∧ w'.cell? ⟨gb399, 11, none⟩ = some (.slice A0_11 l0_11.length c0_11)) (ds := []) #[false, false, false, false, false, false, false, false, false, false, false, false, false, false, false, false, false, false, false, false, false, false, false, false, false, false, false] (by kernel_rfl) rfl rfl ⟨(blk_cell BK399.out 0).trans rfl, (blk_cell BK399.out 1).trans rfl, (blk_cell BK399.out 2).trans rfl, (blk_cell BK399.out 3).trans rfl, (blk_cell BK399.out 4).trans rfl, (blk_cell BK399.out 5).trans rfl, (blk_cell BK399.out 6).trans rfl, (blk_cell BK399.out 7).trans rfl, (blk_cell BK399.out 8).trans rfl, (blk_cell BK399.out 9).trans rfl, (blk_cell BK399.out 10).trans rfl, (blk_cell BK399.out 11).trans rfl⟩ (fun hHeld => ?_); refine with_tabW job_GoodR.tab8 job_GoodR.bits8 (fun HT_ HW_ => ?_)
         generalize wc.drew = w49 at BK399 HB hHeld ⊢
         refine plan_ [(0, 68)] ?_
         refine planP_ (v := ?_) (a' := ?_) rfl rfl (any_of HT_.out (by kernel_rfl)) (fun _ _ _ h => h) (Or.inl ⟨by rfl, ?_⟩) ?_ ?_; rotate_left; (intro w'; go_simp; with_reducible rfl); rotate_left; (simp only [Act.put, List.setIfInBounds_toArray, List.set_cons_zero, List.set_cons_succ, i64_w, i32_w]; rfl)
         refine planEnd_ ?_
         refine plan_ [(1, 69)] ?_
         refine planT_ (v := ?_) (a' := ?_) rfl rfl (take_ofW HT_.out HW_.out (by kernel_rfl)) (fun _ _ _ h => h) (Or.inl ⟨by rfl, ?_⟩) hHeld ?_ ?_; rotate_left; (rintro w' ⟨s0, s1, s2, s3, s4, s5, s6, s7, s8, s9, s10, s11⟩; go_simp; with_reducible rfl); rotate_left; (simp only [Act.put, List.setIfInBounds_toArray, List.set_cons_zero, List.set_cons_succ, i64_w, i32_w]; rfl)
         refine planEnd_ ?_
         refine one_ (i := 2) (N := some 70) #[true, true, true, false, false, false, false, false, false, false, false, false, false, false, false, false, false, false, false, false, false, false, false, false, false, false, false] rfl rfl (one_of HT_.out (by kernel_rfl)) (by decide) (fun K hK => ?_)
         refine goes_ Try.func48 (by kernel_rfl) rfl #[.int .i64 a0_8, .int .i64 0, .int .i64 1099511627776] (by rfl) rfl rfl mt ?_
         with_reducible refine (job_in.calls a0_8 0 1099511627776 false _ A36.out).mono ?_
         rintro e w' ⟨rfl, ⟨nd, rfl⟩⟩
         refine ⟨_, rfl, ?_⟩
         refine hK.out _ _ ⟨(blk_cell BK399.out 0).trans rfl, (blk_cell BK399.out 1).trans rfl, (blk_cell BK399.out 2).trans rfl, (blk_cell BK399.out 3).trans rfl, (blk_cell BK399.out 4).trans rfl, (blk_cell BK399.out 5).trans rfl, (blk_cell BK399.out 6).trans rfl, (blk_cell BK399.out 7).trans rfl, (blk_cell BK399.out 8).trans rfl, (blk_cell BK399.out 9).trans rfl, (blk_cell BK399.out 10).trans rfl, (blk_cell BK399.out 11).trans rfl⟩ (fun hHeld => ?_)
         clear hK; clear K
         refine norm_ (a' := ?_) ?_ ?_
         rotate_left
         ·show Act.put _ (some 70) _ = _
          simp only [Act.put, List.setIfInBounds_toArray, List.set_cons_zero, List.set_cons_succ, i64_w, i32_w]
          rfl
         refine plan_ [(3, 71)] ?_
         refine planP_ (v := ?_) (a' := ?_) rfl rfl (any_of HT_.out (by kernel_rfl)) (fun _ _ _ h => h) (Or.inl ⟨by rfl, ?_⟩) ?_ ?_; rotate_left; (intro w'; go_simp; with_reducible rfl); rotate_left; (simp only [Act.put, List.setIfInBounds_toArray, List.set_cons_zero, List.set_cons_succ, i64_w, i32_w]; rfl)
         refine planEnd_ ?_
         refine plan_ [(4, 72), (5, 73), (6, 74)] ?_
         iterate 3 (refine planP_ (v := undef) (a' := ?_) rfl rfl (any_of HT_.out (by kernel_rfl)) (fun _ _ _ h => h) (Or.inr ⟨by rfl, rfl⟩) ?_ ?_; rotate_left; (simp only [Act.put, List.setIfInBounds_toArray, List.set_cons_zero, List.set_cons_succ, i64_w, i32_w]; rfl))
         refine planEnd_ ?_
         refine plan_ [(7, 75), (8, 76)] ?_
         iterate 2 (refine planP_ (v := ?_) (a' := ?_) rfl rfl (any_of HT_.out (by kernel_rfl)) (fun _ _ _ h => h) (Or.inl ⟨by rfl, ?_⟩) ?_ ?_; rotate_left; (intro w'; go_simp; with_reducible rfl); rotate_left; (simp only [Act.put, List.setIfInBounds_toArray, List.set_cons_zero, List.set_cons_succ, i64_w, i32_w]; rfl))
         refine planEnd_ ?_
         refine plan_ [(9, 77), (10, 78), (11, 79), (12, 80), (13, 81), (14, 82)] ?_
         iterate 6 (refine planP_ (v := undef) (a' := ?_) rfl rfl (any_of HT_.out (by kernel_rfl)) (fun _ _ _ h => h) (Or.inr ⟨by rfl, rfl⟩) ?_ ?_; rotate_left; (simp only [Act.put, List.setIfInBounds_toArray, List.set_cons_zero, List.set_cons_succ, i64_w, i32_w]; rfl))
         refine planEnd_ ?_
         refine plan_ [(15, 83), (16, 84)] ?_
         iterate 2 (refine planP_ (v := ?_) (a' := ?_) rfl rfl (any_of HT_.out (by kernel_rfl)) (fun _ _ _ h => h) (Or.inl ⟨by rfl, ?_⟩) ?_ ?_; rotate_left; (intro w'; go_simp; with_reducible rfl); rotate_left; (simp only [Act.put, List.setIfInBounds_toArray, List.set_cons_zero, List.set_cons_succ, i64_w, i32_w]; rfl))
         refine planEnd_ ?_
         refine plan_ [(17, 85), (18, 86), (19, 87)] ?_
         iterate 3 (refine planP_ (v := undef) (a' := ?_) rfl rfl (any_of HT_.out (by kernel_rfl)) (fun _ _ _ h => h) (Or.inr ⟨by rfl, rfl⟩) ?_ ?_; rotate_left; (simp only [Act.put, List.setIfInBounds_toArray, List.set_cons_zero, List.set_cons_succ, i64_w, i32_w]; rfl))
         refine planEnd_ ?_
         refine plan_ [(20, 88), (21, 89)] ?_
         iterate 2 (refine planP_ (v := ?_) (a' := ?_) rfl rfl (any_of HT_.out (by kernel_rfl)) (fun _ _ _ h => h) (Or.inl ⟨by rfl, ?_⟩) ?_ ?_; rotate_left; (intro w'; go_simp; with_reducible rfl); rotate_left; (simp only [Act.put, List.setIfInBounds_toArray, List.set_cons_zero, List.set_cons_succ, i64_w, i32_w]; rfl))
         refine planEnd_ ?_
         refine plan_ [(22, 90), (23, 91), (24, 92)] ?_
         iterate 3 (refine planP_ (v := undef) (a' := ?_) rfl rfl (any_of HT_.out (by kernel_rfl)) (fun _ _ _ h => h) (Or.inr ⟨by rfl, rfl⟩) ?_ ?_; rotate_left; (simp only [Act.put, List.setIfInBounds_toArray, List.set_cons_zero, List.set_cons_succ, i64_w, i32_w]; rfl))
         refine planEnd_ ?_
         refine plan_ [(25, 93), (26, 2)] ?_
         iterate 2 (refine planP_ (v := ?_) (a' := ?_) rfl rfl (any_of HT_.out (by kernel_rfl)) (fun _ _ _ h => h) (Or.inl ⟨by rfl, ?_⟩) ?_ ?_; rotate_left; (intro w'; go_simp; with_reducible rfl); rotate_left; (simp only [Act.put, List.setIfInBounds_toArray, List.set_cons_zero, List.set_cons_succ, i64_w, i32_w]; rfl))
         refine planEnd_ ?_
         refine done_ (done_of HT_.out (by kernel_rfl)) ?_
         try go_wp2
         go_ret
         exact ⟨by first | rfl | (simp [errW_none, errW_some] <;> rfl) | (simp [*, errW_none, errW_some] <;> rfl), by repeat (first | (with_reducible first | exact HB.out | apply below_alloc | apply pw_below_drewN | apply below_drew1 | refine below_set ?_ GE399.out) | exact HB.out)⟩
       ·rw [if_neg c35] at H
        have c35b0 : (a0_7 == 3) = false := beq_eq_false_iff_ne.mpr c35
        have c35b1 : (a0_7 != 3) = true := bne_iff_ne.mpr c35
        by_cases c50 : a0_7 = 4
        ·rw [if_pos c50] at H
         have c50b0 : (a0_7 == 4) = true := beq_iff_eq.mpr c50
         have c50b1 : (a0_7 != 4) = false := bne_eq_false_iff_eq.mpr c50
         clear c50
         replace H := Option.bind_eq_some_iff.mp H
         obtain ⟨t410, A510, H⟩ := H
         replace H : (if t410 = true then (if a0_9 = 0 then ((job_in.f a0_10 0 a0_3).bind fun t411 => (if t411 = true then ((job_draws.f kj23 l0_11).bind fun t412 => (some t412)) else (some false))) else (some false)) else (some false)) = some r := H
         have A51 := Aside0.mk A510
         clear A510
         by_cases c52 : t410 = true
         ·subst c52
          have H1 : (if a0_9 = 0 then ((job_in.f a0_10 0 a0_3).bind fun t411 => (if t411 = true then ((job_draws.f kj23 l0_11).bind fun t412 => (some t412)) else (some false))) else (some false)) = some r := by rw [if_pos rfl] at H; exact H
          clear H
          have H := H1
          clear H1
          by_cases c53 : a0_9 = 0
          ·rw [if_pos c53] at H
           have c53b0 : (a0_9 == 0) = true := beq_iff_eq.mpr c53
           have c53b1 : (a0_9 != 0) = false := bne_eq_false_iff_eq.mpr c53
           clear c53
           replace H := Option.bind_eq_some_iff.mp H
           obtain ⟨t411, A540, H⟩ := H
           replace H : (if t411 = true then ((job_draws.f kj23 l0_11).bind fun t412 => (some t412)) else (some false)) = some r := H
           have A54 := Aside0.mk A540
           clear A540
           by_cases c55 : t411 = true
           ·subst c55
            have H1 : ((job_draws.f kj23 l0_11).bind fun t412 => (some t412)) = some r := by rw [if_pos rfl] at H; exact H
            clear H
            have H := H1
            clear H1
            replace H := Option.bind_eq_some_iff.mp H
            obtain ⟨t412, A560, H⟩ := H
            replace H : (some t412) = some r := H
            have A56 := Aside0.mk A560
            clear A560
            obtain rfl := Option.some.inj H
            have hcz57_0 : wc.cell? ⟨gb399, 0, none⟩ = some (.int .i64 a0_0) := (blk_cell BK399.out 0).trans rfl
            have hcz57_1 : wc.cell? ⟨gb399, 1, none⟩ = some (.int .i64 a0_1) := (blk_cell BK399.out 1).trans rfl
            have hcz57_2 : wc.cell? ⟨gb399, 2, none⟩ = some (.int .i64 a0_2) := (blk_cell BK399.out 2).trans rfl
            have hcz57_3 : wc.cell? ⟨gb399, 3, none⟩ = some (.int .i64 a0_3) := (blk_cell BK399.out 3).trans rfl
            have hcz57_4 : wc.cell? ⟨gb399, 4, none⟩ = some (.int .i64 a0_4) := (blk_cell BK399.out 4).trans rfl
            have hcz57_5 : wc.cell? ⟨gb399, 5, none⟩ = some (.int .i64 a0_5) := (blk_cell BK399.out 5).trans rfl
            have hcz57_6 : wc.cell? ⟨gb399, 6, none⟩ = some (.int .i64 a0_6) := (blk_cell BK399.out 6).trans rfl
            have hcz57_7 : wc.cell? ⟨gb399, 7, none⟩ = some (.int .i64 a0_7) := (blk_cell BK399.out 7).trans rfl
            have hcz57_8 : wc.cell? ⟨gb399, 8, none⟩ = some (.int .i64 a0_8) := (blk_cell BK399.out 8).trans rfl
            have hcz57_9 : wc.cell? ⟨gb399, 9, none⟩ = some (.int .i64 a0_9) := (blk_cell BK399.out 9).trans rfl
            have hcz57_10 : wc.cell? ⟨gb399, 10, none⟩ = some (.int .i64 a0_10) := (blk_cell BK399.out 10).trans rfl
            have hcz57_11 : wc.cell? ⟨gb399, 11, none⟩ = some (.slice A0_11 l0_11.length c0_11) := (blk_cell BK399.out 11).trans rfl
            have hfz57_0 := blk_frozen BK399.out 0
            have hfz57_1 := blk_frozen BK399.out 1
            have hfz57_2 := blk_frozen BK399.out 2
            have hfz57_3 := blk_frozen BK399.out 3
            have hfz57_4 := blk_frozen BK399.out 4
            have hfz57_5 := blk_frozen BK399.out 5
            have hfz57_6 := blk_frozen BK399.out 6
            have hfz57_7 := blk_frozen BK399.out 7
            have hfz57_8 := blk_frozen BK399.out 8
            have hfz57_9 := blk_frozen BK399.out 9
            have hfz57_10 := blk_frozen BK399.out 10
            have hfz57_11 := blk_frozen BK399.out 11
            go_wp2_with (first | ((with_reducible refine gate_callee (f := 48) rfl ?_); refine goesL_ (some 98) rfl rfl Try.func48 (by kernel_rfl) rfl #[.int .i64 a0_8, .int .i64 0, .int .i64 1099511627776] rfl mt ?_; (with_reducible refine (job_in.calls a0_8 0 1099511627776 true _ A51.out).mono ?_); rintro e w' ⟨rfl, ⟨nd, rfl⟩⟩; refine ⟨_, rfl, ?_⟩) | (go_at_call 48; (with_reducible refine (job_in.calls a0_10 0 a0_3 true _ A54.out).mono ?_); rintro e w' ⟨rfl, ⟨nd, rfl⟩⟩) | (go_at_call 50; (with_reducible refine (job_draws.calls kj23 _ _ l0_11 t412 _ ?side1 ?side2 A56.out).mono ?_); (case side1 => repeat (first | exact (Kd.C_below HR0_11.out (mBs HB.out)) | (with_reducible refine Kd.C_alloc ?_ _) | (with_reducible refine Kd.C_drewN ?_ _) | (with_reducible refine Kd.C_drew ?_))); (case side2 => exact HC0_11.out); rintro e w58 ⟨rfl, hb⟩; have n0_ := Aside0.mk (blk_below (g := gb399) (o := .cells #[.int .i64 a0_0, .int .i64 a0_1, .int .i64 a0_2, .int .i64 a0_3, .int .i64 a0_4, .int .i64 a0_5, .int .i64 a0_6, .int .i64 a0_7, .int .i64 a0_8, .int .i64 a0_9, .int .i64 a0_10, .slice A0_11 l0_11.length c0_11] 32 (0, 0)) (mBK BK399.out) hb); have n1_ := Aside0.mk (below_step (mBs HB.out) hb); clear BK399; clear HB; have BK399 := n0_; have HB := n1_; clear n0_ n1_; (try clear hb); (try clear hb2); (try clear hk); (try clear hi)))
            go_ret
            exact ⟨by first | rfl | (simp [errW_none, errW_some] <;> rfl) | (simp [*, errW_none, errW_some] <;> rfl), by repeat (first | (with_reducible first | exact HB.out | apply below_alloc | apply pw_below_drewN | apply below_drew1 | refine below_set ?_ GE399.out) | exact HB.out)⟩
           ·replace c55 := Bool.eq_false_iff.mpr c55
            subst c55
            have H1 : (some false) = some r := by rw [if_neg (show ¬ (false = true) by decide)] at H; exact H
            clear H
            have H := H1
            clear H1
            obtain rfl := Option.some.inj H
            have hcz59_0 : wc.cell? ⟨gb399, 0, none⟩ = some (.int .i64 a0_0) := (blk_cell BK399.out 0).trans rfl
            have hcz59_1 : wc.cell? ⟨gb399, 1, none⟩ = some (.int .i64 a0_1) := (blk_cell BK399.out 1).trans rfl
            have hcz59_2 : wc.cell? ⟨gb399, 2, none⟩ = some (.int .i64 a0_2) := (blk_cell BK399.out 2).trans rfl
            have hcz59_3 : wc.cell? ⟨gb399, 3, none⟩ = some (.int .i64 a0_3) := (blk_cell BK399.out 3).trans rfl
            have hcz59_4 : wc.cell? ⟨gb399, 4, none⟩ = some (.int .i64 a0_4) := (blk_cell BK399.out 4).trans rfl
            have hcz59_5 : wc.cell? ⟨gb399, 5, none⟩ = some (.int .i64 a0_5) := (blk_cell BK399.out 5).trans rfl
            have hcz59_6 : wc.cell? ⟨gb399, 6, none⟩ = some (.int .i64 a0_6) := (blk_cell BK399.out 6).trans rfl
            have hcz59_7 : wc.cell? ⟨gb399, 7, none⟩ = some (.int .i64 a0_7) := (blk_cell BK399.out 7).trans rfl
            have hcz59_8 : wc.cell? ⟨gb399, 8, none⟩ = some (.int .i64 a0_8) := (blk_cell BK399.out 8).trans rfl
            have hcz59_9 : wc.cell? ⟨gb399, 9, none⟩ = some (.int .i64 a0_9) := (blk_cell BK399.out 9).trans rfl
            have hcz59_10 : wc.cell? ⟨gb399, 10, none⟩ = some (.int .i64 a0_10) := (blk_cell BK399.out 10).trans rfl
            have hcz59_11 : wc.cell? ⟨gb399, 11, none⟩ = some (.slice A0_11 l0_11.length c0_11) := (blk_cell BK399.out 11).trans rfl
            have hfz59_0 := blk_frozen BK399.out 0
            have hfz59_1 := blk_frozen BK399.out 1
            have hfz59_2 := blk_frozen BK399.out 2
            have hfz59_3 := blk_frozen BK399.out 3
            have hfz59_4 := blk_frozen BK399.out 4
            have hfz59_5 := blk_frozen BK399.out 5
            have hfz59_6 := blk_frozen BK399.out 6
            have hfz59_7 := blk_frozen BK399.out 7
            have hfz59_8 := blk_frozen BK399.out 8
            have hfz59_9 := blk_frozen BK399.out 9
            have hfz59_10 := blk_frozen BK399.out 10
            have hfz59_11 := blk_frozen BK399.out 11
            go_wp2_with (first | ((with_reducible refine gate_callee (f := 48) rfl ?_); refine goesL_ (some 98) rfl rfl Try.func48 (by kernel_rfl) rfl #[.int .i64 a0_8, .int .i64 0, .int .i64 1099511627776] rfl mt ?_; (with_reducible refine (job_in.calls a0_8 0 1099511627776 true _ A51.out).mono ?_); rintro e w' ⟨rfl, ⟨nd, rfl⟩⟩; refine ⟨_, rfl, ?_⟩) | (go_at_call 48; (with_reducible refine (job_in.calls a0_10 0 a0_3 false _ A54.out).mono ?_); rintro e w' ⟨rfl, ⟨nd, rfl⟩⟩))
            go_ret
            exact ⟨by first | rfl | (simp [errW_none, errW_some] <;> rfl) | (simp [*, errW_none, errW_some] <;> rfl), by repeat (first | (with_reducible first | exact HB.out | apply below_alloc | apply pw_below_drewN | apply below_drew1 | refine below_set ?_ GE399.out) | exact HB.out)⟩
          ·rw [if_neg c53] at H
           have c53b0 : (a0_9 == 0) = false := beq_eq_false_iff_ne.mpr c53
           have c53b1 : (a0_9 != 0) = true := bne_iff_ne.mpr c53
           obtain rfl := Option.some.inj H
           have hcz60_0 : wc.cell? ⟨gb399, 0, none⟩ = some (.int .i64 a0_0) := (blk_cell BK399.out 0).trans rfl
           have hcz60_1 : wc.cell? ⟨gb399, 1, none⟩ = some (.int .i64 a0_1) := (blk_cell BK399.out 1).trans rfl
           have hcz60_2 : wc.cell? ⟨gb399, 2, none⟩ = some (.int .i64 a0_2) := (blk_cell BK399.out 2).trans rfl
           have hcz60_3 : wc.cell? ⟨gb399, 3, none⟩ = some (.int .i64 a0_3) := (blk_cell BK399.out 3).trans rfl
           have hcz60_4 : wc.cell? ⟨gb399, 4, none⟩ = some (.int .i64 a0_4) := (blk_cell BK399.out 4).trans rfl
           have hcz60_5 : wc.cell? ⟨gb399, 5, none⟩ = some (.int .i64 a0_5) := (blk_cell BK399.out 5).trans rfl
           have hcz60_6 : wc.cell? ⟨gb399, 6, none⟩ = some (.int .i64 a0_6) := (blk_cell BK399.out 6).trans rfl
           have hcz60_7 : wc.cell? ⟨gb399, 7, none⟩ = some (.int .i64 a0_7) := (blk_cell BK399.out 7).trans rfl
           have hcz60_8 : wc.cell? ⟨gb399, 8, none⟩ = some (.int .i64 a0_8) := (blk_cell BK399.out 8).trans rfl
           have hcz60_9 : wc.cell? ⟨gb399, 9, none⟩ = some (.int .i64 a0_9) := (blk_cell BK399.out 9).trans rfl
           have hcz60_10 : wc.cell? ⟨gb399, 10, none⟩ = some (.int .i64 a0_10) := (blk_cell BK399.out 10).trans rfl
           have hcz60_11 : wc.cell? ⟨gb399, 11, none⟩ = some (.slice A0_11 l0_11.length c0_11) := (blk_cell BK399.out 11).trans rfl
           have hfz60_0 := blk_frozen BK399.out 0
           have hfz60_1 := blk_frozen BK399.out 1
           have hfz60_2 := blk_frozen BK399.out 2
           have hfz60_3 := blk_frozen BK399.out 3
           have hfz60_4 := blk_frozen BK399.out 4
           have hfz60_5 := blk_frozen BK399.out 5
           have hfz60_6 := blk_frozen BK399.out 6
           have hfz60_7 := blk_frozen BK399.out 7
           have hfz60_8 := blk_frozen BK399.out 8
           have hfz60_9 := blk_frozen BK399.out 9
           have hfz60_10 := blk_frozen BK399.out 10
           have hfz60_11 := blk_frozen BK399.out 11
           go_wp2_with (first | ((with_reducible refine gate_callee (f := 48) rfl ?_); refine goesL_ (some 98) rfl rfl Try.func48 (by kernel_rfl) rfl #[.int .i64 a0_8, .int .i64 0, .int .i64 1099511627776] rfl mt ?_; (with_reducible refine (job_in.calls a0_8 0 1099511627776 true _ A51.out).mono ?_); rintro e w' ⟨rfl, ⟨nd, rfl⟩⟩; refine ⟨_, rfl, ?_⟩))
           go_ret
           exact ⟨by first | rfl | (simp [errW_none, errW_some] <;> rfl) | (simp [*, errW_none, errW_some] <;> rfl), by repeat (first | (with_reducible first | exact HB.out | apply below_alloc | apply pw_below_drewN | apply below_drew1 | refine below_set ?_ GE399.out) | exact HB.out)⟩
         ·replace c52 := Bool.eq_false_iff.mpr c52
          subst c52
          have H1 : (some false) = some r := by rw [if_neg (show ¬ (false = true) by decide)] at H; exact H
          clear H
          have H := H1
          clear H1
          obtain rfl := Option.some.inj H
          have hcz61_0 : wc.cell? ⟨gb399, 0, none⟩ = some (.int .i64 a0_0) := (blk_cell BK399.out 0).trans rfl
          have hcz61_1 : wc.cell? ⟨gb399, 1, none⟩ = some (.int .i64 a0_1) := (blk_cell BK399.out 1).trans rfl
          have hcz61_2 : wc.cell? ⟨gb399, 2, none⟩ = some (.int .i64 a0_2) := (blk_cell BK399.out 2).trans rfl
          have hcz61_3 : wc.cell? ⟨gb399, 3, none⟩ = some (.int .i64 a0_3) := (blk_cell BK399.out 3).trans rfl
          have hcz61_4 : wc.cell? ⟨gb399, 4, none⟩ = some (.int .i64 a0_4) := (blk_cell BK399.out 4).trans rfl
          have hcz61_5 : wc.cell? ⟨gb399, 5, none⟩ = some (.int .i64 a0_5) := (blk_cell BK399.out 5).trans rfl
          have hcz61_6 : wc.cell? ⟨gb399, 6, none⟩ = some (.int .i64 a0_6) := (blk_cell BK399.out 6).trans rfl
          have hcz61_7 : wc.cell? ⟨gb399, 7, none⟩ = some (.int .i64 a0_7) := (blk_cell BK399.out 7).trans rfl
          have hcz61_8 : wc.cell? ⟨gb399, 8, none⟩ = some (.int .i64 a0_8) := (blk_cell BK399.out 8).trans rfl
          have hcz61_9 : wc.cell? ⟨gb399, 9, none⟩ = some (.int .i64 a0_9) := (blk_cell BK399.out 9).trans rfl
          have hcz61_10 : wc.cell? ⟨gb399, 10, none⟩ = some (.int .i64 a0_10) := (blk_cell BK399.out 10).trans rfl
          have hcz61_11 : wc.cell? ⟨gb399, 11, none⟩ = some (.slice A0_11 l0_11.length c0_11) := (blk_cell BK399.out 11).trans rfl
          have hfz61_0 := blk_frozen BK399.out 0
          have hfz61_1 := blk_frozen BK399.out 1
          have hfz61_2 := blk_frozen BK399.out 2
          have hfz61_3 := blk_frozen BK399.out 3
          have hfz61_4 := blk_frozen BK399.out 4
          have hfz61_5 := blk_frozen BK399.out 5
          have hfz61_6 := blk_frozen BK399.out 6
          have hfz61_7 := blk_frozen BK399.out 7
          have hfz61_8 := blk_frozen BK399.out 8
          have hfz61_9 := blk_frozen BK399.out 9
          have hfz61_10 := blk_frozen BK399.out 10
          have hfz61_11 := blk_frozen BK399.out 11
          go_wp2_with (first | ((with_reducible refine gate_callee (f := 48) rfl ?_); refine goesL_ (some 98) rfl rfl Try.func48 (by kernel_rfl) rfl #[.int .i64 a0_8, .int .i64 0, .int .i64 1099511627776] rfl mt ?_; (with_reducible refine (job_in.calls a0_8 0 1099511627776 false _ A51.out).mono ?_); rintro e w' ⟨rfl, ⟨nd, rfl⟩⟩; refine ⟨_, rfl, ?_⟩))
          go_ret
          exact ⟨by first | rfl | (simp [errW_none, errW_some] <;> rfl) | (simp [*, errW_none, errW_some] <;> rfl), by repeat (first | (with_reducible first | exact HB.out | apply below_alloc | apply pw_below_drewN | apply below_drew1 | refine below_set ?_ GE399.out) | exact HB.out)⟩
        ·rw [if_neg c50] at H
         have c50b0 : (a0_7 == 4) = false := beq_eq_false_iff_ne.mpr c50
         have c50b1 : (a0_7 != 4) = true := bne_iff_ne.mpr c50
         obtain rfl := Option.some.inj H
         go_wp2
         go_ret
         exact ⟨by first | rfl | (simp [errW_none, errW_some] <;> rfl) | (simp [*, errW_none, errW_some] <;> rfl), by repeat (first | (with_reducible first | exact HB.out | apply below_alloc | apply pw_below_drewN | apply below_drew1 | refine below_set ?_ GE399.out) | exact HB.out)⟩

end Go.Proofs.Ytkhfgflcanmefaa.PAll
end
section
namespace Go.Proofs.Ytkhfgflcanmefaa.PAll
open Go.RowKit Go.Proofs.YtkhfgflcanmefaaW.PrintWords Go.Proofs.YtkhfgflcanmefaaW.PrintLast Go.Proofs.YtkhfgflcanmefaaW.PrintMore
set_option linter.unusedVariables false
set_option linter.unusedSimpArgs false
class DW where
  dr : SH → Option (List S80)
structure DWAt [DW] (w : World) : Prop where
  out : ∀ s l, DW.dr s = some l → s.n = l.length ∧ l.length ≤ s.c ∧ Kd.C k80 w s.A l.length l
theorem DWAt.of [DW] {w0 w : World} (h : DWAt w0) (hb : Below w0.heap.size w0 w) : DWAt w := ⟨fun s l q => ⟨(h.out s l q).1, (h.out s l q).2.1, Kd.C_below (h.out s l q).2.2 hb⟩⟩
def job_GoodD.f [DW] (a0_0 : Int) (a0_1 : Int) (a0_2 : Int) (a0_3 : Int) (a0_4 : Int) (a0_5 : Int) (a0_6 : Int) (a0_7 : Int) (a0_8 : Int) (a0_9 : Int) (a0_10 : Int) (a0_11 : SH) : Option (Bool) := (DW.dr a0_11).bind fun l => job_GoodR.f (l.length + 20) a0_0 a0_1 a0_2 a0_3 a0_4 a0_5 a0_6 a0_7 a0_8 a0_9 a0_10 l
theorem job_GoodD.calls [DW] (a0_0 : Int) (a0_1 : Int) (a0_2 : Int) (a0_3 : Int) (a0_4 : Int) (a0_5 : Int) (a0_6 : Int) (a0_7 : Int) (a0_8 : Int) (a0_9 : Int) (a0_10 : Int) (a0_11 : SH) (r : Bool) (w : World) (hd : DWAt w) (h : job_GoodD.f a0_0 a0_1 a0_2 a0_3 a0_4 a0_5 a0_6 a0_7 a0_8 a0_9 a0_10 a0_11 = some r) :
    Calls Try.prog 29 #[.agg #[.int .i64 a0_0, .int .i64 a0_1, .int .i64 a0_2, .int .i64 a0_3, .int .i64 a0_4, .int .i64 a0_5, .int .i64 a0_6, .int .i64 a0_7, .int .i64 a0_8, .int .i64 a0_9, .int .i64 a0_10, .slice a0_11.A a0_11.n a0_11.c]] w fun e w' => e = .returned (.bool r) ∧ Below w.heap.size w w' := by
  unfold job_GoodD.f at h
  obtain ⟨l, hl, h⟩ := Option.bind_eq_some_iff.mp h
  obtain ⟨q1, q2, q3⟩ := hd.out _ _ hl
  rw [q1]
  exact job_GoodR.calls (l.length + 20) a0_0 a0_1 a0_2 a0_3 a0_4 a0_5 a0_6 a0_7 a0_8 a0_9 a0_10 a0_11.A a0_11.c l r w q3 q2 h

end Go.Proofs.Ytkhfgflcanmefaa.PAll
end
section
namespace Go.Proofs.Ytkhfgflcanmefaa.PAll
open Go.RowKit Go.Proofs.YtkhfgflcanmefaaW.PrintWords Go.Proofs.YtkhfgflcanmefaaW.PrintLast Go.Proofs.YtkhfgflcanmefaaW.PrintMore
attribute [local go_sem] max2_int min2_int max_two min_two max_three min_three max_four min_four   -- for this text's walks alone
set_option linter.unusedVariables false
set_option linter.unusedSimpArgs false

def slices_Clone_Job.f (l0 : List (S32)) : Option ((List (S32))) := (some (([] : List (S32)) : List (S32))).bind fun y203 => (if y203.length + l0.length < 1256584717458 then (some (y203 ++ l0)) else (none))
set_option maxHeartbeats 8000000 in
set_option maxRecDepth 100000 in
theorem slices_Clone_Job.calls_some (ad0_ : Addr) (c0 : Nat) (l0 : List (S32)) (r : List (S32)) (w : World) (hr0 : Kd.C k32 w (some ad0_) l0.length l0) (hc0 : l0.length ≤ c0) (h : slices_Clone_Job.f l0 = some r) :
    Calls Try.prog 56 #[.slice (some ad0_) l0.length c0] w fun e w' => ∃ v0_ : Value, e = .returned (v0_) ∧ Kd.R k32 32 w' w.heap.size (fun _ => True) v0_ r ∧ Below w.heap.size w w' := by
  have HR0 := Aside0.mk hr0
  have HC0 := Aside0.mk hc0
  clear hr0 hc0
  have HB := Aside0.mk (Below.refl w.heap.size w)
  have H : ((some (([] : List (S32)) : List (S32))).bind fun y203 => (if y203.length + l0.length < 1256584717458 then (some (y203 ++ l0)) else (none))) = some r := h
  clear h
  obtain ⟨y203, hy203⟩ : ∃ y_ : List (S32), y_ = (([] : List (S32))) := ⟨_, rfl⟩
  replace H : (if y203.length + l0.length < 1256584717458 then (some (y203 ++ l0)) else (none)) = some r := by first | (rw [hy203]; with_reducible exact H) | (have H2_ := (Option.bind_some _ _).symm.trans H; rw [hy203]; with_reducible exact H2_) | (have H2_ := (Option.bind_some _ _).symm.trans H; with_reducible exact H2_) | with_reducible exact H | (rw [hy203]; exact H) | exact H
  have Ny203 := Aside0.mk hy203
  clear hy203
  by_cases c2 : y203.length + l0.length < 1256584717458
  · rw [if_pos c2] at H
    have LMc2 := Aside0.mk c2
    clear c2
    obtain ⟨y206, hy206⟩ : ∃ y_ : List (S32), y_ = (y203 ++ l0) := ⟨_, rfl⟩
    replace H : (some y206) = some r := by first | (rw [hy206]; with_reducible exact H) | (have H2_ := (Option.bind_some _ _).symm.trans H; rw [hy206]; with_reducible exact H2_) | (have H2_ := (Option.bind_some _ _).symm.trans H; with_reducible exact H2_) | with_reducible exact H | (rw [hy206]; exact H) | exact H
    have Ny206 := Aside0.mk hy206
    clear hy206
    obtain rfl := Option.some.inj H
    have hnil_ := fun (W : World) => Lib.run_eql_slice_nil (P := Try.prog) W 22 32 (some ad0_) l0.length c0 0 0 Try.underlying22
    go_enter Try.func56, Try.ntmps56
    go_wp2_with (first | ((with_reducible refine gate_dst (N := 5) rfl ?_); refine Kd.R_lit k32 _ 32 ?hg (N := 5) ?hd (xs := ([] : List (S32))) (inner := []) (ok := fun _ => True) (okp := fun _ => True) ?hr ?hp (fun _ hk => hk) trivial (Below.refl _ _) (Nat.le_refl _) (by simp) ?_; (case hd => rfl); (case hg => rfl); (case hr => first | (go_simp; done) | (go_simp; rfl)); (case hp => exact (Reps.none _ _)); intro v204 w3 ho4 hb hg_ hnew_; clear hg_ hnew_; (first | rw [← Ny203.out] at ho4 | (simp only [Int.reduceToNat] at ho4; rw [← Ny203.out] at ho4)); have n0_ := Aside0.mk (Kd.R_lower ho4 (below_size (by repeat (first | (with_reducible first | exact HB.out | apply below_alloc | apply pw_below_drewN | apply below_drew1) | exact HB.out)))); have n1_ := Aside0.mk (below_step (by repeat (first | (with_reducible first | exact HB.out | apply below_alloc | apply pw_below_drewN | apply below_drew1) | exact HB.out)) hb); clear HB; have HO205 := n0_; have HB := n1_; clear n0_ n1_; clear hb ho4) | ((with_reducible refine gate_builtin (b := .append) (xs := #[.tmp 5, .tmp 6]) rfl ?_); at_builtin; refine Kd.R_append_rows k32 (w0 := w) w.heap.size rfl (.tmp 5) (.tmp 6) 22 32 (.agg #[(.int .i64 0), (.int .i64 0), (.int .i64 0), (.int .i64 0), (.int .i64 0), (.int .i64 0), (.int .i64 0), (.int .i64 0), (.int .i64 0), (.int .i64 0), (.int .i64 0), (.slice none 0 0)]) 112 rfl Try.underlying22 info32 rfl (by decide) (by omega) v204 y203 l0 _ _ _ (fun _ => True) (fun _ => False) rfl rfl ?aO ?aR (fun _ _ h => h) (fun _ h => h.elim) ?aF ?aB ?aS ?aL ?_; (case aR => repeat (first | exact (Kd.C_below HR0.out HB.out) | (with_reducible refine Kd.C_alloc ?_ _) | (with_reducible refine Kd.C_drewN ?_ _) | (with_reducible refine Kd.C_drew ?_))); (case aB => exact (by repeat (first | (with_reducible first | exact HB.out | apply below_alloc | apply pw_below_drewN | apply below_drew1) | exact HB.out))); (case aF => exact (fun _ _ => trivial)); (case aO => exact (by (with_reducible repeat (first | apply Kd.R_alloc | apply Kd.R_drewN | apply Kd.R_drew)); exact HO205.out)); (case aS => exact (below_size (by repeat (first | (with_reducible first | exact HB.out | apply below_alloc | apply pw_below_drewN | apply below_drew1) | exact HB.out)))); (case aL => have := LMc2.out; omega); intro v207 w5 ho hb hg hat; rw [← Ny206.out] at ho; have n0_ := Aside0.mk (hb); have n1_ := Aside0.mk (ho); clear HB; clear HO205; have HB := n0_; have HO208 := n1_; clear n0_ n1_; clear ho hb hg hat))
    go_ret
    exact ⟨_, by first | rfl | (simp [errW_none, errW_some] <;> rfl) | (simp [*, errW_none, errW_some] <;> rfl), by (with_reducible repeat (first | apply Kd.R_alloc | apply Kd.R_drewN | apply Kd.R_drew)); exact HO208.out, by repeat (first | (with_reducible first | exact HB.out | apply below_alloc | apply pw_below_drewN | apply below_drew1) | exact HB.out)⟩
  · rw [if_neg c2] at H
    exact absurd H (by simp)

set_option maxHeartbeats 8000000 in
theorem slices_Clone_Job.calls (A0 : Option Addr) (c0 : Nat) (l0 : List (S32)) (r : List (S32)) (w : World) (hr0 : Kd.C k32 w A0 l0.length l0) (hc0 : l0.length ≤ c0) (h : slices_Clone_Job.f l0 = some r) :
    Calls Try.prog 56 #[.slice A0 l0.length c0] w fun e w' => ∃ v0_ : Value, e = .returned (v0_) ∧ Kd.R k32 32 w' w.heap.size (fun _ => True) v0_ r ∧ Below w.heap.size w w' := by
  cases A0 with
  | some ad0_ => exact slices_Clone_Job.calls_some ad0_ c0 l0 r w hr0 hc0 h
  | none =>
    have hl : l0 = [] := by
      cases l0 with
      | nil => rfl
      | cons x xs => obtain ⟨ad, he, _⟩ := hr0.2.2 (by simp); cases he
    subst hl
    have hr : r = [] := by
      simp [slices_Clone_Job.f] at h; first | exact h | exact h.symm
    subst hr
    have hnil_ := fun (W : World) => Lib.run_eql_slice_nil (P := Try.prog) W 22 32 none 0 c0 0 0 Try.underlying22
    clear hr0 hc0 h
    go_enter Try.func56, Try.ntmps56
    go_wp2
    go_ret
    exact ⟨_, rfl, Kd.R_nil _ _ _ _ _, Below.refl _ _⟩

end Go.Proofs.Ytkhfgflcanmefaa.PAll
end
section
namespace Go.Proofs.Ytkhfgflcanmefaa.PAll
open Go.RowKit Go.Proofs.YtkhfgflcanmefaaW.PrintWords Go.Proofs.YtkhfgflcanmefaaW.PrintLast Go.Proofs.YtkhfgflcanmefaaW.PrintMore
set_option linter.unusedVariables false
set_option linter.unusedSimpArgs false
section
variable {P : Program} {ops : Array Oper} {Q : Exit → Act → World → Prop} {α : Type}
theorem R_past {d : Kd α} {e : Nat} {W : World} {base : Nat} {ok : Nat → Prop} {g n cap : Nat} {xs : List α} (h : d.R e W base ok (.slice (some ⟨g, 0, none⟩) n cap) xs) (o : Nat) (seg : List Value) (hno : n * d.sz ≤ o) (hfit : o + seg.length ≤ cap * d.sz) :
    d.R e (W.setCells g o seg) base ok (.slice (some ⟨g, 0, none⟩) n cap) xs ∧ W.grownBy (W.setCells g o seg) (some g) := by
  obtain ⟨hn, hnc, _⟩ := Kd.R_reads' h
  obtain ⟨hok, inner, ho, hr⟩ := h
  obtain ⟨ho1, ho2⟩ := ho
  rcases ho2 with ⟨hv, _⟩ | ⟨g', cap', cur, hv, hb, hh, hnc', hcm, hcs, ht⟩
  · cases hv
  injection hv with ha _ hc
  injection ha with ha
  injection ha with hg
  subst hg; subst hc
  obtain ⟨cur', h3, h4, h5⟩ := setCells_row seg o W cur hh (by omega)
  obtain ⟨s1, s2, s3, s4⟩ := setCells_same g seg o W
  have hfar : ∀ k, k ≠ g → (W.setCells g o seg).heap[k]? = W.heap[k]? := fun k hk => setCells_far seg _ k hk
  refine ⟨⟨hok, inner, ⟨ho1, .inr ⟨g, cap, cur', by rw [← hn], hb, h3, hnc', hcm, by rw [h4, hcs], ?_⟩⟩, hr.imp_ (fun p c hp => d.M_move (fun k hk => hfar k (fun he => hk.2 (by rw [he]; simp [Value.ownBlock]))) hp)⟩,
    ⟨s1, s2, s3, by rw [s4]; exact Nat.le_refl _, fun k _ hk => hfar k (fun he => hk (by rw [he]))⟩⟩
  rw [h5, ← hn]
  have hl : cur.toList.length = cap * d.sz := by rw [Array.length_toList, hcs]
  rw [List.append_assoc, List.take_append_of_le_length (by rw [List.length_take]; omega), List.take_take, Nat.min_eq_left hno]
  rw [← hn] at ht
  exact ht
theorem run_clear_cells (b o n c : Nat) (w : World) (t e ty : TypeId) (z : Value) (ht : P.underlying t = some (.slice e)) (hv : ∀ w, (zeroValue e).run P w = .ok z w) (h1 : ∀ u ∈ (Builtin.zeroCells z.cells n).toList, u.oneCell' = true) (hn : 0 < n)
    (hc : ∀ j, j < (Builtin.zeroCells z.cells n).toList.length → (w.cell? ⟨b, o + j, none⟩).isSome = true) (hf : ∀ j, j < (Builtin.zeroCells z.cells n).toList.length → w.frozen? ⟨b, o + j, none⟩ = false) :
    (Builtin.clear_ #[t] ty #[.slice (some ⟨b, o, none⟩) n c]).run P w = .ok (.tuple #[]) (w.setCells b o (Builtin.zeroCells z.cells n).toList) := by
  have hst := run_storeCells_cells (P := P) b o (Builtin.zeroCells z.cells n).toList 0 w hc hf h1
  simp only [Nat.add_zero] at hst
  obtain ⟨m, rfl⟩ : ∃ m, n = m + 1 := ⟨n - 1, by omega⟩
  simp [Builtin.clear_, run_underlying ht, hv, hst]
theorem R_clear {d : Kd α} {e : Nat} {w0 W : World} {base : Nat} {ok : Nat → Prop} {A : Option Addr} {n c : Nat} {xs : List α} (h : d.R e W base ok (.slice A n c) xs) (i : Nat) (hi : i ≤ xs.length) {t te ty : TypeId} {z : Value} (ht : P.underlying t = some (.slice te)) (hv : ∀ w, (zeroValue te).run P w = .ok z w)
    (hz : z.cells.size = d.sz) (h1 : ∀ u ∈ z.cells.toList, u.oneCell' = true) {A1 : Option Addr} (hA1 : A1 = if c = i then A else A.map (·.add (i * d.sz))) {m c1 : Nat} (hm : m = n - i) (HB : Below base w0 W) :
    ∃ W2, (Builtin.clear_ #[t] ty #[.slice A1 m c1]).run P W = .ok (.tuple #[]) W2 ∧ d.R e W2 base ok (.slice A i c) (xs.take i) ∧ Below base w0 W2 ∧ W.grownBy W2 (Value.slice A n c).ownBlock := by
  obtain ⟨hn, hnc, _⟩ := Kd.R_reads' h
  have ht_ := Kd.R_take (m := i) h hi
  rcases Nat.eq_zero_or_pos m with h0 | hp
  · refine ⟨W, ?_, ht_, HB, ⟨rfl, rfl, rfl, Nat.le_refl _, fun _ _ _ => rfl⟩⟩
    subst h0
    cases A1 <;> simp [Builtin.clear_, run_underlying ht]
  · have hic : ¬ c = i := by omega
    obtain ⟨g, rfl⟩ : ∃ g, A = some ⟨g, 0, none⟩ := by
      obtain ⟨_, inner, ho, _⟩ := h
      rcases ho.2 with ⟨hv', h2⟩ | ⟨g', cap', cur, hv', _⟩
      · omega
      · injection hv' with ha; exact ⟨g', ha⟩
    have hA2 : A1 = some ⟨g, i * d.sz, none⟩ := by
      rw [hA1, if_neg hic]
      simp only [Option.map_some]
      congr 1
      unfold Addr.add
      by_cases h0 : i * d.sz = 0
      · simp [h0]
      · simp [h0]
    subst hA2
    have hl : (Builtin.zeroCells z.cells m).toList.length = m * d.sz := by simp [Builtin.zeroCells, hz]
    have hone : ∀ u ∈ (Builtin.zeroCells z.cells m).toList, u.oneCell' = true := by
      intro u hu
      obtain ⟨j, hj, rfl⟩ := List.mem_iff_getElem.mp hu
      have hzp : 0 < z.cells.size := by
        rcases Nat.eq_zero_or_pos z.cells.size with h0 | h0
        · rw [hl] at hj; rw [← hz, h0] at hj; omega
        · exact h0
      have hjm : j % z.cells.size < z.cells.size := Nat.mod_lt _ hzp
      simp only [Builtin.zeroCells, Array.toList_map, List.getElem_map, Array.getElem_toList, Array.getElem_range, Array.getElem!_eq_getD, Array.getD, hjm, dif_pos]
      exact h1 _ (by simp)
    have hcell : ∀ j, j < m * d.sz → (W.cell? ⟨g, i * d.sz + j, none⟩).isSome = true ∧ W.frozen? ⟨g, i * d.sz + j, none⟩ = false := by
      intro j hj
      obtain ⟨_, inner, ho, _⟩ := h
      rcases ho.2 with ⟨hv', _⟩ | ⟨g', cap', cur, hv', hb, hh, hnc', hcm, hcs, _⟩
      · cases hv'
      injection hv' with ha _ hc
      injection ha with ha
      injection ha with hg
      subst hg; subst hc
      refine ⟨?_, blk_frozen hh _⟩
      rw [cell_of_row W g _ cur e (0, 0) hh]
      have : i * d.sz + j < cur.size := by
        have h3 : i * d.sz + m * d.sz = (i + m) * d.sz := (Nat.add_mul _ _ _).symm
        have h4 : (i + m) * d.sz ≤ c * d.sz := Nat.mul_le_mul_right _ (by omega)
        omega
      simp [this]
    have hli : (xs.take i).length = i := by rw [List.length_take]; omega
    obtain ⟨hr2, hg2⟩ := R_past ht_ (i * d.sz) (Builtin.zeroCells z.cells m).toList (Nat.le_refl _) (by
      rw [hl, ← Nat.add_mul]; exact Nat.mul_le_mul_right _ (by omega))
    refine ⟨_, run_clear_cells g (i * d.sz) m c1 W t te ty z ht hv hone hp (fun j hj => (hcell j (by omega)).1) (fun j hj => (hcell j (by omega)).2), hr2, ?_, hg2⟩
    have hbg : base ≤ g := Kd.R_base h g (by simp [Value.ownBlock])
    refine HB.trans ⟨hg2.os, hg2.tape, hg2.output, hg2.size, fun k hk => ?_⟩
    have hlt : k < W.heap.size ∨ W.heap.size ≤ k := Nat.lt_or_ge _ _
    rcases hlt with hlt | hge
    · exact hg2.block k hlt (fun he => by injection he with he; omega)
    · exact setCells_far _ _ k (by omega)
theorem clear_event {rest : List Oper} {o : Oper} {a : Act} {W : World} {R : World → Prop} (t : TypeId) (x : Operand) (ho : o.op = .call { callee := .builtin .clear, args := #[x], argTypes := #[t] }) (hN : o.dst = none) (hgd : o.guard = none) {v : Value} (hx : a.eval x = v)
    (hrun : ∃ W2, (Builtin.clear_ #[t] o.type #[v]).run P W = .ok (.tuple #[]) W2 ∧ R W2) (h : ∀ W2, R W2 → wpList P ops Q rest a W2) : wpList P ops Q (o :: rest) a W := by
  obtain ⟨W2, h1, h2⟩ := hrun
  refine wpList_plain hgd fun K hK => ?_
  unfold Oper.wp execOp
  simp [ho, hx, h1, resolve, invoke, builtin]
  show K (a.put o.dst _) W2
  rw [hN]
  exact hK a _ (h W2 h2)
end
end Go.Proofs.Ytkhfgflcanmefaa.PAll
end
section
namespace Go.Proofs.Ytkhfgflcanmefaa.PAll
open Go.RowKit Go.Proofs.YtkhfgflcanmefaaW.PrintWords Go.Proofs.YtkhfgflcanmefaaW.PrintLast Go.Proofs.YtkhfgflcanmefaaW.PrintMore
set_option linter.unusedVariables false
set_option linter.unusedSimpArgs false
section
variable {P : Program} {ops : Array Oper} {Q : Exit → Act → World → Prop} {α : Type}
theorem R_storeW {okp : Nat → Prop} (d : Kd α) {w0 W : World} {base : Nat} {oi : Oper} {a : Act} {t : TypeId} {p x : Operand} (ho : oi.op = .store t p x) {e : TypeId} {g n cap o' : Nat} (i : Int) {xs : List α} (z x' : α) {u : Value} (seg : List Value) {ok : Nat → Prop}
    (haddr : a.eval p = .pointer (some ⟨g, o', none⟩)) (hoff : o' = i.toNat * d.sz) (hx : a.eval x = u) (hu : u.cells.toList = seg) (ht : (P.info? t).map (·.size) = some seg.length) (hs : seg.length = d.sz) (h1 : ∀ q ∈ seg, q.oneCell' = true)
    (HO : d.R e W base ok (.slice (some ⟨g, 0, none⟩) n cap) xs) (h0 : 0 ≤ i) (hi : i < n) (hM : d.M W base okp x' seg) (hokp : ∀ k, okp k → ok k ∧ k ≠ g) (HB : Below base w0 W) :
    ∃ w1, (execOp a.eval oi).run P W = .ok .skip w1 ∧ d.R e w1 base ok (.slice (some ⟨g, 0, none⟩) n cap) (xs.set i.toNat x') ∧ Below base w0 w1 ∧ W.grownBy w1 (some g) := by
  subst hoff
  have hnx : n = xs.length := (Kd.R_reads' HO).1
  obtain ⟨ce, hcl, hMe, hcc, hfr⟩ := Kd.R_elem HO z i h0 (by omega)
  have hM2 : d.M W base okp x' (ce.take 0 ++ seg ++ ce.drop (0 + seg.length)) := by
    rw [List.take_zero, List.nil_append, Nat.zero_add, hs, ← hcl, List.drop_length, List.append_nil]; exact hM
  obtain ⟨hrow, hg⟩ := Kd.R_seg HO i h0 hi hcl hcc (by omega) hM2 hokp
  rw [Nat.add_zero] at hrow hg
  have hbg : base ≤ g := Kd.R_base HO g (by simp [Value.ownBlock])
  have HO2 := HO
  obtain ⟨_, inner, hown, hr⟩ := HO
  have hil : i.toNat < n := by omega
  have hB : Below base w0 (W.setCells g (i.toNat * d.sz) seg) := HB.trans ⟨hg.os, hg.tape, hg.output, hg.size, fun k hk => by
    have hlt : k < W.heap.size ∨ W.heap.size ≤ k := Nat.lt_or_ge _ _
    rcases hlt with hlt | hge
    · exact hg.block k hlt (fun he => by injection he with he; omega)
    · exact setCells_far seg _ k (by omega)⟩
  have hrun : (Instr.storeAt t (.pointer (some ⟨g, i.toNat * d.sz, none⟩)) u).run P W = .ok () (W.setCells g (i.toNat * d.sz) seg) := by
    rcases hown.2 with ⟨hv, _⟩ | ⟨g', cap', cur, hv, hb, hh, hnc, hcm, hcs, _⟩
    · cases hv
    injection hv with ha _ hc
    injection ha with ha
    injection ha with hg'
    subst hg'; subst hc
    refine run_store_run t u seg hh hu ht ?_ h1
    have h2 : i.toNat * d.sz + d.sz ≤ n * d.sz := by rw [← Nat.succ_mul]; exact Nat.mul_le_mul_right _ hil
    have h3 : n * d.sz ≤ cap * d.sz := Nat.mul_le_mul_right _ (by omega)
    omega
  refine ⟨_, ?_, hrow, hB, hg⟩
  unfold execOp
  simp only [ho, haddr, hx, Sem.run_bind, Sem.run_pure, Result.andThen_ok, hrun]
theorem storeW_ {okp : Nat → Prop} (d : Kd α) {w0 W : World} {base : Nat} {oi : Oper} {a : Act} {K : Act → World → Prop} {t : TypeId} {p x : Operand} {e : TypeId} {g n cap o' : Nat} (i : Int) {xs : List α} (z x' : α) {u : Value} (seg : List Value) {ok : Nat → Prop}
    (hw : Region.wanted oi (yielded ops a.tmps) = true) (hN : oi.dst = none) (ho : oi.op = .store t p x)
    (haddr : a.eval p = .pointer (some ⟨g, o', none⟩)) (hoff : o' = i.toNat * d.sz) (hx : a.eval x = u) (hu : u.cells.toList = seg) (ht : (P.info? t).map (·.size) = some seg.length) (hs : seg.length = d.sz) (h1 : ∀ q ∈ seg, q.oneCell' = true)
    (HO : d.R e W base ok (.slice (some ⟨g, 0, none⟩) n cap) xs) (h0 : 0 ≤ i) (hi : i < n) (hM : d.M W base okp x' seg) (hokp : ∀ k, okp k → ok k ∧ k ≠ g) (HB : Below base w0 W)
    (h : ∀ w1, d.R e w1 base ok (.slice (some ⟨g, 0, none⟩) n cap) (xs.set i.toNat x') → Below base w0 w1 → W.grownBy w1 (some g) → K a w1) :
    if Region.wanted oi (yielded ops a.tmps) = true then Oper.wp P oi a W K Q else K (a.put none undef) W := by
  obtain ⟨w1, h1_, h2, h3, h4⟩ := R_storeW (P := P) d ho i z x' seg haddr hoff hx hu ht hs h1 HO h0 hi hM hokp HB
  exact skip_ hw hN h1_ (h w1 h2 h3 h4)
theorem one12 {a b c d e f g h i j k : Int} {A : Option Addr} {n m : Nat} : ∀ q ∈ [Value.int .i64 a, .int .i64 b, .int .i64 c, .int .i64 d, .int .i64 e, .int .i64 f, .int .i64 g, .int .i64 h, .int .i64 i, .int .i64 j, .int .i64 k, .slice A n m], q.oneCell' = true := by
  intro q hq
  simp only [List.mem_cons, List.not_mem_nil, or_false] at hq
  rcases hq with h | h | h | h | h | h | h | h | h | h | h | h <;> (rw [h]; rfl)
end
end Go.Proofs.Ytkhfgflcanmefaa.PAll
end
section
namespace Go.Proofs.Ytkhfgflcanmefaa.PAll
open Go.RowKit Go.Proofs.YtkhfgflcanmefaaW.PrintWords Go.Proofs.YtkhfgflcanmefaaW.PrintLast Go.Proofs.YtkhfgflcanmefaaW.PrintMore
attribute [local go_sem] max2_int min2_int max_two min_two max_three min_three max_four min_four   -- for this text's walks alone
set_option linter.unusedVariables false
set_option linter.unusedSimpArgs false

def job_running_1.f (a0_0 : Int) (a0_1 : Int) (a0_2 : Int) (a0_3 : Int) (a0_4 : Int) (a0_5 : Int) (a0_6 : Int) (a0_7 : Int) (a0_8 : Int) (a0_9 : Int) (a0_10 : Int) (a0_11 : SH) : Option (Bool) := some (a0_7 != 3)
set_option maxHeartbeats 8000000 in
set_option maxRecDepth 100000 in
theorem job_running_1.calls (a0_0 : Int) (a0_1 : Int) (a0_2 : Int) (a0_3 : Int) (a0_4 : Int) (a0_5 : Int) (a0_6 : Int) (a0_7 : Int) (a0_8 : Int) (a0_9 : Int) (a0_10 : Int) (a0_11 : SH) (r : Bool) (w : World) (h : job_running_1.f a0_0 a0_1 a0_2 a0_3 a0_4 a0_5 a0_6 a0_7 a0_8 a0_9 a0_10 a0_11 = some r) :
    Calls Try.prog 57 #[.agg #[.int .i64 a0_0, .int .i64 a0_1, .int .i64 a0_2, .int .i64 a0_3, .int .i64 a0_4, .int .i64 a0_5, .int .i64 a0_6, .int .i64 a0_7, .int .i64 a0_8, .int .i64 a0_9, .int .i64 a0_10, .slice a0_11.A a0_11.n a0_11.c]] w fun e w' => e = .returned (.bool r) ∧ Below w.heap.size w w' := by
  have hu32 := Try.underlying32
  have HB := Aside0.mk (Below.refl w.heap.size w)
  have H : (some (a0_7 != 3)) = some r := h
  clear h
  obtain rfl := Option.some.inj H
  go_enter Try.func57, Try.ntmps57
  go_wp2_with (first | ((with_reducible refine gate_dst (N := 1) rfl ?_); refine box_event ?hg (N := 1) ?hd (cs := #[.int .i64 a0_0, .int .i64 a0_1, .int .i64 a0_2, .int .i64 a0_3, .int .i64 a0_4, .int .i64 a0_5, .int .i64 a0_6, .int .i64 a0_7, .int .i64 a0_8, .int .i64 a0_9, .int .i64 a0_10, .slice a0_11.A a0_11.n a0_11.c]) (t := 32) ?hr ?_; (case hd => rfl); (case hg => rfl); (case hr => first | (go_simp; done) | (go_simp; rfl)); intro gb209 hg w2 hbox hb; have n0_ := Aside0.mk (below_step (by repeat (first | (with_reducible first | exact HB.out | apply below_alloc | apply pw_below_drewN | apply below_drew1) | exact HB.out)) hb); have n1_ := Aside0.mk (hbox); have n2_ := Aside0.mk ((by rw [hg]; exact (below_size (by repeat (first | (with_reducible first | exact HB.out | apply below_alloc | apply pw_below_drewN | apply below_drew1) | exact HB.out))) : w.heap.size ≤ gb209)); have n3_ := Aside0.mk ((by rw [hg]; exact (below_size (by repeat (first | (with_reducible first | exact HB.out | apply below_alloc | apply pw_below_drewN | apply below_drew1) | exact HB.out))) : w.heap.size ≤ gb209)); clear HB; have HB := n0_; have BK209 := n1_; have GW209 := n2_; have GE209 := n3_; clear n0_ n1_ n2_ n3_; clear hb hbox hg; have hcz3_0 : w2.cell? ⟨gb209, 0, none⟩ = some (.int .i64 a0_0) := (blk_cell BK209.out 0).trans rfl; have hcz3_1 : w2.cell? ⟨gb209, 1, none⟩ = some (.int .i64 a0_1) := (blk_cell BK209.out 1).trans rfl; have hcz3_2 : w2.cell? ⟨gb209, 2, none⟩ = some (.int .i64 a0_2) := (blk_cell BK209.out 2).trans rfl; have hcz3_3 : w2.cell? ⟨gb209, 3, none⟩ = some (.int .i64 a0_3) := (blk_cell BK209.out 3).trans rfl; have hcz3_4 : w2.cell? ⟨gb209, 4, none⟩ = some (.int .i64 a0_4) := (blk_cell BK209.out 4).trans rfl; have hcz3_5 : w2.cell? ⟨gb209, 5, none⟩ = some (.int .i64 a0_5) := (blk_cell BK209.out 5).trans rfl; have hcz3_6 : w2.cell? ⟨gb209, 6, none⟩ = some (.int .i64 a0_6) := (blk_cell BK209.out 6).trans rfl; have hcz3_7 : w2.cell? ⟨gb209, 7, none⟩ = some (.int .i64 a0_7) := (blk_cell BK209.out 7).trans rfl; have hcz3_8 : w2.cell? ⟨gb209, 8, none⟩ = some (.int .i64 a0_8) := (blk_cell BK209.out 8).trans rfl; have hcz3_9 : w2.cell? ⟨gb209, 9, none⟩ = some (.int .i64 a0_9) := (blk_cell BK209.out 9).trans rfl; have hcz3_10 : w2.cell? ⟨gb209, 10, none⟩ = some (.int .i64 a0_10) := (blk_cell BK209.out 10).trans rfl; have hcz3_11 : w2.cell? ⟨gb209, 11, none⟩ = some (.slice a0_11.A a0_11.n a0_11.c) := (blk_cell BK209.out 11).trans rfl; have hfz3_0 := blk_frozen BK209.out 0; have hfz3_1 := blk_frozen BK209.out 1; have hfz3_2 := blk_frozen BK209.out 2; have hfz3_3 := blk_frozen BK209.out 3; have hfz3_4 := blk_frozen BK209.out 4; have hfz3_5 := blk_frozen BK209.out 5; have hfz3_6 := blk_frozen BK209.out 6; have hfz3_7 := blk_frozen BK209.out 7; have hfz3_8 := blk_frozen BK209.out 8; have hfz3_9 := blk_frozen BK209.out 9; have hfz3_10 := blk_frozen BK209.out 10; have hfz3_11 := blk_frozen BK209.out 11))
  go_ret
  exact ⟨by first | rfl | (simp [errW_none, errW_some] <;> rfl) | (simp [*, errW_none, errW_some] <;> rfl), by repeat (first | (with_reducible first | exact HB.out | apply below_alloc | apply pw_below_drewN | apply below_drew1 | refine below_set ?_ GE209.out) | exact HB.out)⟩

end Go.Proofs.Ytkhfgflcanmefaa.PAll
end
section
namespace Go.Proofs.Ytkhfgflcanmefaa.PAll
open Go.RowKit Go.Proofs.YtkhfgflcanmefaaW.PrintWords Go.Proofs.YtkhfgflcanmefaaW.PrintLast Go.Proofs.YtkhfgflcanmefaaW.PrintMore
attribute [local go_sem] max2_int min2_int max_two min_two max_three min_three max_four min_four   -- for this text's walks alone
set_option linter.unusedVariables false
set_option linter.unusedSimpArgs false

def slices_IndexFunc_Job__job_running_1.l0 : Nat → List (S32) → Int → Int → Option (Int)
  | 0, _, _, _ => none
  | k + 1, x0, x7, x8 => if x8 < x7 then (if 0 ≤ x8 then (if x8 < (x0.length : Int) then ((job_running_1.f ((rd_T32 x0 x8).f0) ((rd_T32 x0 x8).f1) ((rd_T32 x0 x8).f2) ((rd_T32 x0 x8).f3) ((rd_T32 x0 x8).f4) ((rd_T32 x0 x8).f5) ((rd_T32 x0 x8).f6) ((rd_T32 x0 x8).f7) ((rd_T32 x0 x8).f8) ((rd_T32 x0 x8).f9) ((rd_T32 x0 x8).f10) ((rd_T32 x0 x8).f11)).bind fun t211 => (if t211 = true then (some x8) else (slices_IndexFunc_Job__job_running_1.l0 k x0 x7 (wrap64 (x8 + 1))))) else (none)) else (none)) else (some (-1))
def slices_IndexFunc_Job__job_running_1.f (k : Nat) (l0 : List (S32))  : Option (Int) := slices_IndexFunc_Job__job_running_1.l0 k l0 (l0.length : Int) 0
theorem slices_IndexFunc_Job__job_running_1.mono_l : ∀ k, (∀ y0 y1 y2, LeO (slices_IndexFunc_Job__job_running_1.l0 k y0 y1 y2) (slices_IndexFunc_Job__job_running_1.l0 (k + 1) y0 y1 y2))
  | 0 => fun _ _ _ r h => by simp [slices_IndexFunc_Job__job_running_1.l0] at h
  | k + 1 => by
    have ih0 := slices_IndexFunc_Job__job_running_1.mono_l k
    · intro y0 y1 y2
      unfold slices_IndexFunc_Job__job_running_1.l0
      repeat' first
      | (with_reducible exact ih0 _ _ _)
      | (with_reducible exact LeO.refl _)
      | (with_reducible exact LeO.none _)
      | (with_reducible refine LeO.ite ?_ ?_)
      | (with_reducible refine LeO.bind ?_ (fun _ => ?_))
      | exact ih0 _ _ _
      | exact LeO.none _
      | refine LeO.ite ?_ ?_
      | refine LeO.bind ?_ (fun _ => ?_)
theorem slices_IndexFunc_Job__job_running_1.mono : ∀ a0 k, LeO (slices_IndexFunc_Job__job_running_1.f k a0) (slices_IndexFunc_Job__job_running_1.f (k + 1) a0) := by
  intro a0 k
  have ih0 := slices_IndexFunc_Job__job_running_1.mono_l k
  unfold slices_IndexFunc_Job__job_running_1.f
  repeat' first
      | (with_reducible exact ih0 _ _ _)
      | (with_reducible exact LeO.refl _)
      | (with_reducible exact LeO.none _)
      | (with_reducible refine LeO.ite ?_ ?_)
      | (with_reducible refine LeO.bind ?_ (fun _ => ?_))
      | exact ih0 _ _ _
      | exact LeO.none _
      | refine LeO.ite ?_ ?_
      | refine LeO.bind ?_ (fun _ => ?_)
set_option maxHeartbeats 8000000 in
set_option maxRecDepth 100000 in
theorem slices_IndexFunc_Job__job_running_1.calls (k : Nat) (A0 : Option Addr) (c0 : Nat) (l0 : List (S32))  (r : Int) (w : World) (hr0 : Kd.C k32 w A0 l0.length l0) (hc0 : l0.length ≤ c0) (h : slices_IndexFunc_Job__job_running_1.f k l0 = some r) :
    Calls Try.prog 39 #[.slice A0 l0.length c0, .func (.func 57) #[] #[]] w fun e w' => e = .returned (.int .i64 r) ∧ Below w.heap.size w w' := by
  have hu32 := Try.underlying32
  have HR0 := Aside0.mk hr0
  have HC0 := Aside0.mk hc0
  clear hr0 hc0
  have HB := Aside0.mk (Below.refl w.heap.size w)
  have H : (slices_IndexFunc_Job__job_running_1.l0 k l0 (l0.length : Int) 0) = some r := h
  clear h
  have H' := Aside0.mk H
  clear H
  go_enter Try.func39, Try.ntmps39
  go_wp2
  go_loopg [8] k (fun kq v8 w' => ∃ (x8_1 : Int), v8 = .int .i64 x8_1 ∧ Aside0 (slices_IndexFunc_Job__job_running_1.l0 kq l0 (l0.length : Int) x8_1 = some r) ∧ Aside0 (kq ≤ k) ∧ Aside0 (Below w.heap.size w w'))
  case atStart => exact ⟨(0), (by first | rfl | (simp; done) | (simp [*]; done)), H', ⟨Nat.le_refl _⟩, ⟨by repeat (first | (with_reducible first | exact HB.out | apply below_alloc | apply pw_below_drewN | apply below_drew1) | exact HB.out)⟩⟩
  case round =>
    clear H'
    try clear p2
    obtain ⟨x8_1, rfl, HA, HK1, HB⟩ := hrel
    cases gk with
    | zero => exact absurd HA.out (by simp [slices_IndexFunc_Job__job_running_1.l0])
    | succ k1 =>
      have H := HA.out
      clear HA
      simp only [slices_IndexFunc_Job__job_running_1.l0] at H
      by_cases c3 : x8_1 < (l0.length : Int)
      · rw [if_pos c3] at H
        have c3b0 : decide (x8_1 < (l0.length : Int)) = true := decide_eq_true c3
        clear c3
        by_cases c4 : 0 ≤ x8_1
        · rw [if_pos c4] at H
          have c4b0 : decide (0 ≤ x8_1) = true := decide_eq_true c4
          clear c4
          by_cases c5 : x8_1 < (l0.length : Int)
          · rw [if_pos c5] at H
            have c5b0 : decide (x8_1 < (l0.length : Int)) = true := decide_eq_true c5
            clear c5
            replace H := Option.bind_eq_some_iff.mp H
            obtain ⟨t211, A60, H⟩ := H
            replace H : (if t211 = true then (some x8_1) else (slices_IndexFunc_Job__job_running_1.l0 k1 l0 (l0.length : Int) (wrap64 (x8_1 + 1)))) = some r := H
            have A6 := Aside0.mk A60
            clear A60
            by_cases c7 : t211 = true
            · subst c7
              have H1 : (some x8_1) = some r := by rw [if_pos rfl] at H; exact H
              clear H
              have H := H1
              clear H1
              obtain rfl := Option.some.inj H
              have p210 : 0 ≤ (x8_1 : Int) := of_decide_eq_true (by first | (with_reducible assumption) | assumption)
              have q210 : x8_1 < (l0.length : Int) := of_decide_eq_true (by first | (with_reducible assumption) | assumption)
              obtain ⟨ad210, e210, hx210_0, hx210_1, hx210_2, hx210_3, hx210_4, hx210_5, hx210_6, hx210_7, hx210_8, hx210_9, hx210_10, hx210_11⟩ := at_T32 HR0.out x8_1 p210 q210
              cases e210
              replace hx210_0 := (HB.out.cell (World.block_lt_of_cell? w _ hx210_0)).trans hx210_0
              replace hx210_1 := (HB.out.cell (World.block_lt_of_cell? w _ hx210_1)).trans hx210_1
              replace hx210_2 := (HB.out.cell (World.block_lt_of_cell? w _ hx210_2)).trans hx210_2
              replace hx210_3 := (HB.out.cell (World.block_lt_of_cell? w _ hx210_3)).trans hx210_3
              replace hx210_4 := (HB.out.cell (World.block_lt_of_cell? w _ hx210_4)).trans hx210_4
              replace hx210_5 := (HB.out.cell (World.block_lt_of_cell? w _ hx210_5)).trans hx210_5
              replace hx210_6 := (HB.out.cell (World.block_lt_of_cell? w _ hx210_6)).trans hx210_6
              replace hx210_7 := (HB.out.cell (World.block_lt_of_cell? w _ hx210_7)).trans hx210_7
              replace hx210_8 := (HB.out.cell (World.block_lt_of_cell? w _ hx210_8)).trans hx210_8
              replace hx210_9 := (HB.out.cell (World.block_lt_of_cell? w _ hx210_9)).trans hx210_9
              replace hx210_10 := (HB.out.cell (World.block_lt_of_cell? w _ hx210_10)).trans hx210_10
              replace hx210_11 := (HB.out.cell (World.block_lt_of_cell? w _ hx210_11)).trans hx210_11
              replace p210 := eq_true p210
              replace q210 := eq_true q210
              go_wp2_with (first | (go_at_call 57; (with_reducible refine (job_running_1.calls ((rd_T32 l0 x8_1).f0) ((rd_T32 l0 x8_1).f1) ((rd_T32 l0 x8_1).f2) ((rd_T32 l0 x8_1).f3) ((rd_T32 l0 x8_1).f4) ((rd_T32 l0 x8_1).f5) ((rd_T32 l0 x8_1).f6) ((rd_T32 l0 x8_1).f7) ((rd_T32 l0 x8_1).f8) ((rd_T32 l0 x8_1).f9) ((rd_T32 l0 x8_1).f10) ((rd_T32 l0 x8_1).f11) true _ A6.out).mono ?_); rintro e w8 ⟨rfl, hb⟩; have n0_ := Aside0.mk (below_step (by repeat (first | (with_reducible first | exact HB.out | apply below_alloc | apply pw_below_drewN | apply below_drew1) | exact HB.out)) hb); clear HB; have HB := n0_; clear n0_; (try clear hb); (try clear hb2); (try clear hk); (try clear hi)))
              go_ret
              exact ⟨by first | rfl | (simp [errW_none, errW_some] <;> rfl) | (simp [*, errW_none, errW_some] <;> rfl), by repeat (first | (with_reducible first | exact HB.out | apply below_alloc | apply pw_below_drewN | apply below_drew1) | exact HB.out)⟩
            · replace c7 := Bool.eq_false_iff.mpr c7
              subst c7
              have H1 : (slices_IndexFunc_Job__job_running_1.l0 k1 l0 (l0.length : Int) (wrap64 (x8_1 + 1))) = some r := by rw [if_neg (show ¬ (false = true) by decide)] at H; exact H
              clear H
              have H := H1
              clear H1
              have H' := Aside0.mk H
              clear H
              have p210 : 0 ≤ (x8_1 : Int) := of_decide_eq_true (by first | (with_reducible assumption) | assumption)
              have q210 : x8_1 < (l0.length : Int) := of_decide_eq_true (by first | (with_reducible assumption) | assumption)
              obtain ⟨ad210, e210, hx210_0, hx210_1, hx210_2, hx210_3, hx210_4, hx210_5, hx210_6, hx210_7, hx210_8, hx210_9, hx210_10, hx210_11⟩ := at_T32 HR0.out x8_1 p210 q210
              cases e210
              replace hx210_0 := (HB.out.cell (World.block_lt_of_cell? w _ hx210_0)).trans hx210_0
              replace hx210_1 := (HB.out.cell (World.block_lt_of_cell? w _ hx210_1)).trans hx210_1
              replace hx210_2 := (HB.out.cell (World.block_lt_of_cell? w _ hx210_2)).trans hx210_2
              replace hx210_3 := (HB.out.cell (World.block_lt_of_cell? w _ hx210_3)).trans hx210_3
              replace hx210_4 := (HB.out.cell (World.block_lt_of_cell? w _ hx210_4)).trans hx210_4
              replace hx210_5 := (HB.out.cell (World.block_lt_of_cell? w _ hx210_5)).trans hx210_5
              replace hx210_6 := (HB.out.cell (World.block_lt_of_cell? w _ hx210_6)).trans hx210_6
              replace hx210_7 := (HB.out.cell (World.block_lt_of_cell? w _ hx210_7)).trans hx210_7
              replace hx210_8 := (HB.out.cell (World.block_lt_of_cell? w _ hx210_8)).trans hx210_8
              replace hx210_9 := (HB.out.cell (World.block_lt_of_cell? w _ hx210_9)).trans hx210_9
              replace hx210_10 := (HB.out.cell (World.block_lt_of_cell? w _ hx210_10)).trans hx210_10
              replace hx210_11 := (HB.out.cell (World.block_lt_of_cell? w _ hx210_11)).trans hx210_11
              replace p210 := eq_true p210
              replace q210 := eq_true q210
              go_wp2_with (first | (go_at_call 57; (with_reducible refine (job_running_1.calls ((rd_T32 l0 x8_1).f0) ((rd_T32 l0 x8_1).f1) ((rd_T32 l0 x8_1).f2) ((rd_T32 l0 x8_1).f3) ((rd_T32 l0 x8_1).f4) ((rd_T32 l0 x8_1).f5) ((rd_T32 l0 x8_1).f6) ((rd_T32 l0 x8_1).f7) ((rd_T32 l0 x8_1).f8) ((rd_T32 l0 x8_1).f9) ((rd_T32 l0 x8_1).f10) ((rd_T32 l0 x8_1).f11) false _ A6.out).mono ?_); rintro e w9 ⟨rfl, hb⟩; have n0_ := Aside0.mk (below_step (by repeat (first | (with_reducible first | exact HB.out | apply below_alloc | apply pw_below_drewN | apply below_drew1) | exact HB.out)) hb); clear HB; have HB := n0_; clear n0_; (try clear hb); (try clear hb2); (try clear hk); (try clear hi)))
              go_roundg k1
              case measure => have := HK1.out; omega
              case rel => exact ⟨(wrap64 (x8_1 + 1)), (by first | rfl | (simp; done) | (simp [*]; done)), H', ⟨by have := HK1.out; omega⟩, ⟨by repeat (first | (with_reducible first | exact HB.out | apply below_alloc | apply pw_below_drewN | apply below_drew1) | exact HB.out)⟩⟩
          · rw [if_neg c5] at H
            exact absurd H (by simp)
        · rw [if_neg c4] at H
          exact absurd H (by simp)
      · rw [if_neg c3] at H
        have c3b0 : decide (x8_1 < (l0.length : Int)) = false := decide_eq_false c3
        clear c3
        obtain rfl := Option.some.inj H
        go_wp2
        go_ret
        exact ⟨by first | rfl | (simp [errW_none, errW_some] <;> rfl) | (simp [*, errW_none, errW_some] <;> rfl), by repeat (first | (with_reducible first | exact HB.out | apply below_alloc | apply pw_below_drewN | apply below_drew1) | exact HB.out)⟩

end Go.Proofs.Ytkhfgflcanmefaa.PAll
end
section
namespace Go.Proofs.Ytkhfgflcanmefaa.PAll
open Go.RowKit Go.Proofs.YtkhfgflcanmefaaW.PrintWords Go.Proofs.YtkhfgflcanmefaaW.PrintLast Go.Proofs.YtkhfgflcanmefaaW.PrintMore
attribute [local go_sem] max2_int min2_int max_two min_two max_three min_three max_four min_four   -- for this text's walks alone
set_option linter.unusedVariables false
set_option linter.unusedSimpArgs false

def slices_DeleteFunc_Job__job_running_1.l0 : Nat → List (S32) → Int → Int → Option ((List (S32)))
 | 0, _, _, _ => none
 | k + 1, x0, x5, x6 => if x6 < (x0.length : Int) then (if 0 ≤ x6 then ((job_running_1.f ((rd_T32 x0 x6).f0) ((rd_T32 x0 x6).f1) ((rd_T32 x0 x6).f2) ((rd_T32 x0 x6).f3) ((rd_T32 x0 x6).f4) ((rd_T32 x0 x6).f5) ((rd_T32 x0 x6).f6) ((rd_T32 x0 x6).f7) ((rd_T32 x0 x6).f8) ((rd_T32 x0 x6).f9) ((rd_T32 x0 x6).f10) ((rd_T32 x0 x6).f11)).bind fun t215 => (if t215 = true then (slices_DeleteFunc_Job__job_running_1.l0 k x0 x5 (wrap64 (x6 + 1))) else (if 0 ≤ x5 then (if x5 < (x0.length : Int) then (slices_DeleteFunc_Job__job_running_1.l0 k (x0.set (x5 : Int).toNat (⟨(rd_T32 x0 x6).f0, (rd_T32 x0 x6).f1, (rd_T32 x0 x6).f2, (rd_T32 x0 x6).f3, (rd_T32 x0 x6).f4, (rd_T32 x0 x6).f5, (rd_T32 x0 x6).f6, (rd_T32 x0 x6).f7, (rd_T32 x0 x6).f8, (rd_T32 x0 x6).f9, (rd_T32 x0 x6).f10, (rd_T32 x0 x6).f11⟩ : S32)) (wrap64 (x5 + 1)) (wrap64 (x6 + 1))) else (none)) else (none)))) else (none)) else (if 0 ≤ x5 then (if x5 ≤ (x0.length : Int) then (some (x0.take (x5 : Int).toNat)) else (none)) else (none))
def slices_DeleteFunc_Job__job_running_1.f (k : Nat) (l0 : List (S32))  : Option ((List (S32))) := (slices_IndexFunc_Job__job_running_1.f k l0).bind fun t212 => (if t212 = (-1) then (some l0) else (slices_DeleteFunc_Job__job_running_1.l0 k l0 t212 (wrap64 (t212 + 1))))
theorem slices_DeleteFunc_Job__job_running_1.mono_l : ∀ k, (∀ y0 y1 y2, LeO (slices_DeleteFunc_Job__job_running_1.l0 k y0 y1 y2) (slices_DeleteFunc_Job__job_running_1.l0 (k + 1) y0 y1 y2))
 | 0 => fun _ _ _ r h => by simp [slices_DeleteFunc_Job__job_running_1.l0] at h
 | k + 1 => by
  have ih0 := slices_DeleteFunc_Job__job_running_1.mono_l k
  ·intro y0 y1 y2
   unfold slices_DeleteFunc_Job__job_running_1.l0
   repeat' first
   | (with_reducible exact ih0 _ _ _)
   | (with_reducible exact slices_IndexFunc_Job__job_running_1.mono _ _)
   | (with_reducible exact LeO.refl _)
   | (with_reducible exact LeO.none _)
   | (with_reducible refine LeO.ite ?_ ?_)
   | (with_reducible refine LeO.bind ?_ (fun _ => ?_))
   | exact ih0 _ _ _
   | exact slices_IndexFunc_Job__job_running_1.mono _ _
   | exact LeO.none _
   | refine LeO.ite ?_ ?_
   | refine LeO.bind ?_ (fun _ => ?_)
theorem slices_DeleteFunc_Job__job_running_1.mono : ∀ a0 k, LeO (slices_DeleteFunc_Job__job_running_1.f k a0) (slices_DeleteFunc_Job__job_running_1.f (k + 1) a0) := by
 intro a0 k
 have ih0 := slices_DeleteFunc_Job__job_running_1.mono_l k
 unfold slices_DeleteFunc_Job__job_running_1.f
 repeat' first
   | (with_reducible exact ih0 _ _ _)
   | (with_reducible exact slices_IndexFunc_Job__job_running_1.mono _ _)
   | (with_reducible exact LeO.refl _)
   | (with_reducible exact LeO.none _)
   | (with_reducible refine LeO.ite ?_ ?_)
   | (with_reducible refine LeO.bind ?_ (fun _ => ?_))
   | exact ih0 _ _ _
   | exact slices_IndexFunc_Job__job_running_1.mono _ _
   | exact LeO.none _
   | refine LeO.ite ?_ ?_
   | refine LeO.bind ?_ (fun _ => ?_)
set_option maxHeartbeats 8000000 in
set_option maxRecDepth 100000 in
theorem slices_DeleteFunc_Job__job_running_1.calls (k : Nat) (P0_ : Nat → Prop) (u9000_ : Value) (l0 : List (S32))  (r : List (S32)) (w0 w : World) (hB : Below w0.heap.size w0 w) (ho0 : Kd.R k32 32 w w0.heap.size P0_ u9000_ l0) (h : slices_DeleteFunc_Job__job_running_1.f k l0 = some r) :
  Calls Try.prog 55 #[u9000_, .func (.func 57) #[] #[]] w fun e w' => ∃ v0_ : Value, e = .returned (v0_) ∧ Kd.R k32 32 w' w0.heap.size (fun k_ => (P0_ k_ ∨ w.heap.size ≤ k_)) v0_ r ∧ Below w0.heap.size w0 w' ∧ Kept w w' (fun k_ => P0_ k_) := by
 have hu32 := Try.underlying32
 have HO0 := Aside0.mk (show Kd.R k32 32 w w0.heap.size (fun k_ => (P0_ k_ ∨ w.heap.size ≤ k_)) u9000_ l0 from Kd.R_mono ho0 (fun k_ hk => (.inl hk)))
 have HK := Aside0.mk (Kept.refl w (fun k_ => P0_ k_))
 have HW0 := Aside0.mk hB.size
 have HB := Aside0.mk hB
 clear hB
 have H : ((slices_IndexFunc_Job__job_running_1.f k l0).bind fun t212 => (if t212 = (-1) then (some l0) else (slices_DeleteFunc_Job__job_running_1.l0 k l0 t212 (wrap64 (t212 + 1))))) = some r := h
 clear h
 replace H := Option.bind_eq_some_iff.mp H
 obtain ⟨t212, A30, H⟩ := H
 replace H : (if t212 = (-1) then (some l0) else (slices_DeleteFunc_Job__job_running_1.l0 k l0 t212 (wrap64 (t212 + 1)))) = some r := H
 have A3 := Aside0.mk A30
 clear A30
 by_cases c4 : t212 = (-1)
 ·rw [if_pos c4] at H
  have c4b0 : (t212 == (-1)) = true := beq_iff_eq.mpr c4
  have c4b1 : (t212 != (-1)) = false := bne_eq_false_iff_eq.mpr c4
  clear c4
  obtain rfl := Option.some.inj H
  obtain ⟨Ao5, co5, eo5⟩ := Kd.R_slice HO0.out
  subst eo5
  go_enter Try.func55, Try.ntmps55
  go_wp2_with (first | ((with_reducible refine gate_callee (f := 39) rfl ?_); refine goesL_ (some 10) rfl rfl Try.func39 (by kernel_rfl) rfl #[.slice Ao5 l0.length co5, .func (.func 57) #[] #[]] rfl mt ?_; (with_reducible refine (slices_IndexFunc_Job__job_running_1.calls k _ _ l0  t212 _ ?side1 ?side2 A3.out).mono ?_); (case side1 => exact mC (Kd.R_reads' HO0.out).2.2); (case side2 => exact (Kd.R_reads' HO0.out).2.1); rintro e w6 ⟨rfl, hb⟩; refine ⟨_, rfl, ?_⟩; have n0_ := Aside0.mk (Kd.R_below (mR HO0.out) hb); have n1_ := Aside0.mk (Kept.below (S := (fun k_ => P0_ k_)) (mK HK.out) hb); have n2_ := Aside0.mk (below_step (mB HB.out) hb); clear HO0; clear HK; clear HB; have HO0 := n0_; have HK := n1_; have HB := n2_; clear n0_ n1_ n2_; (try clear hb); (try clear hb2); (try clear hk); (try clear hi)))
  go_ret
  exact ⟨_, by first | rfl | (simp [errW_none, errW_some] <;> rfl) | (simp [*, errW_none, errW_some] <;> rfl), mR HO0.out, by repeat (first | (with_reducible first | exact HB.out | apply below_alloc | apply pw_below_drewN | apply below_drew1) | exact HB.out), by repeat (first | (with_reducible first | exact HK.out | apply Kept.alloc | apply Kept.drewN | apply Kept.drew) | exact HK.out)⟩
 ·rw [if_neg c4] at H
  have c4b0 : (t212 == (-1)) = false := beq_eq_false_iff_ne.mpr c4
  have c4b1 : (t212 != (-1)) = true := bne_iff_ne.mpr c4
  have H' := Aside0.mk H
  clear H
  obtain ⟨Ao7, co7, eo7⟩ := Kd.R_slice HO0.out
  subst eo7
  go_enter Try.func55, Try.ntmps55
  go_wp2_with (first | ((with_reducible refine gate_callee (f := 39) rfl ?_); refine goesL_ (some 10) rfl rfl Try.func39 (by kernel_rfl) rfl #[.slice Ao7 l0.length co7, .func (.func 57) #[] #[]] rfl mt ?_; (with_reducible refine (slices_IndexFunc_Job__job_running_1.calls k _ _ l0  t212 _ ?side1 ?side2 A3.out).mono ?_); (case side1 => exact mC (Kd.R_reads' HO0.out).2.2); (case side2 => exact (Kd.R_reads' HO0.out).2.1); rintro e w8 ⟨rfl, hb⟩; refine ⟨_, rfl, ?_⟩; have n0_ := Aside0.mk (Kd.R_below (mR HO0.out) hb); have n1_ := Aside0.mk (Kept.below (S := (fun k_ => P0_ k_)) (mK HK.out) hb); have n2_ := Aside0.mk (below_step (mB HB.out) hb); clear HO0; clear HK; clear HB; have HO0 := n0_; have HK := n1_; have HB := n2_; clear n0_ n1_ n2_; (try clear hb); (try clear hb2); (try clear hk); (try clear hi)))
  go_loopg [5, 6] k (fun kq v5 v6 w' => ∃ (x0_1 : List (S32)) (x5_1 : Int) (x6_1 : Int), v5 = .int .i64 x5_1 ∧ v6 = .int .i64 x6_1 ∧ Aside0 (slices_DeleteFunc_Job__job_running_1.l0 kq x0_1 x5_1 x6_1 = some r) ∧ Aside0 (kq ≤ k) ∧ Aside0 (Kd.R k32 32 w' w0.heap.size (fun k_ => (P0_ k_ ∨ w.heap.size ≤ k_)) (.slice Ao7 l0.length co7) x0_1) ∧ Aside0 (Kept w w' (fun k_ => P0_ k_)) ∧ Aside0 (Below w0.heap.size w0 w'))
  case atStart => exact ⟨(l0), (t212), (wrap64 (t212 + 1)), ez, ez, H', ⟨Nat.le_refl _⟩, ⟨mR HO0.out⟩, ⟨mK HK.out⟩, ⟨mB HB.out⟩⟩
  case round =>
   clear H'
   (try clear p2); (try clear c4); (try clear c4b0); (try clear c4b1); (try clear p6); (try clear c7)
   obtain ⟨x0_1, x5_1, x6_1, rfl, rfl, HA, HK1, HO_0, HK, HB⟩ := hrel
   have hl0_1 := (Kd.R_reads' HO_0.out).1
   rw [hl0_1] at HO_0
   (try simp only [hl0_1])
   cases gk with
   | zero => exact absurd HA.out (by simp [slices_DeleteFunc_Job__job_running_1.l0])
   | succ k1 =>
    have H := HA.out
    clear HA
    simp only [slices_DeleteFunc_Job__job_running_1.l0] at H
    by_cases c9 : x6_1 < (x0_1.length : Int)
    ·rw [if_pos c9] at H
     have c9b0 : decide (x6_1 < (x0_1.length : Int)) = true := decide_eq_true c9
     clear c9
     by_cases c10 : 0 ≤ x6_1
     ·rw [if_pos c10] at H
      have c10b0 : decide (0 ≤ x6_1) = true := decide_eq_true c10
      clear c10
      replace H := Option.bind_eq_some_iff.mp H
      obtain ⟨t215, A110, H⟩ := H
      replace H : (if t215 = true then (slices_DeleteFunc_Job__job_running_1.l0 k1 x0_1 x5_1 (wrap64 (x6_1 + 1))) else (if 0 ≤ x5_1 then (if x5_1 < (x0_1.length : Int) then (slices_DeleteFunc_Job__job_running_1.l0 k1 (x0_1.set (x5_1 : Int).toNat (⟨(rd_T32 x0_1 x6_1).f0, (rd_T32 x0_1 x6_1).f1, (rd_T32 x0_1 x6_1).f2, (rd_T32 x0_1 x6_1).f3, (rd_T32 x0_1 x6_1).f4, (rd_T32 x0_1 x6_1).f5, (rd_T32 x0_1 x6_1).f6, (rd_T32 x0_1 x6_1).f7, (rd_T32 x0_1 x6_1).f8, (rd_T32 x0_1 x6_1).f9, (rd_T32 x0_1 x6_1).f10, (rd_T32 x0_1 x6_1).f11⟩ : S32)) (wrap64 (x5_1 + 1)) (wrap64 (x6_1 + 1))) else (none)) else (none))) = some r := H
      have A11 := Aside0.mk A110
      clear A110
      by_cases c12 : t215 = true
      ·subst c12
       have H1 : (slices_DeleteFunc_Job__job_running_1.l0 k1 x0_1 x5_1 (wrap64 (x6_1 + 1))) = some r := by rw [if_pos rfl] at H; exact H
       clear H
       have H := H1
       clear H1
       have H' := Aside0.mk H
       clear H
       have p213 : 0 ≤ (x6_1 : Int) := oda
       have q213 : x6_1 < (x0_1.length : Int) := oda
       obtain ⟨ad213, e213, hx213_0, hx213_1, hx213_2, hx213_3, hx213_4, hx213_5, hx213_6, hx213_7, hx213_8, hx213_9, hx213_10, hx213_11⟩ := at_T32 (Kd.R_reads' HO_0.out).2.2 x6_1 p213 q213
       cases e213
       replace p213 := eq_true p213
       replace q213 := eq_true q213
       go_wp2_with (first | ((with_reducible refine gate_dst (N := 7) rfl ?_); refine box_event ?hg (N := 7) ?hd (cs := #[.int .i64 0, .int .i64 0, .int .i64 0, .int .i64 0, .int .i64 0, .int .i64 0, .int .i64 0, .int .i64 0, .int .i64 0, .int .i64 0, .int .i64 0, .slice none 0 0]) (t := 32) ?hr ?_; (case hd => rfl); (case hg => rfl); (case hr => first | (go_simp; done) | (go_simp; rfl)); intro gb214 hg w13 hbox hb; have n0_ := Aside0.mk (Kd.R_below (Kd.R_elderB (mR HO_0.out) gb214 (Nat.le_of_eq hg.symm)) hb); have n1_ := Aside0.mk (Kept.below (S := (fun k_ => P0_ k_)) (mK HK.out) hb); have n2_ := Aside0.mk (below_step (mB HB.out) hb); have n3_ := Aside0.mk (hbox); have n4_ := Aside0.mk ((by rw [hg]; exact (by first | exact HK.out.1 | exact (show Kept w _ (fun k_ => P0_ k_) from by repeat (first | (with_reducible first | exact HK.out | apply Kept.alloc | apply Kept.drewN | apply Kept.drew) | exact HK.out)).1) : w.heap.size ≤ gb214)); have n5_ := Aside0.mk ((by rw [hg]; exact (below_size (mB HB.out)) : w0.heap.size ≤ gb214)); clear HO_0; clear HK; clear HB; have HO_0 := n0_; have HK := n1_; have HB := n2_; have BK214 := n3_; have GW214 := n4_; have GE214 := n5_; clear n0_ n1_ n2_ n3_ n4_ n5_; clear hb hbox hg; have hcz14_0 : w13.cell? ⟨gb214, 0, none⟩ = some (.int .i64 0) := (blk_cell BK214.out 0).trans rfl; have hcz14_1 : w13.cell? ⟨gb214, 1, none⟩ = some (.int .i64 0) := (blk_cell BK214.out 1).trans rfl; have hcz14_2 : w13.cell? ⟨gb214, 2, none⟩ = some (.int .i64 0) := (blk_cell BK214.out 2).trans rfl; have hcz14_3 : w13.cell? ⟨gb214, 3, none⟩ = some (.int .i64 0) := (blk_cell BK214.out 3).trans rfl; have hcz14_4 : w13.cell? ⟨gb214, 4, none⟩ = some (.int .i64 0) := (blk_cell BK214.out 4).trans rfl; have hcz14_5 : w13.cell? ⟨gb214, 5, none⟩ = some (.int .i64 0) := (blk_cell BK214.out 5).trans rfl; have hcz14_6 : w13.cell? ⟨gb214, 6, none⟩ = some (.int .i64 0) := (blk_cell BK214.out 6).trans rfl; have hcz14_7 : w13.cell? ⟨gb214, 7, none⟩ = some (.int .i64 0) := (blk_cell BK214.out 7).trans rfl; have hcz14_8 : w13.cell? ⟨gb214, 8, none⟩ = some (.int .i64 0) := (blk_cell BK214.out 8).trans rfl; have hcz14_9 : w13.cell? ⟨gb214, 9, none⟩ = some (.int .i64 0) := (blk_cell BK214.out 9).trans rfl; have hcz14_10 : w13.cell? ⟨gb214, 10, none⟩ = some (.int .i64 0) := (blk_cell BK214.out 10).trans rfl; have hcz14_11 : w13.cell? ⟨gb214, 11, none⟩ = some (.slice none 0 0) := (blk_cell BK214.out 11).trans rfl; have hfz14_0 := blk_frozen BK214.out 0; have hfz14_1 := blk_frozen BK214.out 1; have hfz14_2 := blk_frozen BK214.out 2; have hfz14_3 := blk_frozen BK214.out 3; have hfz14_4 := blk_frozen BK214.out 4; have hfz14_5 := blk_frozen BK214.out 5; have hfz14_6 := blk_frozen BK214.out 6; have hfz14_7 := blk_frozen BK214.out 7; have hfz14_8 := blk_frozen BK214.out 8; have hfz14_9 := blk_frozen BK214.out 9; have hfz14_10 := blk_frozen BK214.out 10; have hfz14_11 := blk_frozen BK214.out 11) | (go_at_call 57; (with_reducible refine (job_running_1.calls ((rd_T32 x0_1 x6_1).f0) ((rd_T32 x0_1 x6_1).f1) ((rd_T32 x0_1 x6_1).f2) ((rd_T32 x0_1 x6_1).f3) ((rd_T32 x0_1 x6_1).f4) ((rd_T32 x0_1 x6_1).f5) ((rd_T32 x0_1 x6_1).f6) ((rd_T32 x0_1 x6_1).f7) ((rd_T32 x0_1 x6_1).f8) ((rd_T32 x0_1 x6_1).f9) ((rd_T32 x0_1 x6_1).f10) ((rd_T32 x0_1 x6_1).f11) true _ A11.out).mono ?_); rintro e w15 ⟨rfl, hb⟩; have n0_ := Aside0.mk (Kd.R_below (by (with_reducible repeat (first | apply Kd.R_alloc | apply Kd.R_drewN | apply Kd.R_drew)); exact (Kd.R_mono (Kd.R_fa gb214 11 (Kd.R_fa gb214 10 (Kd.R_fa gb214 9 (Kd.R_fa gb214 8 (Kd.R_fa gb214 7 (Kd.R_fa gb214 6 (Kd.R_fa gb214 5 (Kd.R_fa gb214 4 (Kd.R_fa gb214 3 (Kd.R_fa gb214 2 (Kd.R_fa gb214 1 (Kd.R_fa gb214 0 (Kd.R_mono HO_0.out (fun k_ hk => (⟨hk, hk.2⟩ : _ ∧ k_ ≠ gb214))) (.int .i64 ((rd_T32 x0_1 x6_1).f0))) (.int .i64 ((rd_T32 x0_1 x6_1).f1))) (.int .i64 ((rd_T32 x0_1 x6_1).f2))) (.int .i64 ((rd_T32 x0_1 x6_1).f3))) (.int .i64 ((rd_T32 x0_1 x6_1).f4))) (.int .i64 ((rd_T32 x0_1 x6_1).f5))) (.int .i64 ((rd_T32 x0_1 x6_1).f6))) (.int .i64 ((rd_T32 x0_1 x6_1).f7))) (.int .i64 ((rd_T32 x0_1 x6_1).f8))) (.int .i64 ((rd_T32 x0_1 x6_1).f9))) (.int .i64 ((rd_T32 x0_1 x6_1).f10))) (.slice ((rd_T32 x0_1 x6_1).f11).A ((rd_T32 x0_1 x6_1).f11).n ((rd_T32 x0_1 x6_1).f11).c)) (fun _ h_ => h_.1))) hb); have n1_ := Aside0.mk (blk_below (g := gb214) (o := .cells (cJ (rd_T32 x0_1 x6_1)) 32 (0, 0)) (by (with_reducible repeat first | apply blk_drewN | apply blk_drew | apply blk_alloc); refine blk_put (cs := #[.int .i64 ((rd_T32 x0_1 x6_1).f0), .int .i64 ((rd_T32 x0_1 x6_1).f1), .int .i64 ((rd_T32 x0_1 x6_1).f2), .int .i64 ((rd_T32 x0_1 x6_1).f3), .int .i64 ((rd_T32 x0_1 x6_1).f4), .int .i64 ((rd_T32 x0_1 x6_1).f5), .int .i64 ((rd_T32 x0_1 x6_1).f6), .int .i64 ((rd_T32 x0_1 x6_1).f7), .int .i64 ((rd_T32 x0_1 x6_1).f8), .int .i64 ((rd_T32 x0_1 x6_1).f9), .int .i64 ((rd_T32 x0_1 x6_1).f10), .slice none 0 0]) ?_ 11 _ rfl; (with_reducible repeat first | apply blk_drewN | apply blk_drew | apply blk_alloc); refine blk_put (cs := #[.int .i64 ((rd_T32 x0_1 x6_1).f0), .int .i64 ((rd_T32 x0_1 x6_1).f1), .int .i64 ((rd_T32 x0_1 x6_1).f2), .int .i64 ((rd_T32 x0_1 x6_1).f3), .int .i64 ((rd_T32 x0_1 x6_1).f4), .int .i64 ((rd_T32 x0_1 x6_1).f5), .int .i64 ((rd_T32 x0_1 x6_1).f6), .int .i64 ((rd_T32 x0_1 x6_1).f7), .int .i64 ((rd_T32 x0_1 x6_1).f8), .int .i64 ((rd_T32 x0_1 x6_1).f9), .int .i64 0, .slice none 0 0]) ?_ 10 _ rfl; (with_reducible repeat first | apply blk_drewN | apply blk_drew | apply blk_alloc); refine blk_put (cs := #[.int .i64 ((rd_T32 x0_1 x6_1).f0), .int .i64 ((rd_T32 x0_1 x6_1).f1), .int .i64 ((rd_T32 x0_1 x6_1).f2), .int .i64 ((rd_T32 x0_1 x6_1).f3), .int .i64 ((rd_T32 x0_1 x6_1).f4), .int .i64 ((rd_T32 x0_1 x6_1).f5), .int .i64 ((rd_T32 x0_1 x6_1).f6), .int .i64 ((rd_T32 x0_1 x6_1).f7), .int .i64 ((rd_T32 x0_1 x6_1).f8), .int .i64 0, .int .i64 0, .slice none 0 0]) ?_ 9 _ rfl; (with_reducible repeat first | apply blk_drewN | apply blk_drew | apply blk_alloc); refine blk_put (cs := #[.int .i64 ((rd_T32 x0_1 x6_1).f0), .int .i64 ((rd_T32 x0_1 x6_1).f1), .int .i64 ((rd_T32 x0_1 x6_1).f2), .int .i64 ((rd_T32 x0_1 x6_1).f3), .int .i64 ((rd_T32 x0_1 x6_1).f4), .int .i64 ((rd_T32 x0_1 x6_1).f5), .int .i64 ((rd_T32 x0_1 x6_1).f6), .int .i64 ((rd_T32 x0_1 x6_1).f7), .int .i64 0, .int .i64 0, .int .i64 0, .slice none 0 0]) ?_ 8 _ rfl; (with_reducible repeat first | apply blk_drewN | apply blk_drew | apply blk_alloc); refine blk_put (cs := #[.int .i64 ((rd_T32 x0_1 x6_1).f0), .int .i64 ((rd_T32 x0_1 x6_1).f1), .int .i64 ((rd_T32 x0_1 x6_1).f2), .int .i64 ((rd_T32 x0_1 x6_1).f3), .int .i64 ((rd_T32 x0_1 x6_1).f4), .int .i64 ((rd_T32 x0_1 x6_1).f5), .int .i64 ((rd_T32 x0_1 x6_1).f6), .int .i64 0, .int .i64 0, .int .i64 0, .int .i64 0, .slice none 0 0]) ?_ 7 _ rfl; (with_reducible repeat first | apply blk_drewN | apply blk_drew | apply blk_alloc); refine blk_put (cs := #[.int .i64 ((rd_T32 x0_1 x6_1).f0), .int .i64 ((rd_T32 x0_1 x6_1).f1), .int .i64 ((rd_T32 x0_1 x6_1).f2), .int .i64 ((rd_T32 x0_1 x6_1).f3), .int .i64 ((rd_T32 x0_1 x6_1).f4), .int .i64 ((rd_T32 x0_1 x6_1).f5), .int .i64 0, .int .i64 0, .int .i64 0, .int .i64 0, .int .i64 0, .slice none 0 0]) ?_ 6 _ rfl; (with_reducible repeat first | apply blk_drewN | apply blk_drew | apply blk_alloc); refine blk_put (cs := #[.int .i64 ((rd_T32 x0_1 x6_1).f0), .int .i64 ((rd_T32 x0_1 x6_1).f1), .int .i64 ((rd_T32 x0_1 x6_1).f2), .int .i64 ((rd_T32 x0_1 x6_1).f3), .int .i64 ((rd_T32 x0_1 x6_1).f4), .int .i64 0, .int .i64 0, .int .i64 0, .int .i64 0, .int .i64 0, .int .i64 0, .slice none 0 0]) ?_ 5 _ rfl; (with_reducible repeat first | apply blk_drewN | apply blk_drew | apply blk_alloc); refine blk_put (cs := #[.int .i64 ((rd_T32 x0_1 x6_1).f0), .int .i64 ((rd_T32 x0_1 x6_1).f1), .int .i64 ((rd_T32 x0_1 x6_1).f2), .int .i64 ((rd_T32 x0_1 x6_1).f3), .int .i64 0, .int .i64 0, .int .i64 0, .int .i64 0, .int .i64 0, .int .i64 0, .int .i64 0, .slice none 0 0]) ?_ 4 _ rfl; (with_reducible repeat first | apply blk_drewN | apply blk_drew | apply blk_alloc); refine blk_put (cs := #[.int .i64 ((rd_T32 x0_1 x6_1).f0), .int .i64 ((rd_T32 x0_1 x6_1).f1), .int .i64 ((rd_T32 x0_1 x6_1).f2), .int .i64 0, .int .i64 0, .int .i64 0, .int .i64 0, .int .i64 0, .int .i64 0, .int .i64 0, .int .i64 0, .slice none 0 0]) ?_ 3 _ rfl; (with_reducible repeat first | apply blk_drewN | apply blk_drew | apply blk_alloc); refine blk_put (cs := #[.int .i64 ((rd_T32 x0_1 x6_1).f0), .int .i64 ((rd_T32 x0_1 x6_1).f1), .int .i64 0, .int .i64 0, .int .i64 0, .int .i64 0, .int .i64 0, .int .i64 0, .int .i64 0, .int .i64 0, .int .i64 0, .slice none 0 0]) ?_ 2 _ rfl; (with_reducible repeat first | apply blk_drewN | apply blk_drew | apply blk_alloc); refine blk_put (cs := #[.int .i64 ((rd_T32 x0_1 x6_1).f0), .int .i64 0, .int .i64 0, .int .i64 0, .int .i64 0, .int .i64 0, .int .i64 0, .int .i64 0, .int .i64 0, .int .i64 0, .int .i64 0, .slice none 0 0]) ?_ 1 _ rfl; (with_reducible repeat first | apply blk_drewN | apply blk_drew | apply blk_alloc); refine blk_put (cs := #[.int .i64 0, .int .i64 0, .int .i64 0, .int .i64 0, .int .i64 0, .int .i64 0, .int .i64 0, .int .i64 0, .int .i64 0, .int .i64 0, .int .i64 0, .slice none 0 0]) ?_ 0 _ rfl; (with_reducible repeat first | apply blk_drewN | apply blk_drew | apply blk_alloc); exact BK214.out) hb); have n2_ := Aside0.mk (Kept.below (S := (fun k_ => P0_ k_)) (by repeat (first | (with_reducible first | exact HK.out | apply Kept.alloc | apply Kept.drewN | apply Kept.drew | refine Kept.setCell ?_ (.inr GW214.out) _) | exact HK.out)) hb); have n3_ := Aside0.mk (below_step (mBs HB.out) hb); clear HO_0; clear BK214; clear HK; clear HB; have HO_0 := n0_; have BK214 := n1_; have HK := n2_; have HB := n3_; clear n0_ n1_ n2_ n3_; (try clear hb); (try clear hb2); (try clear hk); (try clear hi)))
       (try simp only [← hl0_1])
       go_roundg k1
       case measure => have := HK1.out; omega
       case rel => exact ⟨(x0_1), (x5_1), (wrap64 (x6_1 + 1)), ez, ez, H', ⟨by have := HK1.out; omega⟩, ⟨by (try simp only [hl0_1]); (with_reducible repeat (first | apply Kd.R_alloc | apply Kd.R_drewN | apply Kd.R_drew)); exact Kd.R_mono HO_0.out (fun _ hk => hk.1)⟩, ⟨by repeat (first | (with_reducible first | exact HK.out | apply Kept.alloc | apply Kept.drewN | apply Kept.drew | refine Kept.setCell ?_ (.inr GW214.out) _) | exact HK.out)⟩, ⟨mBs HB.out⟩⟩
      ·replace c12 := Bool.eq_false_iff.mpr c12
       subst c12
       have H1 : (if 0 ≤ x5_1 then (if x5_1 < (x0_1.length : Int) then (slices_DeleteFunc_Job__job_running_1.l0 k1 (x0_1.set (x5_1 : Int).toNat (⟨(rd_T32 x0_1 x6_1).f0, (rd_T32 x0_1 x6_1).f1, (rd_T32 x0_1 x6_1).f2, (rd_T32 x0_1 x6_1).f3, (rd_T32 x0_1 x6_1).f4, (rd_T32 x0_1 x6_1).f5, (rd_T32 x0_1 x6_1).f6, (rd_T32 x0_1 x6_1).f7, (rd_T32 x0_1 x6_1).f8, (rd_T32 x0_1 x6_1).f9, (rd_T32 x0_1 x6_1).f10, (rd_T32 x0_1 x6_1).f11⟩ : S32)) (wrap64 (x5_1 + 1)) (wrap64 (x6_1 + 1))) else (none)) else (none)) = some r := by rw [if_neg (show ¬ (false = true) by decide)] at H; exact H
       clear H
       have H := H1
       clear H1
       by_cases c16 : 0 ≤ x5_1
       ·rw [if_pos c16] at H
        have c16b0 : decide (0 ≤ x5_1) = true := decide_eq_true c16
        clear c16
        by_cases c17 : x5_1 < (x0_1.length : Int)
        ·rw [if_pos c17] at H
         have c17b0 : decide (x5_1 < (x0_1.length : Int)) = true := decide_eq_true c17
         clear c17
         obtain ⟨y216, hy216⟩ : ∃ y_ : List (S32), y_ = (x0_1.set (x5_1 : Int).toNat (⟨(rd_T32 x0_1 x6_1).f0, (rd_T32 x0_1 x6_1).f1, (rd_T32 x0_1 x6_1).f2, (rd_T32 x0_1 x6_1).f3, (rd_T32 x0_1 x6_1).f4, (rd_T32 x0_1 x6_1).f5, (rd_T32 x0_1 x6_1).f6, (rd_T32 x0_1 x6_1).f7, (rd_T32 x0_1 x6_1).f8, (rd_T32 x0_1 x6_1).f9, (rd_T32 x0_1 x6_1).f10, (rd_T32 x0_1 x6_1).f11⟩ : S32)) := ⟨_, rfl⟩
         replace H : (slices_DeleteFunc_Job__job_running_1.l0 k1 y216 (wrap64 (x5_1 + 1)) (wrap64 (x6_1 + 1))) = some r := mH hy216 H
         have Ny216 := Aside0.mk hy216
         clear hy216
         have H' := Aside0.mk H
         clear H
         have p213 : 0 ≤ (x6_1 : Int) := oda
         have q213 : x6_1 < (x0_1.length : Int) := oda
         obtain ⟨ad213, e213, hx213_0, hx213_1, hx213_2, hx213_3, hx213_4, hx213_5, hx213_6, hx213_7, hx213_8, hx213_9, hx213_10, hx213_11⟩ := at_T32 (Kd.R_reads' HO_0.out).2.2 x6_1 p213 q213
         cases e213
         replace p213 := eq_true p213
         replace q213 := eq_true q213
         go_wp2_with (first | ((with_reducible refine gate_dst (N := 7) rfl ?_); refine box_event ?hg (N := 7) ?hd (cs := #[.int .i64 0, .int .i64 0, .int .i64 0, .int .i64 0, .int .i64 0, .int .i64 0, .int .i64 0, .int .i64 0, .int .i64 0, .int .i64 0, .int .i64 0, .slice none 0 0]) (t := 32) ?hr ?_; (case hd => rfl); (case hg => rfl); (case hr => first | (go_simp; done) | (go_simp; rfl)); intro gb214 hg w19 hbox hb; have n0_ := Aside0.mk (Kd.R_below (Kd.R_elderB (mR HO_0.out) gb214 (Nat.le_of_eq hg.symm)) hb); have n1_ := Aside0.mk (Kept.below (S := (fun k_ => P0_ k_)) (mK HK.out) hb); have n2_ := Aside0.mk (below_step (mB HB.out) hb); have n3_ := Aside0.mk (hbox); have n4_ := Aside0.mk ((by rw [hg]; exact (by first | exact HK.out.1 | exact (show Kept w _ (fun k_ => P0_ k_) from by repeat (first | (with_reducible first | exact HK.out | apply Kept.alloc | apply Kept.drewN | apply Kept.drew) | exact HK.out)).1) : w.heap.size ≤ gb214)); have n5_ := Aside0.mk ((by rw [hg]; exact (below_size (mB HB.out)) : w0.heap.size ≤ gb214)); clear HO_0; clear HK; clear HB; have HO_0 := n0_; have HK := n1_; have HB := n2_; have BK214 := n3_; have GW214 := n4_; have GE214 := n5_; clear n0_ n1_ n2_ n3_ n4_ n5_; clear hb hbox hg; have hcz20_0 : w19.cell? ⟨gb214, 0, none⟩ = some (.int .i64 0) := (blk_cell BK214.out 0).trans rfl; have hcz20_1 : w19.cell? ⟨gb214, 1, none⟩ = some (.int .i64 0) := (blk_cell BK214.out 1).trans rfl; have hcz20_2 : w19.cell? ⟨gb214, 2, none⟩ = some (.int .i64 0) := (blk_cell BK214.out 2).trans rfl; have hcz20_3 : w19.cell? ⟨gb214, 3, none⟩ = some (.int .i64 0) := (blk_cell BK214.out 3).trans rfl; have hcz20_4 : w19.cell? ⟨gb214, 4, none⟩ = some (.int .i64 0) := (blk_cell BK214.out 4).trans rfl; have hcz20_5 : w19.cell? ⟨gb214, 5, none⟩ = some (.int .i64 0) := (blk_cell BK214.out 5).trans rfl; have hcz20_6 : w19.cell? ⟨gb214, 6, none⟩ = some (.int .i64 0) := (blk_cell BK214.out 6).trans rfl; have hcz20_7 : w19.cell? ⟨gb214, 7, none⟩ = some (.int .i64 0) := (blk_cell BK214.out 7).trans rfl; have hcz20_8 : w19.cell? ⟨gb214, 8, none⟩ = some (.int .i64 0) := (blk_cell BK214.out 8).trans rfl; have hcz20_9 : w19.cell? ⟨gb214, 9, none⟩ = some (.int .i64 0) := (blk_cell BK214.out 9).trans rfl; have hcz20_10 : w19.cell? ⟨gb214, 10, none⟩ = some (.int .i64 0) := (blk_cell BK214.out 10).trans rfl; have hcz20_11 : w19.cell? ⟨gb214, 11, none⟩ = some (.slice none 0 0) := (blk_cell BK214.out 11).trans rfl; have hfz20_0 := blk_frozen BK214.out 0; have hfz20_1 := blk_frozen BK214.out 1; have hfz20_2 := blk_frozen BK214.out 2; have hfz20_3 := blk_frozen BK214.out 3; have hfz20_4 := blk_frozen BK214.out 4; have hfz20_5 := blk_frozen BK214.out 5; have hfz20_6 := blk_frozen BK214.out 6; have hfz20_7 := blk_frozen BK214.out 7; have hfz20_8 := blk_frozen BK214.out 8; have hfz20_9 := blk_frozen BK214.out 9; have hfz20_10 := blk_frozen BK214.out 10; have hfz20_11 := blk_frozen BK214.out 11) | (go_at_call 57; (with_reducible refine (job_running_1.calls ((rd_T32 x0_1 x6_1).f0) ((rd_T32 x0_1 x6_1).f1) ((rd_T32 x0_1 x6_1).f2) ((rd_T32 x0_1 x6_1).f3) ((rd_T32 x0_1 x6_1).f4) ((rd_T32 x0_1 x6_1).f5) ((rd_T32 x0_1 x6_1).f6) ((rd_T32 x0_1 x6_1).f7) ((rd_T32 x0_1 x6_1).f8) ((rd_T32 x0_1 x6_1).f9) ((rd_T32 x0_1 x6_1).f10) ((rd_T32 x0_1 x6_1).f11) false _ A11.out).mono ?_); rintro e w21 ⟨rfl, hb⟩; have n0_ := Aside0.mk (Kd.R_below (by (with_reducible repeat (first | apply Kd.R_alloc | apply Kd.R_drewN | apply Kd.R_drew)); exact (Kd.R_mono (Kd.R_fa gb214 11 (Kd.R_fa gb214 10 (Kd.R_fa gb214 9 (Kd.R_fa gb214 8 (Kd.R_fa gb214 7 (Kd.R_fa gb214 6 (Kd.R_fa gb214 5 (Kd.R_fa gb214 4 (Kd.R_fa gb214 3 (Kd.R_fa gb214 2 (Kd.R_fa gb214 1 (Kd.R_fa gb214 0 (Kd.R_mono HO_0.out (fun k_ hk => (⟨hk, hk.2⟩ : _ ∧ k_ ≠ gb214))) (.int .i64 ((rd_T32 x0_1 x6_1).f0))) (.int .i64 ((rd_T32 x0_1 x6_1).f1))) (.int .i64 ((rd_T32 x0_1 x6_1).f2))) (.int .i64 ((rd_T32 x0_1 x6_1).f3))) (.int .i64 ((rd_T32 x0_1 x6_1).f4))) (.int .i64 ((rd_T32 x0_1 x6_1).f5))) (.int .i64 ((rd_T32 x0_1 x6_1).f6))) (.int .i64 ((rd_T32 x0_1 x6_1).f7))) (.int .i64 ((rd_T32 x0_1 x6_1).f8))) (.int .i64 ((rd_T32 x0_1 x6_1).f9))) (.int .i64 ((rd_T32 x0_1 x6_1).f10))) (.slice ((rd_T32 x0_1 x6_1).f11).A ((rd_T32 x0_1 x6_1).f11).n ((rd_T32 x0_1 x6_1).f11).c)) (fun _ h_ => h_.1))) hb); have n1_ := Aside0.mk (blk_below (g := gb214) (o := .cells (cJ (rd_T32 x0_1 x6_1)) 32 (0, 0)) (by (with_reducible repeat first | apply blk_drewN | apply blk_drew | apply blk_alloc); refine blk_put (cs := #[.int .i64 ((rd_T32 x0_1 x6_1).f0), .int .i64 ((rd_T32 x0_1 x6_1).f1), .int .i64 ((rd_T32 x0_1 x6_1).f2), .int .i64 ((rd_T32 x0_1 x6_1).f3), .int .i64 ((rd_T32 x0_1 x6_1).f4), .int .i64 ((rd_T32 x0_1 x6_1).f5), .int .i64 ((rd_T32 x0_1 x6_1).f6), .int .i64 ((rd_T32 x0_1 x6_1).f7), .int .i64 ((rd_T32 x0_1 x6_1).f8), .int .i64 ((rd_T32 x0_1 x6_1).f9), .int .i64 ((rd_T32 x0_1 x6_1).f10), .slice none 0 0]) ?_ 11 _ rfl; (with_reducible repeat first | apply blk_drewN | apply blk_drew | apply blk_alloc); refine blk_put (cs := #[.int .i64 ((rd_T32 x0_1 x6_1).f0), .int .i64 ((rd_T32 x0_1 x6_1).f1), .int .i64 ((rd_T32 x0_1 x6_1).f2), .int .i64 ((rd_T32 x0_1 x6_1).f3), .int .i64 ((rd_T32 x0_1 x6_1).f4), .int .i64 ((rd_T32 x0_1 x6_1).f5), .int .i64 ((rd_T32 x0_1 x6_1).f6), .int .i64 ((rd_T32 x0_1 x6_1).f7), .int .i64 ((rd_T32 x0_1 x6_1).f8), .int .i64 ((rd_T32 x0_1 x6_1).f9), .int .i64 0, .slice none 0 0]) ?_ 10 _ rfl; (with_reducible repeat first | apply blk_drewN | apply blk_drew | apply blk_alloc); refine blk_put (cs := #[.int .i64 ((rd_T32 x0_1 x6_1).f0), .int .i64 ((rd_T32 x0_1 x6_1).f1), .int .i64 ((rd_T32 x0_1 x6_1).f2), .int .i64 ((rd_T32 x0_1 x6_1).f3), .int .i64 ((rd_T32 x0_1 x6_1).f4), .int .i64 ((rd_T32 x0_1 x6_1).f5), .int .i64 ((rd_T32 x0_1 x6_1).f6), .int .i64 ((rd_T32 x0_1 x6_1).f7), .int .i64 ((rd_T32 x0_1 x6_1).f8), .int .i64 0, .int .i64 0, .slice none 0 0]) ?_ 9 _ rfl; (with_reducible repeat first | apply blk_drewN | apply blk_drew | apply blk_alloc); refine blk_put (cs := #[.int .i64 ((rd_T32 x0_1 x6_1).f0), .int .i64 ((rd_T32 x0_1 x6_1).f1), .int .i64 ((rd_T32 x0_1 x6_1).f2), .int .i64 ((rd_T32 x0_1 x6_1).f3), .int .i64 ((rd_T32 x0_1 x6_1).f4), .int .i64 ((rd_T32 x0_1 x6_1).f5), .int .i64 ((rd_T32 x0_1 x6_1).f6), .int .i64 ((rd_T32 x0_1 x6_1).f7), .int .i64 0, .int .i64 0, .int .i64 0, .slice none 0 0]) ?_ 8 _ rfl; (with_reducible repeat first | apply blk_drewN | apply blk_drew | apply blk_alloc); refine blk_put (cs := #[.int .i64 ((rd_T32 x0_1 x6_1).f0), .int .i64 ((rd_T32 x0_1 x6_1).f1), .int .i64 ((rd_T32 x0_1 x6_1).f2), .int .i64 ((rd_T32 x0_1 x6_1).f3), .int .i64 ((rd_T32 x0_1 x6_1).f4), .int .i64 ((rd_T32 x0_1 x6_1).f5), .int .i64 ((rd_T32 x0_1 x6_1).f6), .int .i64 0, .int .i64 0, .int .i64 0, .int .i64 0, .slice none 0 0]) ?_ 7 _ rfl; (with_reducible repeat first | apply blk_drewN | apply blk_drew | apply blk_alloc); refine blk_put (cs := #[.int .i64 ((rd_T32 x0_1 x6_1).f0), .int .i64 ((rd_T32 x0_1 x6_1).f1), .int .i64 ((rd_T32 x0_1 x6_1).f2), .int .i64 ((rd_T32 x0_1 x6_1).f3), .int .i64 ((rd_T32 x0_1 x6_1).f4), .int .i64 ((rd_T32 x0_1 x6_1).f5), .int .i64 0, .int .i64 0, .int .i64 0, .int .i64 0, .int .i64 0, .slice none 0 0]) ?_ 6 _ rfl; (with_reducible repeat first | apply blk_drewN | apply blk_drew | apply blk_alloc); refine blk_put (cs := #[.int .i64 ((rd_T32 x0_1 x6_1).f0), .int .i64 ((rd_T32 x0_1 x6_1).f1), .int .i64 ((rd_T32 x0_1 x6_1).f2), .int .i64 ((rd_T32 x0_1 x6_1).f3), .int .i64 ((rd_T32 x0_1 x6_1).f4), .int .i64 0, .int .i64 0, .int .i64 0, .int .i64 0, .int .i64 0, .int .i64 0, .slice none 0 0]) ?_ 5 _ rfl; (with_reducible repeat first | apply blk_drewN | apply blk_drew | apply blk_alloc); refine blk_put (cs := #[.int .i64 ((rd_T32 x0_1 x6_1).f0), .int .i64 ((rd_T32 x0_1 x6_1).f1), .int .i64 ((rd_T32 x0_1 x6_1).f2), .int .i64 ((rd_T32 x0_1 x6_1).f3), .int .i64 0, .int .i64 0, .int .i64 0, .int .i64 0, .int .i64 0, .int .i64 0, .int .i64 0, .slice none 0 0]) ?_ 4 _ rfl; (with_reducible repeat first | apply blk_drewN | apply blk_drew | apply blk_alloc); refine blk_put (cs := #[.int .i64 ((rd_T32 x0_1 x6_1).f0), .int .i64 ((rd_T32 x0_1 x6_1).f1), .int .i64 ((rd_T32 x0_1 x6_1).f2), .int .i64 0, .int .i64 0, .int .i64 0, .int .i64 0, .int .i64 0, .int .i64 0, .int .i64 0, .int .i64 0, .slice none 0 0]) ?_ 3 _ rfl; (with_reducible repeat first | apply blk_drewN | apply blk_drew | apply blk_alloc); refine blk_put (cs := #[.int .i64 ((rd_T32 x0_1 x6_1).f0), .int .i64 ((rd_T32 x0_1 x6_1).f1), .int .i64 0, .int .i64 0, .int .i64 0, .int .i64 0, .int .i64 0, .int .i64 0, .int .i64 0, .int .i64 0, .int .i64 0, .slice none 0 0]) ?_ 2 _ rfl; (with_reducible repeat first | apply blk_drewN | apply blk_drew | apply blk_alloc); refine blk_put (cs := #[.int .i64 ((rd_T32 x0_1 x6_1).f0), .int .i64 0, .int .i64 0, .int .i64 0, .int .i64 0, .int .i64 0, .int .i64 0, .int .i64 0, .int .i64 0, .int .i64 0, .int .i64 0, .slice none 0 0]) ?_ 1 _ rfl; (with_reducible repeat first | apply blk_drewN | apply blk_drew | apply blk_alloc); refine blk_put (cs := #[.int .i64 0, .int .i64 0, .int .i64 0, .int .i64 0, .int .i64 0, .int .i64 0, .int .i64 0, .int .i64 0, .int .i64 0, .int .i64 0, .int .i64 0, .slice none 0 0]) ?_ 0 _ rfl; (with_reducible repeat first | apply blk_drewN | apply blk_drew | apply blk_alloc); exact BK214.out) hb); have n2_ := Aside0.mk (Kept.below (S := (fun k_ => P0_ k_)) (by repeat (first | (with_reducible first | exact HK.out | apply Kept.alloc | apply Kept.drewN | apply Kept.drew | refine Kept.setCell ?_ (.inr GW214.out) _) | exact HK.out)) hb); have n3_ := Aside0.mk (below_step (mBs HB.out) hb); clear HO_0; clear BK214; clear HK; clear HB; have HO_0 := n0_; have BK214 := n1_; have HK := n2_; have HB := n3_; clear n0_ n1_ n2_ n3_; (try clear hb); (try clear hb2); (try clear hk); (try clear hi); have hcz22_0 : w21.cell? ⟨gb214, 0, none⟩ = some (.int .i64 ((rd_T32 x0_1 x6_1).f0)) := (blk_cell BK214.out 0).trans rfl; have hcz22_1 : w21.cell? ⟨gb214, 1, none⟩ = some (.int .i64 ((rd_T32 x0_1 x6_1).f1)) := (blk_cell BK214.out 1).trans rfl; have hcz22_2 : w21.cell? ⟨gb214, 2, none⟩ = some (.int .i64 ((rd_T32 x0_1 x6_1).f2)) := (blk_cell BK214.out 2).trans rfl; have hcz22_3 : w21.cell? ⟨gb214, 3, none⟩ = some (.int .i64 ((rd_T32 x0_1 x6_1).f3)) := (blk_cell BK214.out 3).trans rfl; have hcz22_4 : w21.cell? ⟨gb214, 4, none⟩ = some (.int .i64 ((rd_T32 x0_1 x6_1).f4)) := (blk_cell BK214.out 4).trans rfl; have hcz22_5 : w21.cell? ⟨gb214, 5, none⟩ = some (.int .i64 ((rd_T32 x0_1 x6_1).f5)) := (blk_cell BK214.out 5).trans rfl; have hcz22_6 : w21.cell? ⟨gb214, 6, none⟩ = some (.int .i64 ((rd_T32 x0_1 x6_1).f6)) := (blk_cell BK214.out 6).trans rfl; have hcz22_7 : w21.cell? ⟨gb214, 7, none⟩ = some (.int .i64 ((rd_T32 x0_1 x6_1).f7)) := (blk_cell BK214.out 7).trans rfl; have hcz22_8 : w21.cell? ⟨gb214, 8, none⟩ = some (.int .i64 ((rd_T32 x0_1 x6_1).f8)) := (blk_cell BK214.out 8).trans rfl; have hcz22_9 : w21.cell? ⟨gb214, 9, none⟩ = some (.int .i64 ((rd_T32 x0_1 x6_1).f9)) := (blk_cell BK214.out 9).trans rfl; have hcz22_10 : w21.cell? ⟨gb214, 10, none⟩ = some (.int .i64 ((rd_T32 x0_1 x6_1).f10)) := (blk_cell BK214.out 10).trans rfl; have hcz22_11 : w21.cell? ⟨gb214, 11, none⟩ = some (.slice ((rd_T32 x0_1 x6_1).f11).A ((rd_T32 x0_1 x6_1).f11).n ((rd_T32 x0_1 x6_1).f11).c) := (blk_cell BK214.out 11).trans rfl; have hfz22_0 := blk_frozen BK214.out 0; have hfz22_1 := blk_frozen BK214.out 1; have hfz22_2 := blk_frozen BK214.out 2; have hfz22_3 := blk_frozen BK214.out 3; have hfz22_4 := blk_frozen BK214.out 4; have hfz22_5 := blk_frozen BK214.out 5; have hfz22_6 := blk_frozen BK214.out 6; have hfz22_7 := blk_frozen BK214.out 7; have hfz22_8 := blk_frozen BK214.out 8; have hfz22_9 := blk_frozen BK214.out 9; have hfz22_10 := blk_frozen BK214.out 10; have hfz22_11 := blk_frozen BK214.out 11; have p18 : 0 ≤ (x5_1 : Int) := oda; have q18 : (x5_1 : Int) < ((x0_1.length : Int) : Int) := oda; obtain ⟨go18, co18, eo18, gb18, gl18, cl18, HG18⟩ := Kd.R_form HO_0.out (by omega); (first | cases eo18 | (injection eo18 with ea_ en_ ec_; (first | subst ea_ | (injection ea_ with ea_; subst ea_)); subst ec_; clear en_)); have GB18 := Aside0.mk gb18; have GG18 := Aside0.mk HG18; clear gb18 gl18 HG18; have HMgo18 := Aside0.mk (show (P0_ go18 ∨ w.heap.size ≤ go18) from (HO_0.out.1 _ rfl).1); (first | simp only [add_plain] at hx213_0 | skip); (first | simp only [add_plain] at hx213_1 | skip); (first | simp only [add_plain] at hx213_2 | skip); (first | simp only [add_plain] at hx213_3 | skip); (first | simp only [add_plain] at hx213_4 | skip); (first | simp only [add_plain] at hx213_5 | skip); (first | simp only [add_plain] at hx213_6 | skip); (first | simp only [add_plain] at hx213_7 | skip); (first | simp only [add_plain] at hx213_8 | skip); (first | simp only [add_plain] at hx213_9 | skip); (first | simp only [add_plain] at hx213_10 | skip); (first | simp only [add_plain] at hx213_11 | skip); obtain ⟨ce18, hcl18, hM18, hcc18, hfr18⟩ := Kd.R_elem HO_0.out z32 (x5_1 : Int) p18 q18; obtain rfl := k32_openM hM18; have hx18_0 : w21.cell? ⟨go18, (x5_1 : Int).toNat * 12, none⟩ = some (.int .i64 ((rd_T32 x0_1 x5_1).f0)) := hcc18 0 _ rfl; have hx18_1 : w21.cell? ⟨go18, (x5_1 : Int).toNat * 12 + 1, none⟩ = some (.int .i64 ((rd_T32 x0_1 x5_1).f1)) := hcc18 1 _ rfl; have hx18_2 : w21.cell? ⟨go18, (x5_1 : Int).toNat * 12 + 2, none⟩ = some (.int .i64 ((rd_T32 x0_1 x5_1).f2)) := hcc18 2 _ rfl; have hx18_3 : w21.cell? ⟨go18, (x5_1 : Int).toNat * 12 + 3, none⟩ = some (.int .i64 ((rd_T32 x0_1 x5_1).f3)) := hcc18 3 _ rfl; have hx18_4 : w21.cell? ⟨go18, (x5_1 : Int).toNat * 12 + 4, none⟩ = some (.int .i64 ((rd_T32 x0_1 x5_1).f4)) := hcc18 4 _ rfl; have hx18_5 : w21.cell? ⟨go18, (x5_1 : Int).toNat * 12 + 5, none⟩ = some (.int .i64 ((rd_T32 x0_1 x5_1).f5)) := hcc18 5 _ rfl; have hx18_6 : w21.cell? ⟨go18, (x5_1 : Int).toNat * 12 + 6, none⟩ = some (.int .i64 ((rd_T32 x0_1 x5_1).f6)) := hcc18 6 _ rfl; have hx18_7 : w21.cell? ⟨go18, (x5_1 : Int).toNat * 12 + 7, none⟩ = some (.int .i64 ((rd_T32 x0_1 x5_1).f7)) := hcc18 7 _ rfl; have hx18_8 : w21.cell? ⟨go18, (x5_1 : Int).toNat * 12 + 8, none⟩ = some (.int .i64 ((rd_T32 x0_1 x5_1).f8)) := hcc18 8 _ rfl; have hx18_9 : w21.cell? ⟨go18, (x5_1 : Int).toNat * 12 + 9, none⟩ = some (.int .i64 ((rd_T32 x0_1 x5_1).f9)) := hcc18 9 _ rfl; have hx18_10 : w21.cell? ⟨go18, (x5_1 : Int).toNat * 12 + 10, none⟩ = some (.int .i64 ((rd_T32 x0_1 x5_1).f10)) := hcc18 10 _ rfl; have hx18_11 : w21.cell? ⟨go18, (x5_1 : Int).toNat * 12 + 11, none⟩ = some (.slice ((rd_T32 x0_1 x5_1).f11).A ((rd_T32 x0_1 x5_1).f11).n ((rd_T32 x0_1 x5_1).f11).c) := hcc18 11 _ rfl; have hf18_0 : w21.frozen? ⟨go18, (x5_1 : Int).toNat * 12, none⟩ = false := hfr18 0; have hf18_1 : w21.frozen? ⟨go18, (x5_1 : Int).toNat * 12 + 1, none⟩ = false := hfr18 1; have hf18_2 : w21.frozen? ⟨go18, (x5_1 : Int).toNat * 12 + 2, none⟩ = false := hfr18 2; have hf18_3 : w21.frozen? ⟨go18, (x5_1 : Int).toNat * 12 + 3, none⟩ = false := hfr18 3; have hf18_4 : w21.frozen? ⟨go18, (x5_1 : Int).toNat * 12 + 4, none⟩ = false := hfr18 4; have hf18_5 : w21.frozen? ⟨go18, (x5_1 : Int).toNat * 12 + 5, none⟩ = false := hfr18 5; have hf18_6 : w21.frozen? ⟨go18, (x5_1 : Int).toNat * 12 + 6, none⟩ = false := hfr18 6; have hf18_7 : w21.frozen? ⟨go18, (x5_1 : Int).toNat * 12 + 7, none⟩ = false := hfr18 7; have hf18_8 : w21.frozen? ⟨go18, (x5_1 : Int).toNat * 12 + 8, none⟩ = false := hfr18 8; have hf18_9 : w21.frozen? ⟨go18, (x5_1 : Int).toNat * 12 + 9, none⟩ = false := hfr18 9; have hf18_10 : w21.frozen? ⟨go18, (x5_1 : Int).toNat * 12 + 10, none⟩ = false := hfr18 10; have hf18_11 : w21.frozen? ⟨go18, (x5_1 : Int).toNat * 12 + 11, none⟩ = false := hfr18 11; clear hcl18 hcc18 hfr18 hM18; replace p18 := eq_true p18; replace q18 := eq_true q18; have HX23 := Aside0.mk (show Kd.R k32 32 w21 w0.heap.size (fun k_ => (P0_ k_ ∨ w.heap.size ≤ k_) ∧ k_ ≠ gb214) (.slice (some ⟨go18, 0, none⟩) x0_1.length co7) x0_1 from (mR HO_0.out)); obtain ⟨ce23, hcl23, hM23, hcc23, hfr23⟩ := Kd.R_elem HX23.out z32 (x5_1 : Int) (oda) (by have h_ : (x5_1 : Int) < ((x0_1.length : Int) : Int) := oda; first | exact h_ | (have e_ := (Kd.R_reads' HO_0.out).1; omega) | simpa using h_); obtain rfl := k32_openM hM23; have HP23 := Kd.R_seg HX23.out (x5_1 : Int) (oda) (by have h_ : (x5_1 : Int) < ((x0_1.length : Int) : Int) := oda; first | exact h_ | (have e_ := (Kd.R_reads' HO_0.out).1; omega) | simpa using h_) (seg := [.int .i64 ((rd_T32 x0_1 x6_1).f0), .int .i64 ((rd_T32 x0_1 x6_1).f1), .int .i64 ((rd_T32 x0_1 x6_1).f2), .int .i64 ((rd_T32 x0_1 x6_1).f3), .int .i64 ((rd_T32 x0_1 x6_1).f4), .int .i64 ((rd_T32 x0_1 x6_1).f5), .int .i64 ((rd_T32 x0_1 x6_1).f6), .int .i64 ((rd_T32 x0_1 x6_1).f7), .int .i64 ((rd_T32 x0_1 x6_1).f8), .int .i64 ((rd_T32 x0_1 x6_1).f9), .int .i64 ((rd_T32 x0_1 x6_1).f10), .slice ((rd_T32 x0_1 x6_1).f11).A ((rd_T32 x0_1 x6_1).f11).n ((rd_T32 x0_1 x6_1).f11).c]) (j := 0) hcl23 hcc23 (show 12 ≤ 12 from by decide) (x' := (⟨(rd_T32 x0_1 x6_1).f0, (rd_T32 x0_1 x6_1).f1, (rd_T32 x0_1 x6_1).f2, (rd_T32 x0_1 x6_1).f3, (rd_T32 x0_1 x6_1).f4, (rd_T32 x0_1 x6_1).f5, (rd_T32 x0_1 x6_1).f6, (rd_T32 x0_1 x6_1).f7, (rd_T32 x0_1 x6_1).f8, (rd_T32 x0_1 x6_1).f9, (rd_T32 x0_1 x6_1).f10, (rd_T32 x0_1 x6_1).f11⟩ : S32)) (k32_mkM _ _ _ (⟨(rd_T32 x0_1 x6_1).f0, (rd_T32 x0_1 x6_1).f1, (rd_T32 x0_1 x6_1).f2, (rd_T32 x0_1 x6_1).f3, (rd_T32 x0_1 x6_1).f4, (rd_T32 x0_1 x6_1).f5, (rd_T32 x0_1 x6_1).f6, (rd_T32 x0_1 x6_1).f7, (rd_T32 x0_1 x6_1).f8, (rd_T32 x0_1 x6_1).f9, (rd_T32 x0_1 x6_1).f10, (rd_T32 x0_1 x6_1).f11⟩ : S32) ) (fun _ hk => hk); have hx23_0 := hcc23 0 _ rfl; (try simp only [show (k32).sz = 12 from rfl, Nat.mul_one, Nat.add_zero] at hx23_0); have hf23_0 := hfr23 0; (try simp only [show (k32).sz = 12 from rfl, Nat.mul_one, Nat.add_zero] at hf23_0); have hx23_1 := hcc23 1 _ rfl; (try simp only [show (k32).sz = 12 from rfl, Nat.mul_one, Nat.add_zero] at hx23_1); have hf23_1 := hfr23 1; (try simp only [show (k32).sz = 12 from rfl, Nat.mul_one, Nat.add_zero] at hf23_1); have hx23_2 := hcc23 2 _ rfl; (try simp only [show (k32).sz = 12 from rfl, Nat.mul_one, Nat.add_zero] at hx23_2); have hf23_2 := hfr23 2; (try simp only [show (k32).sz = 12 from rfl, Nat.mul_one, Nat.add_zero] at hf23_2); have hx23_3 := hcc23 3 _ rfl; (try simp only [show (k32).sz = 12 from rfl, Nat.mul_one, Nat.add_zero] at hx23_3); have hf23_3 := hfr23 3; (try simp only [show (k32).sz = 12 from rfl, Nat.mul_one, Nat.add_zero] at hf23_3); have hx23_4 := hcc23 4 _ rfl; (try simp only [show (k32).sz = 12 from rfl, Nat.mul_one, Nat.add_zero] at hx23_4); have hf23_4 := hfr23 4; (try simp only [show (k32).sz = 12 from rfl, Nat.mul_one, Nat.add_zero] at hf23_4); have hx23_5 := hcc23 5 _ rfl; (try simp only [show (k32).sz = 12 from rfl, Nat.mul_one, Nat.add_zero] at hx23_5); have hf23_5 := hfr23 5; (try simp only [show (k32).sz = 12 from rfl, Nat.mul_one, Nat.add_zero] at hf23_5); have hx23_6 := hcc23 6 _ rfl; (try simp only [show (k32).sz = 12 from rfl, Nat.mul_one, Nat.add_zero] at hx23_6); have hf23_6 := hfr23 6; (try simp only [show (k32).sz = 12 from rfl, Nat.mul_one, Nat.add_zero] at hf23_6); have hx23_7 := hcc23 7 _ rfl; (try simp only [show (k32).sz = 12 from rfl, Nat.mul_one, Nat.add_zero] at hx23_7); have hf23_7 := hfr23 7; (try simp only [show (k32).sz = 12 from rfl, Nat.mul_one, Nat.add_zero] at hf23_7); have hx23_8 := hcc23 8 _ rfl; (try simp only [show (k32).sz = 12 from rfl, Nat.mul_one, Nat.add_zero] at hx23_8); have hf23_8 := hfr23 8; (try simp only [show (k32).sz = 12 from rfl, Nat.mul_one, Nat.add_zero] at hf23_8); have hx23_9 := hcc23 9 _ rfl; (try simp only [show (k32).sz = 12 from rfl, Nat.mul_one, Nat.add_zero] at hx23_9); have hf23_9 := hfr23 9; (try simp only [show (k32).sz = 12 from rfl, Nat.mul_one, Nat.add_zero] at hf23_9); have hx23_10 := hcc23 10 _ rfl; (try simp only [show (k32).sz = 12 from rfl, Nat.mul_one, Nat.add_zero] at hx23_10); have hf23_10 := hfr23 10; (try simp only [show (k32).sz = 12 from rfl, Nat.mul_one, Nat.add_zero] at hf23_10); have hx23_11 := hcc23 11 _ rfl; (try simp only [show (k32).sz = 12 from rfl, Nat.mul_one, Nat.add_zero] at hx23_11); have hf23_11 := hfr23 11; (try simp only [show (k32).sz = 12 from rfl, Nat.mul_one, Nat.add_zero] at hf23_11); clear hcl23 hcc23 hfr23 hM23) | ((with_reducible refine gate_store (t := 32) (p := 33) rfl ?_); refine store_event (t := 32) (p := 33) (v := ?vo_w24) (w1 := ((((((((((((w21.setCell ⟨go18, (x5_1 : Int).toNat * 12, none⟩ (.int .i64 ((rd_T32 x0_1 x6_1).f0))).setCell ⟨go18, (x5_1 : Int).toNat * 12 + 1, none⟩ (.int .i64 ((rd_T32 x0_1 x6_1).f1))).setCell ⟨go18, (x5_1 : Int).toNat * 12 + 2, none⟩ (.int .i64 ((rd_T32 x0_1 x6_1).f2))).setCell ⟨go18, (x5_1 : Int).toNat * 12 + 3, none⟩ (.int .i64 ((rd_T32 x0_1 x6_1).f3))).setCell ⟨go18, (x5_1 : Int).toNat * 12 + 4, none⟩ (.int .i64 ((rd_T32 x0_1 x6_1).f4))).setCell ⟨go18, (x5_1 : Int).toNat * 12 + 5, none⟩ (.int .i64 ((rd_T32 x0_1 x6_1).f5))).setCell ⟨go18, (x5_1 : Int).toNat * 12 + 6, none⟩ (.int .i64 ((rd_T32 x0_1 x6_1).f6))).setCell ⟨go18, (x5_1 : Int).toNat * 12 + 7, none⟩ (.int .i64 ((rd_T32 x0_1 x6_1).f7))).setCell ⟨go18, (x5_1 : Int).toNat * 12 + 8, none⟩ (.int .i64 ((rd_T32 x0_1 x6_1).f8))).setCell ⟨go18, (x5_1 : Int).toNat * 12 + 9, none⟩ (.int .i64 ((rd_T32 x0_1 x6_1).f9))).setCell ⟨go18, (x5_1 : Int).toNat * 12 + 10, none⟩ (.int .i64 ((rd_T32 x0_1 x6_1).f10))).setCell ⟨go18, (x5_1 : Int).toNat * 12 + 11, none⟩ (.slice ((rd_T32 x0_1 x6_1).f11).A ((rd_T32 x0_1 x6_1).f11).n ((rd_T32 x0_1 x6_1).f11).c))) ?hg ?ho ?hn ?hr ?_; (case ho => rfl); (case hg => rfl); (case hn => rfl); (case hr => first | (go_simp; done) | (go_simp; rfl)); intro w24 hw; have hg : w21.grownBy w24 (some go18) := (by rw [hw]; exact HP23.2); have hp_ : Kd.R k32 32 w24 w0.heap.size (fun k_ => (P0_ k_ ∨ w.heap.size ≤ k_) ∧ k_ ≠ gb214) (.slice (some ⟨go18, 0, none⟩) x0_1.length co7) y216 := (by rw [hw, Ny216.out]; exact HP23.1); clear HP23; have n0_ := Aside0.mk (hp_); have n1_ := Aside0.mk (blk_grown (g := gb214) (o := .cells (cJ (rd_T32 x0_1 x6_1)) 32 (0, 0)) (mBK BK214.out) hg (Kd.R_away HO_0.out (fun _ hk => hk.2))); have n2_ := Aside0.mk ((by rw [hw]; exact below_set (below_set (below_set (below_set (below_set (below_set (below_set (below_set (below_set (below_set (below_set (below_set (HB.out) GB18.out) GB18.out) GB18.out) GB18.out) GB18.out) GB18.out) GB18.out) GB18.out) GB18.out) GB18.out) GB18.out) GB18.out : Below w0.heap.size w0 w24)); have n3_ := Aside0.mk (Kept.of_grown (S := (fun k_ => P0_ k_)) hg (by repeat (first | (with_reducible first | exact HK.out | apply Kept.alloc | apply Kept.drewN | apply Kept.drew | refine Kept.setCell ?_ (.inr GW214.out) _) | exact HK.out)) (fun k_ e_ => (HO_0.out.1 k_ e_).1)); clear HO_0; clear BK214; clear HB; clear HK; have HO_0 := n0_; have BK214 := n1_; have HB := n2_; have HK := n3_; clear n0_ n1_ n2_ n3_; clear hg hw hp_))
         (try simp only [← hl0_1])
         go_roundg k1
         case measure => have := HK1.out; omega
         case rel => exact ⟨(y216), (wrap64 (x5_1 + 1)), (wrap64 (x6_1 + 1)), ez, ez, H', ⟨by have := HK1.out; omega⟩, ⟨by (try simp only [hl0_1]); (with_reducible repeat (first | apply Kd.R_alloc | apply Kd.R_drewN | apply Kd.R_drew)); exact Kd.R_mono HO_0.out (fun _ hk => hk.1)⟩, ⟨by repeat (first | (with_reducible first | exact HK.out | apply Kept.alloc | apply Kept.drewN | apply Kept.drew | refine Kept.setCell ?_ (.inr GW214.out) _) | exact HK.out)⟩, ⟨mBs HB.out⟩⟩
        ·rw [if_neg c17] at H
         exact absurd H (by simp)
       ·rw [if_neg c16] at H
        exact absurd H (by simp)
     ·rw [if_neg c10] at H
      exact absurd H (by simp)
    ·rw [if_neg c9] at H
     have c9b0 : decide (x6_1 < (x0_1.length : Int)) = false := decide_eq_false c9
     clear c9
     by_cases c25 : 0 ≤ x5_1
     ·rw [if_pos c25] at H
      have c25b0 := eq_true c25
      have c25b1 : decide (0 ≤ x5_1) = true := decide_eq_true c25
      clear c25
      by_cases c26 : x5_1 ≤ (x0_1.length : Int)
      ·rw [if_pos c26] at H
       have c26b0 := eq_true c26
       have c26b1 : decide (x5_1 ≤ (x0_1.length : Int)) = true := decide_eq_true c26
       clear c26
       obtain ⟨y217, hy217⟩ : ∃ y_ : List (S32), y_ = (x0_1.drop (x5_1 : Int).toNat) := ⟨_, rfl⟩
       replace H : (some (x0_1.take (x5_1 : Int).toNat)) = some r := mH hy217 H
       have Ny217 := Aside0.mk hy217
       clear hy217
       have c27b0 := eq_true (oda : x5_1 ≤ (x0_1.length : Int))
       obtain ⟨y221, hy221⟩ : ∃ y_ : List (S32), y_ = (x0_1.take (x5_1 : Int).toNat) := ⟨_, rfl⟩
       replace H : (some y221) = some r := mH hy221 H
       have Ny221 := Aside0.mk hy221
       clear hy221
       obtain rfl := Option.some.inj H
       have q28 : (x5_1 : Int) ≤ ((x0_1.length : Int) : Int) := oda
       obtain ⟨i028, hi028, _, hsz28, _⟩ := info_parts info32
       have hroom28 : x0_1.length ≤ co7 := (Kd.R_reads' HO_0.out).2.1
       have hC28 : Kd.C k32 _ Ao7 x0_1.length x0_1 := (Kd.R_reads' HO_0.out).2.2
       have q028 : (0 : Int) ≤ (x5_1 : Int) := oda
       have hcut28 := cut_from (P := Try.prog) 22 32 .i64 Try.underlying22 hi028 12 hsz28 Ao7 x0_1.length co7 x5_1 q028 q28
       have hr28 := Kd.C_drop (m := (x5_1 : Int).toNat) (c := co7) hC28 (by omega) hroom28
       obtain ⟨A28, hA28⟩ : ∃ A1, A1 = (if co7 = (x5_1 : Int).toNat then Ao7 else (Ao7 : Option Addr).map (·.add ((x5_1 : Int).toNat * 12))) := ⟨_, rfl⟩
       obtain ⟨c28, hc28⟩ : ∃ c1, c1 = co7 - (x5_1 : Int).toNat := ⟨_, rfl⟩
       have hy28 : y217.length = x0_1.length - (x5_1 : Int).toNat := (by rw [Ny217.out, List.length_drop] <;> omega)
       rw [show (x0_1).drop (x5_1 : Int).toNat = y217 from Ny217.out.symm] at hr28
       replace hr28 : Kd.C k32 _ A28 y217.length y217 := (by rw [hA28]; exact hr28)
       rw [← hy28, ← hA28, ← hc28] at hcut28
       have HR220 := Aside0.mk hr28
       have HC220 := Aside0.mk (show y217.length ≤ c28 from by rw [hy28, hc28]; exact Nat.sub_le_sub_right hroom28 _)
       clear hr28; clear hC28; clear hroom28; clear hi028; clear hsz28; clear hc28
       have KY28 := Aside0.mk hy28
       have KA28 := Aside0.mk hA28
       clear hy28; clear hA28
       have KL28 := Aside0.mk (show (x5_1 : Int).toNat ≤ x0_1.length from by omega)
       replace q28 := eq_true q28
       have q29 : (x5_1 : Int) ≤ ((x0_1.length : Int) : Int) := oda
       obtain ⟨i029, hi029, _, hsz29, _⟩ := info_parts info32
       have hcut29 := cut_to (P := Try.prog) 22 32 .i64 Try.underlying22 hi029 Ao7 x0_1.length co7 x5_1 (oda) q29 (Kd.R_reads' HO_0.out).2.1
       have hy29 : y221.length = (x5_1 : Int).toNat := (by rw [Ny221.out, List.length_take]; omega)
       rw [← hy29] at hcut29
       have HY29 := Aside0.mk hy29
       clear hi029; clear hsz29; clear hy29
       have KI : (x5_1 : Int).toNat ≤ x0_1.length := by omega
       have HKI := Aside0.mk KI
       clear KI
       replace q29 := eq_true q29
       have hzv : ∀ W_, (zeroValue 32).run Try.prog W_ = .ok (.agg #[(.int .i64 0), (.int .i64 0), (.int .i64 0), (.int .i64 0), (.int .i64 0), (.int .i64 0), (.int .i64 0), (.int .i64 0), (.int .i64 0), (.int .i64 0), (.int .i64 0), (.slice none 0 0)]) W_ := by
        intro W_
        obtain ⟨i_, hi_, hz_, _⟩ := info_parts info32
        simp [zeroValue, typeInfo, hi_, hz_]
       have HZV := Aside0.mk hzv
       clear hzv
       go_wp2_with (first | (refine clear_event (R := fun W2 => Kd.R k32 32 W2 w0.heap.size (fun k_ => (P0_ k_ ∨ w.heap.size ≤ k_)) (.slice Ao7 (x5_1 : Int).toNat co7) (x0_1.take (x5_1 : Int).toNat) ∧ Below w0.heap.size w0 W2 ∧ Kept w W2 (fun k_ => P0_ k_)) 22 (.tmp 38) rfl rfl rfl rfl ?hrun ?_; (case hrun => obtain ⟨W2, h1_, h2_, h3_, h4_⟩ := R_clear (P := Try.prog) HO_0.out (x5_1 : Int).toNat HKI.out (t := 22) (te := 32) (ty := 0) Try.underlying22 HZV.out rfl one12 KA28.out KY28.out HB.out; exact ⟨W2, h1_, h2_, h3_, Kept.of_grown h4_ HK.out (fun k_ e_ => HO_0.out.1 k_ e_)⟩); rintro W2 ⟨ho_, hb_, hk_⟩; have n0_ := Aside0.mk ho_; have n1_ := Aside0.mk hb_; have n2_ := Aside0.mk hk_; clear HO_0 HB HK ho_ hb_ hk_; have HO_0 := n0_; have HB := n1_; have HK := n2_; clear n0_ n1_ n2_))
       go_ret
       have hfin := HO_0.out
       rw [← Ny221.out, ← HY29.out] at hfin
       exact ⟨_, by first | rfl | (simp [errW_none, errW_some] <;> rfl) | (simp [*, errW_none, errW_some] <;> rfl), by (with_reducible repeat (first | apply Kd.R_alloc | apply Kd.R_drewN | apply Kd.R_drew)); exact hfin, by repeat (first | (with_reducible first | exact HB.out | apply below_alloc | apply pw_below_drewN | apply below_drew1) | exact HB.out), by repeat (first | (with_reducible first | exact HK.out | apply Kept.alloc | apply Kept.drewN | apply Kept.drew) | exact HK.out)⟩
      ·rw [if_neg c26] at H
       exact absurd H (by simp)
     ·rw [if_neg c25] at H
      exact absurd H (by simp)

end Go.Proofs.Ytkhfgflcanmefaa.PAll
end
