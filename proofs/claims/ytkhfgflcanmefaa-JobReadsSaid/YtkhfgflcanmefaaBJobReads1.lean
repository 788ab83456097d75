/- Words, plain functions and contracts of the functions that the law of this claim reaches; no conditions. -/
import Derived.Test.YtkhfgflcanmefaaBJobReads0
import Derived.Test.YtkhfgflcanmefaaProg
import Derived.Lib.SliceRun
import Derived.WalkLawsBesides
import Derived.Outline
import Derived.Deep.RegionWith
import Derived.Deep.CutRange
import Derived.ScopeJumps
import Derived.Scope
import Derived.WalkMore
import Derived.Laws.FloatArith
section
namespace Go.Proofs.Ytkhfgflcanmefaa.PAll
open Go.RowKit Go.Proofs.YtkhfgflcanmefaaW.PrintWords Go.Proofs.YtkhfgflcanmefaaW.PrintLast Go.Proofs.YtkhfgflcanmefaaW.PrintMore
attribute [local go_sem] max2_int min2_int max_two min_two max_three min_three max_four min_four   -- for this text's walks alone
set_option linter.unusedVariables false
set_option linter.unusedSimpArgs false



def errW : Option Int → Value
  | none => .nilIface
  | some c => .iface 0 (.int .i64 c)
theorem errW_none : errW none = .nilIface := rfl
theorem errW_some (c : Int) : errW (some c) = .iface 0 (.int .i64 c) := rfl

theorem goesV_ {P : Program} {ops : Array Oper} {Q : Exit → Act → World → Prop} {oi : Oper} {N : Option Tmp} {a : Act} {w : World} {K : Act → World → Prop} {f : FuncId} {fn : Func} {c : Operand} {as_ : Array Operand} {ts : Array TypeId} (hf : P.funcs[f]? = some fn) (hname : (fn.name == "runtime.NumGoroutine") = false) (hb : fn.body.isSome = true) (args : Array Value)
    (hw : Region.wanted oi (yielded ops a.tmps) = true) (hN : oi.dst = N) (hop : oi.op = .call { callee := .value c, args := as_, argTypes := ts }) (hargs : as_.map a.eval = args)
    (hc : a.eval c = .func (.func f) #[] #[])
    (h : Calls P f args w fun e w' => ∃ v, e = .returned v ∧ K (a.put N v) w') : if Region.wanted oi (yielded ops a.tmps) = true then Oper.wp P oi a w K Q else K (a.put N undef) w := by
  refine call_ f args hw hN ?_ h
  have he := enters_ hf hname hb args w
  unfold execOp
  simp [hop, resolve, Deferred.ofValue, invoke, hc, hargs, he]
theorem info3 : (Try.prog.info? 3).map (fun i => (i.zero, i.size, i.bytes)) = some (some (.int .i64 0), 1, 8) := by kernel_rfl
theorem info32 : (Try.prog.info? 32).map (fun i => (i.zero, i.size, i.bytes)) = some (some (.agg #[(.int .i64 0), (.int .i64 0), (.int .i64 0), (.int .i64 0), (.int .i64 0), (.int .i64 0), (.int .i64 0), (.int .i64 0), (.int .i64 0), (.int .i64 0), (.int .i64 0), (.slice none 0 0)]), 12, 112) := by kernel_rfl
theorem info59 : (Try.prog.info? 59).map (fun i => (i.zero, i.size, i.bytes)) = some (some (.agg #[(.int .i64 0), (.int .i64 0)]), 2, 16) := by kernel_rfl
theorem info63 : (Try.prog.info? 63).map (fun i => (i.zero, i.size, i.bytes)) = some (some (.agg #[(.int .i64 0), (.int .i64 0), (.int .i64 0), (.int .i64 0)]), 4, 32) := by kernel_rfl
structure SH where
  A : Option Addr
  n : Nat
  c : Nat
def SH.nil : SH := ⟨none, 0, 0⟩
def kSH : Kd SH := Kd.scalar (fun x : SH => .slice x.A x.n x.c) (fun _ => rfl)
structure S32 where
  f0 : Int
  f1 : Int
  f2 : Int
  f3 : Int
  f4 : Int
  f5 : Int
  f6 : Int
  f7 : Int
  f8 : Int
  f9 : Int
  f10 : Int
  f11 : SH
def z32 : S32 := ⟨(0 : Int), (0 : Int), (0 : Int), (0 : Int), (0 : Int), (0 : Int), (0 : Int), (0 : Int), (0 : Int), (0 : Int), (0 : Int), SH.nil⟩
def k32 : Kd S32 := Kd.iso (Kd.pair (Kd.int .i64) (Kd.pair (Kd.int .i64) (Kd.pair (Kd.int .i64) (Kd.pair (Kd.int .i64) (Kd.pair (Kd.int .i64) (Kd.pair (Kd.int .i64) (Kd.pair (Kd.int .i64) (Kd.pair (Kd.int .i64) (Kd.pair (Kd.int .i64) (Kd.pair (Kd.int .i64) (Kd.pair (Kd.int .i64) kSH))))))))))) (fun x : S32 => (x.f0, x.f1, x.f2, x.f3, x.f4, x.f5, x.f6, x.f7, x.f8, x.f9, x.f10, x.f11))
theorem k32_open {w : World} {x : S32} {cs : List Value} (h : k32.K w x cs) : cs = [.int .i64 x.f0, .int .i64 x.f1, .int .i64 x.f2, .int .i64 x.f3, .int .i64 x.f4, .int .i64 x.f5, .int .i64 x.f6, .int .i64 x.f7, .int .i64 x.f8, .int .i64 x.f9, .int .i64 x.f10, .slice x.f11.A x.f11.n x.f11.c] := by
  obtain ⟨_, _, rfl, rfl, ⟨_, _, rfl, rfl, ⟨_, _, rfl, rfl, ⟨_, _, rfl, rfl, ⟨_, _, rfl, rfl, ⟨_, _, rfl, rfl, ⟨_, _, rfl, rfl, ⟨_, _, rfl, rfl, ⟨_, _, rfl, rfl, ⟨_, _, rfl, rfl, ⟨_, _, rfl, rfl, rfl⟩⟩⟩⟩⟩⟩⟩⟩⟩⟩⟩ := h
  exact rfl
theorem k32_openM {w : World} {base : Nat} {ok : Nat → Prop} {x : S32} {cs : List Value} (h : k32.M w base ok x cs) : cs = [.int .i64 x.f0, .int .i64 x.f1, .int .i64 x.f2, .int .i64 x.f3, .int .i64 x.f4, .int .i64 x.f5, .int .i64 x.f6, .int .i64 x.f7, .int .i64 x.f8, .int .i64 x.f9, .int .i64 x.f10, .slice x.f11.A x.f11.n x.f11.c] := by
  obtain ⟨_, _, rfl, rfl, ⟨_, _, rfl, rfl, ⟨_, _, rfl, rfl, ⟨_, _, rfl, rfl, ⟨_, _, rfl, rfl, ⟨_, _, rfl, rfl, ⟨_, _, rfl, rfl, ⟨_, _, rfl, rfl, ⟨_, _, rfl, rfl, ⟨_, _, rfl, rfl, ⟨_, _, rfl, rfl, rfl⟩⟩⟩⟩⟩⟩⟩⟩⟩⟩⟩ := h
  exact rfl
theorem k32_mkM (w : World) (base : Nat) (ok : Nat → Prop) (x : S32)  : k32.M w base ok x [.int .i64 x.f0, .int .i64 x.f1, .int .i64 x.f2, .int .i64 x.f3, .int .i64 x.f4, .int .i64 x.f5, .int .i64 x.f6, .int .i64 x.f7, .int .i64 x.f8, .int .i64 x.f9, .int .i64 x.f10, .slice x.f11.A x.f11.n x.f11.c] := ⟨[.int .i64 x.f0], [.int .i64 x.f1, .int .i64 x.f2, .int .i64 x.f3, .int .i64 x.f4, .int .i64 x.f5, .int .i64 x.f6, .int .i64 x.f7, .int .i64 x.f8, .int .i64 x.f9, .int .i64 x.f10, .slice x.f11.A x.f11.n x.f11.c], rfl, rfl, ⟨[.int .i64 x.f1], [.int .i64 x.f2, .int .i64 x.f3, .int .i64 x.f4, .int .i64 x.f5, .int .i64 x.f6, .int .i64 x.f7, .int .i64 x.f8, .int .i64 x.f9, .int .i64 x.f10, .slice x.f11.A x.f11.n x.f11.c], rfl, rfl, ⟨[.int .i64 x.f2], [.int .i64 x.f3, .int .i64 x.f4, .int .i64 x.f5, .int .i64 x.f6, .int .i64 x.f7, .int .i64 x.f8, .int .i64 x.f9, .int .i64 x.f10, .slice x.f11.A x.f11.n x.f11.c], rfl, rfl, ⟨[.int .i64 x.f3], [.int .i64 x.f4, .int .i64 x.f5, .int .i64 x.f6, .int .i64 x.f7, .int .i64 x.f8, .int .i64 x.f9, .int .i64 x.f10, .slice x.f11.A x.f11.n x.f11.c], rfl, rfl, ⟨[.int .i64 x.f4], [.int .i64 x.f5, .int .i64 x.f6, .int .i64 x.f7, .int .i64 x.f8, .int .i64 x.f9, .int .i64 x.f10, .slice x.f11.A x.f11.n x.f11.c], rfl, rfl, ⟨[.int .i64 x.f5], [.int .i64 x.f6, .int .i64 x.f7, .int .i64 x.f8, .int .i64 x.f9, .int .i64 x.f10, .slice x.f11.A x.f11.n x.f11.c], rfl, rfl, ⟨[.int .i64 x.f6], [.int .i64 x.f7, .int .i64 x.f8, .int .i64 x.f9, .int .i64 x.f10, .slice x.f11.A x.f11.n x.f11.c], rfl, rfl, ⟨[.int .i64 x.f7], [.int .i64 x.f8, .int .i64 x.f9, .int .i64 x.f10, .slice x.f11.A x.f11.n x.f11.c], rfl, rfl, ⟨[.int .i64 x.f8], [.int .i64 x.f9, .int .i64 x.f10, .slice x.f11.A x.f11.n x.f11.c], rfl, rfl, ⟨[.int .i64 x.f9], [.int .i64 x.f10, .slice x.f11.A x.f11.n x.f11.c], rfl, rfl, ⟨[.int .i64 x.f10], [.slice x.f11.A x.f11.n x.f11.c], rfl, rfl, rfl⟩⟩⟩⟩⟩⟩⟩⟩⟩⟩⟩
def rd_T32 (xs : List S32) (i : Int) : S32 := xs.getD i.toNat z32
theorem at_T32 {w : World} {A : Option Addr} {n : Nat} {xs : List S32} (h : Kd.C k32 w A n xs) (i : Int) (h0 : 0 ≤ i) (h1 : i < n) : ∃ ad , A = some ad ∧ w.cell? (ad.add (i.toNat * 12)) = some (.int .i64 (rd_T32 xs i).f0) ∧ w.cell? ⟨(ad.add (i.toNat * 12)).block, (ad.add (i.toNat * 12)).off + 1, none⟩ = some (.int .i64 (rd_T32 xs i).f1) ∧ w.cell? ⟨(ad.add (i.toNat * 12)).block, (ad.add (i.toNat * 12)).off + 2, none⟩ = some (.int .i64 (rd_T32 xs i).f2) ∧ w.cell? ⟨(ad.add (i.toNat * 12)).block, (ad.add (i.toNat * 12)).off + 3, none⟩ = some (.int .i64 (rd_T32 xs i).f3) ∧ w.cell? ⟨(ad.add (i.toNat * 12)).block, (ad.add (i.toNat * 12)).off + 4, none⟩ = some (.int .i64 (rd_T32 xs i).f4) ∧ w.cell? ⟨(ad.add (i.toNat * 12)).block, (ad.add (i.toNat * 12)).off + 5, none⟩ = some (.int .i64 (rd_T32 xs i).f5) ∧ w.cell? ⟨(ad.add (i.toNat * 12)).block, (ad.add (i.toNat * 12)).off + 6, none⟩ = some (.int .i64 (rd_T32 xs i).f6) ∧ w.cell? ⟨(ad.add (i.toNat * 12)).block, (ad.add (i.toNat * 12)).off + 7, none⟩ = some (.int .i64 (rd_T32 xs i).f7) ∧ w.cell? ⟨(ad.add (i.toNat * 12)).block, (ad.add (i.toNat * 12)).off + 8, none⟩ = some (.int .i64 (rd_T32 xs i).f8) ∧ w.cell? ⟨(ad.add (i.toNat * 12)).block, (ad.add (i.toNat * 12)).off + 9, none⟩ = some (.int .i64 (rd_T32 xs i).f9) ∧ w.cell? ⟨(ad.add (i.toNat * 12)).block, (ad.add (i.toNat * 12)).off + 10, none⟩ = some (.int .i64 (rd_T32 xs i).f10) ∧ w.cell? ⟨(ad.add (i.toNat * 12)).block, (ad.add (i.toNat * 12)).off + 11, none⟩ = some (.slice (rd_T32 xs i).f11.A (rd_T32 xs i).f11.n (rd_T32 xs i).f11.c) := by
  obtain ⟨ad, c, e, _, hK, hc0⟩ := Kd.C_get h z32 i h0 h1
  have hc : ∀ j u, c[j]? = some u → w.cell? (ad.add (i.toNat * 12 + j)) = some u := hc0
  obtain rfl := k32_open hK
  exact ⟨ad, e, hc 0 _ rfl, by rw [← add_field _ _ 1 (by omega)]; exact hc 1 _ rfl, by rw [← add_field _ _ 2 (by omega)]; exact hc 2 _ rfl, by rw [← add_field _ _ 3 (by omega)]; exact hc 3 _ rfl, by rw [← add_field _ _ 4 (by omega)]; exact hc 4 _ rfl, by rw [← add_field _ _ 5 (by omega)]; exact hc 5 _ rfl, by rw [← add_field _ _ 6 (by omega)]; exact hc 6 _ rfl, by rw [← add_field _ _ 7 (by omega)]; exact hc 7 _ rfl, by rw [← add_field _ _ 8 (by omega)]; exact hc 8 _ rfl, by rw [← add_field _ _ 9 (by omega)]; exact hc 9 _ rfl, by rw [← add_field _ _ 10 (by omega)]; exact hc 10 _ rfl, by rw [← add_field _ _ 11 (by omega)]; exact hc 11 _ rfl⟩

def rd_L3 (xs : List (List Int)) (i : Int) : (List Int) := xs.getD i.toNat ([] : List Int)
structure S29 where
  f0 : Int
  f1 : Int
def z29 : S29 := ⟨(0 : Int), (0 : Int)⟩
def k29 : Kd S29 := Kd.iso (Kd.pair (Kd.int .i64) (Kd.int .i64)) (fun x : S29 => (x.f0, x.f1))
def rd_T29 (xs : List S29) (i : Int) : S29 := xs.getD i.toNat z29
def rd_L5 (xs : List (List S29)) (i : Int) : (List S29) := xs.getD i.toNat ([] : List S29)
structure S59 where
  f0 : Int
  f1 : Int
def z59 : S59 := ⟨(0 : Int), (0 : Int)⟩
def k59 : Kd S59 := Kd.iso (Kd.pair (Kd.int .i64) (Kd.int .i64)) (fun x : S59 => (x.f0, x.f1))
theorem k59_open {w : World} {x : S59} {cs : List Value} (h : k59.K w x cs) : cs = [.int .i64 x.f0, .int .i64 x.f1] := by
  obtain ⟨_, _, rfl, rfl, rfl⟩ := h
  exact rfl
theorem k59_mkM (w : World) (base : Nat) (ok : Nat → Prop) (x : S59)  : k59.M w base ok x [.int .i64 x.f0, .int .i64 x.f1] := ⟨[.int .i64 x.f0], [.int .i64 x.f1], rfl, rfl, rfl⟩
def rd_T59 (xs : List S59) (i : Int) : S59 := xs.getD i.toNat z59
theorem at_T59 {w : World} {A : Option Addr} {n : Nat} {xs : List S59} (h : Kd.C k59 w A n xs) (i : Int) (h0 : 0 ≤ i) (h1 : i < n) : ∃ ad , A = some ad ∧ w.cell? (ad.add (i.toNat * 2)) = some (.int .i64 (rd_T59 xs i).f0) ∧ w.cell? ⟨(ad.add (i.toNat * 2)).block, (ad.add (i.toNat * 2)).off + 1, none⟩ = some (.int .i64 (rd_T59 xs i).f1) := by
  obtain ⟨ad, c, e, _, hK, hc0⟩ := Kd.C_get h z59 i h0 h1
  have hc : ∀ j u, c[j]? = some u → w.cell? (ad.add (i.toNat * 2 + j)) = some u := hc0
  obtain rfl := k59_open hK
  exact ⟨ad, e, hc 0 _ rfl, by rw [← add_field _ _ 1 (by omega)]; exact hc 1 _ rfl⟩

def rd_L8 (xs : List (List S59)) (i : Int) : (List S59) := xs.getD i.toNat ([] : List S59)
structure S63 where
  f0 : Int
  f1 : Int
  f2 : Int
  f3 : Int
def z63 : S63 := ⟨(0 : Int), (0 : Int), (0 : Int), (0 : Int)⟩
def k63 : Kd S63 := Kd.iso (Kd.pair (Kd.int .i64) (Kd.pair (Kd.int .i64) (Kd.pair (Kd.int .i64) (Kd.int .i64)))) (fun x : S63 => (x.f0, x.f1, x.f2, x.f3))
theorem k63_open {w : World} {x : S63} {cs : List Value} (h : k63.K w x cs) : cs = [.int .i64 x.f0, .int .i64 x.f1, .int .i64 x.f2, .int .i64 x.f3] := by
  obtain ⟨_, _, rfl, rfl, ⟨_, _, rfl, rfl, ⟨_, _, rfl, rfl, rfl⟩⟩⟩ := h
  exact rfl
theorem k63_openM {w : World} {base : Nat} {ok : Nat → Prop} {x : S63} {cs : List Value} (h : k63.M w base ok x cs) : cs = [.int .i64 x.f0, .int .i64 x.f1, .int .i64 x.f2, .int .i64 x.f3] := by
  obtain ⟨_, _, rfl, rfl, ⟨_, _, rfl, rfl, ⟨_, _, rfl, rfl, rfl⟩⟩⟩ := h
  exact rfl
theorem k63_mkM (w : World) (base : Nat) (ok : Nat → Prop) (x : S63)  : k63.M w base ok x [.int .i64 x.f0, .int .i64 x.f1, .int .i64 x.f2, .int .i64 x.f3] := ⟨[.int .i64 x.f0], [.int .i64 x.f1, .int .i64 x.f2, .int .i64 x.f3], rfl, rfl, ⟨[.int .i64 x.f1], [.int .i64 x.f2, .int .i64 x.f3], rfl, rfl, ⟨[.int .i64 x.f2], [.int .i64 x.f3], rfl, rfl, rfl⟩⟩⟩
def rd_T63 (xs : List S63) (i : Int) : S63 := xs.getD i.toNat z63
theorem at_T63 {w : World} {A : Option Addr} {n : Nat} {xs : List S63} (h : Kd.C k63 w A n xs) (i : Int) (h0 : 0 ≤ i) (h1 : i < n) : ∃ ad , A = some ad ∧ w.cell? (ad.add (i.toNat * 4)) = some (.int .i64 (rd_T63 xs i).f0) ∧ w.cell? ⟨(ad.add (i.toNat * 4)).block, (ad.add (i.toNat * 4)).off + 1, none⟩ = some (.int .i64 (rd_T63 xs i).f1) ∧ w.cell? ⟨(ad.add (i.toNat * 4)).block, (ad.add (i.toNat * 4)).off + 2, none⟩ = some (.int .i64 (rd_T63 xs i).f2) ∧ w.cell? ⟨(ad.add (i.toNat * 4)).block, (ad.add (i.toNat * 4)).off + 3, none⟩ = some (.int .i64 (rd_T63 xs i).f3) := by
  obtain ⟨ad, c, e, _, hK, hc0⟩ := Kd.C_get h z63 i h0 h1
  have hc : ∀ j u, c[j]? = some u → w.cell? (ad.add (i.toNat * 4 + j)) = some u := hc0
  obtain rfl := k63_open hK
  exact ⟨ad, e, hc 0 _ rfl, by rw [← add_field _ _ 1 (by omega)]; exact hc 1 _ rfl, by rw [← add_field _ _ 2 (by omega)]; exact hc 2 _ rfl, by rw [← add_field _ _ 3 (by omega)]; exact hc 3 _ rfl⟩

def rd_L10 (xs : List (List S63)) (i : Int) : (List S63) := xs.getD i.toNat ([] : List S63)
def g32 (x : S32) : Prop := ((Lit.int .i64 x.f0).wf = true) ∧ ((Lit.int .i64 x.f1).wf = true) ∧ ((Lit.int .i64 x.f2).wf = true) ∧ ((Lit.int .i64 x.f3).wf = true) ∧ ((Lit.int .i64 x.f4).wf = true) ∧ ((Lit.int .i64 x.f5).wf = true) ∧ ((Lit.int .i64 x.f6).wf = true) ∧ ((Lit.int .i64 x.f7).wf = true) ∧ ((Lit.int .i64 x.f8).wf = true) ∧ ((Lit.int .i64 x.f9).wf = true) ∧ ((Lit.int .i64 x.f10).wf = true) ∧ (True)
end Go.Proofs.Ytkhfgflcanmefaa.PAll
end
section
namespace Go.Proofs.Ytkhfgflcanmefaa.PAll
open Go.RowKit Go.Proofs.YtkhfgflcanmefaaW.PrintWords Go.Proofs.YtkhfgflcanmefaaW.PrintLast Go.Proofs.YtkhfgflcanmefaaW.PrintMore
attribute [local go_sem] max2_int min2_int max_two min_two max_three min_three max_four min_four   -- for this text's walks alone
set_option linter.unusedVariables false
set_option linter.unusedSimpArgs false

def Plan (is : List (Nat × Nat)) (p : Prop) : Prop := p
theorem plan_ (is : List (Nat × Nat)) {p : Prop} (h : Plan is p) : p := h
theorem planEnd_ {p : Prop} (h : p) : Plan [] p := h
section
variable {P : Program} {ops : Array Oper} {Q : Exit → Act → World → Prop} {md : Region.Mode} {S : World → Prop} {ds : List Nat} {i N : Nat} {is : List (Nat × Nat)} {oi : Oper} {v : Value} {fuel : Nat} {l : Array Bool} {a : Act} {w : World}
theorem planP_ (hi : ops[i]? = some oi) (hN : oi.dst = some N) (hc : anyB md ops l (l.setIfInBounds i true) i = true) (hQ : ∀ c a w, Q (.panic c) (a.put oi.dst v) w → Q (.panic c) a w) (hy : Yields P ops oi v a) {a' : Act} (ha : a.put (some N) v = a')
    (h : Plan is (wpAnyLast P md ops Q S ds fuel (l.setIfInBounds i true) a' w)) : Plan ((i, N) :: is) (wpAnyLast P md ops Q S ds (fuel + 1) l a w) := pure_ _ hi hN hc hQ hy ha h
theorem planT_ (hi : ops[i]? = some oi) (hN : oi.dst = some N) (hc : takeB md ops ds l (l.setIfInBounds i true) i = true) (hQ : ∀ c a w, Q (.panic c) (a.put oi.dst v) w → Q (.panic c) a w) (hy : YieldsIf P ops S oi v a) (hS : S w) {a' : Act} (ha : a.put (some N) v = a')
    (h : Plan is (wpAnyLast P md ops Q S ds fuel (l.setIfInBounds i true) a' w)) : Plan ((i, N) :: is) (wpAnyLast P md ops Q S ds (fuel + 1) l a w) := take_ _ hi hN hc hQ hy hS ha h
end

theorem mB {p q : Prop} (h : p) (f : p → q := by intro h; repeat (first | (with_reducible first | exact h | apply below_alloc | apply pw_below_drewN | apply below_drew1) | exact h)) : q := f h
theorem mK {p q : Prop} (h : p) (f : p → q := by intro h; repeat (first | (with_reducible first | exact h | apply Kept.alloc | apply Kept.drewN | apply Kept.drew) | exact h)) : q := f h
theorem mR {p q : Prop} (h : p) (f : p → q := by intro h; (with_reducible repeat (first | apply Kd.R_alloc | apply Kd.R_drewN | apply Kd.R_drew)); exact h) : q := f h
theorem mV {p q : Prop} (h : p) (f : p → q := by intro h; (with_reducible repeat (first | apply Kd.V_alloc | apply Kd.V_drewN | apply Kd.V_drew)); exact h) : q := f h
theorem oda {p : Prop} [Decidable p] (h : decide p = true := by first | (with_reducible assumption) | assumption) : p := of_decide_eq_true h
theorem ez {p : Prop} (h : p := by first | rfl | (simp; done) | (simp [*]; done)) : p := h
theorem mBs {p q : Prop} (h : p) (f : p → q := by intro h; repeat (first | (with_reducible first | exact h | apply below_alloc | apply pw_below_drewN | apply below_drew1 | refine below_set ?_ (Aside0.out (by assumption))) | exact h)) : q := f h
theorem mBK {p q : Prop} (h : p) (f : p → q := by intro h; (with_reducible repeat first | apply blk_drewN | apply blk_drew | apply blk_alloc); exact h) : q := f h
theorem mC {p q : Prop} (h : p) (f : p → q := by intro h; repeat (first | exact h | (with_reducible refine Kd.C_alloc ?_ _) | (with_reducible refine Kd.C_drewN ?_ _) | (with_reducible refine Kd.C_drew ?_))) : q := f h
theorem mt {p : Prop} (h : p := by (try simp only [List.map_toArray, List.map_cons, List.map_nil]); first | done | rfl | (simp only [List.length_drop, List.length_take]; rfl)) : p := h
theorem mH {r p q : Prop} (hy : r) (H : p) (f : r → p → q := by intro hy H; first | (rw [hy]; with_reducible exact H) | (have H2_ := (Option.bind_some _ _).symm.trans H; rw [hy]; with_reducible exact H2_) | (have H2_ := (Option.bind_some _ _).symm.trans H; with_reducible exact H2_) | with_reducible exact H | (rw [hy]; exact H) | exact H) : q := f hy H
end Go.Proofs.Ytkhfgflcanmefaa.PAll
end
section
namespace Go.Proofs.Ytkhfgflcanmefaa.PAll
open Go.RowKit
abbrev cJ (x : S32) : Array Value := #[.int .i64 (x.f0), .int .i64 (x.f1), .int .i64 (x.f2), .int .i64 (x.f3), .int .i64 (x.f4), .int .i64 (x.f5), .int .i64 (x.f6), .int .i64 (x.f7), .int .i64 (x.f8), .int .i64 (x.f9), .int .i64 (x.f10), .slice (x.f11).A (x.f11).n (x.f11).c]
abbrev c12 (w : World) (p : Addr) (x : S32) (q : Prop) : Prop := w.cell? p = some (.int .i64 (x.f0)) ∧ w.cell? ⟨p.block, p.off + 1, none⟩ = some (.int .i64 (x.f1)) ∧ w.cell? ⟨p.block, p.off + 2, none⟩ = some (.int .i64 (x.f2)) ∧ w.cell? ⟨p.block, p.off + 3, none⟩ = some (.int .i64 (x.f3)) ∧ w.cell? ⟨p.block, p.off + 4, none⟩ = some (.int .i64 (x.f4)) ∧ w.cell? ⟨p.block, p.off + 5, none⟩ = some (.int .i64 (x.f5)) ∧ w.cell? ⟨p.block, p.off + 6, none⟩ = some (.int .i64 (x.f6)) ∧ w.cell? ⟨p.block, p.off + 7, none⟩ = some (.int .i64 (x.f7)) ∧ w.cell? ⟨p.block, p.off + 8, none⟩ = some (.int .i64 (x.f8)) ∧ w.cell? ⟨p.block, p.off + 9, none⟩ = some (.int .i64 (x.f9)) ∧ w.cell? ⟨p.block, p.off + 10, none⟩ = some (.int .i64 (x.f10)) ∧ w.cell? ⟨p.block, p.off + 11, none⟩ = some (.slice (x.f11).A (x.f11).n (x.f11).c) ∧ q
abbrev c12e (w : World) (p : Addr) (x : S32) : Prop := w.cell? p = some (.int .i64 (x.f0)) ∧ w.cell? ⟨p.block, p.off + 1, none⟩ = some (.int .i64 (x.f1)) ∧ w.cell? ⟨p.block, p.off + 2, none⟩ = some (.int .i64 (x.f2)) ∧ w.cell? ⟨p.block, p.off + 3, none⟩ = some (.int .i64 (x.f3)) ∧ w.cell? ⟨p.block, p.off + 4, none⟩ = some (.int .i64 (x.f4)) ∧ w.cell? ⟨p.block, p.off + 5, none⟩ = some (.int .i64 (x.f5)) ∧ w.cell? ⟨p.block, p.off + 6, none⟩ = some (.int .i64 (x.f6)) ∧ w.cell? ⟨p.block, p.off + 7, none⟩ = some (.int .i64 (x.f7)) ∧ w.cell? ⟨p.block, p.off + 8, none⟩ = some (.int .i64 (x.f8)) ∧ w.cell? ⟨p.block, p.off + 9, none⟩ = some (.int .i64 (x.f9)) ∧ w.cell? ⟨p.block, p.off + 10, none⟩ = some (.int .i64 (x.f10)) ∧ w.cell? ⟨p.block, p.off + 11, none⟩ = some (.slice (x.f11).A (x.f11).n (x.f11).c)
theorem hs_ {w w1 : World} {a : Addr} {v : Value} (hb : Below w.heap.size w w1) (h : w.cell? a = some v) : w1.cell? a = some v := (hb.cell (World.block_lt_of_cell? _ _ h)).trans h
end Go.Proofs.Ytkhfgflcanmefaa.PAll
end
section
namespace Go.Proofs.Ytkhfgflcanmefaa.PAll
open Go.RowKit Go.Proofs.YtkhfgflcanmefaaW.PrintWords Go.Proofs.YtkhfgflcanmefaaW.PrintLast Go.Proofs.YtkhfgflcanmefaaW.PrintMore
attribute [local go_sem] max2_int min2_int max_two min_two max_three min_three max_four min_four   -- for this text's walks alone
set_option linter.unusedVariables false
set_option linter.unusedSimpArgs false

def prebendref01_Ints.l0 : Nat → List Int → List Int → Int → Option (Bool)
  | 0, _, _, _ => none
  | k + 1, x0, x1, x5 => if x5 < (x0.length : Int) then (if 0 ≤ x5 then (if x5 < (x1.length : Int) then (if (rd x0 x5) = (rd x1 x5) then (prebendref01_Ints.l0 k x0 x1 (wrap64 (x5 + 1))) else (some false)) else (none)) else (none)) else (some true)
def prebendref01_Ints.f (k : Nat) (l0 : List Int) (l1 : List Int) : Option (Bool) := if (l0.length : Int) = (l1.length : Int) then (prebendref01_Ints.l0 k l0 l1 0) else (some false)
theorem prebendref01_Ints.mono_l : ∀ k, (∀ y0 y1 y2, LeO (prebendref01_Ints.l0 k y0 y1 y2) (prebendref01_Ints.l0 (k + 1) y0 y1 y2))
  | 0 => fun _ _ _ r h => by simp [prebendref01_Ints.l0] at h
  | k + 1 => by
    have ih0 := prebendref01_Ints.mono_l k
    · intro y0 y1 y2
      unfold prebendref01_Ints.l0
      repeat' first
      | (with_reducible exact ih0 _ _ _)
      | (with_reducible exact LeO.refl _)
      | (with_reducible exact LeO.none _)
      | (with_reducible refine LeO.ite ?_ ?_)
      | (with_reducible refine LeO.bind ?_ (fun _ => ?_))
      | exact ih0 _ _ _
      | exact LeO.none _
      | refine LeO.ite ?_ ?_
      | refine LeO.bind ?_ (fun _ => ?_)
theorem prebendref01_Ints.mono : ∀ a0 a1 k, LeO (prebendref01_Ints.f k a0 a1) (prebendref01_Ints.f (k + 1) a0 a1) := by
  intro a0 a1 k
  have ih0 := prebendref01_Ints.mono_l k
  unfold prebendref01_Ints.f
  repeat' first
      | (with_reducible exact ih0 _ _ _)
      | (with_reducible exact LeO.refl _)
      | (with_reducible exact LeO.none _)
      | (with_reducible refine LeO.ite ?_ ?_)
      | (with_reducible refine LeO.bind ?_ (fun _ => ?_))
      | exact ih0 _ _ _
      | exact LeO.none _
      | refine LeO.ite ?_ ?_
      | refine LeO.bind ?_ (fun _ => ?_)
set_option maxHeartbeats 8000000 in
set_option maxRecDepth 100000 in
theorem prebendref01_Ints.calls (k : Nat) (A0 : Option Addr) (c0 : Nat) (l0 : List Int) (A1 : Option Addr) (c1 : Nat) (l1 : List Int) (r : Bool) (w : World) (hr0 : Kd.C (Kd.int .i64) w A0 l0.length l0) (hc0 : l0.length ≤ c0) (hr1 : Kd.C (Kd.int .i64) w A1 l1.length l1) (hc1 : l1.length ≤ c1) (h : prebendref01_Ints.f k l0 l1 = some r) :
    Calls Try.prog 13 #[.slice A0 l0.length c0, .slice A1 l1.length c1] w fun e w' => e = .returned (.bool r) ∧ Drawn0 w w' := by
  have HR0 := Aside0.mk hr0
  have HC0 := Aside0.mk hc0
  clear hr0 hc0
  have HR1 := Aside0.mk hr1
  have HC1 := Aside0.mk hc1
  clear hr1 hc1
  have H : (if (l0.length : Int) = (l1.length : Int) then (prebendref01_Ints.l0 k l0 l1 0) else (some false)) = some r := h
  clear h
  by_cases c3 : (l0.length : Int) = (l1.length : Int)
  · rw [if_pos c3] at H
    have c3b0 : ((l0.length : Int) == (l1.length : Int)) = true := beq_iff_eq.mpr c3
    have c3b1 : ((l0.length : Int) != (l1.length : Int)) = false := bne_eq_false_iff_eq.mpr c3
    have c3b2 : (l0.length == l1.length) = true := by first | simpa using c3 | (simp at c3 ⊢; omega)
    clear c3
    have H' := Aside0.mk H
    clear H
    go_enter Try.func13, Try.ntmps13
    go_wp2
    repeat (go_quiet (fail); try go_wp2)
    go_loopg [5] k (fun kq v5 w' => ∃ (x5_1 : Int), v5 = .int .i64 x5_1 ∧ Aside0 (prebendref01_Ints.l0 kq l0 l1 x5_1 = some r) ∧ Aside0 (kq ≤ k) ∧ Drawn0 w w')
    case atStart => exact ⟨(0), (by first | rfl | (simp; done) | (simp [*]; done)), H', ⟨Nat.le_refl _⟩, by repeat (first | exact Drawn0.refl _ | apply Drawn0.step)⟩
    case round =>
      clear H'
      try clear c1
      try clear p2
      try clear c3
      try clear c3b0
      try clear c3b1
      try clear c3b2
      obtain ⟨x5_1, rfl, HA, HK1, ⟨m1, rfl⟩⟩ := hrel
      cases gk with
      | zero => exact absurd HA.out (by simp [prebendref01_Ints.l0])
      | succ k1 =>
        have H := HA.out
        clear HA
        simp only [prebendref01_Ints.l0] at H
        by_cases c4 : x5_1 < (l0.length : Int)
        · rw [if_pos c4] at H
          have c4b0 : decide (x5_1 < (l0.length : Int)) = true := decide_eq_true c4
          clear c4
          by_cases c5 : 0 ≤ x5_1
          · rw [if_pos c5] at H
            have c5b0 : decide (0 ≤ x5_1) = true := decide_eq_true c5
            clear c5
            by_cases c6 : x5_1 < (l1.length : Int)
            · rw [if_pos c6] at H
              have c6b0 : decide (x5_1 < (l1.length : Int)) = true := decide_eq_true c6
              clear c6
              by_cases c7 : (rd l0 x5_1) = (rd l1 x5_1)
              · rw [if_pos c7] at H
                have c7b0 : ((rd l0 x5_1) == (rd l1 x5_1)) = true := beq_iff_eq.mpr c7
                have c7b1 : ((rd l0 x5_1) != (rd l1 x5_1)) = false := bne_eq_false_iff_eq.mpr c7
                clear c7
                have H' := Aside0.mk H
                clear H
                have p167 : 0 ≤ (x5_1 : Int) := of_decide_eq_true (by first | (with_reducible assumption) | assumption)
                have q167 : x5_1 < (l0.length : Int) := of_decide_eq_true (by first | (with_reducible assumption) | assumption)
                obtain ⟨ad167, e167, hx167_0⟩ := Kd.at_int HR0.out x5_1 p167 q167
                cases e167
                replace p167 := eq_true p167
                replace q167 := eq_true q167
                have p168 : 0 ≤ (x5_1 : Int) := of_decide_eq_true (by first | (with_reducible assumption) | assumption)
                have q168 : x5_1 < (l1.length : Int) := of_decide_eq_true (by first | (with_reducible assumption) | assumption)
                obtain ⟨ad168, e168, hx168_0⟩ := Kd.at_int HR1.out x5_1 p168 q168
                cases e168
                replace p168 := eq_true p168
                replace q168 := eq_true q168
                go_wp2
                repeat (go_quiet (fail); try go_wp2)
                go_roundg k1
                case measure => have := HK1.out; omega
                case rel => exact ⟨(wrap64 (x5_1 + 1)), (by first | rfl | (simp; done) | (simp [*]; done)), H', ⟨by have := HK1.out; omega⟩, by repeat (first | exact Drawn0.refl _ | apply Drawn0.step)⟩
              · rw [if_neg c7] at H
                have c7b0 : ((rd l0 x5_1) == (rd l1 x5_1)) = false := beq_eq_false_iff_ne.mpr c7
                have c7b1 : ((rd l0 x5_1) != (rd l1 x5_1)) = true := bne_iff_ne.mpr c7
                obtain rfl := Option.some.inj H
                have p167 : 0 ≤ (x5_1 : Int) := of_decide_eq_true (by first | (with_reducible assumption) | assumption)
                have q167 : x5_1 < (l0.length : Int) := of_decide_eq_true (by first | (with_reducible assumption) | assumption)
                obtain ⟨ad167, e167, hx167_0⟩ := Kd.at_int HR0.out x5_1 p167 q167
                cases e167
                replace p167 := eq_true p167
                replace q167 := eq_true q167
                have p168 : 0 ≤ (x5_1 : Int) := of_decide_eq_true (by first | (with_reducible assumption) | assumption)
                have q168 : x5_1 < (l1.length : Int) := of_decide_eq_true (by first | (with_reducible assumption) | assumption)
                obtain ⟨ad168, e168, hx168_0⟩ := Kd.at_int HR1.out x5_1 p168 q168
                cases e168
                replace p168 := eq_true p168
                replace q168 := eq_true q168
                go_wp2
                repeat (go_quiet (fail); try go_wp2)
                go_ret
                exact ⟨by first | rfl | (simp; done) | (simp [*]; done), by repeat (first | exact Drawn0.refl _ | apply Drawn0.step)⟩
            · rw [if_neg c6] at H
              exact absurd H (by simp)
          · rw [if_neg c5] at H
            exact absurd H (by simp)
        · rw [if_neg c4] at H
          have c4b0 : decide (x5_1 < (l0.length : Int)) = false := decide_eq_false c4
          clear c4
          obtain rfl := Option.some.inj H
          go_wp2
          repeat (go_quiet (fail); try go_wp2)
          go_ret
          exact ⟨by first | rfl | (simp; done) | (simp [*]; done), by repeat (first | exact Drawn0.refl _ | apply Drawn0.step)⟩
  · rw [if_neg c3] at H
    have c3b0 : ((l0.length : Int) == (l1.length : Int)) = false := beq_eq_false_iff_ne.mpr c3
    have c3b1 : ((l0.length : Int) != (l1.length : Int)) = true := bne_iff_ne.mpr c3
    have c3b2 : (l0.length == l1.length) = false := by first | simpa using c3 | (simp at c3 ⊢; omega)
    obtain rfl := Option.some.inj H
    go_enter Try.func13, Try.ntmps13
    go_wp2
    repeat (go_quiet (fail); try go_wp2)
    go_ret
    exact ⟨by first | rfl | (simp; done) | (simp [*]; done), by repeat (first | exact Drawn0.refl _ | apply Drawn0.step)⟩

end Go.Proofs.Ytkhfgflcanmefaa.PAll
end
section
namespace Go.Proofs.Ytkhfgflcanmefaa.PAll
open Go.RowKit Go.Proofs.YtkhfgflcanmefaaW.PrintWords Go.Proofs.YtkhfgflcanmefaaW.PrintLast Go.Proofs.YtkhfgflcanmefaaW.PrintMore
attribute [local go_sem] max2_int min2_int max_two min_two max_three min_three max_four min_four   -- for this text's walks alone
set_option linter.unusedVariables false
set_option linter.unusedSimpArgs false

def prebendref16_Held.f (a0 : Int) (a1 : Int) : Option (Int) := if a0 < 0 then (some 0) else (if a0 > a1 then (some a1) else (some a0))
set_option maxHeartbeats 8000000 in
set_option maxRecDepth 100000 in
theorem prebendref16_Held.calls (a0 : Int) (a1 : Int) (r : Int) (w : World) (h : prebendref16_Held.f a0 a1 = some r) :
    Calls Try.prog 38 #[.int .i64 a0, .int .i64 a1] w fun e w' => e = .returned (.int .i64 r) ∧ Drawn0 w w' := by
  have H : (if a0 < 0 then (some 0) else (if a0 > a1 then (some a1) else (some a0))) = some r := h
  clear h
  by_cases c3 : a0 < 0
  · rw [if_pos c3] at H
    have c3b0 : decide (a0 < 0) = true := decide_eq_true c3
    clear c3
    obtain rfl := Option.some.inj H
    go_enter Try.func38, Try.ntmps38
    go_wp2
    go_ret
    exact ⟨by first | rfl | (simp; done) | (simp [*]; done), by repeat (first | exact Drawn0.refl _ | apply Drawn0.step)⟩
  · rw [if_neg c3] at H
    have c3b0 : decide (a0 < 0) = false := decide_eq_false c3
    clear c3
    by_cases c4 : a0 > a1
    · rw [if_pos c4] at H
      have c4b0 : decide (a1 < a0) = true := decide_eq_true c4
      clear c4
      obtain rfl := Option.some.inj H
      go_enter Try.func38, Try.ntmps38
      go_wp2
      go_ret
      exact ⟨by first | rfl | (simp; done) | (simp [*]; done), by repeat (first | exact Drawn0.refl _ | apply Drawn0.step)⟩
    · rw [if_neg c4] at H
      have c4b0 : decide (a1 < a0) = false := decide_eq_false c4
      clear c4
      obtain rfl := Option.some.inj H
      go_enter Try.func38, Try.ntmps38
      go_wp2
      go_ret
      exact ⟨by first | rfl | (simp; done) | (simp [*]; done), by repeat (first | exact Drawn0.refl _ | apply Drawn0.step)⟩

end Go.Proofs.Ytkhfgflcanmefaa.PAll
end
section
namespace Go.Proofs.Ytkhfgflcanmefaa.PAll
open Go.RowKit Go.Proofs.YtkhfgflcanmefaaW.PrintWords Go.Proofs.YtkhfgflcanmefaaW.PrintLast Go.Proofs.YtkhfgflcanmefaaW.PrintMore
attribute [local go_sem] max2_int min2_int max_two min_two max_three min_three max_four min_four   -- for this text's walks alone
set_option linter.unusedVariables false
set_option linter.unusedSimpArgs false

mutual
def prebendref19_Held.l0 : Nat → List (S32) → List (S32) → Int → Option ((List (S32)))
 | 0, _, _, _ => none
 | k + 1, x0, x3, x4 => if x4 < (x0.length : Int) then (prebendref19_Held.j1 k x0 x3 x4 (decide (x4 < 24))) else (prebendref19_Held.j1 k x0 x3 x4 false)
def prebendref19_Held.j1 : Nat → List (S32) → List (S32) → Int → Bool → Option ((List (S32)))
 | 0, _, _, _, _ => none
 | k + 1, x0, x3, x4, x14 => if x14 = true then (if 0 ≤ x4 then (if x4 < (x0.length : Int) then ((prebendref16_Held.f ((rd_T32 x0 x4).f8) 1125899906842624).bind fun t195 => ((prebendref16_Held.f ((rd_T32 x0 x4).f3) 1125899906842624).bind fun t196 => (if x3.length < 1256584717458 then (prebendref19_Held.l0 k x0 (x3 ++ [(⟨(rd_T32 x0 x4).f0, (rd_T32 x0 x4).f1, (rd_T32 x0 x4).f2, t196, (rd_T32 x0 x4).f4, (rd_T32 x0 x4).f5, (rd_T32 x0 x4).f6, (rd_T32 x0 x4).f7, t195, (rd_T32 x0 x4).f9, (rd_T32 x0 x4).f10, (rd_T32 x0 x4).f11⟩ : S32)]) (wrap64 (x4 + 1))) else (none)))) else (none)) else (none)) else (some x3)
end
def prebendref19_Held.f (k : Nat) (l0 : List (S32)) : Option ((List (S32))) := prebendref19_Held.l0 k l0 (([] : List (S32))) 0
theorem prebendref19_Held.mono_l : ∀ k, (∀ y0 y1 y2, LeO (prebendref19_Held.l0 k y0 y1 y2) (prebendref19_Held.l0 (k + 1) y0 y1 y2)) ∧ (∀ y0 y1 y2 y3, LeO (prebendref19_Held.j1 k y0 y1 y2 y3) (prebendref19_Held.j1 (k + 1) y0 y1 y2 y3))
 | 0 => ⟨fun _ _ _ r h => by simp [prebendref19_Held.l0] at h, fun _ _ _ _ r h => by simp [prebendref19_Held.j1] at h⟩
 | k + 1 => by
  obtain ⟨ih0, ih1⟩ := prebendref19_Held.mono_l k
  refine ⟨?_, ?_⟩
  ·intro y0 y1 y2
   unfold prebendref19_Held.l0
   repeat' first
   | (with_reducible exact ih0 _ _ _)
   | (with_reducible exact ih1 _ _ _ _)
   | (with_reducible exact LeO.refl _)
   | (with_reducible exact LeO.none _)
   | (with_reducible refine LeO.ite ?_ ?_)
   | (with_reducible refine LeO.bind ?_ (fun _ => ?_))
   | exact ih0 _ _ _
   | exact ih1 _ _ _ _
   | exact LeO.none _
   | refine LeO.ite ?_ ?_
   | refine LeO.bind ?_ (fun _ => ?_)
  ·intro y0 y1 y2 y3
   unfold prebendref19_Held.j1
   repeat' first
   | (with_reducible exact ih0 _ _ _)
   | (with_reducible exact ih1 _ _ _ _)
   | (with_reducible exact LeO.refl _)
   | (with_reducible exact LeO.none _)
   | (with_reducible refine LeO.ite ?_ ?_)
   | (with_reducible refine LeO.bind ?_ (fun _ => ?_))
   | exact ih0 _ _ _
   | exact ih1 _ _ _ _
   | exact LeO.none _
   | refine LeO.ite ?_ ?_
   | refine LeO.bind ?_ (fun _ => ?_)
theorem prebendref19_Held.mono : ∀ a0 k, LeO (prebendref19_Held.f k a0) (prebendref19_Held.f (k + 1) a0) := by
 intro a0 k
 obtain ⟨ih0, ih1⟩ := prebendref19_Held.mono_l k
 unfold prebendref19_Held.f
 repeat' first
   | (with_reducible exact ih0 _ _ _)
   | (with_reducible exact ih1 _ _ _ _)
   | (with_reducible exact LeO.refl _)
   | (with_reducible exact LeO.none _)
   | (with_reducible refine LeO.ite ?_ ?_)
   | (with_reducible refine LeO.bind ?_ (fun _ => ?_))
   | exact ih0 _ _ _
   | exact ih1 _ _ _ _
   | exact LeO.none _
   | refine LeO.ite ?_ ?_
   | refine LeO.bind ?_ (fun _ => ?_)
def prebendref19_Held.T6 : Bool × List (List Nat × List Nat) := (true, [([], []), ([0], [0]), ([1], [1]), ([], []), ([3], [3]), ([4, 2], [4]), ([0, 1, 2, 3, 4], []), ([6, 2, 5, 0, 1, 2, 3, 4], [2, 6]), ([0, 1, 2, 3, 4, 5, 6, 7], []), ([8, 5, 7, 0, 1, 2, 3, 4, 5, 6, 7], [5, 8])])
def prebendref19_Held.B6 : List Nat := [0, 1, 3, 0, 8, 31, 31, 127, 255, 511]
theorem prebendref19_Held.tab6 : rtab .any (opsOf Try.f15 6) = prebendref19_Held.T6 := by kernel_rfl
theorem prebendref19_Held.bits6 : waitsOk prebendref19_Held.T6.2 prebendref19_Held.B6 = true := by kernel_rfl
set_option maxHeartbeats 8000000 in
set_option maxRecDepth 100000 in
theorem prebendref19_Held.calls (k : Nat) (A0 : Option Addr) (c0 : Nat) (l0 : List (S32)) (r : List (S32)) (w : World) (hr0 : Kd.C k32 w A0 l0.length l0) (hc0 : l0.length ≤ c0) (h : prebendref19_Held.f k l0 = some r) :
  Calls Try.prog 15 #[.slice A0 l0.length c0] w fun e w' => ∃ v0_ : Value, e = .returned (v0_) ∧ Kd.R k32 32 w' w.heap.size (fun _ => True) v0_ r ∧ Below w.heap.size w w' := by
 have hu32 := Try.underlying32
 have HR0 := Aside0.mk hr0
 have HC0 := Aside0.mk hc0
 clear hr0; clear hc0
 have HB := Aside0.mk (Below.refl w.heap.size w)
 have H : (prebendref19_Held.l0 k l0 (([] : List (S32))) 0) = some r := h
 clear h
 obtain ⟨y190, hy190⟩ : ∃ y_ : List (S32), y_ = (([] : List (S32))) := ⟨_, rfl⟩
 replace H : (prebendref19_Held.l0 k l0 y190 0) = some r := mH hy190 H
 have Ny190 := Aside0.mk hy190
 clear hy190
 have H' := Aside0.mk H
 clear H
 go_enter Try.func15, Try.ntmps15
 go_wp2_with (first | ((with_reducible refine gate_dst (N := 6) rfl ?_); refine Kd.R_lit k32 _ 32 ?hg (N := 6) ?hd (xs := ([] : List (S32))) (inner := []) (ok := fun _ => True) (okp := fun _ => True) ?hr ?hp (fun _ hk => hk) trivial (Below.refl _ _) (Nat.le_refl _) (by simp) ?_; (case hd => rfl); (case hg => rfl); (case hr => first | (go_simp; done) | (go_simp; rfl)); (case hp => exact (Reps.none _ _)); intro v191 w2 ho3 hb hg_ hnew_; clear hg_ hnew_; (first | rw [← Ny190.out] at ho3 | (simp only [Int.reduceToNat] at ho3; rw [← Ny190.out] at ho3)); have n0_ := Aside0.mk (Kd.R_lower ho3 (below_size (mB HB.out))); have n1_ := Aside0.mk (below_step (mB HB.out) hb); clear HB; have HO192 := n0_; have HB := n1_; clear n0_ n1_; clear hb ho3))
 go_loopg [3, 4] k (fun kq v3 v4 w' => ∃ (x3_1 : List (S32)) (x4_1 : Int), v4 = .int .i64 x4_1 ∧ Aside0 (prebendref19_Held.l0 kq l0 x3_1 x4_1 = some r) ∧ Aside0 (kq ≤ k) ∧ Aside0 (Kd.R k32 32 w' w.heap.size (fun _ => True) v3 x3_1) ∧ Aside0 (Below w.heap.size w w'))
 case atStart => exact ⟨(y190), (0), ez, H', ⟨Nat.le_refl _⟩, ⟨mR HO192.out⟩, ⟨mB HB.out⟩⟩
 case round =>
  clear H'
  (try clear c1); (try clear p2)
  obtain ⟨x3_1, x4_1, rfl, HA, HK1, HO_3, HB⟩ := hrel
  cases gk with
  | zero => exact absurd HA.out (by simp [prebendref19_Held.l0])
  | succ k1 =>
   have H := HA.out
   clear HA
   simp only [prebendref19_Held.l0] at H
   have HC4 := Aside0.mk H
   clear H
   go_upto_region 3 with (fail)
   go_cut [14] (fun v14 wc => ∃ (kq : Nat) (x14_3 : Bool), v14 = .bool x14_3 ∧ Aside0 (prebendref19_Held.j1 kq l0 x3_1 x4_1 x14_3 = some r) ∧ Aside0 (kq ≤ k1) ∧ Aside0 (Kd.R k32 32 wc w.heap.size (fun _ => True) u3 x3_1) ∧ Aside0 (Below w.heap.size w wc))
   case first =>
    have H := HC4.out
    clear HC4
    by_cases c5 : x4_1 < (l0.length : Int)
    ·rw [if_pos c5] at H
     have c5b0 : decide (x4_1 < (l0.length : Int)) = true := decide_eq_true c5
     clear c5
     (first | rw [c5b0] | (simp only [i64_w, i32_w]; rw [c5b0]) | skip)
     have H' := Aside0.mk H
     clear H
     go_wp2
     go_meet
     case rel => exact ⟨_, (decide (x4_1 < 24)), ez, H', ⟨by have := HK1.out; first | omega | exact Nat.le_refl _⟩, ⟨mR HO_3.out⟩, ⟨mB HB.out⟩⟩
    ·rw [if_neg c5] at H
     have c5b0 : decide (x4_1 < (l0.length : Int)) = false := decide_eq_false c5
     clear c5
     (first | rw [c5b0] | (simp only [i64_w, i32_w]; rw [c5b0]) | skip)
     have H' := Aside0.mk H
     clear H
     go_wp2
     go_meet
     case rel => exact ⟨_, (false), ez, H', ⟨by have := HK1.out; first | omega | exact Nat.le_refl _⟩, ⟨mR HO_3.out⟩, ⟨mB HB.out⟩⟩
   case rest =>
    clear HC4
    (try clear c1); (try clear p2); (try clear c5); (try clear c5b0); (try clear p2)
    obtain ⟨kq, x14_3, rfl, HA, HJ3, HO_3, HB⟩ := hcut
    cases kq with
    | zero => exact absurd HA.out (by simp [prebendref19_Held.j1])
    | succ kj3 =>
     have H := HA.out
     clear HA
     simp only [prebendref19_Held.j1] at H
     by_cases c6 : x14_3 = true
     ·subst c6
      have H1 : (if 0 ≤ x4_1 then (if x4_1 < (l0.length : Int) then ((prebendref16_Held.f ((rd_T32 l0 x4_1).f8) 1125899906842624).bind fun t195 => ((prebendref16_Held.f ((rd_T32 l0 x4_1).f3) 1125899906842624).bind fun t196 => (if x3_1.length < 1256584717458 then (prebendref19_Held.l0 kj3 l0 (x3_1 ++ [(⟨(rd_T32 l0 x4_1).f0, (rd_T32 l0 x4_1).f1, (rd_T32 l0 x4_1).f2, t196, (rd_T32 l0 x4_1).f4, (rd_T32 l0 x4_1).f5, (rd_T32 l0 x4_1).f6, (rd_T32 l0 x4_1).f7, t195, (rd_T32 l0 x4_1).f9, (rd_T32 l0 x4_1).f10, (rd_T32 l0 x4_1).f11⟩ : S32)]) (wrap64 (x4_1 + 1))) else (none)))) else (none)) else (none)) = some r := by rw [if_pos rfl] at H; exact H
      clear H
      have H := H1
      clear H1
      by_cases c7 : 0 ≤ x4_1
      ·rw [if_pos c7] at H
       have c7b0 : decide (0 ≤ x4_1) = true := decide_eq_true c7
       clear c7
       by_cases c8 : x4_1 < (l0.length : Int)
       ·rw [if_pos c8] at H
        have c8b0 : decide (x4_1 < (l0.length : Int)) = true := decide_eq_true c8
        clear c8
        replace H := Option.bind_eq_some_iff.mp H
        obtain ⟨t195, A90, H⟩ := H
        replace H : ((prebendref16_Held.f ((rd_T32 l0 x4_1).f3) 1125899906842624).bind fun t196 => (if x3_1.length < 1256584717458 then (prebendref19_Held.l0 kj3 l0 (x3_1 ++ [(⟨(rd_T32 l0 x4_1).f0, (rd_T32 l0 x4_1).f1, (rd_T32 l0 x4_1).f2, t196, (rd_T32 l0 x4_1).f4, (rd_T32 l0 x4_1).f5, (rd_T32 l0 x4_1).f6, (rd_T32 l0 x4_1).f7, t195, (rd_T32 l0 x4_1).f9, (rd_T32 l0 x4_1).f10, (rd_T32 l0 x4_1).f11⟩ : S32)]) (wrap64 (x4_1 + 1))) else (none))) = some r := H
        have A9 := Aside0.mk A90
        clear A90
        replace H := Option.bind_eq_some_iff.mp H
        obtain ⟨t196, A100, H⟩ := H
        replace H : (if x3_1.length < 1256584717458 then (prebendref19_Held.l0 kj3 l0 (x3_1 ++ [(⟨(rd_T32 l0 x4_1).f0, (rd_T32 l0 x4_1).f1, (rd_T32 l0 x4_1).f2, t196, (rd_T32 l0 x4_1).f4, (rd_T32 l0 x4_1).f5, (rd_T32 l0 x4_1).f6, (rd_T32 l0 x4_1).f7, t195, (rd_T32 l0 x4_1).f9, (rd_T32 l0 x4_1).f10, (rd_T32 l0 x4_1).f11⟩ : S32)]) (wrap64 (x4_1 + 1))) else (none)) = some r := H
        have A10 := Aside0.mk A100
        clear A100
        by_cases c11 : x3_1.length < 1256584717458
        ·rw [if_pos c11] at H
         have LMc11 := Aside0.mk c11
         clear c11
         obtain ⟨y197, hy197⟩ : ∃ y_ : List (S32), y_ = (x3_1 ++ [(⟨(rd_T32 l0 x4_1).f0, (rd_T32 l0 x4_1).f1, (rd_T32 l0 x4_1).f2, t196, (rd_T32 l0 x4_1).f4, (rd_T32 l0 x4_1).f5, (rd_T32 l0 x4_1).f6, (rd_T32 l0 x4_1).f7, t195, (rd_T32 l0 x4_1).f9, (rd_T32 l0 x4_1).f10, (rd_T32 l0 x4_1).f11⟩ : S32)]) := ⟨_, rfl⟩
         replace H : (prebendref19_Held.l0 kj3 l0 y197 (wrap64 (x4_1 + 1))) = some r := mH hy197 H
         have Ny197 := Aside0.mk hy197
         clear hy197
         have H' := Aside0.mk H
         clear H
         have p193 : 0 ≤ (x4_1 : Int) := oda
         have q193 : x4_1 < (l0.length : Int) := oda
         obtain ⟨ad193, e193, hx193_0, hx193_1, hx193_2, hx193_3, hx193_4, hx193_5, hx193_6, hx193_7, hx193_8, hx193_9, hx193_10, hx193_11⟩ := at_T32 HR0.out x4_1 p193 q193
         cases e193
         replace hx193_0 := (HB.out.cell (World.block_lt_of_cell? w _ hx193_0)).trans hx193_0
         replace hx193_1 := (HB.out.cell (World.block_lt_of_cell? w _ hx193_1)).trans hx193_1
         replace hx193_2 := (HB.out.cell (World.block_lt_of_cell? w _ hx193_2)).trans hx193_2
         replace hx193_3 := (HB.out.cell (World.block_lt_of_cell? w _ hx193_3)).trans hx193_3
         replace hx193_4 := (HB.out.cell (World.block_lt_of_cell? w _ hx193_4)).trans hx193_4
         replace hx193_5 := (HB.out.cell (World.block_lt_of_cell? w _ hx193_5)).trans hx193_5
         replace hx193_6 := (HB.out.cell (World.block_lt_of_cell? w _ hx193_6)).trans hx193_6
         replace hx193_7 := (HB.out.cell (World.block_lt_of_cell? w _ hx193_7)).trans hx193_7
         replace hx193_8 := (HB.out.cell (World.block_lt_of_cell? w _ hx193_8)).trans hx193_8
         replace hx193_9 := (HB.out.cell (World.block_lt_of_cell? w _ hx193_9)).trans hx193_9
         replace hx193_10 := (HB.out.cell (World.block_lt_of_cell? w _ hx193_10)).trans hx193_10
         replace hx193_11 := (HB.out.cell (World.block_lt_of_cell? w _ hx193_11)).trans hx193_11
         replace p193 := eq_true p193
         replace q193 := eq_true q193
         try go_wp2_with (first | ((with_reducible refine gate_dst (N := 5) rfl ?_); refine box_event ?hg (N := 5) ?hd (cs := #[.int .i64 0, .int .i64 0, .int .i64 0, .int .i64 0, .int .i64 0, .int .i64 0, .int .i64 0, .int .i64 0, .int .i64 0, .int .i64 0, .int .i64 0, .slice none 0 0]) (t := 32) ?hr ?_; (case hd => rfl); (case hg => rfl); (case hr => first | (go_simp; done) | (go_simp; rfl)); intro gb194 hg w12 hbox hb; have n0_ := Aside0.mk (Kd.R_below (Kd.R_elderB (mR HO_3.out) gb194 (Nat.le_of_eq hg.symm)) hb); have n1_ := Aside0.mk (below_step (mB HB.out) hb); have n2_ := Aside0.mk (hbox); have n3_ := Aside0.mk ((by rw [hg]; exact (below_size (mB HB.out)) : w.heap.size ≤ gb194)); have n4_ := Aside0.mk ((by rw [hg]; exact (below_size (mB HB.out)) : w.heap.size ≤ gb194)); clear HO_3; clear HB; have HO_3 := n0_; have HB := n1_; have BK194 := n2_; have GW194 := n3_; have GE194 := n4_; clear n0_ n1_ n2_ n3_ n4_; clear hb hbox hg; have hcz13_0 : w12.cell? ⟨gb194, 0, none⟩ = some (.int .i64 0) := (blk_cell BK194.out 0).trans rfl; have hcz13_1 : w12.cell? ⟨gb194, 1, none⟩ = some (.int .i64 0) := (blk_cell BK194.out 1).trans rfl; have hcz13_2 : w12.cell? ⟨gb194, 2, none⟩ = some (.int .i64 0) := (blk_cell BK194.out 2).trans rfl; have hcz13_3 : w12.cell? ⟨gb194, 3, none⟩ = some (.int .i64 0) := (blk_cell BK194.out 3).trans rfl; have hcz13_4 : w12.cell? ⟨gb194, 4, none⟩ = some (.int .i64 0) := (blk_cell BK194.out 4).trans rfl; have hcz13_5 : w12.cell? ⟨gb194, 5, none⟩ = some (.int .i64 0) := (blk_cell BK194.out 5).trans rfl; have hcz13_6 : w12.cell? ⟨gb194, 6, none⟩ = some (.int .i64 0) := (blk_cell BK194.out 6).trans rfl; have hcz13_7 : w12.cell? ⟨gb194, 7, none⟩ = some (.int .i64 0) := (blk_cell BK194.out 7).trans rfl; have hcz13_8 : w12.cell? ⟨gb194, 8, none⟩ = some (.int .i64 0) := (blk_cell BK194.out 8).trans rfl; have hcz13_9 : w12.cell? ⟨gb194, 9, none⟩ = some (.int .i64 0) := (blk_cell BK194.out 9).trans rfl; have hcz13_10 : w12.cell? ⟨gb194, 10, none⟩ = some (.int .i64 0) := (blk_cell BK194.out 10).trans rfl; have hcz13_11 : w12.cell? ⟨gb194, 11, none⟩ = some (.slice none 0 0) := (blk_cell BK194.out 11).trans rfl; have hfz13_0 := blk_frozen BK194.out 0; have hfz13_1 := blk_frozen BK194.out 1; have hfz13_2 := blk_frozen BK194.out 2; have hfz13_3 := blk_frozen BK194.out 3; have hfz13_4 := blk_frozen BK194.out 4; have hfz13_5 := blk_frozen BK194.out 5; have hfz13_6 := blk_frozen BK194.out 6; have hfz13_7 := blk_frozen BK194.out 7; have hfz13_8 := blk_frozen BK194.out 8; have hfz13_9 := blk_frozen BK194.out 9; have hfz13_10 := blk_frozen BK194.out 10; have hfz13_11 := blk_frozen BK194.out 11))
         have n0_ : Aside0 (Kd.R k32 32 ((((((((((((w12.setCell ⟨gb194, 0, none⟩ (.int .i64 ((rd_T32 l0 x4_1).f0))).setCell ⟨gb194, 1, none⟩ (.int .i64 ((rd_T32 l0 x4_1).f1))).setCell ⟨gb194, 2, none⟩ (.int .i64 ((rd_T32 l0 x4_1).f2))).setCell ⟨gb194, 3, none⟩ (.int .i64 ((rd_T32 l0 x4_1).f3))).setCell ⟨gb194, 4, none⟩ (.int .i64 ((rd_T32 l0 x4_1).f4))).setCell ⟨gb194, 5, none⟩ (.int .i64 ((rd_T32 l0 x4_1).f5))).setCell ⟨gb194, 6, none⟩ (.int .i64 ((rd_T32 l0 x4_1).f6))).setCell ⟨gb194, 7, none⟩ (.int .i64 ((rd_T32 l0 x4_1).f7))).setCell ⟨gb194, 8, none⟩ (.int .i64 ((rd_T32 l0 x4_1).f8))).setCell ⟨gb194, 9, none⟩ (.int .i64 ((rd_T32 l0 x4_1).f9))).setCell ⟨gb194, 10, none⟩ (.int .i64 ((rd_T32 l0 x4_1).f10))).setCell ⟨gb194, 11, none⟩ (.slice ((rd_T32 l0 x4_1).f11).A ((rd_T32 l0 x4_1).f11).n ((rd_T32 l0 x4_1).f11).c)) w.heap.size (fun k_ => k_ ≠ gb194) u3 x3_1) := ⟨by (with_reducible repeat (first | apply Kd.R_alloc | apply Kd.R_drewN | apply Kd.R_drew)); exact Kd.R_mono (Kd.R_fa gb194 11 (Kd.R_fa gb194 10 (Kd.R_fa gb194 9 (Kd.R_fa gb194 8 (Kd.R_fa gb194 7 (Kd.R_fa gb194 6 (Kd.R_fa gb194 5 (Kd.R_fa gb194 4 (Kd.R_fa gb194 3 (Kd.R_fa gb194 2 (Kd.R_fa gb194 1 (Kd.R_fa gb194 0 (Kd.R_mono HO_3.out (fun k_ hk => (⟨hk, hk.2⟩ : _ ∧ k_ ≠ gb194))) (.int .i64 ((rd_T32 l0 x4_1).f0))) (.int .i64 ((rd_T32 l0 x4_1).f1))) (.int .i64 ((rd_T32 l0 x4_1).f2))) (.int .i64 ((rd_T32 l0 x4_1).f3))) (.int .i64 ((rd_T32 l0 x4_1).f4))) (.int .i64 ((rd_T32 l0 x4_1).f5))) (.int .i64 ((rd_T32 l0 x4_1).f6))) (.int .i64 ((rd_T32 l0 x4_1).f7))) (.int .i64 ((rd_T32 l0 x4_1).f8))) (.int .i64 ((rd_T32 l0 x4_1).f9))) (.int .i64 ((rd_T32 l0 x4_1).f10))) (.slice ((rd_T32 l0 x4_1).f11).A ((rd_T32 l0 x4_1).f11).n ((rd_T32 l0 x4_1).f11).c)) (fun _ hk => hk.1.2)⟩
         have n1_ : Aside0 (((((((((((((w12.setCell ⟨gb194, 0, none⟩ (.int .i64 ((rd_T32 l0 x4_1).f0))).setCell ⟨gb194, 1, none⟩ (.int .i64 ((rd_T32 l0 x4_1).f1))).setCell ⟨gb194, 2, none⟩ (.int .i64 ((rd_T32 l0 x4_1).f2))).setCell ⟨gb194, 3, none⟩ (.int .i64 ((rd_T32 l0 x4_1).f3))).setCell ⟨gb194, 4, none⟩ (.int .i64 ((rd_T32 l0 x4_1).f4))).setCell ⟨gb194, 5, none⟩ (.int .i64 ((rd_T32 l0 x4_1).f5))).setCell ⟨gb194, 6, none⟩ (.int .i64 ((rd_T32 l0 x4_1).f6))).setCell ⟨gb194, 7, none⟩ (.int .i64 ((rd_T32 l0 x4_1).f7))).setCell ⟨gb194, 8, none⟩ (.int .i64 ((rd_T32 l0 x4_1).f8))).setCell ⟨gb194, 9, none⟩ (.int .i64 ((rd_T32 l0 x4_1).f9))).setCell ⟨gb194, 10, none⟩ (.int .i64 ((rd_T32 l0 x4_1).f10))).setCell ⟨gb194, 11, none⟩ (.slice ((rd_T32 l0 x4_1).f11).A ((rd_T32 l0 x4_1).f11).n ((rd_T32 l0 x4_1).f11).c)).heap[gb194]? = some (.cells (cJ (rd_T32 l0 x4_1)) 32 (0, 0))) := ⟨by (with_reducible repeat first | apply blk_drewN | apply blk_drew | apply blk_alloc); refine blk_put (cs := #[.int .i64 ((rd_T32 l0 x4_1).f0), .int .i64 ((rd_T32 l0 x4_1).f1), .int .i64 ((rd_T32 l0 x4_1).f2), .int .i64 ((rd_T32 l0 x4_1).f3), .int .i64 ((rd_T32 l0 x4_1).f4), .int .i64 ((rd_T32 l0 x4_1).f5), .int .i64 ((rd_T32 l0 x4_1).f6), .int .i64 ((rd_T32 l0 x4_1).f7), .int .i64 ((rd_T32 l0 x4_1).f8), .int .i64 ((rd_T32 l0 x4_1).f9), .int .i64 ((rd_T32 l0 x4_1).f10), .slice none 0 0]) ?_ 11 _ rfl; (with_reducible repeat first | apply blk_drewN | apply blk_drew | apply blk_alloc); refine blk_put (cs := #[.int .i64 ((rd_T32 l0 x4_1).f0), .int .i64 ((rd_T32 l0 x4_1).f1), .int .i64 ((rd_T32 l0 x4_1).f2), .int .i64 ((rd_T32 l0 x4_1).f3), .int .i64 ((rd_T32 l0 x4_1).f4), .int .i64 ((rd_T32 l0 x4_1).f5), .int .i64 ((rd_T32 l0 x4_1).f6), .int .i64 ((rd_T32 l0 x4_1).f7), .int .i64 ((rd_T32 l0 x4_1).f8), .int .i64 ((rd_T32 l0 x4_1).f9), .int .i64 0, .slice none 0 0]) ?_ 10 _ rfl; (with_reducible repeat first | apply blk_drewN | apply blk_drew | apply blk_alloc); refine blk_put (cs := #[.int .i64 ((rd_T32 l0 x4_1).f0), .int .i64 ((rd_T32 l0 x4_1).f1), .int .i64 ((rd_T32 l0 x4_1).f2), .int .i64 ((rd_T32 l0 x4_1).f3), .int .i64 ((rd_T32 l0 x4_1).f4), .int .i64 ((rd_T32 l0 x4_1).f5), .int .i64 ((rd_T32 l0 x4_1).f6), .int .i64 ((rd_T32 l0 x4_1).f7), .int .i64 ((rd_T32 l0 x4_1).f8), .int .i64 0, .int .i64 0, .slice none 0 0]) ?_ 9 _ rfl; (with_reducible repeat first | apply blk_drewN | apply blk_drew | apply blk_alloc); refine blk_put (cs := #[.int .i64 ((rd_T32 l0 x4_1).f0), .int .i64 ((rd_T32 l0 x4_1).f1), .int .i64 ((rd_T32 l0 x4_1).f2), .int .i64 ((rd_T32 l0 x4_1).f3), .int .i64 ((rd_T32 l0 x4_1).f4), .int .i64 ((rd_T32 l0 x4_1).f5), .int .i64 ((rd_T32 l0 x4_1).f6), .int .i64 ((rd_T32 l0 x4_1).f7), .int .i64 0, .int .i64 0, .int .i64 0, .slice none 0 0]) ?_ 8 _ rfl; (with_reducible repeat first | apply blk_drewN | apply blk_drew | apply blk_alloc); refine blk_put (cs := #[.int .i64 ((rd_T32 l0 x4_1).f0), .int .i64 ((rd_T32 l0 x4_1).f1), .int .i64 ((rd_T32 l0 x4_1).f2), .int .i64 ((rd_T32 l0 x4_1).f3), .int .i64 ((rd_T32 l0 x4_1).f4), .int .i64 ((rd_T32 l0 x4_1).f5), .int .i64 ((rd_T32 l0 x4_1).f6), .int .i64 0, .int .i64 0, .int .i64 0, .int .i64 0, .slice none 0 0]) ?_ 7 _ rfl; (with_reducible repeat first | apply blk_drewN | apply blk_drew | apply blk_alloc); refine blk_put (cs := #[.int .i64 ((rd_T32 l0 x4_1).f0), .int .i64 ((rd_T32 l0 x4_1).f1), .int .i64 ((rd_T32 l0 x4_1).f2), .int .i64 ((rd_T32 l0 x4_1).f3), .int .i64 ((rd_T32 l0 x4_1).f4), .int .i64 ((rd_T32 l0 x4_1).f5), .int .i64 0, .int .i64 0, .int .i64 0, .int .i64 0, .int .i64 0, .slice none 0 0]) ?_ 6 _ rfl; (with_reducible repeat first | apply blk_drewN | apply blk_drew | apply blk_alloc); refine blk_put (cs := #[.int .i64 ((rd_T32 l0 x4_1).f0), .int .i64 ((rd_T32 l0 x4_1).f1), .int .i64 ((rd_T32 l0 x4_1).f2), .int .i64 ((rd_T32 l0 x4_1).f3), .int .i64 ((rd_T32 l0 x4_1).f4), .int .i64 0, .int .i64 0, .int .i64 0, .int .i64 0, .int .i64 0, .int .i64 0, .slice none 0 0]) ?_ 5 _ rfl; (with_reducible repeat first | apply blk_drewN | apply blk_drew | apply blk_alloc); refine blk_put (cs := #[.int .i64 ((rd_T32 l0 x4_1).f0), .int .i64 ((rd_T32 l0 x4_1).f1), .int .i64 ((rd_T32 l0 x4_1).f2), .int .i64 ((rd_T32 l0 x4_1).f3), .int .i64 0, .int .i64 0, .int .i64 0, .int .i64 0, .int .i64 0, .int .i64 0, .int .i64 0, .slice none 0 0]) ?_ 4 _ rfl; (with_reducible repeat first | apply blk_drewN | apply blk_drew | apply blk_alloc); refine blk_put (cs := #[.int .i64 ((rd_T32 l0 x4_1).f0), .int .i64 ((rd_T32 l0 x4_1).f1), .int .i64 ((rd_T32 l0 x4_1).f2), .int .i64 0, .int .i64 0, .int .i64 0, .int .i64 0, .int .i64 0, .int .i64 0, .int .i64 0, .int .i64 0, .slice none 0 0]) ?_ 3 _ rfl; (with_reducible repeat first | apply blk_drewN | apply blk_drew | apply blk_alloc); refine blk_put (cs := #[.int .i64 ((rd_T32 l0 x4_1).f0), .int .i64 ((rd_T32 l0 x4_1).f1), .int .i64 0, .int .i64 0, .int .i64 0, .int .i64 0, .int .i64 0, .int .i64 0, .int .i64 0, .int .i64 0, .int .i64 0, .slice none 0 0]) ?_ 2 _ rfl; (with_reducible repeat first | apply blk_drewN | apply blk_drew | apply blk_alloc); refine blk_put (cs := #[.int .i64 ((rd_T32 l0 x4_1).f0), .int .i64 0, .int .i64 0, .int .i64 0, .int .i64 0, .int .i64 0, .int .i64 0, .int .i64 0, .int .i64 0, .int .i64 0, .int .i64 0, .slice none 0 0]) ?_ 1 _ rfl; (with_reducible repeat first | apply blk_drewN | apply blk_drew | apply blk_alloc); refine blk_put (cs := #[.int .i64 0, .int .i64 0, .int .i64 0, .int .i64 0, .int .i64 0, .int .i64 0, .int .i64 0, .int .i64 0, .int .i64 0, .int .i64 0, .int .i64 0, .slice none 0 0]) ?_ 0 _ rfl; (with_reducible repeat first | apply blk_drewN | apply blk_drew | apply blk_alloc); exact BK194.out⟩
         have n2_ : Aside0 (Below w.heap.size w ((((((((((((w12.setCell ⟨gb194, 0, none⟩ (.int .i64 ((rd_T32 l0 x4_1).f0))).setCell ⟨gb194, 1, none⟩ (.int .i64 ((rd_T32 l0 x4_1).f1))).setCell ⟨gb194, 2, none⟩ (.int .i64 ((rd_T32 l0 x4_1).f2))).setCell ⟨gb194, 3, none⟩ (.int .i64 ((rd_T32 l0 x4_1).f3))).setCell ⟨gb194, 4, none⟩ (.int .i64 ((rd_T32 l0 x4_1).f4))).setCell ⟨gb194, 5, none⟩ (.int .i64 ((rd_T32 l0 x4_1).f5))).setCell ⟨gb194, 6, none⟩ (.int .i64 ((rd_T32 l0 x4_1).f6))).setCell ⟨gb194, 7, none⟩ (.int .i64 ((rd_T32 l0 x4_1).f7))).setCell ⟨gb194, 8, none⟩ (.int .i64 ((rd_T32 l0 x4_1).f8))).setCell ⟨gb194, 9, none⟩ (.int .i64 ((rd_T32 l0 x4_1).f9))).setCell ⟨gb194, 10, none⟩ (.int .i64 ((rd_T32 l0 x4_1).f10))).setCell ⟨gb194, 11, none⟩ (.slice ((rd_T32 l0 x4_1).f11).A ((rd_T32 l0 x4_1).f11).n ((rd_T32 l0 x4_1).f11).c))) := ⟨mBs HB.out⟩
         (try clear HO_3); (try clear BK194); (try clear HB)
         generalize ((((((((((((w12.setCell ⟨gb194, 0, none⟩ (.int .i64 ((rd_T32 l0 x4_1).f0))).setCell ⟨gb194, 1, none⟩ (.int .i64 ((rd_T32 l0 x4_1).f1))).setCell ⟨gb194, 2, none⟩ (.int .i64 ((rd_T32 l0 x4_1).f2))).setCell ⟨gb194, 3, none⟩ (.int .i64 ((rd_T32 l0 x4_1).f3))).setCell ⟨gb194, 4, none⟩ (.int .i64 ((rd_T32 l0 x4_1).f4))).setCell ⟨gb194, 5, none⟩ (.int .i64 ((rd_T32 l0 x4_1).f5))).setCell ⟨gb194, 6, none⟩ (.int .i64 ((rd_T32 l0 x4_1).f6))).setCell ⟨gb194, 7, none⟩ (.int .i64 ((rd_T32 l0 x4_1).f7))).setCell ⟨gb194, 8, none⟩ (.int .i64 ((rd_T32 l0 x4_1).f8))).setCell ⟨gb194, 9, none⟩ (.int .i64 ((rd_T32 l0 x4_1).f9))).setCell ⟨gb194, 10, none⟩ (.int .i64 ((rd_T32 l0 x4_1).f10))).setCell ⟨gb194, 11, none⟩ (.slice ((rd_T32 l0 x4_1).f11).A ((rd_T32 l0 x4_1).f11).n ((rd_T32 l0 x4_1).f11).c)) = w14 at n0_ n1_ n2_ ⊢
         have HO_3 := n0_
         have BK194 := n1_
         have HB := n2_
         clear n0_; clear n1_; clear n2_
         have n0_ := Aside0.mk (Kd.R_drew HO_3.out)
         have n1_ := Aside0.mk (blk_drew BK194.out)
         have n2_ := Aside0.mk (below_drew1 HB.out)
         clear HO_3; clear BK194; clear HB
         have HO_3 := n0_
         have BK194 := n1_
         have HB := n2_
         clear n0_; clear n1_; clear n2_
         refine start_ (n := 10) (S := fun w' => w'.cell? ⟨gb194, 0, none⟩ = some (.int .i64 ((rd_T32 l0 x4_1).f0)) ∧ w'.cell? ⟨gb194, 1, none⟩ = some (.int .i64 ((rd_T32 l0 x4_1).f1)) ∧ w'.cell? ⟨gb194, 2, none⟩ = some (.int .i64 ((rd_T32 l0 x4_1).f2)) ∧ w'.cell? ⟨gb194, 3, none⟩ = some (.int .i64 ((rd_T32 l0 x4_1).f3)) ∧ w'.cell? ⟨gb194, 4, none⟩ = some (.int .i64 ((rd_T32 l0 x4_1).f4)) ∧ w'.cell? ⟨gb194, 5, none⟩ = some (.int .i64 ((rd_T32 l0 x4_1).f5)) ∧ w'.cell? ⟨gb194, 6, none⟩ = some (.int .i64 ((rd_T32 l0 x4_1).f6)) ∧ w'.cell? ⟨gb194, 7, none⟩ = some (.int .i64 ((rd_T32 l0 x4_1).f7)) ∧ w'.cell? ⟨gb194, 8, none⟩ = some (.int .i64 ((rd_T32 l0 x4_1).f8)) ∧ w'.cell? ⟨gb194, 9, none⟩ = some (.int .i64 ((rd_T32 l0 x4_1).f9)) ∧ w'.cell? ⟨gb194, 10, none⟩ = some (.int .i64 ((rd_T32 l0 x4_1).f10)) ∧ w'.cell? ⟨gb194, 11, none⟩ = some (.slice ((rd_T32 l0 x4_1).f11).A ((rd_T32 l0 x4_1).f11).n ((rd_T32 l0 x4_1).f11).c)) (ds := [7, 9]) #[false, false, false, false, false, false, false, false, false, false] (by kernel_rfl) rfl rfl ⟨(blk_cell BK194.out 0).trans rfl, (blk_cell BK194.out 1).trans rfl, (blk_cell BK194.out 2).trans rfl, (blk_cell BK194.out 3).trans rfl, (blk_cell BK194.out 4).trans rfl, (blk_cell BK194.out 5).trans rfl, (blk_cell BK194.out 6).trans rfl, (blk_cell BK194.out 7).trans rfl, (blk_cell BK194.out 8).trans rfl, (blk_cell BK194.out 9).trans rfl, (blk_cell BK194.out 10).trans rfl, (blk_cell BK194.out 11).trans rfl⟩ (fun hHeld => ?_); refine with_tabW prebendref19_Held.tab6 prebendref19_Held.bits6 (fun HT_ HW_ => ?_)
         generalize w14.drew = w15 at HO_3 BK194 HB hHeld ⊢
         refine plan_ [(0, 21), (3, 24)] ?_
         iterate 2 (refine planP_ (v := ?_) (a' := ?_) rfl rfl (any_of HT_.out (by kernel_rfl)) (fun _ _ _ h => h) (Or.inl ⟨by rfl, ?_⟩) ?_ ?_; rotate_left; (intro w'; go_simp; with_reducible rfl); rotate_left; (simp only [Act.put, List.setIfInBounds_toArray, List.set_cons_zero, List.set_cons_succ, i64_w, i32_w]; rfl))
         refine planEnd_ ?_
         refine plan_ [(1, 22), (4, 25)] ?_
         iterate 2 (refine planT_ (v := ?_) (a' := ?_) rfl rfl (take_ofW HT_.out HW_.out (by kernel_rfl)) (fun _ _ _ h => h) (Or.inl ⟨by rfl, ?_⟩) hHeld ?_ ?_; rotate_left; (rintro w' ⟨s0, s1, s2, s3, s4, s5, s6, s7, s8, s9, s10, s11⟩; go_simp; with_reducible rfl); rotate_left; (simp only [Act.put, List.setIfInBounds_toArray, List.set_cons_zero, List.set_cons_succ, i64_w, i32_w]; rfl))
         refine planEnd_ ?_
         refine one_ (i := 2) (N := some 23) #[true, true, true, true, true, false, false, false, false, false] rfl rfl (one_of HT_.out (by kernel_rfl)) (by decide) (fun K hK => ?_)
         refine goes_ Try.func38 (by kernel_rfl) rfl #[.int .i64 ((rd_T32 l0 x4_1).f8), .int .i64 1125899906842624] (by rfl) rfl rfl mt ?_
         with_reducible refine (prebendref16_Held.calls ((rd_T32 l0 x4_1).f8) 1125899906842624 t195 _ A9.out).mono ?_
         rintro e w' ⟨rfl, ⟨nd, rfl⟩⟩
         refine ⟨_, rfl, ?_⟩
         refine hK.out _ _ ⟨(blk_cell BK194.out 0).trans rfl, (blk_cell BK194.out 1).trans rfl, (blk_cell BK194.out 2).trans rfl, (blk_cell BK194.out 3).trans rfl, (blk_cell BK194.out 4).trans rfl, (blk_cell BK194.out 5).trans rfl, (blk_cell BK194.out 6).trans rfl, (blk_cell BK194.out 7).trans rfl, (blk_cell BK194.out 8).trans rfl, (blk_cell BK194.out 9).trans rfl, (blk_cell BK194.out 10).trans rfl, (blk_cell BK194.out 11).trans rfl⟩ (fun hHeld => ?_)
         clear hK; clear K
         refine norm_ (a' := ?_) ?_ ?_
         rotate_left
         ·show Act.put _ (some 23) _ = _
          simp only [Act.put, List.setIfInBounds_toArray, List.set_cons_zero, List.set_cons_succ, i64_w, i32_w]
          rfl
         refine plan_ [(6, 27)] ?_
         refine planP_ (v := ?_) (a' := ?_) rfl rfl (any_of HT_.out (by kernel_rfl)) (fun _ _ _ h => h) (Or.inl ⟨by rfl, ?_⟩) ?_ ?_; rotate_left; (intro w'; go_simp; with_reducible rfl); rotate_left; (simp only [Act.put, List.setIfInBounds_toArray, List.set_cons_zero, List.set_cons_succ, i64_w, i32_w]; rfl)
         refine planEnd_ ?_
         refine one_ (i := 5) (N := some 26) #[true, true, true, true, true, true, true, false, false, false] rfl rfl (one_of HT_.out (by kernel_rfl)) (by decide) (fun K hK => ?_)
         refine goes_ Try.func38 (by kernel_rfl) rfl #[.int .i64 ((rd_T32 l0 x4_1).f3), .int .i64 1125899906842624] (by rfl) rfl rfl mt ?_
         with_reducible refine (prebendref16_Held.calls ((rd_T32 l0 x4_1).f3) 1125899906842624 t196 _ A10.out).mono ?_
         rintro e w' ⟨rfl, ⟨nd, rfl⟩⟩
         refine ⟨_, rfl, ?_⟩
         refine hK.out _ _ ⟨(blk_cell BK194.out 0).trans rfl, (blk_cell BK194.out 1).trans rfl, (blk_cell BK194.out 2).trans rfl, (blk_cell BK194.out 3).trans rfl, (blk_cell BK194.out 4).trans rfl, (blk_cell BK194.out 5).trans rfl, (blk_cell BK194.out 6).trans rfl, (blk_cell BK194.out 7).trans rfl, (blk_cell BK194.out 8).trans rfl, (blk_cell BK194.out 9).trans rfl, (blk_cell BK194.out 10).trans rfl, (blk_cell BK194.out 11).trans rfl⟩ (fun hHeld => ?_)
         clear hK; clear K
         refine norm_ (a' := ?_) ?_ ?_
         rotate_left
         ·show Act.put _ (some 26) _ = _
          simp only [Act.put, List.setIfInBounds_toArray, List.set_cons_zero, List.set_cons_succ, i64_w, i32_w]
          rfl
         refine last_ (i := 7) (N := none) #[true, true, true, true, true, true, true, true, false, false] rfl rfl (one_of HT_.out (by kernel_rfl)) (by decide) (fun K hK => ?_)
         have hs16 : w15.cell? ⟨gb194, 8, none⟩ = some (.int .i64 ((rd_T32 l0 x4_1).f8)) := (blk_cell BK194.out 8).trans rfl
         have hfs16 := blk_frozen BK194.out 8
         refine skip_ (w1 := ?_) (by rfl) rfl ?_ ?_
         rotate_left
         ·go_simp
          rfl
         refine hK.out _ _ ?_
         clear hK; clear K
         refine plan_ [(8, 28)] ?_
         refine planP_ (v := ?_) (a' := ?_) rfl rfl (any_of HT_.out (by kernel_rfl)) (fun _ _ _ h => h) (Or.inl ⟨by rfl, ?_⟩) ?_ ?_; rotate_left; (intro w'; go_simp; with_reducible rfl); rotate_left; (simp only [Act.put, List.setIfInBounds_toArray, List.set_cons_zero, List.set_cons_succ, i64_w, i32_w]; rfl)
         refine planEnd_ ?_
         refine last_ (i := 9) (N := none) #[true, true, true, true, true, true, true, true, true, true] rfl rfl (one_of HT_.out (by kernel_rfl)) (by decide) (fun K hK => ?_)
         have hs17 : w15.cell? ⟨gb194, 3, none⟩ = some (.int .i64 ((rd_T32 l0 x4_1).f3)) := (blk_cell BK194.out 3).trans rfl
         have hfs17 := blk_frozen BK194.out 3
         refine skip_ (w1 := ?_) (by rfl) rfl ?_ ?_
         rotate_left
         ·go_simp
          rfl
         refine hK.out _ _ ?_
         clear hK; clear K
         refine done_ (done_of HT_.out (by kernel_rfl)) ?_
         have hcz18_0 : w15.cell? ⟨gb194, 0, none⟩ = some (.int .i64 ((rd_T32 l0 x4_1).f0)) := (blk_cell BK194.out 0).trans rfl
         have hcz18_1 : w15.cell? ⟨gb194, 1, none⟩ = some (.int .i64 ((rd_T32 l0 x4_1).f1)) := (blk_cell BK194.out 1).trans rfl
         have hcz18_2 : w15.cell? ⟨gb194, 2, none⟩ = some (.int .i64 ((rd_T32 l0 x4_1).f2)) := (blk_cell BK194.out 2).trans rfl
         have hcz18_3 : w15.cell? ⟨gb194, 3, none⟩ = some (.int .i64 ((rd_T32 l0 x4_1).f3)) := (blk_cell BK194.out 3).trans rfl
         have hcz18_4 : w15.cell? ⟨gb194, 4, none⟩ = some (.int .i64 ((rd_T32 l0 x4_1).f4)) := (blk_cell BK194.out 4).trans rfl
         have hcz18_5 : w15.cell? ⟨gb194, 5, none⟩ = some (.int .i64 ((rd_T32 l0 x4_1).f5)) := (blk_cell BK194.out 5).trans rfl
         have hcz18_6 : w15.cell? ⟨gb194, 6, none⟩ = some (.int .i64 ((rd_T32 l0 x4_1).f6)) := (blk_cell BK194.out 6).trans rfl
         have hcz18_7 : w15.cell? ⟨gb194, 7, none⟩ = some (.int .i64 ((rd_T32 l0 x4_1).f7)) := (blk_cell BK194.out 7).trans rfl
         have hcz18_8 : w15.cell? ⟨gb194, 8, none⟩ = some (.int .i64 ((rd_T32 l0 x4_1).f8)) := (blk_cell BK194.out 8).trans rfl
         have hcz18_9 : w15.cell? ⟨gb194, 9, none⟩ = some (.int .i64 ((rd_T32 l0 x4_1).f9)) := (blk_cell BK194.out 9).trans rfl
         have hcz18_10 : w15.cell? ⟨gb194, 10, none⟩ = some (.int .i64 ((rd_T32 l0 x4_1).f10)) := (blk_cell BK194.out 10).trans rfl
         have hcz18_11 : w15.cell? ⟨gb194, 11, none⟩ = some (.slice ((rd_T32 l0 x4_1).f11).A ((rd_T32 l0 x4_1).f11).n ((rd_T32 l0 x4_1).f11).c) := (blk_cell BK194.out 11).trans rfl
         have hfz18_0 := blk_frozen BK194.out 0
         have hfz18_1 := blk_frozen BK194.out 1
         have hfz18_2 := blk_frozen BK194.out 2
         have hfz18_3 := blk_frozen BK194.out 3
         have hfz18_4 := blk_frozen BK194.out 4
         have hfz18_5 := blk_frozen BK194.out 5
         have hfz18_6 := blk_frozen BK194.out 6
         have hfz18_7 := blk_frozen BK194.out 7
         have hfz18_8 := blk_frozen BK194.out 8
         have hfz18_9 := blk_frozen BK194.out 9
         have hfz18_10 := blk_frozen BK194.out 10
         have hfz18_11 := blk_frozen BK194.out 11
         try go_wp2_with (first | ((with_reducible refine gate_builtin (b := .append) (xs := #[.tmp 29, .tmp 31]) rfl ?_); at_builtin; refine Kd.R_append k32 (w0 := w) w.heap.size rfl (.tmp 29) (.tmp 31) 22 32 (.agg #[(.int .i64 0), (.int .i64 0), (.int .i64 0), (.int .i64 0), (.int .i64 0), (.int .i64 0), (.int .i64 0), (.int .i64 0), (.int .i64 0), (.int .i64 0), (.int .i64 0), (.slice none 0 0)]) 112 rfl Try.underlying22 info32 rfl (by decide) (by omega) u3 x3_1 (⟨(rd_T32 l0 x4_1).f0, (rd_T32 l0 x4_1).f1, (rd_T32 l0 x4_1).f2, t196, (rd_T32 l0 x4_1).f4, (rd_T32 l0 x4_1).f5, (rd_T32 l0 x4_1).f6, (rd_T32 l0 x4_1).f7, t195, (rd_T32 l0 x4_1).f9, (rd_T32 l0 x4_1).f10, (rd_T32 l0 x4_1).f11⟩ : S32) [.int .i64 ((rd_T32 l0 x4_1).f0), .int .i64 ((rd_T32 l0 x4_1).f1), .int .i64 ((rd_T32 l0 x4_1).f2), .int .i64 t196, .int .i64 ((rd_T32 l0 x4_1).f4), .int .i64 ((rd_T32 l0 x4_1).f5), .int .i64 ((rd_T32 l0 x4_1).f6), .int .i64 ((rd_T32 l0 x4_1).f7), .int .i64 t195, .int .i64 ((rd_T32 l0 x4_1).f9), .int .i64 ((rd_T32 l0 x4_1).f10), .slice ((rd_T32 l0 x4_1).f11).A ((rd_T32 l0 x4_1).f11).n ((rd_T32 l0 x4_1).f11).c] (fun k_ => k_ ≠ gb194) (fun _ => False) rfl (by first | (go_simp; done) | (go_simp; rfl)) ?aP (fun _ hk => hk.elim) ?aF ?aO ?aB ?aS ?aL ?_; (case aP => exact k32_mkM _ _ _ (⟨(rd_T32 l0 x4_1).f0, (rd_T32 l0 x4_1).f1, (rd_T32 l0 x4_1).f2, t196, (rd_T32 l0 x4_1).f4, (rd_T32 l0 x4_1).f5, (rd_T32 l0 x4_1).f6, (rd_T32 l0 x4_1).f7, t195, (rd_T32 l0 x4_1).f9, (rd_T32 l0 x4_1).f10, (rd_T32 l0 x4_1).f11⟩ : S32)); (case aB => exact (mBs HB.out)); (case aF => exact (fun k_ hk => Kd.freshB (g := gb194) (o := .cells #[.int .i64 ((rd_T32 l0 x4_1).f0), .int .i64 ((rd_T32 l0 x4_1).f1), .int .i64 ((rd_T32 l0 x4_1).f2), .int .i64 t196, .int .i64 ((rd_T32 l0 x4_1).f4), .int .i64 ((rd_T32 l0 x4_1).f5), .int .i64 ((rd_T32 l0 x4_1).f6), .int .i64 ((rd_T32 l0 x4_1).f7), .int .i64 t195, .int .i64 ((rd_T32 l0 x4_1).f9), .int .i64 ((rd_T32 l0 x4_1).f10), .slice ((rd_T32 l0 x4_1).f11).A ((rd_T32 l0 x4_1).f11).n ((rd_T32 l0 x4_1).f11).c] 32 (0, 0)) (by (with_reducible repeat first | apply blk_drewN | apply blk_drew | apply blk_alloc); refine blk_put (cs := #[.int .i64 ((rd_T32 l0 x4_1).f0), .int .i64 ((rd_T32 l0 x4_1).f1), .int .i64 ((rd_T32 l0 x4_1).f2), .int .i64 ((rd_T32 l0 x4_1).f3), .int .i64 ((rd_T32 l0 x4_1).f4), .int .i64 ((rd_T32 l0 x4_1).f5), .int .i64 ((rd_T32 l0 x4_1).f6), .int .i64 ((rd_T32 l0 x4_1).f7), .int .i64 t195, .int .i64 ((rd_T32 l0 x4_1).f9), .int .i64 ((rd_T32 l0 x4_1).f10), .slice ((rd_T32 l0 x4_1).f11).A ((rd_T32 l0 x4_1).f11).n ((rd_T32 l0 x4_1).f11).c]) ?_ 3 _ rfl; (with_reducible repeat first | apply blk_drewN | apply blk_drew | apply blk_alloc); refine blk_put (cs := (cJ (rd_T32 l0 x4_1))) ?_ 8 _ rfl; (with_reducible repeat first | apply blk_drewN | apply blk_drew | apply blk_alloc); exact BK194.out) k_ hk)); (case aO => exact (by (with_reducible repeat (first | apply Kd.R_alloc | apply Kd.R_drewN | apply Kd.R_drew)); exact Kd.R_mono (Kd.R_fa gb194 3 (Kd.R_fa gb194 8 (Kd.R_mono HO_3.out (fun k_ hk => (⟨hk, hk⟩ : _ ∧ k_ ≠ gb194))) (.int .i64 t195)) (.int .i64 t196)) (fun _ hk => hk.1))); (case aS => exact (below_size (mBs HB.out))); (case aL => have := LMc11.out; omega); intro v198 w19 ho hb hg hat; rw [← Ny197.out] at ho; have n0_ := Aside0.mk (blk_grown (g := gb194) (o := .cells #[.int .i64 ((rd_T32 l0 x4_1).f0), .int .i64 ((rd_T32 l0 x4_1).f1), .int .i64 ((rd_T32 l0 x4_1).f2), .int .i64 t196, .int .i64 ((rd_T32 l0 x4_1).f4), .int .i64 ((rd_T32 l0 x4_1).f5), .int .i64 ((rd_T32 l0 x4_1).f6), .int .i64 ((rd_T32 l0 x4_1).f7), .int .i64 t195, .int .i64 ((rd_T32 l0 x4_1).f9), .int .i64 ((rd_T32 l0 x4_1).f10), .slice ((rd_T32 l0 x4_1).f11).A ((rd_T32 l0 x4_1).f11).n ((rd_T32 l0 x4_1).f11).c] 32 (0, 0)) (by (with_reducible repeat first | apply blk_drewN | apply blk_drew | apply blk_alloc); refine blk_put (cs := #[.int .i64 ((rd_T32 l0 x4_1).f0), .int .i64 ((rd_T32 l0 x4_1).f1), .int .i64 ((rd_T32 l0 x4_1).f2), .int .i64 ((rd_T32 l0 x4_1).f3), .int .i64 ((rd_T32 l0 x4_1).f4), .int .i64 ((rd_T32 l0 x4_1).f5), .int .i64 ((rd_T32 l0 x4_1).f6), .int .i64 ((rd_T32 l0 x4_1).f7), .int .i64 t195, .int .i64 ((rd_T32 l0 x4_1).f9), .int .i64 ((rd_T32 l0 x4_1).f10), .slice ((rd_T32 l0 x4_1).f11).A ((rd_T32 l0 x4_1).f11).n ((rd_T32 l0 x4_1).f11).c]) ?_ 3 _ rfl; (with_reducible repeat first | apply blk_drewN | apply blk_drew | apply blk_alloc); refine blk_put (cs := (cJ (rd_T32 l0 x4_1))) ?_ 8 _ rfl; (with_reducible repeat first | apply blk_drewN | apply blk_drew | apply blk_alloc); exact BK194.out) hg (Kd.R_away HO_3.out (fun _ hk => hk))); have n1_ := Aside0.mk (hb); have n2_ := Aside0.mk (ho); clear BK194; clear HB; clear HO_3; have BK194 := n0_; have HB := n1_; have HO199 := n2_; clear n0_ n1_ n2_; clear ho hb hg hat))
         go_roundg kj3
         case measure => have := HK1.out; have := HJ3.out; omega
         case rel => exact ⟨(y197), (wrap64 (x4_1 + 1)), ez, H', ⟨by have := HK1.out; have := HJ3.out; omega⟩, ⟨by (with_reducible repeat (first | apply Kd.R_alloc | apply Kd.R_drewN | apply Kd.R_drew)); exact Kd.R_mono HO199.out (fun _ hk => trivial)⟩, ⟨mBs HB.out⟩⟩
        ·rw [if_neg c11] at H
         exact absurd H (by simp)
       ·rw [if_neg c8] at H
        exact absurd H (by simp)
      ·rw [if_neg c7] at H
       exact absurd H (by simp)
     ·replace c6 := Bool.eq_false_iff.mpr c6
      subst c6
      have H1 : (some x3_1) = some r := by rw [if_neg (show ¬ (false = true) by decide)] at H; exact H
      clear H
      have H := H1
      clear H1
      obtain rfl := Option.some.inj H
      go_wp2
      go_ret
      exact ⟨_, by first | rfl | (simp [errW_none, errW_some] <;> rfl) | (simp [*, errW_none, errW_some] <;> rfl), mR HO_3.out, by repeat (first | (with_reducible first | exact HB.out | apply below_alloc | apply pw_below_drewN | apply below_drew1) | exact HB.out)⟩

end Go.Proofs.Ytkhfgflcanmefaa.PAll
end
section
namespace Go.Proofs.Ytkhfgflcanmefaa.PAll
open Go.RowKit Go.Proofs.YtkhfgflcanmefaaW.PrintWords Go.Proofs.YtkhfgflcanmefaaW.PrintLast Go.Proofs.YtkhfgflcanmefaaW.PrintMore
attribute [local go_sem] max2_int min2_int max_two min_two max_three min_three max_four min_four   -- for this text's walks alone
set_option linter.unusedVariables false
set_option linter.unusedSimpArgs false

class CapI where
  id : Int
structure CapIAt [CapI] (g : Nat) (w : World) : Prop where
  hg : w.cell? ⟨g, 0, none⟩ = some (.int .i64 CapI.id)
theorem CapIAt.of [CapI] {g : Nat} {w0 w : World} (h : CapIAt g w0) (hb : Below w0.heap.size w0 w) : CapIAt g w := ⟨(hb.cell (World.block_lt_of_cell? _ _ h.hg)).trans h.hg⟩
def job_Find_1.f [CapI] (a0_0 : Int) (a0_1 : Int) (a0_2 : Int) (a0_3 : Int) (a0_4 : Int) (a0_5 : Int) (a0_6 : Int) (a0_7 : Int) (a0_8 : Int) (a0_9 : Int) (a0_10 : Int) (a0_11 : SH) : Option (Bool) := some (a0_0 == CapI.id)
set_option maxRecDepth 100000 in
theorem job_Find_1.calls [CapI] (a0_0 : Int) (a0_1 : Int) (a0_2 : Int) (a0_3 : Int) (a0_4 : Int) (a0_5 : Int) (a0_6 : Int) (a0_7 : Int) (a0_8 : Int) (a0_9 : Int) (a0_10 : Int) (a0_11 : SH) (r : Bool) {g_ : Nat} (w : World) (hc : CapIAt g_ w) (h : job_Find_1.f a0_0 a0_1 a0_2 a0_3 a0_4 a0_5 a0_6 a0_7 a0_8 a0_9 a0_10 a0_11 = some r) :
    Calls Try.prog 40 #[.agg #[.int .i64 a0_0, .int .i64 a0_1, .int .i64 a0_2, .int .i64 a0_3, .int .i64 a0_4, .int .i64 a0_5, .int .i64 a0_6, .int .i64 a0_7, .int .i64 a0_8, .int .i64 a0_9, .int .i64 a0_10, .slice a0_11.A a0_11.n a0_11.c], .pointer (some ⟨g_, 0, none⟩)] w fun e w' => e = .returned (.bool r) ∧ Below w.heap.size w w' := by
  obtain rfl : (a0_0 == CapI.id) = r := by simpa [job_Find_1.f] using h
  have hb : Below w.heap.size w (w.alloc (.cells #[.int .i64 a0_0, .int .i64 a0_1, .int .i64 a0_2, .int .i64 a0_3, .int .i64 a0_4, .int .i64 a0_5, .int .i64 a0_6, .int .i64 a0_7, .int .i64 a0_8, .int .i64 a0_9, .int .i64 a0_10, .slice a0_11.A a0_11.n a0_11.c] 32 (0, 0))) := below_alloc (Below.refl _ _) _
  have h1 := (hc.of hb).hg
  have h2 : (w.alloc (.cells #[.int .i64 a0_0, .int .i64 a0_1, .int .i64 a0_2, .int .i64 a0_3, .int .i64 a0_4, .int .i64 a0_5, .int .i64 a0_6, .int .i64 a0_7, .int .i64 a0_8, .int .i64 a0_9, .int .i64 a0_10, .slice a0_11.A a0_11.n a0_11.c] 32 (0, 0))).cell? ⟨w.heap.size, 0, none⟩ = some (.int .i64 a0_0) := (blk_cell (heap_alloc_new w _) 0).trans rfl
  have HB := Aside0.mk hb
  clear hb hc h
  go_enter Try.func40, Try.ntmps40
  go_wp2
  go_ret
  exact ⟨rfl, HB.out⟩

end Go.Proofs.Ytkhfgflcanmefaa.PAll
end
section
namespace Go.Proofs.Ytkhfgflcanmefaa.PAll
open Go.RowKit Go.Proofs.YtkhfgflcanmefaaW.PrintWords Go.Proofs.YtkhfgflcanmefaaW.PrintLast Go.Proofs.YtkhfgflcanmefaaW.PrintMore
attribute [local go_sem] max2_int min2_int max_two min_two max_three min_three max_four min_four   -- for this text's walks alone
set_option linter.unusedVariables false
set_option linter.unusedSimpArgs false

def slices_IndexFunc_Job__job_Find_1.l0 [CapI] : Nat → List (S32) → Int → Int → Option (Int)
  | 0, _, _, _ => none
  | k + 1, x0, x7, x8 => if x8 < x7 then (if 0 ≤ x8 then (if x8 < (x0.length : Int) then ((job_Find_1.f ((rd_T32 x0 x8).f0) ((rd_T32 x0 x8).f1) ((rd_T32 x0 x8).f2) ((rd_T32 x0 x8).f3) ((rd_T32 x0 x8).f4) ((rd_T32 x0 x8).f5) ((rd_T32 x0 x8).f6) ((rd_T32 x0 x8).f7) ((rd_T32 x0 x8).f8) ((rd_T32 x0 x8).f9) ((rd_T32 x0 x8).f10) ((rd_T32 x0 x8).f11)).bind fun t201 => (if t201 = true then (some x8) else (slices_IndexFunc_Job__job_Find_1.l0 k x0 x7 (wrap64 (x8 + 1))))) else (none)) else (none)) else (some (-1))
def slices_IndexFunc_Job__job_Find_1.f [CapI] (k : Nat) (l0 : List (S32))  : Option (Int) := slices_IndexFunc_Job__job_Find_1.l0 k l0 (l0.length : Int) 0
theorem slices_IndexFunc_Job__job_Find_1.mono_l [CapI] : ∀ k, (∀ y0 y1 y2, LeO (slices_IndexFunc_Job__job_Find_1.l0 k y0 y1 y2) (slices_IndexFunc_Job__job_Find_1.l0 (k + 1) y0 y1 y2))
  | 0 => fun _ _ _ r h => by simp [slices_IndexFunc_Job__job_Find_1.l0] at h
  | k + 1 => by
    have ih0 := slices_IndexFunc_Job__job_Find_1.mono_l k
    · intro y0 y1 y2
      unfold slices_IndexFunc_Job__job_Find_1.l0
      repeat' first
      | (with_reducible exact ih0 _ _ _)
      | (with_reducible exact LeO.refl _)
      | (with_reducible exact LeO.none _)
      | (with_reducible refine LeO.ite ?_ ?_)
      | (with_reducible refine LeO.bind ?_ (fun _ => ?_))
      | exact ih0 _ _ _
      | exact LeO.none _
      | refine LeO.ite ?_ ?_
      | refine LeO.bind ?_ (fun _ => ?_)
theorem slices_IndexFunc_Job__job_Find_1.mono [CapI] : ∀ a0 k, LeO (slices_IndexFunc_Job__job_Find_1.f k a0) (slices_IndexFunc_Job__job_Find_1.f (k + 1) a0) := by
  intro a0 k
  have ih0 := slices_IndexFunc_Job__job_Find_1.mono_l k
  unfold slices_IndexFunc_Job__job_Find_1.f
  repeat' first
      | (with_reducible exact ih0 _ _ _)
      | (with_reducible exact LeO.refl _)
      | (with_reducible exact LeO.none _)
      | (with_reducible refine LeO.ite ?_ ?_)
      | (with_reducible refine LeO.bind ?_ (fun _ => ?_))
      | exact ih0 _ _ _
      | exact LeO.none _
      | refine LeO.ite ?_ ?_
      | refine LeO.bind ?_ (fun _ => ?_)
set_option maxHeartbeats 8000000 in
set_option maxRecDepth 100000 in
theorem slices_IndexFunc_Job__job_Find_1.calls [CapI] (k : Nat) (A0 : Option Addr) (c0 : Nat) (l0 : List (S32))  (r : Int) {g_ : Nat} (w : World) (hcap : CapIAt g_ w) (hr0 : Kd.C k32 w A0 l0.length l0) (hc0 : l0.length ≤ c0) (h : slices_IndexFunc_Job__job_Find_1.f k l0 = some r) :
    Calls Try.prog 39 #[.slice A0 l0.length c0, .func (.func 40) #[] #[.pointer (some ⟨g_, 0, none⟩)]] w fun e w' => e = .returned (.int .i64 r) ∧ Below w.heap.size w w' := by
  have hu32 := Try.underlying32
  have HR0 := Aside0.mk hr0
  have HC0 := Aside0.mk hc0
  clear hr0 hc0
  have HB := Aside0.mk (Below.refl w.heap.size w)
  have H : (slices_IndexFunc_Job__job_Find_1.l0 k l0 (l0.length : Int) 0) = some r := h
  clear h
  have H' := Aside0.mk H
  clear H
  go_enter Try.func39, Try.ntmps39
  go_wp2
  go_loopg [8] k (fun kq v8 w' => ∃ (x8_1 : Int), v8 = .int .i64 x8_1 ∧ Aside0 (slices_IndexFunc_Job__job_Find_1.l0 kq l0 (l0.length : Int) x8_1 = some r) ∧ Aside0 (kq ≤ k) ∧ Aside0 (Below w.heap.size w w'))
  case atStart => exact ⟨(0), (by first | rfl | (simp; done) | (simp [*]; done)), H', ⟨Nat.le_refl _⟩, ⟨by repeat (first | (with_reducible first | exact HB.out | apply below_alloc | apply pw_below_drewN | apply below_drew1) | exact HB.out)⟩⟩
  case round =>
    clear H'
    try clear p2
    obtain ⟨x8_1, rfl, HA, HK1, HB⟩ := hrel
    cases gk with
    | zero => exact absurd HA.out (by simp [slices_IndexFunc_Job__job_Find_1.l0])
    | succ k1 =>
      have H := HA.out
      clear HA
      simp only [slices_IndexFunc_Job__job_Find_1.l0] at H
      by_cases c3 : x8_1 < (l0.length : Int)
      · rw [if_pos c3] at H
        have c3b0 : decide (x8_1 < (l0.length : Int)) = true := decide_eq_true c3
        clear c3
        by_cases c4 : 0 ≤ x8_1
        · rw [if_pos c4] at H
          have c4b0 : decide (0 ≤ x8_1) = true := decide_eq_true c4
          clear c4
          by_cases c5 : x8_1 < (l0.length : Int)
          · rw [if_pos c5] at H
            have c5b0 : decide (x8_1 < (l0.length : Int)) = true := decide_eq_true c5
            clear c5
            replace H := Option.bind_eq_some_iff.mp H
            obtain ⟨t201, A60, H⟩ := H
            replace H : (if t201 = true then (some x8_1) else (slices_IndexFunc_Job__job_Find_1.l0 k1 l0 (l0.length : Int) (wrap64 (x8_1 + 1)))) = some r := H
            have A6 := Aside0.mk A60
            clear A60
            by_cases c7 : t201 = true
            · subst c7
              have H1 : (some x8_1) = some r := by rw [if_pos rfl] at H; exact H
              clear H
              have H := H1
              clear H1
              obtain rfl := Option.some.inj H
              have p200 : 0 ≤ (x8_1 : Int) := of_decide_eq_true (by first | (with_reducible assumption) | assumption)
              have q200 : x8_1 < (l0.length : Int) := of_decide_eq_true (by first | (with_reducible assumption) | assumption)
              obtain ⟨ad200, e200, hx200_0, hx200_1, hx200_2, hx200_3, hx200_4, hx200_5, hx200_6, hx200_7, hx200_8, hx200_9, hx200_10, hx200_11⟩ := at_T32 HR0.out x8_1 p200 q200
              cases e200
              replace hx200_0 := (HB.out.cell (World.block_lt_of_cell? w _ hx200_0)).trans hx200_0
              replace hx200_1 := (HB.out.cell (World.block_lt_of_cell? w _ hx200_1)).trans hx200_1
              replace hx200_2 := (HB.out.cell (World.block_lt_of_cell? w _ hx200_2)).trans hx200_2
              replace hx200_3 := (HB.out.cell (World.block_lt_of_cell? w _ hx200_3)).trans hx200_3
              replace hx200_4 := (HB.out.cell (World.block_lt_of_cell? w _ hx200_4)).trans hx200_4
              replace hx200_5 := (HB.out.cell (World.block_lt_of_cell? w _ hx200_5)).trans hx200_5
              replace hx200_6 := (HB.out.cell (World.block_lt_of_cell? w _ hx200_6)).trans hx200_6
              replace hx200_7 := (HB.out.cell (World.block_lt_of_cell? w _ hx200_7)).trans hx200_7
              replace hx200_8 := (HB.out.cell (World.block_lt_of_cell? w _ hx200_8)).trans hx200_8
              replace hx200_9 := (HB.out.cell (World.block_lt_of_cell? w _ hx200_9)).trans hx200_9
              replace hx200_10 := (HB.out.cell (World.block_lt_of_cell? w _ hx200_10)).trans hx200_10
              replace hx200_11 := (HB.out.cell (World.block_lt_of_cell? w _ hx200_11)).trans hx200_11
              replace p200 := eq_true p200
              replace q200 := eq_true q200
              go_wp2_with (first | (go_at_call 40; (with_reducible refine (job_Find_1.calls ((rd_T32 l0 x8_1).f0) ((rd_T32 l0 x8_1).f1) ((rd_T32 l0 x8_1).f2) ((rd_T32 l0 x8_1).f3) ((rd_T32 l0 x8_1).f4) ((rd_T32 l0 x8_1).f5) ((rd_T32 l0 x8_1).f6) ((rd_T32 l0 x8_1).f7) ((rd_T32 l0 x8_1).f8) ((rd_T32 l0 x8_1).f9) ((rd_T32 l0 x8_1).f10) ((rd_T32 l0 x8_1).f11) true _ (CapIAt.of hcap (by repeat (first | (with_reducible first | exact HB.out | apply below_alloc | apply pw_below_drewN | apply below_drew1) | exact HB.out))) A6.out).mono ?_); rintro e w8 ⟨rfl, hb⟩; have n0_ := Aside0.mk (below_step (by repeat (first | (with_reducible first | exact HB.out | apply below_alloc | apply pw_below_drewN | apply below_drew1) | exact HB.out)) hb); clear HB; have HB := n0_; clear n0_; (try clear hb); (try clear hb2); (try clear hk); (try clear hi)))
              go_ret
              exact ⟨by first | rfl | (simp [errW_none, errW_some] <;> rfl) | (simp [*, errW_none, errW_some] <;> rfl), by repeat (first | (with_reducible first | exact HB.out | apply below_alloc | apply pw_below_drewN | apply below_drew1) | exact HB.out)⟩
            · replace c7 := Bool.eq_false_iff.mpr c7
              subst c7
              have H1 : (slices_IndexFunc_Job__job_Find_1.l0 k1 l0 (l0.length : Int) (wrap64 (x8_1 + 1))) = some r := by rw [if_neg (show ¬ (false = true) by decide)] at H; exact H
              clear H
              have H := H1
              clear H1
              have H' := Aside0.mk H
              clear H
              have p200 : 0 ≤ (x8_1 : Int) := of_decide_eq_true (by first | (with_reducible assumption) | assumption)
              have q200 : x8_1 < (l0.length : Int) := of_decide_eq_true (by first | (with_reducible assumption) | assumption)
              obtain ⟨ad200, e200, hx200_0, hx200_1, hx200_2, hx200_3, hx200_4, hx200_5, hx200_6, hx200_7, hx200_8, hx200_9, hx200_10, hx200_11⟩ := at_T32 HR0.out x8_1 p200 q200
              cases e200
              replace hx200_0 := (HB.out.cell (World.block_lt_of_cell? w _ hx200_0)).trans hx200_0
              replace hx200_1 := (HB.out.cell (World.block_lt_of_cell? w _ hx200_1)).trans hx200_1
              replace hx200_2 := (HB.out.cell (World.block_lt_of_cell? w _ hx200_2)).trans hx200_2
              replace hx200_3 := (HB.out.cell (World.block_lt_of_cell? w _ hx200_3)).trans hx200_3
              replace hx200_4 := (HB.out.cell (World.block_lt_of_cell? w _ hx200_4)).trans hx200_4
              replace hx200_5 := (HB.out.cell (World.block_lt_of_cell? w _ hx200_5)).trans hx200_5
              replace hx200_6 := (HB.out.cell (World.block_lt_of_cell? w _ hx200_6)).trans hx200_6
              replace hx200_7 := (HB.out.cell (World.block_lt_of_cell? w _ hx200_7)).trans hx200_7
              replace hx200_8 := (HB.out.cell (World.block_lt_of_cell? w _ hx200_8)).trans hx200_8
              replace hx200_9 := (HB.out.cell (World.block_lt_of_cell? w _ hx200_9)).trans hx200_9
              replace hx200_10 := (HB.out.cell (World.block_lt_of_cell? w _ hx200_10)).trans hx200_10
              replace hx200_11 := (HB.out.cell (World.block_lt_of_cell? w _ hx200_11)).trans hx200_11
              replace p200 := eq_true p200
              replace q200 := eq_true q200
              go_wp2_with (first | (go_at_call 40; (with_reducible refine (job_Find_1.calls ((rd_T32 l0 x8_1).f0) ((rd_T32 l0 x8_1).f1) ((rd_T32 l0 x8_1).f2) ((rd_T32 l0 x8_1).f3) ((rd_T32 l0 x8_1).f4) ((rd_T32 l0 x8_1).f5) ((rd_T32 l0 x8_1).f6) ((rd_T32 l0 x8_1).f7) ((rd_T32 l0 x8_1).f8) ((rd_T32 l0 x8_1).f9) ((rd_T32 l0 x8_1).f10) ((rd_T32 l0 x8_1).f11) false _ (CapIAt.of hcap (by repeat (first | (with_reducible first | exact HB.out | apply below_alloc | apply pw_below_drewN | apply below_drew1) | exact HB.out))) A6.out).mono ?_); rintro e w9 ⟨rfl, hb⟩; have n0_ := Aside0.mk (below_step (by repeat (first | (with_reducible first | exact HB.out | apply below_alloc | apply pw_below_drewN | apply below_drew1) | exact HB.out)) hb); clear HB; have HB := n0_; clear n0_; (try clear hb); (try clear hb2); (try clear hk); (try clear hi)))
              go_roundg k1
              case measure => have := HK1.out; omega
              case rel => exact ⟨(wrap64 (x8_1 + 1)), (by first | rfl | (simp; done) | (simp [*]; done)), H', ⟨by have := HK1.out; omega⟩, ⟨by repeat (first | (with_reducible first | exact HB.out | apply below_alloc | apply pw_below_drewN | apply below_drew1) | exact HB.out)⟩⟩
          · rw [if_neg c5] at H
            exact absurd H (by simp)
        · rw [if_neg c4] at H
          exact absurd H (by simp)
      · rw [if_neg c3] at H
        have c3b0 : decide (x8_1 < (l0.length : Int)) = false := decide_eq_false c3
        clear c3
        obtain rfl := Option.some.inj H
        go_wp2
        go_ret
        exact ⟨by first | rfl | (simp [errW_none, errW_some] <;> rfl) | (simp [*, errW_none, errW_some] <;> rfl), by repeat (first | (with_reducible first | exact HB.out | apply below_alloc | apply pw_below_drewN | apply below_drew1) | exact HB.out)⟩

end Go.Proofs.Ytkhfgflcanmefaa.PAll
end
section
namespace Go.Proofs.Ytkhfgflcanmefaa.PAll
open Go.RowKit Go.Proofs.YtkhfgflcanmefaaW.PrintWords Go.Proofs.YtkhfgflcanmefaaW.PrintLast Go.Proofs.YtkhfgflcanmefaaW.PrintMore
attribute [local go_sem] max2_int min2_int max_two min_two max_three min_three max_four min_four   -- for this text's walks alone
set_option linter.unusedVariables false
set_option linter.unusedSimpArgs false

def job_Find.f (k : Nat) (l0 : List (S32)) (a1 : Int) : Option (Int) := (@slices_IndexFunc_Job__job_Find_1.f ⟨a1⟩ k l0).bind fun t202 => (some t202)
theorem job_Find.mono : ∀ a0 a1 k, LeO (job_Find.f k a0 a1) (job_Find.f (k + 1) a0 a1) := by
  intro a0 a1 k
  unfold job_Find.f
  repeat' first
      | (with_reducible exact @slices_IndexFunc_Job__job_Find_1.mono ⟨a1⟩ _ _)
      | (with_reducible exact LeO.refl _)
      | (with_reducible exact LeO.none _)
      | (with_reducible refine LeO.ite ?_ ?_)
      | (with_reducible refine LeO.bind ?_ (fun _ => ?_))
      | exact @slices_IndexFunc_Job__job_Find_1.mono ⟨a1⟩ _ _
      | exact LeO.none _
      | refine LeO.ite ?_ ?_
      | refine LeO.bind ?_ (fun _ => ?_)
set_option maxHeartbeats 8000000 in
set_option maxRecDepth 100000 in
theorem job_Find.calls (k : Nat) (A0 : Option Addr) (c0 : Nat) (l0 : List (S32)) (a1 : Int) (r : Int) (w : World) (hr0 : Kd.C k32 w A0 l0.length l0) (hc0 : l0.length ≤ c0) (h : job_Find.f k l0 a1 = some r) :
    Calls Try.prog 17 #[.slice A0 l0.length c0, .int .i64 a1] w fun e w' => e = .returned (.int .i64 r) ∧ Below w.heap.size w w' := by
  have HR0 := Aside0.mk hr0
  have HC0 := Aside0.mk hc0
  clear hr0 hc0
  have HB := Aside0.mk (Below.refl w.heap.size w)
  have H : ((@slices_IndexFunc_Job__job_Find_1.f ⟨a1⟩ k l0).bind fun t202 => (some t202)) = some r := h
  clear h
  replace H := Option.bind_eq_some_iff.mp H
  obtain ⟨t202, A30, H⟩ := H
  replace H : (some t202) = some r := H
  have A3 := Aside0.mk A30
  clear A30
  obtain rfl := Option.some.inj H
  go_enter Try.func17, Try.ntmps17
  letI : CapI := ⟨a1⟩
  have HCAP : Aside0 (CapIAt w.heap.size (w.alloc (.cells #[.int .i64 a1] 3 (0, 0)))) := ⟨⟨(blk_cell (heap_alloc_new w _) 0).trans rfl⟩⟩
  go_wp2_with (first | ((with_reducible refine gate_callee (f := 39) rfl ?_); refine goesL_ (some 7) rfl rfl Try.func39 (by kernel_rfl) rfl #[.slice A0 l0.length c0, .func (.func 40) #[] #[.pointer (some ⟨w.heap.size, 0, none⟩)]] rfl (by (try simp only [List.map_toArray, List.map_cons, List.map_nil]); first | done | rfl | (simp only [List.length_drop, List.length_take]; rfl)) ?_; (with_reducible refine (slices_IndexFunc_Job__job_Find_1.calls k _ _ l0  t202 _ HCAP.out ?side1 ?side2 A3.out).mono ?_); (case side1 => repeat (first | exact HR0.out | (with_reducible refine Kd.C_alloc ?_ _) | (with_reducible refine Kd.C_drewN ?_ _) | (with_reducible refine Kd.C_drew ?_))); (case side2 => exact HC0.out); rintro e w4 ⟨rfl, hb⟩; refine ⟨_, rfl, ?_⟩; have n0_ := Aside0.mk (below_step (by repeat (first | (with_reducible first | exact HB.out | apply below_alloc | apply pw_below_drewN | apply below_drew1) | exact HB.out)) hb); clear HB; have HB := n0_; clear n0_; (try clear hb); (try clear hb2); (try clear hk); (try clear hi)))
  go_ret
  exact ⟨by first | rfl | (simp [errW_none, errW_some] <;> rfl) | (simp [*, errW_none, errW_some] <;> rfl), by repeat (first | (with_reducible first | exact HB.out | apply below_alloc | apply pw_below_drewN | apply below_drew1) | exact HB.out)⟩

end Go.Proofs.Ytkhfgflcanmefaa.PAll
end
section
namespace Go.Proofs.Ytkhfgflcanmefaa.PAll
open Go.RowKit Go.Proofs.YtkhfgflcanmefaaW.PrintWords Go.Proofs.YtkhfgflcanmefaaW.PrintLast Go.Proofs.YtkhfgflcanmefaaW.PrintMore
attribute [local go_sem] max2_int min2_int max_two min_two max_three min_three max_four min_four   -- for this text's walks alone
set_option linter.unusedVariables false
set_option linter.unusedSimpArgs false

def slices_Clone_Job.f (l0 : List (S32)) : Option ((List (S32))) := (some (([] : List (S32)) : List (S32))).bind fun y203 => (if y203.length + l0.length < 1256584717458 then (some (y203 ++ l0)) else (none))
set_option maxHeartbeats 8000000 in
set_option maxRecDepth 100000 in
theorem slices_Clone_Job.calls_some (ad0_ : Addr) (c0 : Nat) (l0 : List (S32)) (r : List (S32)) (w : World) (hr0 : Kd.C k32 w (some ad0_) l0.length l0) (hc0 : l0.length ≤ c0) (h : slices_Clone_Job.f l0 = some r) :
    Calls Try.prog 56 #[.slice (some ad0_) l0.length c0] w fun e w' => ∃ v0_ : Value, e = .returned (v0_) ∧ Kd.R k32 32 w' w.heap.size (fun _ => True) v0_ r ∧ Below w.heap.size w w' := by
  have HR0 := Aside0.mk hr0
  have HC0 := Aside0.mk hc0
  clear hr0 hc0
  have HB := Aside0.mk (Below.refl w.heap.size w)
  have H : ((some (([] : List (S32)) : List (S32))).bind fun y203 => (if y203.length + l0.length < 1256584717458 then (some (y203 ++ l0)) else (none))) = some r := h
  clear h
  obtain ⟨y203, hy203⟩ : ∃ y_ : List (S32), y_ = (([] : List (S32))) := ⟨_, rfl⟩
  replace H : (if y203.length + l0.length < 1256584717458 then (some (y203 ++ l0)) else (none)) = some r := by first | (rw [hy203]; with_reducible exact H) | (have H2_ := (Option.bind_some _ _).symm.trans H; rw [hy203]; with_reducible exact H2_) | (have H2_ := (Option.bind_some _ _).symm.trans H; with_reducible exact H2_) | with_reducible exact H | (rw [hy203]; exact H) | exact H
  have Ny203 := Aside0.mk hy203
  clear hy203
  by_cases c2 : y203.length + l0.length < 1256584717458
  · rw [if_pos c2] at H
    have LMc2 := Aside0.mk c2
    clear c2
    obtain ⟨y206, hy206⟩ : ∃ y_ : List (S32), y_ = (y203 ++ l0) := ⟨_, rfl⟩
    replace H : (some y206) = some r := by first | (rw [hy206]; with_reducible exact H) | (have H2_ := (Option.bind_some _ _).symm.trans H; rw [hy206]; with_reducible exact H2_) | (have H2_ := (Option.bind_some _ _).symm.trans H; with_reducible exact H2_) | with_reducible exact H | (rw [hy206]; exact H) | exact H
    have Ny206 := Aside0.mk hy206
    clear hy206
    obtain rfl := Option.some.inj H
    have hnil_ := fun (W : World) => Lib.run_eql_slice_nil (P := Try.prog) W 22 32 (some ad0_) l0.length c0 0 0 Try.underlying22
    go_enter Try.func56, Try.ntmps56
    go_wp2_with (first | ((with_reducible refine gate_dst (N := 5) rfl ?_); refine Kd.R_lit k32 _ 32 ?hg (N := 5) ?hd (xs := ([] : List (S32))) (inner := []) (ok := fun _ => True) (okp := fun _ => True) ?hr ?hp (fun _ hk => hk) trivial (Below.refl _ _) (Nat.le_refl _) (by simp) ?_; (case hd => rfl); (case hg => rfl); (case hr => first | (go_simp; done) | (go_simp; rfl)); (case hp => exact (Reps.none _ _)); intro v204 w3 ho4 hb hg_ hnew_; clear hg_ hnew_; (first | rw [← Ny203.out] at ho4 | (simp only [Int.reduceToNat] at ho4; rw [← Ny203.out] at ho4)); have n0_ := Aside0.mk (Kd.R_lower ho4 (below_size (by repeat (first | (with_reducible first | exact HB.out | apply below_alloc | apply pw_below_drewN | apply below_drew1) | exact HB.out)))); have n1_ := Aside0.mk (below_step (by repeat (first | (with_reducible first | exact HB.out | apply below_alloc | apply pw_below_drewN | apply below_drew1) | exact HB.out)) hb); clear HB; have HO205 := n0_; have HB := n1_; clear n0_ n1_; clear hb ho4) | ((with_reducible refine gate_builtin (b := .append) (xs := #[.tmp 5, .tmp 6]) rfl ?_); at_builtin; refine Kd.R_append_rows k32 (w0 := w) w.heap.size rfl (.tmp 5) (.tmp 6) 22 32 (.agg #[(.int .i64 0), (.int .i64 0), (.int .i64 0), (.int .i64 0), (.int .i64 0), (.int .i64 0), (.int .i64 0), (.int .i64 0), (.int .i64 0), (.int .i64 0), (.int .i64 0), (.slice none 0 0)]) 112 rfl Try.underlying22 info32 rfl (by decide) (by omega) v204 y203 l0 _ _ _ (fun _ => True) (fun _ => False) rfl rfl ?aO ?aR (fun _ _ h => h) (fun _ h => h.elim) ?aF ?aB ?aS ?aL ?_; (case aR => repeat (first | exact (Kd.C_below HR0.out HB.out) | (with_reducible refine Kd.C_alloc ?_ _) | (with_reducible refine Kd.C_drewN ?_ _) | (with_reducible refine Kd.C_drew ?_))); (case aB => exact (by repeat (first | (with_reducible first | exact HB.out | apply below_alloc | apply pw_below_drewN | apply below_drew1) | exact HB.out))); (case aF => exact (fun _ _ => trivial)); (case aO => exact (by (with_reducible repeat (first | apply Kd.R_alloc | apply Kd.R_drewN | apply Kd.R_drew)); exact HO205.out)); (case aS => exact (below_size (by repeat (first | (with_reducible first | exact HB.out | apply below_alloc | apply pw_below_drewN | apply below_drew1) | exact HB.out)))); (case aL => have := LMc2.out; omega); intro v207 w5 ho hb hg hat; rw [← Ny206.out] at ho; have n0_ := Aside0.mk (hb); have n1_ := Aside0.mk (ho); clear HB; clear HO205; have HB := n0_; have HO208 := n1_; clear n0_ n1_; clear ho hb hg hat))
    go_ret
    exact ⟨_, by first | rfl | (simp [errW_none, errW_some] <;> rfl) | (simp [*, errW_none, errW_some] <;> rfl), by (with_reducible repeat (first | apply Kd.R_alloc | apply Kd.R_drewN | apply Kd.R_drew)); exact HO208.out, by repeat (first | (with_reducible first | exact HB.out | apply below_alloc | apply pw_below_drewN | apply below_drew1) | exact HB.out)⟩
  · rw [if_neg c2] at H
    exact absurd H (by simp)

set_option maxHeartbeats 8000000 in
theorem slices_Clone_Job.calls (A0 : Option Addr) (c0 : Nat) (l0 : List (S32)) (r : List (S32)) (w : World) (hr0 : Kd.C k32 w A0 l0.length l0) (hc0 : l0.length ≤ c0) (h : slices_Clone_Job.f l0 = some r) :
    Calls Try.prog 56 #[.slice A0 l0.length c0] w fun e w' => ∃ v0_ : Value, e = .returned (v0_) ∧ Kd.R k32 32 w' w.heap.size (fun _ => True) v0_ r ∧ Below w.heap.size w w' := by
  cases A0 with
  | some ad0_ => exact slices_Clone_Job.calls_some ad0_ c0 l0 r w hr0 hc0 h
  | none =>
    have hl : l0 = [] := by
      cases l0 with
      | nil => rfl
      | cons x xs => obtain ⟨ad, he, _⟩ := hr0.2.2 (by simp); cases he
    subst hl
    have hr : r = [] := by
      simp [slices_Clone_Job.f] at h; first | exact h | exact h.symm
    subst hr
    have hnil_ := fun (W : World) => Lib.run_eql_slice_nil (P := Try.prog) W 22 32 none 0 c0 0 0 Try.underlying22
    clear hr0 hc0 h
    go_enter Try.func56, Try.ntmps56
    go_wp2
    go_ret
    exact ⟨_, rfl, Kd.R_nil _ _ _ _ _, Below.refl _ _⟩

end Go.Proofs.Ytkhfgflcanmefaa.PAll
end
section
namespace Go.Proofs.Ytkhfgflcanmefaa.PAll
open Go.RowKit Go.Proofs.YtkhfgflcanmefaaW.PrintWords Go.Proofs.YtkhfgflcanmefaaW.PrintLast Go.Proofs.YtkhfgflcanmefaaW.PrintMore
set_option linter.unusedVariables false
set_option linter.unusedSimpArgs false
section
variable {P : Program} {ops : Array Oper} {Q : Exit → Act → World → Prop} {α : Type}
theorem R_past {d : Kd α} {e : Nat} {W : World} {base : Nat} {ok : Nat → Prop} {g n cap : Nat} {xs : List α} (h : d.R e W base ok (.slice (some ⟨g, 0, none⟩) n cap) xs) (o : Nat) (seg : List Value) (hno : n * d.sz ≤ o) (hfit : o + seg.length ≤ cap * d.sz) :
    d.R e (W.setCells g o seg) base ok (.slice (some ⟨g, 0, none⟩) n cap) xs ∧ W.grownBy (W.setCells g o seg) (some g) := by
  obtain ⟨hn, hnc, _⟩ := Kd.R_reads' h
  obtain ⟨hok, inner, ho, hr⟩ := h
  obtain ⟨ho1, ho2⟩ := ho
  rcases ho2 with ⟨hv, _⟩ | ⟨g', cap', cur, hv, hb, hh, hnc', hcm, hcs, ht⟩
  · cases hv
  injection hv with ha _ hc
  injection ha with ha
  injection ha with hg
  subst hg; subst hc
  obtain ⟨cur', h3, h4, h5⟩ := setCells_row seg o W cur hh (by omega)
  obtain ⟨s1, s2, s3, s4⟩ := setCells_same g seg o W
  have hfar : ∀ k, k ≠ g → (W.setCells g o seg).heap[k]? = W.heap[k]? := fun k hk => setCells_far seg _ k hk
  refine ⟨⟨hok, inner, ⟨ho1, .inr ⟨g, cap, cur', by rw [← hn], hb, h3, hnc', hcm, by rw [h4, hcs], ?_⟩⟩, hr.imp_ (fun p c hp => d.M_move (fun k hk => hfar k (fun he => hk.2 (by rw [he]; simp [Value.ownBlock]))) hp)⟩,
    ⟨s1, s2, s3, by rw [s4]; exact Nat.le_refl _, fun k _ hk => hfar k (fun he => hk (by rw [he]))⟩⟩
  rw [h5, ← hn]
  have hl : cur.toList.length = cap * d.sz := by rw [Array.length_toList, hcs]
  rw [List.append_assoc, List.take_append_of_le_length (by rw [List.length_take]; omega), List.take_take, Nat.min_eq_left hno]
  rw [← hn] at ht
  exact ht
theorem run_clear_cells (b o n c : Nat) (w : World) (t e ty : TypeId) (z : Value) (ht : P.underlying t = some (.slice e)) (hv : ∀ w, (zeroValue e).run P w = .ok z w) (h1 : ∀ u ∈ (Builtin.zeroCells z.cells n).toList, u.oneCell' = true) (hn : 0 < n)
    (hc : ∀ j, j < (Builtin.zeroCells z.cells n).toList.length → (w.cell? ⟨b, o + j, none⟩).isSome = true) (hf : ∀ j, j < (Builtin.zeroCells z.cells n).toList.length → w.frozen? ⟨b, o + j, none⟩ = false) :
    (Builtin.clear_ #[t] ty #[.slice (some ⟨b, o, none⟩) n c]).run P w = .ok (.tuple #[]) (w.setCells b o (Builtin.zeroCells z.cells n).toList) := by
  have hst := run_storeCells_cells (P := P) b o (Builtin.zeroCells z.cells n).toList 0 w hc hf h1
  simp only [Nat.add_zero] at hst
  obtain ⟨m, rfl⟩ : ∃ m, n = m + 1 := ⟨n - 1, by omega⟩
  simp [Builtin.clear_, run_underlying ht, hv, hst]
theorem R_clear {d : Kd α} {e : Nat} {w0 W : World} {base : Nat} {ok : Nat → Prop} {A : Option Addr} {n c : Nat} {xs : List α} (h : d.R e W base ok (.slice A n c) xs) (i : Nat) (hi : i ≤ xs.length) {t te ty : TypeId} {z : Value} (ht : P.underlying t = some (.slice te)) (hv : ∀ w, (zeroValue te).run P w = .ok z w)
    (hz : z.cells.size = d.sz) (h1 : ∀ u ∈ z.cells.toList, u.oneCell' = true) {A1 : Option Addr} (hA1 : A1 = if c = i then A else A.map (·.add (i * d.sz))) {m c1 : Nat} (hm : m = n - i) (HB : Below base w0 W) :
    ∃ W2, (Builtin.clear_ #[t] ty #[.slice A1 m c1]).run P W = .ok (.tuple #[]) W2 ∧ d.R e W2 base ok (.slice A i c) (xs.take i) ∧ Below base w0 W2 ∧ W.grownBy W2 (Value.slice A n c).ownBlock := by
  obtain ⟨hn, hnc, _⟩ := Kd.R_reads' h
  have ht_ := Kd.R_take (m := i) h hi
  rcases Nat.eq_zero_or_pos m with h0 | hp
  · refine ⟨W, ?_, ht_, HB, ⟨rfl, rfl, rfl, Nat.le_refl _, fun _ _ _ => rfl⟩⟩
    subst h0
    cases A1 <;> simp [Builtin.clear_, run_underlying ht]
  · have hic : ¬ c = i := by omega
    obtain ⟨g, rfl⟩ : ∃ g, A = some ⟨g, 0, none⟩ := by
      obtain ⟨_, inner, ho, _⟩ := h
      rcases ho.2 with ⟨hv', h2⟩ | ⟨g', cap', cur, hv', _⟩
      · omega
      · injection hv' with ha; exact ⟨g', ha⟩
    have hA2 : A1 = some ⟨g, i * d.sz, none⟩ := by
      rw [hA1, if_neg hic]
      simp only [Option.map_some]
      congr 1
      unfold Addr.add
      by_cases h0 : i * d.sz = 0
      · simp [h0]
      · simp [h0]
    subst hA2
    have hl : (Builtin.zeroCells z.cells m).toList.length = m * d.sz := by simp [Builtin.zeroCells, hz]
    have hone : ∀ u ∈ (Builtin.zeroCells z.cells m).toList, u.oneCell' = true := by
      intro u hu
      obtain ⟨j, hj, rfl⟩ := List.mem_iff_getElem.mp hu
      have hzp : 0 < z.cells.size := by
        rcases Nat.eq_zero_or_pos z.cells.size with h0 | h0
        · rw [hl] at hj; rw [← hz, h0] at hj; omega
        · exact h0
      have hjm : j % z.cells.size < z.cells.size := Nat.mod_lt _ hzp
      simp only [Builtin.zeroCells, Array.toList_map, List.getElem_map, Array.getElem_toList, Array.getElem_range, Array.getElem!_eq_getD, Array.getD, hjm, dif_pos]
      exact h1 _ (by simp)
    have hcell : ∀ j, j < m * d.sz → (W.cell? ⟨g, i * d.sz + j, none⟩).isSome = true ∧ W.frozen? ⟨g, i * d.sz + j, none⟩ = false := by
      intro j hj
      obtain ⟨_, inner, ho, _⟩ := h
      rcases ho.2 with ⟨hv', _⟩ | ⟨g', cap', cur, hv', hb, hh, hnc', hcm, hcs, _⟩
      · cases hv'
      injection hv' with ha _ hc
      injection ha with ha
      injection ha with hg
      subst hg; subst hc
      refine ⟨?_, blk_frozen hh _⟩
      rw [cell_of_row W g _ cur e (0, 0) hh]
      have : i * d.sz + j < cur.size := by
        have h3 : i * d.sz + m * d.sz = (i + m) * d.sz := (Nat.add_mul _ _ _).symm
        have h4 : (i + m) * d.sz ≤ c * d.sz := Nat.mul_le_mul_right _ (by omega)
        omega
      simp [this]
    have hli : (xs.take i).length = i := by rw [List.length_take]; omega
    obtain ⟨hr2, hg2⟩ := R_past ht_ (i * d.sz) (Builtin.zeroCells z.cells m).toList (Nat.le_refl _) (by
      rw [hl, ← Nat.add_mul]; exact Nat.mul_le_mul_right _ (by omega))
    refine ⟨_, run_clear_cells g (i * d.sz) m c1 W t te ty z ht hv hone hp (fun j hj => (hcell j (by omega)).1) (fun j hj => (hcell j (by omega)).2), hr2, ?_, hg2⟩
    have hbg : base ≤ g := Kd.R_base h g (by simp [Value.ownBlock])
    refine HB.trans ⟨hg2.os, hg2.tape, hg2.output, hg2.size, fun k hk => ?_⟩
    have hlt : k < W.heap.size ∨ W.heap.size ≤ k := Nat.lt_or_ge _ _
    rcases hlt with hlt | hge
    · exact hg2.block k hlt (fun he => by injection he with he; omega)
    · exact setCells_far _ _ k (by omega)
theorem clear_event {rest : List Oper} {o : Oper} {a : Act} {W : World} {R : World → Prop} (t : TypeId) (x : Operand) (ho : o.op = .call { callee := .builtin .clear, args := #[x], argTypes := #[t] }) (hN : o.dst = none) (hgd : o.guard = none) {v : Value} (hx : a.eval x = v)
    (hrun : ∃ W2, (Builtin.clear_ #[t] o.type #[v]).run P W = .ok (.tuple #[]) W2 ∧ R W2) (h : ∀ W2, R W2 → wpList P ops Q rest a W2) : wpList P ops Q (o :: rest) a W := by
  obtain ⟨W2, h1, h2⟩ := hrun
  refine wpList_plain hgd fun K hK => ?_
  unfold Oper.wp execOp
  simp [ho, hx, h1, resolve, invoke, builtin]
  show K (a.put o.dst _) W2
  rw [hN]
  exact hK a _ (h W2 h2)
end
end Go.Proofs.Ytkhfgflcanmefaa.PAll
end
section
namespace Go.Proofs.Ytkhfgflcanmefaa.PAll
open Go.RowKit Go.Proofs.YtkhfgflcanmefaaW.PrintWords Go.Proofs.YtkhfgflcanmefaaW.PrintLast Go.Proofs.YtkhfgflcanmefaaW.PrintMore
set_option linter.unusedVariables false
set_option linter.unusedSimpArgs false
section
variable {P : Program} {ops : Array Oper} {Q : Exit → Act → World → Prop} {α : Type}
theorem R_storeW {okp : Nat → Prop} (d : Kd α) {w0 W : World} {base : Nat} {oi : Oper} {a : Act} {t : TypeId} {p x : Operand} (ho : oi.op = .store t p x) {e : TypeId} {g n cap o' : Nat} (i : Int) {xs : List α} (z x' : α) {u : Value} (seg : List Value) {ok : Nat → Prop}
    (haddr : a.eval p = .pointer (some ⟨g, o', none⟩)) (hoff : o' = i.toNat * d.sz) (hx : a.eval x = u) (hu : u.cells.toList = seg) (ht : (P.info? t).map (·.size) = some seg.length) (hs : seg.length = d.sz) (h1 : ∀ q ∈ seg, q.oneCell' = true)
    (HO : d.R e W base ok (.slice (some ⟨g, 0, none⟩) n cap) xs) (h0 : 0 ≤ i) (hi : i < n) (hM : d.M W base okp x' seg) (hokp : ∀ k, okp k → ok k ∧ k ≠ g) (HB : Below base w0 W) :
    ∃ w1, (execOp a.eval oi).run P W = .ok .skip w1 ∧ d.R e w1 base ok (.slice (some ⟨g, 0, none⟩) n cap) (xs.set i.toNat x') ∧ Below base w0 w1 ∧ W.grownBy w1 (some g) := by
  subst hoff
  have hnx : n = xs.length := (Kd.R_reads' HO).1
  obtain ⟨ce, hcl, hMe, hcc, hfr⟩ := Kd.R_elem HO z i h0 (by omega)
  have hM2 : d.M W base okp x' (ce.take 0 ++ seg ++ ce.drop (0 + seg.length)) := by
    rw [List.take_zero, List.nil_append, Nat.zero_add, hs, ← hcl, List.drop_length, List.append_nil]; exact hM
  obtain ⟨hrow, hg⟩ := Kd.R_seg HO i h0 hi hcl hcc (by omega) hM2 hokp
  rw [Nat.add_zero] at hrow hg
  have hbg : base ≤ g := Kd.R_base HO g (by simp [Value.ownBlock])
  have HO2 := HO
  obtain ⟨_, inner, hown, hr⟩ := HO
  have hil : i.toNat < n := by omega
  have hB : Below base w0 (W.setCells g (i.toNat * d.sz) seg) := HB.trans ⟨hg.os, hg.tape, hg.output, hg.size, fun k hk => by
    have hlt : k < W.heap.size ∨ W.heap.size ≤ k := Nat.lt_or_ge _ _
    rcases hlt with hlt | hge
    · exact hg.block k hlt (fun he => by injection he with he; omega)
    · exact setCells_far seg _ k (by omega)⟩
  have hrun : (Instr.storeAt t (.pointer (some ⟨g, i.toNat * d.sz, none⟩)) u).run P W = .ok () (W.setCells g (i.toNat * d.sz) seg) := by
    rcases hown.2 with ⟨hv, _⟩ | ⟨g', cap', cur, hv, hb, hh, hnc, hcm, hcs, _⟩
    · cases hv
    injection hv with ha _ hc
    injection ha with ha
    injection ha with hg'
    subst hg'; subst hc
    refine run_store_run t u seg hh hu ht ?_ h1
    have h2 : i.toNat * d.sz + d.sz ≤ n * d.sz := by rw [← Nat.succ_mul]; exact Nat.mul_le_mul_right _ hil
    have h3 : n * d.sz ≤ cap * d.sz := Nat.mul_le_mul_right _ (by omega)
    omega
  refine ⟨_, ?_, hrow, hB, hg⟩
  unfold execOp
  simp only [ho, haddr, hx, Sem.run_bind, Sem.run_pure, Result.andThen_ok, hrun]
theorem storeW_ {okp : Nat → Prop} (d : Kd α) {w0 W : World} {base : Nat} {oi : Oper} {a : Act} {K : Act → World → Prop} {t : TypeId} {p x : Operand} {e : TypeId} {g n cap o' : Nat} (i : Int) {xs : List α} (z x' : α) {u : Value} (seg : List Value) {ok : Nat → Prop}
    (hw : Region.wanted oi (yielded ops a.tmps) = true) (hN : oi.dst = none) (ho : oi.op = .store t p x)
    (haddr : a.eval p = .pointer (some ⟨g, o', none⟩)) (hoff : o' = i.toNat * d.sz) (hx : a.eval x = u) (hu : u.cells.toList = seg) (ht : (P.info? t).map (·.size) = some seg.length) (hs : seg.length = d.sz) (h1 : ∀ q ∈ seg, q.oneCell' = true)
    (HO : d.R e W base ok (.slice (some ⟨g, 0, none⟩) n cap) xs) (h0 : 0 ≤ i) (hi : i < n) (hM : d.M W base okp x' seg) (hokp : ∀ k, okp k → ok k ∧ k ≠ g) (HB : Below base w0 W)
    (h : ∀ w1, d.R e w1 base ok (.slice (some ⟨g, 0, none⟩) n cap) (xs.set i.toNat x') → Below base w0 w1 → W.grownBy w1 (some g) → K a w1) :
    if Region.wanted oi (yielded ops a.tmps) = true then Oper.wp P oi a W K Q else K (a.put none undef) W := by
  obtain ⟨w1, h1_, h2, h3, h4⟩ := R_storeW (P := P) d ho i z x' seg haddr hoff hx hu ht hs h1 HO h0 hi hM hokp HB
  exact skip_ hw hN h1_ (h w1 h2 h3 h4)
theorem one12 {a b c d e f g h i j k : Int} {A : Option Addr} {n m : Nat} : ∀ q ∈ [Value.int .i64 a, .int .i64 b, .int .i64 c, .int .i64 d, .int .i64 e, .int .i64 f, .int .i64 g, .int .i64 h, .int .i64 i, .int .i64 j, .int .i64 k, .slice A n m], q.oneCell' = true := by
  intro q hq
  simp only [List.mem_cons, List.not_mem_nil, or_false] at hq
  rcases hq with h | h | h | h | h | h | h | h | h | h | h | h <;> (rw [h]; rfl)
end
end Go.Proofs.Ytkhfgflcanmefaa.PAll
end
section
namespace Go.Proofs.Ytkhfgflcanmefaa.PAll
open Go.RowKit Go.Proofs.YtkhfgflcanmefaaW.PrintWords Go.Proofs.YtkhfgflcanmefaaW.PrintLast Go.Proofs.YtkhfgflcanmefaaW.PrintMore
attribute [local go_sem] max2_int min2_int max_two min_two max_three min_three max_four min_four   -- for this text's walks alone
set_option linter.unusedVariables false
set_option linter.unusedSimpArgs false

def job_running_1.f (a0_0 : Int) (a0_1 : Int) (a0_2 : Int) (a0_3 : Int) (a0_4 : Int) (a0_5 : Int) (a0_6 : Int) (a0_7 : Int) (a0_8 : Int) (a0_9 : Int) (a0_10 : Int) (a0_11 : SH) : Option (Bool) := some (a0_7 != 3)
set_option maxHeartbeats 8000000 in
set_option maxRecDepth 100000 in
theorem job_running_1.calls (a0_0 : Int) (a0_1 : Int) (a0_2 : Int) (a0_3 : Int) (a0_4 : Int) (a0_5 : Int) (a0_6 : Int) (a0_7 : Int) (a0_8 : Int) (a0_9 : Int) (a0_10 : Int) (a0_11 : SH) (r : Bool) (w : World) (h : job_running_1.f a0_0 a0_1 a0_2 a0_3 a0_4 a0_5 a0_6 a0_7 a0_8 a0_9 a0_10 a0_11 = some r) :
    Calls Try.prog 57 #[.agg #[.int .i64 a0_0, .int .i64 a0_1, .int .i64 a0_2, .int .i64 a0_3, .int .i64 a0_4, .int .i64 a0_5, .int .i64 a0_6, .int .i64 a0_7, .int .i64 a0_8, .int .i64 a0_9, .int .i64 a0_10, .slice a0_11.A a0_11.n a0_11.c]] w fun e w' => e = .returned (.bool r) ∧ Below w.heap.size w w' := by
  have hu32 := Try.underlying32
  have HB := Aside0.mk (Below.refl w.heap.size w)
  have H : (some (a0_7 != 3)) = some r := h
  clear h
  obtain rfl := Option.some.inj H
  go_enter Try.func57, Try.ntmps57
  go_wp2_with (first | ((with_reducible refine gate_dst (N := 1) rfl ?_); refine box_event ?hg (N := 1) ?hd (cs := #[.int .i64 a0_0, .int .i64 a0_1, .int .i64 a0_2, .int .i64 a0_3, .int .i64 a0_4, .int .i64 a0_5, .int .i64 a0_6, .int .i64 a0_7, .int .i64 a0_8, .int .i64 a0_9, .int .i64 a0_10, .slice a0_11.A a0_11.n a0_11.c]) (t := 32) ?hr ?_; (case hd => rfl); (case hg => rfl); (case hr => first | (go_simp; done) | (go_simp; rfl)); intro gb209 hg w2 hbox hb; have n0_ := Aside0.mk (below_step (by repeat (first | (with_reducible first | exact HB.out | apply below_alloc | apply pw_below_drewN | apply below_drew1) | exact HB.out)) hb); have n1_ := Aside0.mk (hbox); have n2_ := Aside0.mk ((by rw [hg]; exact (below_size (by repeat (first | (with_reducible first | exact HB.out | apply below_alloc | apply pw_below_drewN | apply below_drew1) | exact HB.out))) : w.heap.size ≤ gb209)); have n3_ := Aside0.mk ((by rw [hg]; exact (below_size (by repeat (first | (with_reducible first | exact HB.out | apply below_alloc | apply pw_below_drewN | apply below_drew1) | exact HB.out))) : w.heap.size ≤ gb209)); clear HB; have HB := n0_; have BK209 := n1_; have GW209 := n2_; have GE209 := n3_; clear n0_ n1_ n2_ n3_; clear hb hbox hg; have hcz3_0 : w2.cell? ⟨gb209, 0, none⟩ = some (.int .i64 a0_0) := (blk_cell BK209.out 0).trans rfl; have hcz3_1 : w2.cell? ⟨gb209, 1, none⟩ = some (.int .i64 a0_1) := (blk_cell BK209.out 1).trans rfl; have hcz3_2 : w2.cell? ⟨gb209, 2, none⟩ = some (.int .i64 a0_2) := (blk_cell BK209.out 2).trans rfl; have hcz3_3 : w2.cell? ⟨gb209, 3, none⟩ = some (.int .i64 a0_3) := (blk_cell BK209.out 3).trans rfl; have hcz3_4 : w2.cell? ⟨gb209, 4, none⟩ = some (.int .i64 a0_4) := (blk_cell BK209.out 4).trans rfl; have hcz3_5 : w2.cell? ⟨gb209, 5, none⟩ = some (.int .i64 a0_5) := (blk_cell BK209.out 5).trans rfl; have hcz3_6 : w2.cell? ⟨gb209, 6, none⟩ = some (.int .i64 a0_6) := (blk_cell BK209.out 6).trans rfl; have hcz3_7 : w2.cell? ⟨gb209, 7, none⟩ = some (.int .i64 a0_7) := (blk_cell BK209.out 7).trans rfl; have hcz3_8 : w2.cell? ⟨gb209, 8, none⟩ = some (.int .i64 a0_8) := (blk_cell BK209.out 8).trans rfl; have hcz3_9 : w2.cell? ⟨gb209, 9, none⟩ = some (.int .i64 a0_9) := (blk_cell BK209.out 9).trans rfl; have hcz3_10 : w2.cell? ⟨gb209, 10, none⟩ = some (.int .i64 a0_10) := (blk_cell BK209.out 10).trans rfl; have hcz3_11 : w2.cell? ⟨gb209, 11, none⟩ = some (.slice a0_11.A a0_11.n a0_11.c) := (blk_cell BK209.out 11).trans rfl; have hfz3_0 := blk_frozen BK209.out 0; have hfz3_1 := blk_frozen BK209.out 1; have hfz3_2 := blk_frozen BK209.out 2; have hfz3_3 := blk_frozen BK209.out 3; have hfz3_4 := blk_frozen BK209.out 4; have hfz3_5 := blk_frozen BK209.out 5; have hfz3_6 := blk_frozen BK209.out 6; have hfz3_7 := blk_frozen BK209.out 7; have hfz3_8 := blk_frozen BK209.out 8; have hfz3_9 := blk_frozen BK209.out 9; have hfz3_10 := blk_frozen BK209.out 10; have hfz3_11 := blk_frozen BK209.out 11))
  go_ret
  exact ⟨by first | rfl | (simp [errW_none, errW_some] <;> rfl) | (simp [*, errW_none, errW_some] <;> rfl), by repeat (first | (with_reducible first | exact HB.out | apply below_alloc | apply pw_below_drewN | apply below_drew1 | refine below_set ?_ GE209.out) | exact HB.out)⟩

end Go.Proofs.Ytkhfgflcanmefaa.PAll
end
section
namespace Go.Proofs.Ytkhfgflcanmefaa.PAll
open Go.RowKit Go.Proofs.YtkhfgflcanmefaaW.PrintWords Go.Proofs.YtkhfgflcanmefaaW.PrintLast Go.Proofs.YtkhfgflcanmefaaW.PrintMore
attribute [local go_sem] max2_int min2_int max_two min_two max_three min_three max_four min_four   -- for this text's walks alone
set_option linter.unusedVariables false
set_option linter.unusedSimpArgs false

def slices_IndexFunc_Job__job_running_1.l0 : Nat → List (S32) → Int → Int → Option (Int)
  | 0, _, _, _ => none
  | k + 1, x0, x7, x8 => if x8 < x7 then (if 0 ≤ x8 then (if x8 < (x0.length : Int) then ((job_running_1.f ((rd_T32 x0 x8).f0) ((rd_T32 x0 x8).f1) ((rd_T32 x0 x8).f2) ((rd_T32 x0 x8).f3) ((rd_T32 x0 x8).f4) ((rd_T32 x0 x8).f5) ((rd_T32 x0 x8).f6) ((rd_T32 x0 x8).f7) ((rd_T32 x0 x8).f8) ((rd_T32 x0 x8).f9) ((rd_T32 x0 x8).f10) ((rd_T32 x0 x8).f11)).bind fun t211 => (if t211 = true then (some x8) else (slices_IndexFunc_Job__job_running_1.l0 k x0 x7 (wrap64 (x8 + 1))))) else (none)) else (none)) else (some (-1))
def slices_IndexFunc_Job__job_running_1.f (k : Nat) (l0 : List (S32))  : Option (Int) := slices_IndexFunc_Job__job_running_1.l0 k l0 (l0.length : Int) 0
theorem slices_IndexFunc_Job__job_running_1.mono_l : ∀ k, (∀ y0 y1 y2, LeO (slices_IndexFunc_Job__job_running_1.l0 k y0 y1 y2) (slices_IndexFunc_Job__job_running_1.l0 (k + 1) y0 y1 y2))
  | 0 => fun _ _ _ r h => by simp [slices_IndexFunc_Job__job_running_1.l0] at h
  | k + 1 => by
    have ih0 := slices_IndexFunc_Job__job_running_1.mono_l k
    · intro y0 y1 y2
      unfold slices_IndexFunc_Job__job_running_1.l0
      repeat' first
      | (with_reducible exact ih0 _ _ _)
      | (with_reducible exact LeO.refl _)
      | (with_reducible exact LeO.none _)
      | (with_reducible refine LeO.ite ?_ ?_)
      | (with_reducible refine LeO.bind ?_ (fun _ => ?_))
      | exact ih0 _ _ _
      | exact LeO.none _
      | refine LeO.ite ?_ ?_
      | refine LeO.bind ?_ (fun _ => ?_)
theorem slices_IndexFunc_Job__job_running_1.mono : ∀ a0 k, LeO (slices_IndexFunc_Job__job_running_1.f k a0) (slices_IndexFunc_Job__job_running_1.f (k + 1) a0) := by
  intro a0 k
  have ih0 := slices_IndexFunc_Job__job_running_1.mono_l k
  unfold slices_IndexFunc_Job__job_running_1.f
  repeat' first
      | (with_reducible exact ih0 _ _ _)
      | (with_reducible exact LeO.refl _)
      | (with_reducible exact LeO.none _)
      | (with_reducible refine LeO.ite ?_ ?_)
      | (with_reducible refine LeO.bind ?_ (fun _ => ?_))
      | exact ih0 _ _ _
      | exact LeO.none _
      | refine LeO.ite ?_ ?_
      | refine LeO.bind ?_ (fun _ => ?_)
set_option maxHeartbeats 8000000 in
set_option maxRecDepth 100000 in
theorem slices_IndexFunc_Job__job_running_1.calls (k : Nat) (A0 : Option Addr) (c0 : Nat) (l0 : List (S32))  (r : Int) (w : World) (hr0 : Kd.C k32 w A0 l0.length l0) (hc0 : l0.length ≤ c0) (h : slices_IndexFunc_Job__job_running_1.f k l0 = some r) :
    Calls Try.prog 39 #[.slice A0 l0.length c0, .func (.func 57) #[] #[]] w fun e w' => e = .returned (.int .i64 r) ∧ Below w.heap.size w w' := by
  have hu32 := Try.underlying32
  have HR0 := Aside0.mk hr0
  have HC0 := Aside0.mk hc0
  clear hr0 hc0
  have HB := Aside0.mk (Below.refl w.heap.size w)
  have H : (slices_IndexFunc_Job__job_running_1.l0 k l0 (l0.length : Int) 0) = some r := h
  clear h
  have H' := Aside0.mk H
  clear H
  go_enter Try.func39, Try.ntmps39
  go_wp2
  go_loopg [8] k (fun kq v8 w' => ∃ (x8_1 : Int), v8 = .int .i64 x8_1 ∧ Aside0 (slices_IndexFunc_Job__job_running_1.l0 kq l0 (l0.length : Int) x8_1 = some r) ∧ Aside0 (kq ≤ k) ∧ Aside0 (Below w.heap.size w w'))
  case atStart => exact ⟨(0), (by first | rfl | (simp; done) | (simp [*]; done)), H', ⟨Nat.le_refl _⟩, ⟨by repeat (first | (with_reducible first | exact HB.out | apply below_alloc | apply pw_below_drewN | apply below_drew1) | exact HB.out)⟩⟩
  case round =>
    clear H'
    try clear p2
    obtain ⟨x8_1, rfl, HA, HK1, HB⟩ := hrel
    cases gk with
    | zero => exact absurd HA.out (by simp [slices_IndexFunc_Job__job_running_1.l0])
    | succ k1 =>
      have H := HA.out
      clear HA
      simp only [slices_IndexFunc_Job__job_running_1.l0] at H
      by_cases c3 : x8_1 < (l0.length : Int)
      · rw [if_pos c3] at H
        have c3b0 : decide (x8_1 < (l0.length : Int)) = true := decide_eq_true c3
        clear c3
        by_cases c4 : 0 ≤ x8_1
        · rw [if_pos c4] at H
          have c4b0 : decide (0 ≤ x8_1) = true := decide_eq_true c4
          clear c4
          by_cases c5 : x8_1 < (l0.length : Int)
          · rw [if_pos c5] at H
            have c5b0 : decide (x8_1 < (l0.length : Int)) = true := decide_eq_true c5
            clear c5
            replace H := Option.bind_eq_some_iff.mp H
            obtain ⟨t211, A60, H⟩ := H
            replace H : (if t211 = true then (some x8_1) else (slices_IndexFunc_Job__job_running_1.l0 k1 l0 (l0.length : Int) (wrap64 (x8_1 + 1)))) = some r := H
            have A6 := Aside0.mk A60
            clear A60
            by_cases c7 : t211 = true
            · subst c7
              have H1 : (some x8_1) = some r := by rw [if_pos rfl] at H; exact H
              clear H
              have H := H1
              clear H1
              obtain rfl := Option.some.inj H
              have p210 : 0 ≤ (x8_1 : Int) := of_decide_eq_true (by first | (with_reducible assumption) | assumption)
              have q210 : x8_1 < (l0.length : Int) := of_decide_eq_true (by first | (with_reducible assumption) | assumption)
              obtain ⟨ad210, e210, hx210_0, hx210_1, hx210_2, hx210_3, hx210_4, hx210_5, hx210_6, hx210_7, hx210_8, hx210_9, hx210_10, hx210_11⟩ := at_T32 HR0.out x8_1 p210 q210
              cases e210
              replace hx210_0 := (HB.out.cell (World.block_lt_of_cell? w _ hx210_0)).trans hx210_0
              replace hx210_1 := (HB.out.cell (World.block_lt_of_cell? w _ hx210_1)).trans hx210_1
              replace hx210_2 := (HB.out.cell (World.block_lt_of_cell? w _ hx210_2)).trans hx210_2
              replace hx210_3 := (HB.out.cell (World.block_lt_of_cell? w _ hx210_3)).trans hx210_3
              replace hx210_4 := (HB.out.cell (World.block_lt_of_cell? w _ hx210_4)).trans hx210_4
              replace hx210_5 := (HB.out.cell (World.block_lt_of_cell? w _ hx210_5)).trans hx210_5
              replace hx210_6 := (HB.out.cell (World.block_lt_of_cell? w _ hx210_6)).trans hx210_6
              replace hx210_7 := (HB.out.cell (World.block_lt_of_cell? w _ hx210_7)).trans hx210_7
              replace hx210_8 := (HB.out.cell (World.block_lt_of_cell? w _ hx210_8)).trans hx210_8
              replace hx210_9 := (HB.out.cell (World.block_lt_of_cell? w _ hx210_9)).trans hx210_9
              replace hx210_10 := (HB.out.cell (World.block_lt_of_cell? w _ hx210_10)).trans hx210_10
              replace hx210_11 := (HB.out.cell (World.block_lt_of_cell? w _ hx210_11)).trans hx210_11
              replace p210 := eq_true p210
              replace q210 := eq_true q210
              go_wp2_with (first | (go_at_call 57; (with_reducible refine (job_running_1.calls ((rd_T32 l0 x8_1).f0) ((rd_T32 l0 x8_1).f1) ((rd_T32 l0 x8_1).f2) ((rd_T32 l0 x8_1).f3) ((rd_T32 l0 x8_1).f4) ((rd_T32 l0 x8_1).f5) ((rd_T32 l0 x8_1).f6) ((rd_T32 l0 x8_1).f7) ((rd_T32 l0 x8_1).f8) ((rd_T32 l0 x8_1).f9) ((rd_T32 l0 x8_1).f10) ((rd_T32 l0 x8_1).f11) true _ A6.out).mono ?_); rintro e w8 ⟨rfl, hb⟩; have n0_ := Aside0.mk (below_step (by repeat (first | (with_reducible first | exact HB.out | apply below_alloc | apply pw_below_drewN | apply below_drew1) | exact HB.out)) hb); clear HB; have HB := n0_; clear n0_; (try clear hb); (try clear hb2); (try clear hk); (try clear hi)))
              go_ret
              exact ⟨by first | rfl | (simp [errW_none, errW_some] <;> rfl) | (simp [*, errW_none, errW_some] <;> rfl), by repeat (first | (with_reducible first | exact HB.out | apply below_alloc | apply pw_below_drewN | apply below_drew1) | exact HB.out)⟩
            · replace c7 := Bool.eq_false_iff.mpr c7
              subst c7
              have H1 : (slices_IndexFunc_Job__job_running_1.l0 k1 l0 (l0.length : Int) (wrap64 (x8_1 + 1))) = some r := by rw [if_neg (show ¬ (false = true) by decide)] at H; exact H
              clear H
              have H := H1
              clear H1
              have H' := Aside0.mk H
              clear H
              have p210 : 0 ≤ (x8_1 : Int) := of_decide_eq_true (by first | (with_reducible assumption) | assumption)
              have q210 : x8_1 < (l0.length : Int) := of_decide_eq_true (by first | (with_reducible assumption) | assumption)
              obtain ⟨ad210, e210, hx210_0, hx210_1, hx210_2, hx210_3, hx210_4, hx210_5, hx210_6, hx210_7, hx210_8, hx210_9, hx210_10, hx210_11⟩ := at_T32 HR0.out x8_1 p210 q210
              cases e210
              replace hx210_0 := (HB.out.cell (World.block_lt_of_cell? w _ hx210_0)).trans hx210_0
              replace hx210_1 := (HB.out.cell (World.block_lt_of_cell? w _ hx210_1)).trans hx210_1
              replace hx210_2 := (HB.out.cell (World.block_lt_of_cell? w _ hx210_2)).trans hx210_2
              replace hx210_3 := (HB.out.cell (World.block_lt_of_cell? w _ hx210_3)).trans hx210_3
              replace hx210_4 := (HB.out.cell (World.block_lt_of_cell? w _ hx210_4)).trans hx210_4
              replace hx210_5 := (HB.out.cell (World.block_lt_of_cell? w _ hx210_5)).trans hx210_5
              replace hx210_6 := (HB.out.cell (World.block_lt_of_cell? w _ hx210_6)).trans hx210_6
              replace hx210_7 := (HB.out.cell (World.block_lt_of_cell? w _ hx210_7)).trans hx210_7
              replace hx210_8 := (HB.out.cell (World.block_lt_of_cell? w _ hx210_8)).trans hx210_8
              replace hx210_9 := (HB.out.cell (World.block_lt_of_cell? w _ hx210_9)).trans hx210_9
              replace hx210_10 := (HB.out.cell (World.block_lt_of_cell? w _ hx210_10)).trans hx210_10
              replace hx210_11 := (HB.out.cell (World.block_lt_of_cell? w _ hx210_11)).trans hx210_11
              replace p210 := eq_true p210
              replace q210 := eq_true q210
              go_wp2_with (first | (go_at_call 57; (with_reducible refine (job_running_1.calls ((rd_T32 l0 x8_1).f0) ((rd_T32 l0 x8_1).f1) ((rd_T32 l0 x8_1).f2) ((rd_T32 l0 x8_1).f3) ((rd_T32 l0 x8_1).f4) ((rd_T32 l0 x8_1).f5) ((rd_T32 l0 x8_1).f6) ((rd_T32 l0 x8_1).f7) ((rd_T32 l0 x8_1).f8) ((rd_T32 l0 x8_1).f9) ((rd_T32 l0 x8_1).f10) ((rd_T32 l0 x8_1).f11) false _ A6.out).mono ?_); rintro e w9 ⟨rfl, hb⟩; have n0_ := Aside0.mk (below_step (by repeat (first | (with_reducible first | exact HB.out | apply below_alloc | apply pw_below_drewN | apply below_drew1) | exact HB.out)) hb); clear HB; have HB := n0_; clear n0_; (try clear hb); (try clear hb2); (try clear hk); (try clear hi)))
              go_roundg k1
              case measure => have := HK1.out; omega
              case rel => exact ⟨(wrap64 (x8_1 + 1)), (by first | rfl | (simp; done) | (simp [*]; done)), H', ⟨by have := HK1.out; omega⟩, ⟨by repeat (first | (with_reducible first | exact HB.out | apply below_alloc | apply pw_below_drewN | apply below_drew1) | exact HB.out)⟩⟩
          · rw [if_neg c5] at H
            exact absurd H (by simp)
        · rw [if_neg c4] at H
          exact absurd H (by simp)
      · rw [if_neg c3] at H
        have c3b0 : decide (x8_1 < (l0.length : Int)) = false := decide_eq_false c3
        clear c3
        obtain rfl := Option.some.inj H
        go_wp2
        go_ret
        exact ⟨by first | rfl | (simp [errW_none, errW_some] <;> rfl) | (simp [*, errW_none, errW_some] <;> rfl), by repeat (first | (with_reducible first | exact HB.out | apply below_alloc | apply pw_below_drewN | apply below_drew1) | exact HB.out)⟩

end Go.Proofs.Ytkhfgflcanmefaa.PAll
end
section
namespace Go.Proofs.Ytkhfgflcanmefaa.PAll
open Go.RowKit Go.Proofs.YtkhfgflcanmefaaW.PrintWords Go.Proofs.YtkhfgflcanmefaaW.PrintLast Go.Proofs.YtkhfgflcanmefaaW.PrintMore
attribute [local go_sem] max2_int min2_int max_two min_two max_three min_three max_four min_four   -- for this text's walks alone
set_option linter.unusedVariables false
set_option linter.unusedSimpArgs false

def slices_DeleteFunc_Job__job_running_1.l0 : Nat → List (S32) → Int → Int → Option ((List (S32)))
 | 0, _, _, _ => none
 | k + 1, x0, x5, x6 => if x6 < (x0.length : Int) then (if 0 ≤ x6 then ((job_running_1.f ((rd_T32 x0 x6).f0) ((rd_T32 x0 x6).f1) ((rd_T32 x0 x6).f2) ((rd_T32 x0 x6).f3) ((rd_T32 x0 x6).f4) ((rd_T32 x0 x6).f5) ((rd_T32 x0 x6).f6) ((rd_T32 x0 x6).f7) ((rd_T32 x0 x6).f8) ((rd_T32 x0 x6).f9) ((rd_T32 x0 x6).f10) ((rd_T32 x0 x6).f11)).bind fun t215 => (if t215 = true then (slices_DeleteFunc_Job__job_running_1.l0 k x0 x5 (wrap64 (x6 + 1))) else (if 0 ≤ x5 then (if x5 < (x0.length : Int) then (slices_DeleteFunc_Job__job_running_1.l0 k (x0.set (x5 : Int).toNat (⟨(rd_T32 x0 x6).f0, (rd_T32 x0 x6).f1, (rd_T32 x0 x6).f2, (rd_T32 x0 x6).f3, (rd_T32 x0 x6).f4, (rd_T32 x0 x6).f5, (rd_T32 x0 x6).f6, (rd_T32 x0 x6).f7, (rd_T32 x0 x6).f8, (rd_T32 x0 x6).f9, (rd_T32 x0 x6).f10, (rd_T32 x0 x6).f11⟩ : S32)) (wrap64 (x5 + 1)) (wrap64 (x6 + 1))) else (none)) else (none)))) else (none)) else (if 0 ≤ x5 then (if x5 ≤ (x0.length : Int) then (some (x0.take (x5 : Int).toNat)) else (none)) else (none))
def slices_DeleteFunc_Job__job_running_1.f (k : Nat) (l0 : List (S32))  : Option ((List (S32))) := (slices_IndexFunc_Job__job_running_1.f k l0).bind fun t212 => (if t212 = (-1) then (some l0) else (slices_DeleteFunc_Job__job_running_1.l0 k l0 t212 (wrap64 (t212 + 1))))
theorem slices_DeleteFunc_Job__job_running_1.mono_l : ∀ k, (∀ y0 y1 y2, LeO (slices_DeleteFunc_Job__job_running_1.l0 k y0 y1 y2) (slices_DeleteFunc_Job__job_running_1.l0 (k + 1) y0 y1 y2))
 | 0 => fun _ _ _ r h => by simp [slices_DeleteFunc_Job__job_running_1.l0] at h
 | k + 1 => by
  have ih0 := slices_DeleteFunc_Job__job_running_1.mono_l k
  ·intro y0 y1 y2
   unfold slices_DeleteFunc_Job__job_running_1.l0
   repeat' first
   | (with_reducible exact ih0 _ _ _)
   | (with_reducible exact slices_IndexFunc_Job__job_running_1.mono _ _)
   | (with_reducible exact LeO.refl _)
   | (with_reducible exact LeO.none _)
   | (with_reducible refine LeO.ite ?_ ?_)
   | (with_reducible refine LeO.bind ?_ (fun _ => ?_))
   | exact ih0 _ _ _
   | exact slices_IndexFunc_Job__job_running_1.mono _ _
   | exact LeO.none _
   | refine LeO.ite ?_ ?_
   | refine LeO.bind ?_ (fun _ => ?_)
theorem slices_DeleteFunc_Job__job_running_1.mono : ∀ a0 k, LeO (slices_DeleteFunc_Job__job_running_1.f k a0) (slices_DeleteFunc_Job__job_running_1.f (k + 1) a0) := by
 intro a0 k
 have ih0 := slices_DeleteFunc_Job__job_running_1.mono_l k
 unfold slices_DeleteFunc_Job__job_running_1.f
 repeat' first
   | (with_reducible exact ih0 _ _ _)
   | (with_reducible exact slices_IndexFunc_Job__job_running_1.mono _ _)
   | (with_reducible exact LeO.refl _)
   | (with_reducible exact LeO.none _)
   | (with_reducible refine LeO.ite ?_ ?_)
   | (with_reducible refine LeO.bind ?_ (fun _ => ?_))
   | exact ih0 _ _ _
   | exact slices_IndexFunc_Job__job_running_1.mono _ _
   | exact LeO.none _
   | refine LeO.ite ?_ ?_
   | refine LeO.bind ?_ (fun _ => ?_)
set_option maxHeartbeats 8000000 in
set_option maxRecDepth 100000 in
theorem slices_DeleteFunc_Job__job_running_1.calls (k : Nat) (P0_ : Nat → Prop) (u9000_ : Value) (l0 : List (S32))  (r : List (S32)) (w0 w : World) (hB : Below w0.heap.size w0 w) (ho0 : Kd.R k32 32 w w0.heap.size P0_ u9000_ l0) (h : slices_DeleteFunc_Job__job_running_1.f k l0 = some r) :
  Calls Try.prog 55 #[u9000_, .func (.func 57) #[] #[]] w fun e w' => ∃ v0_ : Value, e = .returned (v0_) ∧ Kd.R k32 32 w' w0.heap.size (fun k_ => (P0_ k_ ∨ w.heap.size ≤ k_)) v0_ r ∧ Below w0.heap.size w0 w' ∧ Kept w w' (fun k_ => P0_ k_) := by
 have hu32 := Try.underlying32
 have HO0 := Aside0.mk (show Kd.R k32 32 w w0.heap.size (fun k_ => (P0_ k_ ∨ w.heap.size ≤ k_)) u9000_ l0 from Kd.R_mono ho0 (fun k_ hk => (.inl hk)))
 have HK := Aside0.mk (Kept.refl w (fun k_ => P0_ k_))
 have HW0 := Aside0.mk hB.size
 have HB := Aside0.mk hB
 clear hB
 have H : ((slices_IndexFunc_Job__job_running_1.f k l0).bind fun t212 => (if t212 = (-1) then (some l0) else (slices_DeleteFunc_Job__job_running_1.l0 k l0 t212 (wrap64 (t212 + 1))))) = some r := h
 clear h
 replace H := Option.bind_eq_some_iff.mp H
 obtain ⟨t212, A30, H⟩ := H
 replace H : (if t212 = (-1) then (some l0) else (slices_DeleteFunc_Job__job_running_1.l0 k l0 t212 (wrap64 (t212 + 1)))) = some r := H
 have A3 := Aside0.mk A30
 clear A30
 by_cases c4 : t212 = (-1)
 ·rw [if_pos c4] at H
  have c4b0 : (t212 == (-1)) = true := beq_iff_eq.mpr c4
  have c4b1 : (t212 != (-1)) = false := bne_eq_false_iff_eq.mpr c4
  clear c4
  obtain rfl := Option.some.inj H
  obtain ⟨Ao5, co5, eo5⟩ := Kd.R_slice HO0.out
  subst eo5
  go_enter Try.func55, Try.ntmps55
  go_wp2_with (first | ((with_reducible refine gate_callee (f := 39) rfl ?_); refine goesL_ (some 10) rfl rfl Try.func39 (by kernel_rfl) rfl #[.slice Ao5 l0.length co5, .func (.func 57) #[] #[]] rfl mt ?_; (with_reducible refine (slices_IndexFunc_Job__job_running_1.calls k _ _ l0  t212 _ ?side1 ?side2 A3.out).mono ?_); (case side1 => exact mC (Kd.R_reads' HO0.out).2.2); (case side2 => exact (Kd.R_reads' HO0.out).2.1); rintro e w6 ⟨rfl, hb⟩; refine ⟨_, rfl, ?_⟩; have n0_ := Aside0.mk (Kd.R_below (mR HO0.out) hb); have n1_ := Aside0.mk (Kept.below (S := (fun k_ => P0_ k_)) (mK HK.out) hb); have n2_ := Aside0.mk (below_step (mB HB.out) hb); clear HO0; clear HK; clear HB; have HO0 := n0_; have HK := n1_; have HB := n2_; clear n0_ n1_ n2_; (try clear hb); (try clear hb2); (try clear hk); (try clear hi)))
  go_ret
  exact ⟨_, by first | rfl | (simp [errW_none, errW_some] <;> rfl) | (simp [*, errW_none, errW_some] <;> rfl), mR HO0.out, by repeat (first | (with_reducible first | exact HB.out | apply below_alloc | apply pw_below_drewN | apply below_drew1) | exact HB.out), by repeat (first | (with_reducible first | exact HK.out | apply Kept.alloc | apply Kept.drewN | apply Kept.drew) | exact HK.out)⟩
 ·rw [if_neg c4] at H
  have c4b0 : (t212 == (-1)) = false := beq_eq_false_iff_ne.mpr c4
  have c4b1 : (t212 != (-1)) = true := bne_iff_ne.mpr c4
  have H' := Aside0.mk H
  clear H
  obtain ⟨Ao7, co7, eo7⟩ := Kd.R_slice HO0.out
  subst eo7
  go_enter Try.func55, Try.ntmps55
  go_wp2_with (first | ((with_reducible refine gate_callee (f := 39) rfl ?_); refine goesL_ (some 10) rfl rfl Try.func39 (by kernel_rfl) rfl #[.slice Ao7 l0.length co7, .func (.func 57) #[] #[]] rfl mt ?_; (with_reducible refine (slices_IndexFunc_Job__job_running_1.calls k _ _ l0  t212 _ ?side1 ?side2 A3.out).mono ?_); (case side1 => exact mC (Kd.R_reads' HO0.out).2.2); (case side2 => exact (Kd.R_reads' HO0.out).2.1); rintro e w8 ⟨rfl, hb⟩; refine ⟨_, rfl, ?_⟩; have n0_ := Aside0.mk (Kd.R_below (mR HO0.out) hb); have n1_ := Aside0.mk (Kept.below (S := (fun k_ => P0_ k_)) (mK HK.out) hb); have n2_ := Aside0.mk (below_step (mB HB.out) hb); clear HO0; clear HK; clear HB; have HO0 := n0_; have HK := n1_; have HB := n2_; clear n0_ n1_ n2_; (try clear hb); (try clear hb2); (try clear hk); (try clear hi)))
  go_loopg [5, 6] k (fun kq v5 v6 w' => ∃ (x0_1 : List (S32)) (x5_1 : Int) (x6_1 : Int), v5 = .int .i64 x5_1 ∧ v6 = .int .i64 x6_1 ∧ Aside0 (slices_DeleteFunc_Job__job_running_1.l0 kq x0_1 x5_1 x6_1 = some r) ∧ Aside0 (kq ≤ k) ∧ Aside0 (Kd.R k32 32 w' w0.heap.size (fun k_ => (P0_ k_ ∨ w.heap.size ≤ k_)) (.slice Ao7 l0.length co7) x0_1) ∧ Aside0 (Kept w w' (fun k_ => P0_ k_)) ∧ Aside0 (Below w0.heap.size w0 w'))
  case atStart => exact ⟨(l0), (t212), (wrap64 (t212 + 1)), ez, ez, H', ⟨Nat.le_refl _⟩, ⟨mR HO0.out⟩, ⟨mK HK.out⟩, ⟨mB HB.out⟩⟩
  case round =>
   clear H'
   (try clear p2); (try clear c4); (try clear c4b0); (try clear c4b1); (try clear p6); (try clear c7)
   obtain ⟨x0_1, x5_1, x6_1, rfl, rfl, HA, HK1, HO_0, HK, HB⟩ := hrel
   have hl0_1 := (Kd.R_reads' HO_0.out).1
   rw [hl0_1] at HO_0
   (try simp only [hl0_1])
   cases gk with
   | zero => exact absurd HA.out (by simp [slices_DeleteFunc_Job__job_running_1.l0])
   | succ k1 =>
    have H := HA.out
    clear HA
    simp only [slices_DeleteFunc_Job__job_running_1.l0] at H
    by_cases c9 : x6_1 < (x0_1.length : Int)
    ·rw [if_pos c9] at H
     have c9b0 : decide (x6_1 < (x0_1.length : Int)) = true := decide_eq_true c9
     clear c9
     by_cases c10 : 0 ≤ x6_1
     ·rw [if_pos c10] at H
      have c10b0 : decide (0 ≤ x6_1) = true := decide_eq_true c10
      clear c10
      replace H := Option.bind_eq_some_iff.mp H
      obtain ⟨t215, A110, H⟩ := H
      replace H : (if t215 = true then (slices_DeleteFunc_Job__job_running_1.l0 k1 x0_1 x5_1 (wrap64 (x6_1 + 1))) else (if 0 ≤ x5_1 then (if x5_1 < (x0_1.length : Int) then (slices_DeleteFunc_Job__job_running_1.l0 k1 (x0_1.set (x5_1 : Int).toNat (⟨(rd_T32 x0_1 x6_1).f0, (rd_T32 x0_1 x6_1).f1, (rd_T32 x0_1 x6_1).f2, (rd_T32 x0_1 x6_1).f3, (rd_T32 x0_1 x6_1).f4, (rd_T32 x0_1 x6_1).f5, (rd_T32 x0_1 x6_1).f6, (rd_T32 x0_1 x6_1).f7, (rd_T32 x0_1 x6_1).f8, (rd_T32 x0_1 x6_1).f9, (rd_T32 x0_1 x6_1).f10, (rd_T32 x0_1 x6_1).f11⟩ : S32)) (wrap64 (x5_1 + 1)) (wrap64 (x6_1 + 1))) else (none)) else (none))) = some r := H
      have A11 := Aside0.mk A110
      clear A110
      by_cases c12 : t215 = true
      ·subst c12
       have H1 : (slices_DeleteFunc_Job__job_running_1.l0 k1 x0_1 x5_1 (wrap64 (x6_1 + 1))) = some r := by rw [if_pos rfl] at H; exact H
       clear H
       have H := H1
       clear H1
       have H' := Aside0.mk H
       clear H
       have p213 : 0 ≤ (x6_1 : Int) := oda
       have q213 : x6_1 < (x0_1.length : Int) := oda
       obtain ⟨ad213, e213, hx213_0, hx213_1, hx213_2, hx213_3, hx213_4, hx213_5, hx213_6, hx213_7, hx213_8, hx213_9, hx213_10, hx213_11⟩ := at_T32 (Kd.R_reads' HO_0.out).2.2 x6_1 p213 q213
       cases e213
       replace p213 := eq_true p213
       replace q213 := eq_true q213
       go_wp2_with (first | ((with_reducible refine gate_dst (N := 7) rfl ?_); refine box_event ?hg (N := 7) ?hd (cs := #[.int .i64 0, .int .i64 0, .int .i64 0, .int .i64 0, .int .i64 0, .int .i64 0, .int .i64 0, .int .i64 0, .int .i64 0, .int .i64 0, .int .i64 0, .slice none 0 0]) (t := 32) ?hr ?_; (case hd => rfl); (case hg => rfl); (case hr => first | (go_simp; done) | (go_simp; rfl)); intro gb214 hg w13 hbox hb; have n0_ := Aside0.mk (Kd.R_below (Kd.R_elderB (mR HO_0.out) gb214 (Nat.le_of_eq hg.symm)) hb); have n1_ := Aside0.mk (Kept.below (S := (fun k_ => P0_ k_)) (mK HK.out) hb); have n2_ := Aside0.mk (below_step (mB HB.out) hb); have n3_ := Aside0.mk (hbox); have n4_ := Aside0.mk ((by rw [hg]; exact (by first | exact HK.out.1 | exact (show Kept w _ (fun k_ => P0_ k_) from by repeat (first | (with_reducible first | exact HK.out | apply Kept.alloc | apply Kept.drewN | apply Kept.drew) | exact HK.out)).1) : w.heap.size ≤ gb214)); have n5_ := Aside0.mk ((by rw [hg]; exact (below_size (mB HB.out)) : w0.heap.size ≤ gb214)); clear HO_0; clear HK; clear HB; have HO_0 := n0_; have HK := n1_; have HB := n2_; have BK214 := n3_; have GW214 := n4_; have GE214 := n5_; clear n0_ n1_ n2_ n3_ n4_ n5_; clear hb hbox hg; have hcz14_0 : w13.cell? ⟨gb214, 0, none⟩ = some (.int .i64 0) := (blk_cell BK214.out 0).trans rfl; have hcz14_1 : w13.cell? ⟨gb214, 1, none⟩ = some (.int .i64 0) := (blk_cell BK214.out 1).trans rfl; have hcz14_2 : w13.cell? ⟨gb214, 2, none⟩ = some (.int .i64 0) := (blk_cell BK214.out 2).trans rfl; have hcz14_3 : w13.cell? ⟨gb214, 3, none⟩ = some (.int .i64 0) := (blk_cell BK214.out 3).trans rfl; have hcz14_4 : w13.cell? ⟨gb214, 4, none⟩ = some (.int .i64 0) := (blk_cell BK214.out 4).trans rfl; have hcz14_5 : w13.cell? ⟨gb214, 5, none⟩ = some (.int .i64 0) := (blk_cell BK214.out 5).trans rfl; have hcz14_6 : w13.cell? ⟨gb214, 6, none⟩ = some (.int .i64 0) := (blk_cell BK214.out 6).trans rfl; have hcz14_7 : w13.cell? ⟨gb214, 7, none⟩ = some (.int .i64 0) := (blk_cell BK214.out 7).trans rfl; have hcz14_8 : w13.cell? ⟨gb214, 8, none⟩ = some (.int .i64 0) := (blk_cell BK214.out 8).trans rfl; have hcz14_9 : w13.cell? ⟨gb214, 9, none⟩ = some (.int .i64 0) := (blk_cell BK214.out 9).trans rfl; have hcz14_10 : w13.cell? ⟨gb214, 10, none⟩ = some (.int .i64 0) := (blk_cell BK214.out 10).trans rfl; have hcz14_11 : w13.cell? ⟨gb214, 11, none⟩ = some (.slice none 0 0) := (blk_cell BK214.out 11).trans rfl; have hfz14_0 := blk_frozen BK214.out 0; have hfz14_1 := blk_frozen BK214.out 1; have hfz14_2 := blk_frozen BK214.out 2; have hfz14_3 := blk_frozen BK214.out 3; have hfz14_4 := blk_frozen BK214.out 4; have hfz14_5 := blk_frozen BK214.out 5; have hfz14_6 := blk_frozen BK214.out 6; have hfz14_7 := blk_frozen BK214.out 7; have hfz14_8 := blk_frozen BK214.out 8; have hfz14_9 := blk_frozen BK214.out 9; have hfz14_10 := blk_frozen BK214.out 10; have hfz14_11 := blk_frozen BK214.out 11) | (go_at_call 57; (with_reducible refine (job_running_1.calls ((rd_T32 x0_1 x6_1).f0) ((rd_T32 x0_1 x6_1).f1) ((rd_T32 x0_1 x6_1).f2) ((rd_T32 x0_1 x6_1).f3) ((rd_T32 x0_1 x6_1).f4) ((rd_T32 x0_1 x6_1).f5) ((rd_T32 x0_1 x6_1).f6) ((rd_T32 x0_1 x6_1).f7) ((rd_T32 x0_1 x6_1).f8) ((rd_T32 x0_1 x6_1).f9) ((rd_T32 x0_1 x6_1).f10) ((rd_T32 x0_1 x6_1).f11) true _ A11.out).mono ?_); rintro e w15 ⟨rfl, hb⟩; have n0_ := Aside0.mk (Kd.R_below (by (with_reducible repeat (first | apply Kd.R_alloc | apply Kd.R_drewN | apply Kd.R_drew)); exact (Kd.R_mono (Kd.R_fa gb214 11 (Kd.R_fa gb214 10 (Kd.R_fa gb214 9 (Kd.R_fa gb214 8 (Kd.R_fa gb214 7 (Kd.R_fa gb214 6 (Kd.R_fa gb214 5 (Kd.R_fa gb214 4 (Kd.R_fa gb214 3 (Kd.R_fa gb214 2 (Kd.R_fa gb214 1 (Kd.R_fa gb214 0 (Kd.R_mono HO_0.out (fun k_ hk => (⟨hk, hk.2⟩ : _ ∧ k_ ≠ gb214))) (.int .i64 ((rd_T32 x0_1 x6_1).f0))) (.int .i64 ((rd_T32 x0_1 x6_1).f1))) (.int .i64 ((rd_T32 x0_1 x6_1).f2))) (.int .i64 ((rd_T32 x0_1 x6_1).f3))) (.int .i64 ((rd_T32 x0_1 x6_1).f4))) (.int .i64 ((rd_T32 x0_1 x6_1).f5))) (.int .i64 ((rd_T32 x0_1 x6_1).f6))) (.int .i64 ((rd_T32 x0_1 x6_1).f7))) (.int .i64 ((rd_T32 x0_1 x6_1).f8))) (.int .i64 ((rd_T32 x0_1 x6_1).f9))) (.int .i64 ((rd_T32 x0_1 x6_1).f10))) (.slice ((rd_T32 x0_1 x6_1).f11).A ((rd_T32 x0_1 x6_1).f11).n ((rd_T32 x0_1 x6_1).f11).c)) (fun _ h_ => h_.1))) hb); have n1_ := Aside0.mk (blk_below (g := gb214) (o := .cells (cJ (rd_T32 x0_1 x6_1)) 32 (0, 0)) (by (with_reducible repeat first | apply blk_drewN | apply blk_drew | apply blk_alloc); refine blk_put (cs := #[.int .i64 ((rd_T32 x0_1 x6_1).f0), .int .i64 ((rd_T32 x0_1 x6_1).f1), .int .i64 ((rd_T32 x0_1 x6_1).f2), .int .i64 ((rd_T32 x0_1 x6_1).f3), .int .i64 ((rd_T32 x0_1 x6_1).f4), .int .i64 ((rd_T32 x0_1 x6_1).f5), .int .i64 ((rd_T32 x0_1 x6_1).f6), .int .i64 ((rd_T32 x0_1 x6_1).f7), .int .i64 ((rd_T32 x0_1 x6_1).f8), .int .i64 ((rd_T32 x0_1 x6_1).f9), .int .i64 ((rd_T32 x0_1 x6_1).f10), .slice none 0 0]) ?_ 11 _ rfl; (with_reducible repeat first | apply blk_drewN | apply blk_drew | apply blk_alloc); refine blk_put (cs := #[.int .i64 ((rd_T32 x0_1 x6_1).f0), .int .i64 ((rd_T32 x0_1 x6_1).f1), .int .i64 ((rd_T32 x0_1 x6_1).f2), .int .i64 ((rd_T32 x0_1 x6_1).f3), .int .i64 ((rd_T32 x0_1 x6_1).f4), .int .i64 ((rd_T32 x0_1 x6_1).f5), .int .i64 ((rd_T32 x0_1 x6_1).f6), .int .i64 ((rd_T32 x0_1 x6_1).f7), .int .i64 ((rd_T32 x0_1 x6_1).f8), .int .i64 ((rd_T32 x0_1 x6_1).f9), .int .i64 0, .slice none 0 0]) ?_ 10 _ rfl; (with_reducible repeat first | apply blk_drewN | apply blk_drew | apply blk_alloc); refine blk_put (cs := #[.int .i64 ((rd_T32 x0_1 x6_1).f0), .int .i64 ((rd_T32 x0_1 x6_1).f1), .int .i64 ((rd_T32 x0_1 x6_1).f2), .int .i64 ((rd_T32 x0_1 x6_1).f3), .int .i64 ((rd_T32 x0_1 x6_1).f4), .int .i64 ((rd_T32 x0_1 x6_1).f5), .int .i64 ((rd_T32 x0_1 x6_1).f6), .int .i64 ((rd_T32 x0_1 x6_1).f7), .int .i64 ((rd_T32 x0_1 x6_1).f8), .int .i64 0, .int .i64 0, .slice none 0 0]) ?_ 9 _ rfl; (with_reducible repeat first | apply blk_drewN | apply blk_drew | apply blk_alloc); refine blk_put (cs := #[.int .i64 ((rd_T32 x0_1 x6_1).f0), .int .i64 ((rd_T32 x0_1 x6_1).f1), .int .i64 ((rd_T32 x0_1 x6_1).f2), .int .i64 ((rd_T32 x0_1 x6_1).f3), .int .i64 ((rd_T32 x0_1 x6_1).f4), .int .i64 ((rd_T32 x0_1 x6_1).f5), .int .i64 ((rd_T32 x0_1 x6_1).f6), .int .i64 ((rd_T32 x0_1 x6_1).f7), .int .i64 0, .int .i64 0, .int .i64 0, .slice none 0 0]) ?_ 8 _ rfl; (with_reducible repeat first | apply blk_drewN | apply blk_drew | apply blk_alloc); refine blk_put (cs := #[.int .i64 ((rd_T32 x0_1 x6_1).f0), .int .i64 ((rd_T32 x0_1 x6_1).f1), .int .i64 ((rd_T32 x0_1 x6_1).f2), .int .i64 ((rd_T32 x0_1 x6_1).f3), .int .i64 ((rd_T32 x0_1 x6_1).f4), .int .i64 ((rd_T32 x0_1 x6_1).f5), .int .i64 ((rd_T32 x0_1 x6_1).f6), .int .i64 0, .int .i64 0, .int .i64 0, .int .i64 0, .slice none 0 0]) ?_ 7 _ rfl; (with_reducible repeat first | apply blk_drewN | apply blk_drew | apply blk_alloc); refine blk_put (cs := #[.int .i64 ((rd_T32 x0_1 x6_1).f0), .int .i64 ((rd_T32 x0_1 x6_1).f1), .int .i64 ((rd_T32 x0_1 x6_1).f2), .int .i64 ((rd_T32 x0_1 x6_1).f3), .int .i64 ((rd_T32 x0_1 x6_1).f4), .int .i64 ((rd_T32 x0_1 x6_1).f5), .int .i64 0, .int .i64 0, .int .i64 0, .int .i64 0, .int .i64 0, .slice none 0 0]) ?_ 6 _ rfl; (with_reducible repeat first | apply blk_drewN | apply blk_drew | apply blk_alloc); refine blk_put (cs := #[.int .i64 ((rd_T32 x0_1 x6_1).f0), .int .i64 ((rd_T32 x0_1 x6_1).f1), .int .i64 ((rd_T32 x0_1 x6_1).f2), .int .i64 ((rd_T32 x0_1 x6_1).f3), .int .i64 ((rd_T32 x0_1 x6_1).f4), .int .i64 0, .int .i64 0, .int .i64 0, .int .i64 0, .int .i64 0, .int .i64 0, .slice none 0 0]) ?_ 5 _ rfl; (with_reducible repeat first | apply blk_drewN | apply blk_drew | apply blk_alloc); refine blk_put (cs := #[.int .i64 ((rd_T32 x0_1 x6_1).f0), .int .i64 ((rd_T32 x0_1 x6_1).f1), .int .i64 ((rd_T32 x0_1 x6_1).f2), .int .i64 ((rd_T32 x0_1 x6_1).f3), .int .i64 0, .int .i64 0, .int .i64 0, .int .i64 0, .int .i64 0, .int .i64 0, .int .i64 0, .slice none 0 0]) ?_ 4 _ rfl; (with_reducible repeat first | apply blk_drewN | apply blk_drew | apply blk_alloc); refine blk_put (cs := #[.int .i64 ((rd_T32 x0_1 x6_1).f0), .int .i64 ((rd_T32 x0_1 x6_1).f1), .int .i64 ((rd_T32 x0_1 x6_1).f2), .int .i64 0, .int .i64 0, .int .i64 0, .int .i64 0, .int .i64 0, .int .i64 0, .int .i64 0, .int .i64 0, .slice none 0 0]) ?_ 3 _ rfl; (with_reducible repeat first | apply blk_drewN | apply blk_drew | apply blk_alloc); refine blk_put (cs := #[.int .i64 ((rd_T32 x0_1 x6_1).f0), .int .i64 ((rd_T32 x0_1 x6_1).f1), .int .i64 0, .int .i64 0, .int .i64 0, .int .i64 0, .int .i64 0, .int .i64 0, .int .i64 0, .int .i64 0, .int .i64 0, .slice none 0 0]) ?_ 2 _ rfl; (with_reducible repeat first | apply blk_drewN | apply blk_drew | apply blk_alloc); refine blk_put (cs := #[.int .i64 ((rd_T32 x0_1 x6_1).f0), .int .i64 0, .int .i64 0, .int .i64 0, .int .i64 0, .int .i64 0, .int .i64 0, .int .i64 0, .int .i64 0, .int .i64 0, .int .i64 0, .slice none 0 0]) ?_ 1 _ rfl; (with_reducible repeat first | apply blk_drewN | apply blk_drew | apply blk_alloc); refine blk_put (cs := #[.int .i64 0, .int .i64 0, .int .i64 0, .int .i64 0, .int .i64 0, .int .i64 0, .int .i64 0, .int .i64 0, .int .i64 0, .int .i64 0, .int .i64 0, .slice none 0 0]) ?_ 0 _ rfl; (with_reducible repeat first | apply blk_drewN | apply blk_drew | apply blk_alloc); exact BK214.out) hb); have n2_ := Aside0.mk (Kept.below (S := (fun k_ => P0_ k_)) (by repeat (first | (with_reducible first | exact HK.out | apply Kept.alloc | apply Kept.drewN | apply Kept.drew | refine Kept.setCell ?_ (.inr GW214.out) _) | exact HK.out)) hb); have n3_ := Aside0.mk (below_step (mBs HB.out) hb); clear HO_0; clear BK214; clear HK; clear HB; have HO_0 := n0_; have BK214 := n1_; have HK := n2_; have HB := n3_; clear n0_ n1_ n2_ n3_; (try clear hb); (try clear hb2); (try clear hk); (try clear hi)))
       (try simp only [← hl0_1])
       go_roundg k1
       case measure => have := HK1.out; omega
       case rel => exact ⟨(x0_1), (x5_1), (wrap64 (x6_1 + 1)), ez, ez, H', ⟨by have := HK1.out; omega⟩, ⟨by (try simp only [hl0_1]); (with_reducible repeat (first | apply Kd.R_alloc | apply Kd.R_drewN | apply Kd.R_drew)); exact Kd.R_mono HO_0.out (fun _ hk => hk.1)⟩, ⟨by repeat (first | (with_reducible first | exact HK.out | apply Kept.alloc | apply Kept.drewN | apply Kept.drew | refine Kept.setCell ?_ (.inr GW214.out) _) | exact HK.out)⟩, ⟨mBs HB.out⟩⟩
      ·replace c12 := Bool.eq_false_iff.mpr c12
       subst c12
       have H1 : (if 0 ≤ x5_1 then (if x5_1 < (x0_1.length : Int) then (slices_DeleteFunc_Job__job_running_1.l0 k1 (x0_1.set (x5_1 : Int).toNat (⟨(rd_T32 x0_1 x6_1).f0, (rd_T32 x0_1 x6_1).f1, (rd_T32 x0_1 x6_1).f2, (rd_T32 x0_1 x6_1).f3, (rd_T32 x0_1 x6_1).f4, (rd_T32 x0_1 x6_1).f5, (rd_T32 x0_1 x6_1).f6, (rd_T32 x0_1 x6_1).f7, (rd_T32 x0_1 x6_1).f8, (rd_T32 x0_1 x6_1).f9, (rd_T32 x0_1 x6_1).f10, (rd_T32 x0_1 x6_1).f11⟩ : S32)) (wrap64 (x5_1 + 1)) (wrap64 (x6_1 + 1))) else (none)) else (none)) = some r := by rw [if_neg (show ¬ (false = true) by decide)] at H; exact H
       clear H
       have H := H1
       clear H1
       by_cases c16 : 0 ≤ x5_1
       ·rw [if_pos c16] at H
        have c16b0 : decide (0 ≤ x5_1) = true := decide_eq_true c16
        clear c16
        by_cases c17 : x5_1 < (x0_1.length : Int)
        ·rw [if_pos c17] at H
         have c17b0 : decide (x5_1 < (x0_1.length : Int)) = true := decide_eq_true c17
         clear c17
         obtain ⟨y216, hy216⟩ : ∃ y_ : List (S32), y_ = (x0_1.set (x5_1 : Int).toNat (⟨(rd_T32 x0_1 x6_1).f0, (rd_T32 x0_1 x6_1).f1, (rd_T32 x0_1 x6_1).f2, (rd_T32 x0_1 x6_1).f3, (rd_T32 x0_1 x6_1).f4, (rd_T32 x0_1 x6_1).f5, (rd_T32 x0_1 x6_1).f6, (rd_T32 x0_1 x6_1).f7, (rd_T32 x0_1 x6_1).f8, (rd_T32 x0_1 x6_1).f9, (rd_T32 x0_1 x6_1).f10, (rd_T32 x0_1 x6_1).f11⟩ : S32)) := ⟨_, rfl⟩
         replace H : (slices_DeleteFunc_Job__job_running_1.l0 k1 y216 (wrap64 (x5_1 + 1)) (wrap64 (x6_1 + 1))) = some r := mH hy216 H
         have Ny216 := Aside0.mk hy216
         clear hy216
         have H' := Aside0.mk H
         clear H
         have p213 : 0 ≤ (x6_1 : Int) := oda
         have q213 : x6_1 < (x0_1.length : Int) := oda
         obtain ⟨ad213, e213, hx213_0, hx213_1, hx213_2, hx213_3, hx213_4, hx213_5, hx213_6, hx213_7, hx213_8, hx213_9, hx213_10, hx213_11⟩ := at_T32 (Kd.R_reads' HO_0.out).2.2 x6_1 p213 q213
         cases e213
         replace p213 := eq_true p213
         replace q213 := eq_true q213
         go_wp2_with (first | ((with_reducible refine gate_dst (N := 7) rfl ?_); refine box_event ?hg (N := 7) ?hd (cs := #[.int .i64 0, .int .i64 0, .int .i64 0, .int .i64 0, .int .i64 0, .int .i64 0, .int .i64 0, .int .i64 0, .int .i64 0, .int .i64 0, .int .i64 0, .slice none 0 0]) (t := 32) ?hr ?_; (case hd => rfl); (case hg => rfl); (case hr => first | (go_simp; done) | (go_simp; rfl)); intro gb214 hg w19 hbox hb; have n0_ := Aside0.mk (Kd.R_below (Kd.R_elderB (mR HO_0.out) gb214 (Nat.le_of_eq hg.symm)) hb); have n1_ := Aside0.mk (Kept.below (S := (fun k_ => P0_ k_)) (mK HK.out) hb); have n2_ := Aside0.mk (below_step (mB HB.out) hb); have n3_ := Aside0.mk (hbox); have n4_ := Aside0.mk ((by rw [hg]; exact (by first | exact HK.out.1 | exact (show Kept w _ (fun k_ => P0_ k_) from by repeat (first | (with_reducible first | exact HK.out | apply Kept.alloc | apply Kept.drewN | apply Kept.drew) | exact HK.out)).1) : w.heap.size ≤ gb214)); have n5_ := Aside0.mk ((by rw [hg]; exact (below_size (mB HB.out)) : w0.heap.size ≤ gb214)); clear HO_0; clear HK; clear HB; have HO_0 := n0_; have HK := n1_; have HB := n2_; have BK214 := n3_; have GW214 := n4_; have GE214 := n5_; clear n0_ n1_ n2_ n3_ n4_ n5_; clear hb hbox hg; have hcz20_0 : w19.cell? ⟨gb214, 0, none⟩ = some (.int .i64 0) := (blk_cell BK214.out 0).trans rfl; have hcz20_1 : w19.cell? ⟨gb214, 1, none⟩ = some (.int .i64 0) := (blk_cell BK214.out 1).trans rfl; have hcz20_2 : w19.cell? ⟨gb214, 2, none⟩ = some (.int .i64 0) := (blk_cell BK214.out 2).trans rfl; have hcz20_3 : w19.cell? ⟨gb214, 3, none⟩ = some (.int .i64 0) := (blk_cell BK214.out 3).trans rfl; have hcz20_4 : w19.cell? ⟨gb214, 4, none⟩ = some (.int .i64 0) := (blk_cell BK214.out 4).trans rfl; have hcz20_5 : w19.cell? ⟨gb214, 5, none⟩ = some (.int .i64 0) := (blk_cell BK214.out 5).trans rfl; have hcz20_6 : w19.cell? ⟨gb214, 6, none⟩ = some (.int .i64 0) := (blk_cell BK214.out 6).trans rfl; have hcz20_7 : w19.cell? ⟨gb214, 7, none⟩ = some (.int .i64 0) := (blk_cell BK214.out 7).trans rfl; have hcz20_8 : w19.cell? ⟨gb214, 8, none⟩ = some (.int .i64 0) := (blk_cell BK214.out 8).trans rfl; have hcz20_9 : w19.cell? ⟨gb214, 9, none⟩ = some (.int .i64 0) := (blk_cell BK214.out 9).trans rfl; have hcz20_10 : w19.cell? ⟨gb214, 10, none⟩ = some (.int .i64 0) := (blk_cell BK214.out 10).trans rfl; have hcz20_11 : w19.cell? ⟨gb214, 11, none⟩ = some (.slice none 0 0) := (blk_cell BK214.out 11).trans rfl; have hfz20_0 := blk_frozen BK214.out 0; have hfz20_1 := blk_frozen BK214.out 1; have hfz20_2 := blk_frozen BK214.out 2; have hfz20_3 := blk_frozen BK214.out 3; have hfz20_4 := blk_frozen BK214.out 4; have hfz20_5 := blk_frozen BK214.out 5; have hfz20_6 := blk_frozen BK214.out 6; have hfz20_7 := blk_frozen BK214.out 7; have hfz20_8 := blk_frozen BK214.out 8; have hfz20_9 := blk_frozen BK214.out 9; have hfz20_10 := blk_frozen BK214.out 10; have hfz20_11 := blk_frozen BK214.out 11) | (go_at_call 57; (with_reducible refine (job_running_1.calls ((rd_T32 x0_1 x6_1).f0) ((rd_T32 x0_1 x6_1).f1) ((rd_T32 x0_1 x6_1).f2) ((rd_T32 x0_1 x6_1).f3) ((rd_T32 x0_1 x6_1).f4) ((rd_T32 x0_1 x6_1).f5) ((rd_T32 x0_1 x6_1).f6) ((rd_T32 x0_1 x6_1).f7) ((rd_T32 x0_1 x6_1).f8) ((rd_T32 x0_1 x6_1).f9) ((rd_T32 x0_1 x6_1).f10) ((rd_T32 x0_1 x6_1).f11) false _ A11.out).mono ?_); rintro e w21 ⟨rfl, hb⟩; have n0_ := Aside0.mk (Kd.R_below (by (with_reducible repeat (first | apply Kd.R_alloc | apply Kd.R_drewN | apply Kd.R_drew)); exact (Kd.R_mono (Kd.R_fa gb214 11 (Kd.R_fa gb214 10 (Kd.R_fa gb214 9 (Kd.R_fa gb214 8 (Kd.R_fa gb214 7 (Kd.R_fa gb214 6 (Kd.R_fa gb214 5 (Kd.R_fa gb214 4 (Kd.R_fa gb214 3 (Kd.R_fa gb214 2 (Kd.R_fa gb214 1 (Kd.R_fa gb214 0 (Kd.R_mono HO_0.out (fun k_ hk => (⟨hk, hk.2⟩ : _ ∧ k_ ≠ gb214))) (.int .i64 ((rd_T32 x0_1 x6_1).f0))) (.int .i64 ((rd_T32 x0_1 x6_1).f1))) (.int .i64 ((rd_T32 x0_1 x6_1).f2))) (.int .i64 ((rd_T32 x0_1 x6_1).f3))) (.int .i64 ((rd_T32 x0_1 x6_1).f4))) (.int .i64 ((rd_T32 x0_1 x6_1).f5))) (.int .i64 ((rd_T32 x0_1 x6_1).f6))) (.int .i64 ((rd_T32 x0_1 x6_1).f7))) (.int .i64 ((rd_T32 x0_1 x6_1).f8))) (.int .i64 ((rd_T32 x0_1 x6_1).f9))) (.int .i64 ((rd_T32 x0_1 x6_1).f10))) (.slice ((rd_T32 x0_1 x6_1).f11).A ((rd_T32 x0_1 x6_1).f11).n ((rd_T32 x0_1 x6_1).f11).c)) (fun _ h_ => h_.1))) hb); have n1_ := Aside0.mk (blk_below (g := gb214) (o := .cells (cJ (rd_T32 x0_1 x6_1)) 32 (0, 0)) (by (with_reducible repeat first | apply blk_drewN | apply blk_drew | apply blk_alloc); refine blk_put (cs := #[.int .i64 ((rd_T32 x0_1 x6_1).f0), .int .i64 ((rd_T32 x0_1 x6_1).f1), .int .i64 ((rd_T32 x0_1 x6_1).f2), .int .i64 ((rd_T32 x0_1 x6_1).f3), .int .i64 ((rd_T32 x0_1 x6_1).f4), .int .i64 ((rd_T32 x0_1 x6_1).f5), .int .i64 ((rd_T32 x0_1 x6_1).f6), .int .i64 ((rd_T32 x0_1 x6_1).f7), .int .i64 ((rd_T32 x0_1 x6_1).f8), .int .i64 ((rd_T32 x0_1 x6_1).f9), .int .i64 ((rd_T32 x0_1 x6_1).f10), .slice none 0 0]) ?_ 11 _ rfl; (with_reducible repeat first | apply blk_drewN | apply blk_drew | apply blk_alloc); refine blk_put (cs := #[.int .i64 ((rd_T32 x0_1 x6_1).f0), .int .i64 ((rd_T32 x0_1 x6_1).f1), .int .i64 ((rd_T32 x0_1 x6_1).f2), .int .i64 ((rd_T32 x0_1 x6_1).f3), .int .i64 ((rd_T32 x0_1 x6_1).f4), .int .i64 ((rd_T32 x0_1 x6_1).f5), .int .i64 ((rd_T32 x0_1 x6_1).f6), .int .i64 ((rd_T32 x0_1 x6_1).f7), .int .i64 ((rd_T32 x0_1 x6_1).f8), .int .i64 ((rd_T32 x0_1 x6_1).f9), .int .i64 0, .slice none 0 0]) ?_ 10 _ rfl; (with_reducible repeat first | apply blk_drewN | apply blk_drew | apply blk_alloc); refine blk_put (cs := #[.int .i64 ((rd_T32 x0_1 x6_1).f0), .int .i64 ((rd_T32 x0_1 x6_1).f1), .int .i64 ((rd_T32 x0_1 x6_1).f2), .int .i64 ((rd_T32 x0_1 x6_1).f3), .int .i64 ((rd_T32 x0_1 x6_1).f4), .int .i64 ((rd_T32 x0_1 x6_1).f5), .int .i64 ((rd_T32 x0_1 x6_1).f6), .int .i64 ((rd_T32 x0_1 x6_1).f7), .int .i64 ((rd_T32 x0_1 x6_1).f8), .int .i64 0, .int .i64 0, .slice none 0 0]) ?_ 9 _ rfl; (with_reducible repeat first | apply blk_drewN | apply blk_drew | apply blk_alloc); refine blk_put (cs := #[.int .i64 ((rd_T32 x0_1 x6_1).f0), .int .i64 ((rd_T32 x0_1 x6_1).f1), .int .i64 ((rd_T32 x0_1 x6_1).f2), .int .i64 ((rd_T32 x0_1 x6_1).f3), .int .i64 ((rd_T32 x0_1 x6_1).f4), .int .i64 ((rd_T32 x0_1 x6_1).f5), .int .i64 ((rd_T32 x0_1 x6_1).f6), .int .i64 ((rd_T32 x0_1 x6_1).f7), .int .i64 0, .int .i64 0, .int .i64 0, .slice none 0 0]) ?_ 8 _ rfl; (with_reducible repeat first | apply blk_drewN | apply blk_drew | apply blk_alloc); refine blk_put (cs := #[.int .i64 ((rd_T32 x0_1 x6_1).f0), .int .i64 ((rd_T32 x0_1 x6_1).f1), .int .i64 ((rd_T32 x0_1 x6_1).f2), .int .i64 ((rd_T32 x0_1 x6_1).f3), .int .i64 ((rd_T32 x0_1 x6_1).f4), .int .i64 ((rd_T32 x0_1 x6_1).f5), .int .i64 ((rd_T32 x0_1 x6_1).f6), .int .i64 0, .int .i64 0, .int .i64 0, .int .i64 0, .slice none 0 0]) ?_ 7 _ rfl; (with_reducible repeat first | apply blk_drewN | apply blk_drew | apply blk_alloc); refine blk_put (cs := #[.int .i64 ((rd_T32 x0_1 x6_1).f0), .int .i64 ((rd_T32 x0_1 x6_1).f1), .int .i64 ((rd_T32 x0_1 x6_1).f2), .int .i64 ((rd_T32 x0_1 x6_1).f3), .int .i64 ((rd_T32 x0_1 x6_1).f4), .int .i64 ((rd_T32 x0_1 x6_1).f5), .int .i64 0, .int .i64 0, .int .i64 0, .int .i64 0, .int .i64 0, .slice none 0 0]) ?_ 6 _ rfl; (with_reducible repeat first | apply blk_drewN | apply blk_drew | apply blk_alloc); refine blk_put (cs := #[.int .i64 ((rd_T32 x0_1 x6_1).f0), .int .i64 ((rd_T32 x0_1 x6_1).f1), .int .i64 ((rd_T32 x0_1 x6_1).f2), .int .i64 ((rd_T32 x0_1 x6_1).f3), .int .i64 ((rd_T32 x0_1 x6_1).f4), .int .i64 0, .int .i64 0, .int .i64 0, .int .i64 0, .int .i64 0, .int .i64 0, .slice none 0 0]) ?_ 5 _ rfl; (with_reducible repeat first | apply blk_drewN | apply blk_drew | apply blk_alloc); refine blk_put (cs := #[.int .i64 ((rd_T32 x0_1 x6_1).f0), .int .i64 ((rd_T32 x0_1 x6_1).f1), .int .i64 ((rd_T32 x0_1 x6_1).f2), .int .i64 ((rd_T32 x0_1 x6_1).f3), .int .i64 0, .int .i64 0, .int .i64 0, .int .i64 0, .int .i64 0, .int .i64 0, .int .i64 0, .slice none 0 0]) ?_ 4 _ rfl; (with_reducible repeat first | apply blk_drewN | apply blk_drew | apply blk_alloc); refine blk_put (cs := #[.int .i64 ((rd_T32 x0_1 x6_1).f0), .int .i64 ((rd_T32 x0_1 x6_1).f1), .int .i64 ((rd_T32 x0_1 x6_1).f2), .int .i64 0, .int .i64 0, .int .i64 0, .int .i64 0, .int .i64 0, .int .i64 0, .int .i64 0, .int .i64 0, .slice none 0 0]) ?_ 3 _ rfl; (with_reducible repeat first | apply blk_drewN | apply blk_drew | apply blk_alloc); refine blk_put (cs := #[.int .i64 ((rd_T32 x0_1 x6_1).f0), .int .i64 ((rd_T32 x0_1 x6_1).f1), .int .i64 0, .int .i64 0, .int .i64 0, .int .i64 0, .int .i64 0, .int .i64 0, .int .i64 0, .int .i64 0, .int .i64 0, .slice none 0 0]) ?_ 2 _ rfl; (with_reducible repeat first | apply blk_drewN | apply blk_drew | apply blk_alloc); refine blk_put (cs := #[.int .i64 ((rd_T32 x0_1 x6_1).f0), .int .i64 0, .int .i64 0, .int .i64 0, .int .i64 0, .int .i64 0, .int .i64 0, .int .i64 0, .int .i64 0, .int .i64 0, .int .i64 0, .slice none 0 0]) ?_ 1 _ rfl; (with_reducible repeat first | apply blk_drewN | apply blk_drew | apply blk_alloc); refine blk_put (cs := #[.int .i64 0, .int .i64 0, .int .i64 0, .int .i64 0, .int .i64 0, .int .i64 0, .int .i64 0, .int .i64 0, .int .i64 0, .int .i64 0, .int .i64 0, .slice none 0 0]) ?_ 0 _ rfl; (with_reducible repeat first | apply blk_drewN | apply blk_drew | apply blk_alloc); exact BK214.out) hb); have n2_ := Aside0.mk (Kept.below (S := (fun k_ => P0_ k_)) (by repeat (first | (with_reducible first | exact HK.out | apply Kept.alloc | apply Kept.drewN | apply Kept.drew | refine Kept.setCell ?_ (.inr GW214.out) _) | exact HK.out)) hb); have n3_ := Aside0.mk (below_step (mBs HB.out) hb); clear HO_0; clear BK214; clear HK; clear HB; have HO_0 := n0_; have BK214 := n1_; have HK := n2_; have HB := n3_; clear n0_ n1_ n2_ n3_; (try clear hb); (try clear hb2); (try clear hk); (try clear hi); have hcz22_0 : w21.cell? ⟨gb214, 0, none⟩ = some (.int .i64 ((rd_T32 x0_1 x6_1).f0)) := (blk_cell BK214.out 0).trans rfl; have hcz22_1 : w21.cell? ⟨gb214, 1, none⟩ = some (.int .i64 ((rd_T32 x0_1 x6_1).f1)) := (blk_cell BK214.out 1).trans rfl; have hcz22_2 : w21.cell? ⟨gb214, 2, none⟩ = some (.int .i64 ((rd_T32 x0_1 x6_1).f2)) := (blk_cell BK214.out 2).trans rfl; have hcz22_3 : w21.cell? ⟨gb214, 3, none⟩ = some (.int .i64 ((rd_T32 x0_1 x6_1).f3)) := (blk_cell BK214.out 3).trans rfl; have hcz22_4 : w21.cell? ⟨gb214, 4, none⟩ = some (.int .i64 ((rd_T32 x0_1 x6_1).f4)) := (blk_cell BK214.out 4).trans rfl; have hcz22_5 : w21.cell? ⟨gb214, 5, none⟩ = some (.int .i64 ((rd_T32 x0_1 x6_1).f5)) := (blk_cell BK214.out 5).trans rfl; have hcz22_6 : w21.cell? ⟨gb214, 6, none⟩ = some (.int .i64 ((rd_T32 x0_1 x6_1).f6)) := (blk_cell BK214.out 6).trans rfl; have hcz22_7 : w21.cell? ⟨gb214, 7, none⟩ = some (.int .i64 ((rd_T32 x0_1 x6_1).f7)) := (blk_cell BK214.out 7).trans rfl; have hcz22_8 : w21.cell? ⟨gb214, 8, none⟩ = some (.int .i64 ((rd_T32 x0_1 x6_1).f8)) := (blk_cell BK214.out 8).trans rfl; have hcz22_9 : w21.cell? ⟨gb214, 9, none⟩ = some (.int .i64 ((rd_T32 x0_1 x6_1).f9)) := (blk_cell BK214.out 9).trans rfl; have hcz22_10 : w21.cell? ⟨gb214, 10, none⟩ = some (.int .i64 ((rd_T32 x0_1 x6_1).f10)) := (blk_cell BK214.out 10).trans rfl; have hcz22_11 : w21.cell? ⟨gb214, 11, none⟩ = some (.slice ((rd_T32 x0_1 x6_1).f11).A ((rd_T32 x0_1 x6_1).f11).n ((rd_T32 x0_1 x6_1).f11).c) := (blk_cell BK214.out 11).trans rfl; have hfz22_0 := blk_frozen BK214.out 0; have hfz22_1 := blk_frozen BK214.out 1; have hfz22_2 := blk_frozen BK214.out 2; have hfz22_3 := blk_frozen BK214.out 3; have hfz22_4 := blk_frozen BK214.out 4; have hfz22_5 := blk_frozen BK214.out 5; have hfz22_6 := blk_frozen BK214.out 6; have hfz22_7 := blk_frozen BK214.out 7; have hfz22_8 := blk_frozen BK214.out 8; have hfz22_9 := blk_frozen BK214.out 9; have hfz22_10 := blk_frozen BK214.out 10; have hfz22_11 := blk_frozen BK214.out 11; have p18 : 0 ≤ (x5_1 : Int) := oda; have q18 : (x5_1 : Int) < ((x0_1.length : Int) : Int) := oda; obtain ⟨go18, co18, eo18, gb18, gl18, cl18, HG18⟩ := Kd.R_form HO_0.out (by omega); (first | cases eo18 | (injection eo18 with ea_ en_ ec_; (first | subst ea_ | (injection ea_ with ea_; subst ea_)); subst ec_; clear en_)); have GB18 := Aside0.mk gb18; have GG18 := Aside0.mk HG18; clear gb18 gl18 HG18; have HMgo18 := Aside0.mk (show (P0_ go18 ∨ w.heap.size ≤ go18) from (HO_0.out.1 _ rfl).1); (first | simp only [add_plain] at hx213_0 | skip); (first | simp only [add_plain] at hx213_1 | skip); (first | simp only [add_plain] at hx213_2 | skip); (first | simp only [add_plain] at hx213_3 | skip); (first | simp only [add_plain] at hx213_4 | skip); (first | simp only [add_plain] at hx213_5 | skip); (first | simp only [add_plain] at hx213_6 | skip); (first | simp only [add_plain] at hx213_7 | skip); (first | simp only [add_plain] at hx213_8 | skip); (first | simp only [add_plain] at hx213_9 | skip); (first | simp only [add_plain] at hx213_10 | skip); (first | simp only [add_plain] at hx213_11 | skip); obtain ⟨ce18, hcl18, hM18, hcc18, hfr18⟩ := Kd.R_elem HO_0.out z32 (x5_1 : Int) p18 q18; obtain rfl := k32_openM hM18; have hx18_0 : w21.cell? ⟨go18, (x5_1 : Int).toNat * 12, none⟩ = some (.int .i64 ((rd_T32 x0_1 x5_1).f0)) := hcc18 0 _ rfl; have hx18_1 : w21.cell? ⟨go18, (x5_1 : Int).toNat * 12 + 1, none⟩ = some (.int .i64 ((rd_T32 x0_1 x5_1).f1)) := hcc18 1 _ rfl; have hx18_2 : w21.cell? ⟨go18, (x5_1 : Int).toNat * 12 + 2, none⟩ = some (.int .i64 ((rd_T32 x0_1 x5_1).f2)) := hcc18 2 _ rfl; have hx18_3 : w21.cell? ⟨go18, (x5_1 : Int).toNat * 12 + 3, none⟩ = some (.int .i64 ((rd_T32 x0_1 x5_1).f3)) := hcc18 3 _ rfl; have hx18_4 : w21.cell? ⟨go18, (x5_1 : Int).toNat * 12 + 4, none⟩ = some (.int .i64 ((rd_T32 x0_1 x5_1).f4)) := hcc18 4 _ rfl; have hx18_5 : w21.cell? ⟨go18, (x5_1 : Int).toNat * 12 + 5, none⟩ = some (.int .i64 ((rd_T32 x0_1 x5_1).f5)) := hcc18 5 _ rfl; have hx18_6 : w21.cell? ⟨go18, (x5_1 : Int).toNat * 12 + 6, none⟩ = some (.int .i64 ((rd_T32 x0_1 x5_1).f6)) := hcc18 6 _ rfl; have hx18_7 : w21.cell? ⟨go18, (x5_1 : Int).toNat * 12 + 7, none⟩ = some (.int .i64 ((rd_T32 x0_1 x5_1).f7)) := hcc18 7 _ rfl; have hx18_8 : w21.cell? ⟨go18, (x5_1 : Int).toNat * 12 + 8, none⟩ = some (.int .i64 ((rd_T32 x0_1 x5_1).f8)) := hcc18 8 _ rfl; have hx18_9 : w21.cell? ⟨go18, (x5_1 : Int).toNat * 12 + 9, none⟩ = some (.int .i64 ((rd_T32 x0_1 x5_1).f9)) := hcc18 9 _ rfl; have hx18_10 : w21.cell? ⟨go18, (x5_1 : Int).toNat * 12 + 10, none⟩ = some (.int .i64 ((rd_T32 x0_1 x5_1).f10)) := hcc18 10 _ rfl; have hx18_11 : w21.cell? ⟨go18, (x5_1 : Int).toNat * 12 + 11, none⟩ = some (.slice ((rd_T32 x0_1 x5_1).f11).A ((rd_T32 x0_1 x5_1).f11).n ((rd_T32 x0_1 x5_1).f11).c) := hcc18 11 _ rfl; have hf18_0 : w21.frozen? ⟨go18, (x5_1 : Int).toNat * 12, none⟩ = false := hfr18 0; have hf18_1 : w21.frozen? ⟨go18, (x5_1 : Int).toNat * 12 + 1, none⟩ = false := hfr18 1; have hf18_2 : w21.frozen? ⟨go18, (x5_1 : Int).toNat * 12 + 2, none⟩ = false := hfr18 2; have hf18_3 : w21.frozen? ⟨go18, (x5_1 : Int).toNat * 12 + 3, none⟩ = false := hfr18 3; have hf18_4 : w21.frozen? ⟨go18, (x5_1 : Int).toNat * 12 + 4, none⟩ = false := hfr18 4; have hf18_5 : w21.frozen? ⟨go18, (x5_1 : Int).toNat * 12 + 5, none⟩ = false := hfr18 5; have hf18_6 : w21.frozen? ⟨go18, (x5_1 : Int).toNat * 12 + 6, none⟩ = false := hfr18 6; have hf18_7 : w21.frozen? ⟨go18, (x5_1 : Int).toNat * 12 + 7, none⟩ = false := hfr18 7; have hf18_8 : w21.frozen? ⟨go18, (x5_1 : Int).toNat * 12 + 8, none⟩ = false := hfr18 8; have hf18_9 : w21.frozen? ⟨go18, (x5_1 : Int).toNat * 12 + 9, none⟩ = false := hfr18 9; have hf18_10 : w21.frozen? ⟨go18, (x5_1 : Int).toNat * 12 + 10, none⟩ = false := hfr18 10; have hf18_11 : w21.frozen? ⟨go18, (x5_1 : Int).toNat * 12 + 11, none⟩ = false := hfr18 11; clear hcl18 hcc18 hfr18 hM18; replace p18 := eq_true p18; replace q18 := eq_true q18; have HX23 := Aside0.mk (show Kd.R k32 32 w21 w0.heap.size (fun k_ => (P0_ k_ ∨ w.heap.size ≤ k_) ∧ k_ ≠ gb214) (.slice (some ⟨go18, 0, none⟩) x0_1.length co7) x0_1 from (mR HO_0.out)); obtain ⟨ce23, hcl23, hM23, hcc23, hfr23⟩ := Kd.R_elem HX23.out z32 (x5_1 : Int) (oda) (by have h_ : (x5_1 : Int) < ((x0_1.length : Int) : Int) := oda; first | exact h_ | (have e_ := (Kd.R_reads' HO_0.out).1; omega) | simpa using h_); obtain rfl := k32_openM hM23; have HP23 := Kd.R_seg HX23.out (x5_1 : Int) (oda) (by have h_ : (x5_1 : Int) < ((x0_1.length : Int) : Int) := oda; first | exact h_ | (have e_ := (Kd.R_reads' HO_0.out).1; omega) | simpa using h_) (seg := [.int .i64 ((rd_T32 x0_1 x6_1).f0), .int .i64 ((rd_T32 x0_1 x6_1).f1), .int .i64 ((rd_T32 x0_1 x6_1).f2), .int .i64 ((rd_T32 x0_1 x6_1).f3), .int .i64 ((rd_T32 x0_1 x6_1).f4), .int .i64 ((rd_T32 x0_1 x6_1).f5), .int .i64 ((rd_T32 x0_1 x6_1).f6), .int .i64 ((rd_T32 x0_1 x6_1).f7), .int .i64 ((rd_T32 x0_1 x6_1).f8), .int .i64 ((rd_T32 x0_1 x6_1).f9), .int .i64 ((rd_T32 x0_1 x6_1).f10), .slice ((rd_T32 x0_1 x6_1).f11).A ((rd_T32 x0_1 x6_1).f11).n ((rd_T32 x0_1 x6_1).f11).c]) (j := 0) hcl23 hcc23 (show 12 ≤ 12 from by decide) (x' := (⟨(rd_T32 x0_1 x6_1).f0, (rd_T32 x0_1 x6_1).f1, (rd_T32 x0_1 x6_1).f2, (rd_T32 x0_1 x6_1).f3, (rd_T32 x0_1 x6_1).f4, (rd_T32 x0_1 x6_1).f5, (rd_T32 x0_1 x6_1).f6, (rd_T32 x0_1 x6_1).f7, (rd_T32 x0_1 x6_1).f8, (rd_T32 x0_1 x6_1).f9, (rd_T32 x0_1 x6_1).f10, (rd_T32 x0_1 x6_1).f11⟩ : S32)) (k32_mkM _ _ _ (⟨(rd_T32 x0_1 x6_1).f0, (rd_T32 x0_1 x6_1).f1, (rd_T32 x0_1 x6_1).f2, (rd_T32 x0_1 x6_1).f3, (rd_T32 x0_1 x6_1).f4, (rd_T32 x0_1 x6_1).f5, (rd_T32 x0_1 x6_1).f6, (rd_T32 x0_1 x6_1).f7, (rd_T32 x0_1 x6_1).f8, (rd_T32 x0_1 x6_1).f9, (rd_T32 x0_1 x6_1).f10, (rd_T32 x0_1 x6_1).f11⟩ : S32) ) (fun _ hk => hk); have hx23_0 := hcc23 0 _ rfl; (try simp only [show (k32).sz = 12 from rfl, Nat.mul_one, Nat.add_zero] at hx23_0); have hf23_0 := hfr23 0; (try simp only [show (k32).sz = 12 from rfl, Nat.mul_one, Nat.add_zero] at hf23_0); have hx23_1 := hcc23 1 _ rfl; (try simp only [show (k32).sz = 12 from rfl, Nat.mul_one, Nat.add_zero] at hx23_1); have hf23_1 := hfr23 1; (try simp only [show (k32).sz = 12 from rfl, Nat.mul_one, Nat.add_zero] at hf23_1); have hx23_2 := hcc23 2 _ rfl; (try simp only [show (k32).sz = 12 from rfl, Nat.mul_one, Nat.add_zero] at hx23_2); have hf23_2 := hfr23 2; (try simp only [show (k32).sz = 12 from rfl, Nat.mul_one, Nat.add_zero] at hf23_2); have hx23_3 := hcc23 3 _ rfl; (try simp only [show (k32).sz = 12 from rfl, Nat.mul_one, Nat.add_zero] at hx23_3); have hf23_3 := hfr23 3; (try simp only [show (k32).sz = 12 from rfl, Nat.mul_one, Nat.add_zero] at hf23_3); have hx23_4 := hcc23 4 _ rfl; (try simp only [show (k32).sz = 12 from rfl, Nat.mul_one, Nat.add_zero] at hx23_4); have hf23_4 := hfr23 4; (try simp only [show (k32).sz = 12 from rfl, Nat.mul_one, Nat.add_zero] at hf23_4); have hx23_5 := hcc23 5 _ rfl; (try simp only [show (k32).sz = 12 from rfl, Nat.mul_one, Nat.add_zero] at hx23_5); have hf23_5 := hfr23 5; (try simp only [show (k32).sz = 12 from rfl, Nat.mul_one, Nat.add_zero] at hf23_5); have hx23_6 := hcc23 6 _ rfl; (try simp only [show (k32).sz = 12 from rfl, Nat.mul_one, Nat.add_zero] at hx23_6); have hf23_6 := hfr23 6; (try simp only [show (k32).sz = 12 from rfl, Nat.mul_one, Nat.add_zero] at hf23_6); have hx23_7 := hcc23 7 _ rfl; (try simp only [show (k32).sz = 12 from rfl, Nat.mul_one, Nat.add_zero] at hx23_7); have hf23_7 := hfr23 7; (try simp only [show (k32).sz = 12 from rfl, Nat.mul_one, Nat.add_zero] at hf23_7); have hx23_8 := hcc23 8 _ rfl; (try simp only [show (k32).sz = 12 from rfl, Nat.mul_one, Nat.add_zero] at hx23_8); have hf23_8 := hfr23 8; (try simp only [show (k32).sz = 12 from rfl, Nat.mul_one, Nat.add_zero] at hf23_8); have hx23_9 := hcc23 9 _ rfl; (try simp only [show (k32).sz = 12 from rfl, Nat.mul_one, Nat.add_zero] at hx23_9); have hf23_9 := hfr23 9; (try simp only [show (k32).sz = 12 from rfl, Nat.mul_one, Nat.add_zero] at hf23_9); have hx23_10 := hcc23 10 _ rfl; (try simp only [show (k32).sz = 12 from rfl, Nat.mul_one, Nat.add_zero] at hx23_10); have hf23_10 := hfr23 10; (try simp only [show (k32).sz = 12 from rfl, Nat.mul_one, Nat.add_zero] at hf23_10); have hx23_11 := hcc23 11 _ rfl; (try simp only [show (k32).sz = 12 from rfl, Nat.mul_one, Nat.add_zero] at hx23_11); have hf23_11 := hfr23 11; (try simp only [show (k32).sz = 12 from rfl, Nat.mul_one, Nat.add_zero] at hf23_11); clear hcl23 hcc23 hfr23 hM23) | ((with_reducible refine gate_store (t := 32) (p := 33) rfl ?_); refine store_event (t := 32) (p := 33) (v := ?vo_w24) (w1 := ((((((((((((w21.setCell ⟨go18, (x5_1 : Int).toNat * 12, none⟩ (.int .i64 ((rd_T32 x0_1 x6_1).f0))).setCell ⟨go18, (x5_1 : Int).toNat * 12 + 1, none⟩ (.int .i64 ((rd_T32 x0_1 x6_1).f1))).setCell ⟨go18, (x5_1 : Int).toNat * 12 + 2, none⟩ (.int .i64 ((rd_T32 x0_1 x6_1).f2))).setCell ⟨go18, (x5_1 : Int).toNat * 12 + 3, none⟩ (.int .i64 ((rd_T32 x0_1 x6_1).f3))).setCell ⟨go18, (x5_1 : Int).toNat * 12 + 4, none⟩ (.int .i64 ((rd_T32 x0_1 x6_1).f4))).setCell ⟨go18, (x5_1 : Int).toNat * 12 + 5, none⟩ (.int .i64 ((rd_T32 x0_1 x6_1).f5))).setCell ⟨go18, (x5_1 : Int).toNat * 12 + 6, none⟩ (.int .i64 ((rd_T32 x0_1 x6_1).f6))).setCell ⟨go18, (x5_1 : Int).toNat * 12 + 7, none⟩ (.int .i64 ((rd_T32 x0_1 x6_1).f7))).setCell ⟨go18, (x5_1 : Int).toNat * 12 + 8, none⟩ (.int .i64 ((rd_T32 x0_1 x6_1).f8))).setCell ⟨go18, (x5_1 : Int).toNat * 12 + 9, none⟩ (.int .i64 ((rd_T32 x0_1 x6_1).f9))).setCell ⟨go18, (x5_1 : Int).toNat * 12 + 10, none⟩ (.int .i64 ((rd_T32 x0_1 x6_1).f10))).setCell ⟨go18, (x5_1 : Int).toNat * 12 + 11, none⟩ (.slice ((rd_T32 x0_1 x6_1).f11).A ((rd_T32 x0_1 x6_1).f11).n ((rd_T32 x0_1 x6_1).f11).c))) ?hg ?ho ?hn ?hr ?_; (case ho => rfl); (case hg => rfl); (case hn => rfl); (case hr => first | (go_simp; done) | (go_simp; rfl)); intro w24 hw; have hg : w21.grownBy w24 (some go18) := (by rw [hw]; exact HP23.2); have hp_ : Kd.R k32 32 w24 w0.heap.size (fun k_ => (P0_ k_ ∨ w.heap.size ≤ k_) ∧ k_ ≠ gb214) (.slice (some ⟨go18, 0, none⟩) x0_1.length co7) y216 := (by rw [hw, Ny216.out]; exact HP23.1); clear HP23; have n0_ := Aside0.mk (hp_); have n1_ := Aside0.mk (blk_grown (g := gb214) (o := .cells (cJ (rd_T32 x0_1 x6_1)) 32 (0, 0)) (mBK BK214.out) hg (Kd.R_away HO_0.out (fun _ hk => hk.2))); have n2_ := Aside0.mk ((by rw [hw]; exact below_set (below_set (below_set (below_set (below_set (below_set (below_set (below_set (below_set (below_set (below_set (below_set (HB.out) GB18.out) GB18.out) GB18.out) GB18.out) GB18.out) GB18.out) GB18.out) GB18.out) GB18.out) GB18.out) GB18.out) GB18.out : Below w0.heap.size w0 w24)); have n3_ := Aside0.mk (Kept.of_grown (S := (fun k_ => P0_ k_)) hg (by repeat (first | (with_reducible first | exact HK.out | apply Kept.alloc | apply Kept.drewN | apply Kept.drew | refine Kept.setCell ?_ (.inr GW214.out) _) | exact HK.out)) (fun k_ e_ => (HO_0.out.1 k_ e_).1)); clear HO_0; clear BK214; clear HB; clear HK; have HO_0 := n0_; have BK214 := n1_; have HB := n2_; have HK := n3_; clear n0_ n1_ n2_ n3_; clear hg hw hp_))
         (try simp only [← hl0_1])
         go_roundg k1
         case measure => have := HK1.out; omega
         case rel => exact ⟨(y216), (wrap64 (x5_1 + 1)), (wrap64 (x6_1 + 1)), ez, ez, H', ⟨by have := HK1.out; omega⟩, ⟨by (try simp only [hl0_1]); (with_reducible repeat (first | apply Kd.R_alloc | apply Kd.R_drewN | apply Kd.R_drew)); exact Kd.R_mono HO_0.out (fun _ hk => hk.1)⟩, ⟨by repeat (first | (with_reducible first | exact HK.out | apply Kept.alloc | apply Kept.drewN | apply Kept.drew | refine Kept.setCell ?_ (.inr GW214.out) _) | exact HK.out)⟩, ⟨mBs HB.out⟩⟩
        ·rw [if_neg c17] at H
         exact absurd H (by simp)
       ·rw [if_neg c16] at H
        exact absurd H (by simp)
     ·rw [if_neg c10] at H
      exact absurd H (by simp)
    ·rw [if_neg c9] at H
     have c9b0 : decide (x6_1 < (x0_1.length : Int)) = false := decide_eq_false c9
     clear c9
     by_cases c25 : 0 ≤ x5_1
     ·rw [if_pos c25] at H
      have c25b0 := eq_true c25
      have c25b1 : decide (0 ≤ x5_1) = true := decide_eq_true c25
      clear c25
      by_cases c26 : x5_1 ≤ (x0_1.length : Int)
      ·rw [if_pos c26] at H
       have c26b0 := eq_true c26
       have c26b1 : decide (x5_1 ≤ (x0_1.length : Int)) = true := decide_eq_true c26
       clear c26
       obtain ⟨y217, hy217⟩ : ∃ y_ : List (S32), y_ = (x0_1.drop (x5_1 : Int).toNat) := ⟨_, rfl⟩
       replace H : (some (x0_1.take (x5_1 : Int).toNat)) = some r := mH hy217 H
       have Ny217 := Aside0.mk hy217
       clear hy217
       have c27b0 := eq_true (oda : x5_1 ≤ (x0_1.length : Int))
       obtain ⟨y221, hy221⟩ : ∃ y_ : List (S32), y_ = (x0_1.take (x5_1 : Int).toNat) := ⟨_, rfl⟩
       replace H : (some y221) = some r := mH hy221 H
       have Ny221 := Aside0.mk hy221
       clear hy221
       obtain rfl := Option.some.inj H
       have q28 : (x5_1 : Int) ≤ ((x0_1.length : Int) : Int) := oda
       obtain ⟨i028, hi028, _, hsz28, _⟩ := info_parts info32
       have hroom28 : x0_1.length ≤ co7 := (Kd.R_reads' HO_0.out).2.1
       have hC28 : Kd.C k32 _ Ao7 x0_1.length x0_1 := (Kd.R_reads' HO_0.out).2.2
       have q028 : (0 : Int) ≤ (x5_1 : Int) := oda
       have hcut28 := cut_from (P := Try.prog) 22 32 .i64 Try.underlying22 hi028 12 hsz28 Ao7 x0_1.length co7 x5_1 q028 q28
       have hr28 := Kd.C_drop (m := (x5_1 : Int).toNat) (c := co7) hC28 (by omega) hroom28
       obtain ⟨A28, hA28⟩ : ∃ A1, A1 = (if co7 = (x5_1 : Int).toNat then Ao7 else (Ao7 : Option Addr).map (·.add ((x5_1 : Int).toNat * 12))) := ⟨_, rfl⟩
       obtain ⟨c28, hc28⟩ : ∃ c1, c1 = co7 - (x5_1 : Int).toNat := ⟨_, rfl⟩
       have hy28 : y217.length = x0_1.length - (x5_1 : Int).toNat := (by rw [Ny217.out, List.length_drop] <;> omega)
       rw [show (x0_1).drop (x5_1 : Int).toNat = y217 from Ny217.out.symm] at hr28
       replace hr28 : Kd.C k32 _ A28 y217.length y217 := (by rw [hA28]; exact hr28)
       rw [← hy28, ← hA28, ← hc28] at hcut28
       have HR220 := Aside0.mk hr28
       have HC220 := Aside0.mk (show y217.length ≤ c28 from by rw [hy28, hc28]; exact Nat.sub_le_sub_right hroom28 _)
       clear hr28; clear hC28; clear hroom28; clear hi028; clear hsz28; clear hc28
       have KY28 := Aside0.mk hy28
       have KA28 := Aside0.mk hA28
       clear hy28; clear hA28
       have KL28 := Aside0.mk (show (x5_1 : Int).toNat ≤ x0_1.length from by omega)
       replace q28 := eq_true q28
       have q29 : (x5_1 : Int) ≤ ((x0_1.length : Int) : Int) := oda
       obtain ⟨i029, hi029, _, hsz29, _⟩ := info_parts info32
       have hcut29 := cut_to (P := Try.prog) 22 32 .i64 Try.underlying22 hi029 Ao7 x0_1.length co7 x5_1 (oda) q29 (Kd.R_reads' HO_0.out).2.1
       have hy29 : y221.length = (x5_1 : Int).toNat := (by rw [Ny221.out, List.length_take]; omega)
       rw [← hy29] at hcut29
       have HY29 := Aside0.mk hy29
       clear hi029; clear hsz29; clear hy29
       have KI : (x5_1 : Int).toNat ≤ x0_1.length := by omega
       have HKI := Aside0.mk KI
       clear KI
       replace q29 := eq_true q29
       have hzv : ∀ W_, (zeroValue 32).run Try.prog W_ = .ok (.agg #[(.int .i64 0), (.int .i64 0), (.int .i64 0), (.int .i64 0), (.int .i64 0), (.int .i64 0), (.int .i64 0), (.int .i64 0), (.int .i64 0), (.int .i64 0), (.int .i64 0), (.slice none 0 0)]) W_ := by
        intro W_
        obtain ⟨i_, hi_, hz_, _⟩ := info_parts info32
        simp [zeroValue, typeInfo, hi_, hz_]
       have HZV := Aside0.mk hzv
       clear hzv
       go_wp2_with (first | (refine clear_event (R := fun W2 => Kd.R k32 32 W2 w0.heap.size (fun k_ => (P0_ k_ ∨ w.heap.size ≤ k_)) (.slice Ao7 (x5_1 : Int).toNat co7) (x0_1.take (x5_1 : Int).toNat) ∧ Below w0.heap.size w0 W2 ∧ Kept w W2 (fun k_ => P0_ k_)) 22 (.tmp 38) rfl rfl rfl rfl ?hrun ?_; (case hrun => obtain ⟨W2, h1_, h2_, h3_, h4_⟩ := R_clear (P := Try.prog) HO_0.out (x5_1 : Int).toNat HKI.out (t := 22) (te := 32) (ty := 0) Try.underlying22 HZV.out rfl one12 KA28.out KY28.out HB.out; exact ⟨W2, h1_, h2_, h3_, Kept.of_grown h4_ HK.out (fun k_ e_ => HO_0.out.1 k_ e_)⟩); rintro W2 ⟨ho_, hb_, hk_⟩; have n0_ := Aside0.mk ho_; have n1_ := Aside0.mk hb_; have n2_ := Aside0.mk hk_; clear HO_0 HB HK ho_ hb_ hk_; have HO_0 := n0_; have HB := n1_; have HK := n2_; clear n0_ n1_ n2_))
       go_ret
       have hfin := HO_0.out
       rw [← Ny221.out, ← HY29.out] at hfin
       exact ⟨_, by first | rfl | (simp [errW_none, errW_some] <;> rfl) | (simp [*, errW_none, errW_some] <;> rfl), by (with_reducible repeat (first | apply Kd.R_alloc | apply Kd.R_drewN | apply Kd.R_drew)); exact hfin, by repeat (first | (with_reducible first | exact HB.out | apply below_alloc | apply pw_below_drewN | apply below_drew1) | exact HB.out), by repeat (first | (with_reducible first | exact HK.out | apply Kept.alloc | apply Kept.drewN | apply Kept.drew) | exact HK.out)⟩
      ·rw [if_neg c26] at H
       exact absurd H (by simp)
     ·rw [if_neg c25] at H
      exact absurd H (by simp)

end Go.Proofs.Ytkhfgflcanmefaa.PAll
end
section
namespace Go.Proofs.Ytkhfgflcanmefaa.PAll
open Go.RowKit Go.Proofs.YtkhfgflcanmefaaW.PrintWords Go.Proofs.YtkhfgflcanmefaaW.PrintLast Go.Proofs.YtkhfgflcanmefaaW.PrintMore
attribute [local go_sem] max2_int min2_int max_two min_two max_three min_three max_four min_four   -- for this text's walks alone
set_option linter.unusedVariables false
set_option linter.unusedSimpArgs false

def job_running.f (k : Nat) (l0 : List (S32)) : Option ((List (S32))) := (slices_Clone_Job.f l0).bind fun t224 => ((slices_DeleteFunc_Job__job_running_1.f k t224).bind fun t227 => (some t227))
theorem job_running.mono : ∀ a0 k, LeO (job_running.f k a0) (job_running.f (k + 1) a0) := by
  intro a0 k
  unfold job_running.f
  repeat' first
      | (with_reducible exact slices_DeleteFunc_Job__job_running_1.mono _ _)
      | (with_reducible exact LeO.refl _)
      | (with_reducible exact LeO.none _)
      | (with_reducible refine LeO.ite ?_ ?_)
      | (with_reducible refine LeO.bind ?_ (fun _ => ?_))
      | exact slices_DeleteFunc_Job__job_running_1.mono _ _
      | exact LeO.none _
      | refine LeO.ite ?_ ?_
      | refine LeO.bind ?_ (fun _ => ?_)
set_option maxHeartbeats 8000000 in
set_option maxRecDepth 100000 in
theorem job_running.calls (k : Nat) (A0 : Option Addr) (c0 : Nat) (l0 : List (S32)) (r : List (S32)) (w : World) (hr0 : Kd.C k32 w A0 l0.length l0) (hc0 : l0.length ≤ c0) (h : job_running.f k l0 = some r) :
    Calls Try.prog 41 #[.slice A0 l0.length c0] w fun e w' => ∃ v0_ : Value, e = .returned (v0_) ∧ Kd.R k32 32 w' w.heap.size (fun _ => True) v0_ r ∧ Below w.heap.size w w' := by
  have HR0 := Aside0.mk hr0
  have HC0 := Aside0.mk hc0
  clear hr0 hc0
  have HB := Aside0.mk (Below.refl w.heap.size w)
  have H : ((slices_Clone_Job.f l0).bind fun t224 => ((slices_DeleteFunc_Job__job_running_1.f k t224).bind fun t227 => (some t227))) = some r := h
  clear h
  replace H := Option.bind_eq_some_iff.mp H
  obtain ⟨t224, A20, H⟩ := H
  replace H : ((slices_DeleteFunc_Job__job_running_1.f k t224).bind fun t227 => (some t227)) = some r := H
  have A2 := Aside0.mk A20
  clear A20
  replace H := Option.bind_eq_some_iff.mp H
  obtain ⟨t227, A30, H⟩ := H
  replace H : (some t227) = some r := H
  have A3 := Aside0.mk A30
  clear A30
  obtain rfl := Option.some.inj H
  go_enter Try.func41, Try.ntmps41
  go_wp2_with (first | ((with_reducible refine gate_callee (f := 56) rfl ?_); refine goesL_ (some 4) rfl rfl Try.func56 (by kernel_rfl) rfl #[.slice A0 l0.length c0] rfl (by (try simp only [List.map_toArray, List.map_cons, List.map_nil]); first | done | rfl | (simp only [List.length_drop, List.length_take]; rfl)) ?_; (with_reducible refine (slices_Clone_Job.calls _ _ l0 t224 _ ?side1 ?side2 A2.out).mono ?_); (case side1 => repeat (first | exact HR0.out | (with_reducible refine Kd.C_alloc ?_ _) | (with_reducible refine Kd.C_drewN ?_ _) | (with_reducible refine Kd.C_drew ?_))); (case side2 => exact HC0.out); rintro e w4 ⟨v225, rfl, ho0, hb⟩; refine ⟨_, rfl, ?_⟩; have n0_ := Aside0.mk (Kd.R_lower ho0 (below_size (by repeat (first | (with_reducible first | exact HB.out | apply below_alloc | apply pw_below_drewN | apply below_drew1) | exact HB.out)))); have n1_ := Aside0.mk (below_step (by repeat (first | (with_reducible first | exact HB.out | apply below_alloc | apply pw_below_drewN | apply below_drew1) | exact HB.out)) hb); clear HB; have HO226 := n0_; have HB := n1_; clear n0_ n1_; (try clear hb); (try clear hb2); (try clear hk); (try clear hi); (try clear ho0); obtain ⟨Ao5, co5, eo5⟩ := Kd.R_slice HO226.out; subst eo5) | ((with_reducible refine gate_callee (f := 55) rfl ?_); refine goesL_ (some 5) rfl rfl Try.func55 (by kernel_rfl) rfl #[.slice Ao5 t224.length co5, .func (.func 57) #[] #[]] rfl (by (try simp only [List.map_toArray, List.map_cons, List.map_nil]); first | done | rfl | (simp only [List.length_drop, List.length_take]; rfl)) ?_; (with_reducible refine (slices_DeleteFunc_Job__job_running_1.calls k (fun k_ => some k_ = (.slice Ao5 t224.length co5 : Value).ownBlock) (.slice Ao5 t224.length co5) t224  t227 w _ ?side1 ?side2 A3.out).mono ?_); (case side1 => repeat (first | (with_reducible first | exact HB.out | apply below_alloc | apply pw_below_drewN | apply below_drew1) | exact HB.out)); (case side2 => exact Kd.R_tight rfl HO226.out); rintro e w6 ⟨v228, rfl, ho0, hb, hkp⟩; refine ⟨_, rfl, ?_⟩; have n0_ := Aside0.mk (Kd.R_mono (ok' := fun k_ => True) ho0 (fun k_ hk_ => trivial)); have n1_ := Aside0.mk (hb); clear HB; clear HO226; have HO229 := n0_; have HB := n1_; clear n0_ n1_; (try clear hb); (try clear hkp); (try clear ho0)))
  go_ret
  exact ⟨_, by first | rfl | (simp [errW_none, errW_some] <;> rfl) | (simp [*, errW_none, errW_some] <;> rfl), by (with_reducible repeat (first | apply Kd.R_alloc | apply Kd.R_drewN | apply Kd.R_drew)); exact HO229.out, by repeat (first | (with_reducible first | exact HB.out | apply below_alloc | apply pw_below_drewN | apply below_drew1) | exact HB.out)⟩

end Go.Proofs.Ytkhfgflcanmefaa.PAll
end
section
namespace Go.Proofs.Ytkhfgflcanmefaa.PAll
open Go.RowKit Go.Proofs.YtkhfgflcanmefaaW.PrintWords Go.Proofs.YtkhfgflcanmefaaW.PrintLast Go.Proofs.YtkhfgflcanmefaaW.PrintMore
attribute [local go_sem] max2_int min2_int max_two min_two max_three min_three max_four min_four   -- for this text's walks alone
set_option linter.unusedVariables false
set_option linter.unusedSimpArgs false

def job_Mask.l0 : Nat → Int → List (S32) → Int → Int → Option (Int)
  | 0, _, _, _, _ => none
  | k + 1, x3, x7, x8, x9 => if x9 < x8 then (if 0 ≤ x9 then (if x9 < (x7.length : Int) then (job_Mask.l0 k (Go.bits .or .i64 x3 ((rd_T32 x7 x9).f9)) x7 x8 (wrap64 (x9 + 1))) else (none)) else (none)) else (some x3)
def job_Mask.f (k : Nat) (l0 : List (S32)) : Option (Int) := (job_running.f k l0).bind fun t230 => (job_Mask.l0 k 0 t230 (t230.length : Int) 0)
theorem job_Mask.mono_l : ∀ k, (∀ y0 y1 y2 y3, LeO (job_Mask.l0 k y0 y1 y2 y3) (job_Mask.l0 (k + 1) y0 y1 y2 y3))
  | 0 => fun _ _ _ _ r h => by simp [job_Mask.l0] at h
  | k + 1 => by
    have ih0 := job_Mask.mono_l k
    · intro y0 y1 y2 y3
      unfold job_Mask.l0
      repeat' first
      | (with_reducible exact ih0 _ _ _ _)
      | (with_reducible exact job_running.mono _ _)
      | (with_reducible exact LeO.refl _)
      | (with_reducible exact LeO.none _)
      | (with_reducible refine LeO.ite ?_ ?_)
      | (with_reducible refine LeO.bind ?_ (fun _ => ?_))
      | exact ih0 _ _ _ _
      | exact job_running.mono _ _
      | exact LeO.none _
      | refine LeO.ite ?_ ?_
      | refine LeO.bind ?_ (fun _ => ?_)
theorem job_Mask.mono : ∀ a0 k, LeO (job_Mask.f k a0) (job_Mask.f (k + 1) a0) := by
  intro a0 k
  have ih0 := job_Mask.mono_l k
  unfold job_Mask.f
  repeat' first
      | (with_reducible exact ih0 _ _ _ _)
      | (with_reducible exact job_running.mono _ _)
      | (with_reducible exact LeO.refl _)
      | (with_reducible exact LeO.none _)
      | (with_reducible refine LeO.ite ?_ ?_)
      | (with_reducible refine LeO.bind ?_ (fun _ => ?_))
      | exact ih0 _ _ _ _
      | exact job_running.mono _ _
      | exact LeO.none _
      | refine LeO.ite ?_ ?_
      | refine LeO.bind ?_ (fun _ => ?_)
set_option maxHeartbeats 8000000 in
set_option maxRecDepth 100000 in
theorem job_Mask.calls (k : Nat) (A0 : Option Addr) (c0 : Nat) (l0 : List (S32)) (r : Int) (w : World) (hr0 : Kd.C k32 w A0 l0.length l0) (hc0 : l0.length ≤ c0) (h : job_Mask.f k l0 = some r) :
    Calls Try.prog 19 #[.slice A0 l0.length c0] w fun e w' => e = .returned (.int .i64 r) ∧ Below w.heap.size w w' := by
  have hu32 := Try.underlying32
  have HR0 := Aside0.mk hr0
  have HC0 := Aside0.mk hc0
  clear hr0 hc0
  have HB := Aside0.mk (Below.refl w.heap.size w)
  have H : ((job_running.f k l0).bind fun t230 => (job_Mask.l0 k 0 t230 (t230.length : Int) 0)) = some r := h
  clear h
  replace H := Option.bind_eq_some_iff.mp H
  obtain ⟨t230, A20, H⟩ := H
  replace H : (job_Mask.l0 k 0 t230 (t230.length : Int) 0) = some r := H
  have A2 := Aside0.mk A20
  clear A20
  have H' := Aside0.mk H
  clear H
  go_enter Try.func19, Try.ntmps19
  go_wp2_with (first | ((with_reducible refine gate_callee (f := 41) rfl ?_); refine goesL_ (some 7) rfl rfl Try.func41 (by kernel_rfl) rfl #[.slice A0 l0.length c0] rfl (by (try simp only [List.map_toArray, List.map_cons, List.map_nil]); first | done | rfl | (simp only [List.length_drop, List.length_take]; rfl)) ?_; (with_reducible refine (job_running.calls k _ _ l0 t230 _ ?side1 ?side2 A2.out).mono ?_); (case side1 => repeat (first | exact HR0.out | (with_reducible refine Kd.C_alloc ?_ _) | (with_reducible refine Kd.C_drewN ?_ _) | (with_reducible refine Kd.C_drew ?_))); (case side2 => exact HC0.out); rintro e w3 ⟨v231, rfl, ho0, hb⟩; refine ⟨_, rfl, ?_⟩; have n0_ := Aside0.mk (Kd.R_lower ho0 (below_size (by repeat (first | (with_reducible first | exact HB.out | apply below_alloc | apply pw_below_drewN | apply below_drew1) | exact HB.out)))); have n1_ := Aside0.mk (below_step (by repeat (first | (with_reducible first | exact HB.out | apply below_alloc | apply pw_below_drewN | apply below_drew1) | exact HB.out)) hb); clear HB; have HO232 := n0_; have HB := n1_; clear n0_ n1_; (try clear hb); (try clear hb2); (try clear hk); (try clear hi); (try clear ho0); obtain ⟨Ao4, co4, eo4⟩ := Kd.R_slice HO232.out; subst eo4))
  go_loopg [3, 9] k (fun kq v3 v9 w' => ∃ (x3_1 : Int) (x9_1 : Int), v3 = .int .i64 x3_1 ∧ v9 = .int .i64 x9_1 ∧ Aside0 (job_Mask.l0 kq x3_1 t230 (t230.length : Int) x9_1 = some r) ∧ Aside0 (kq ≤ k) ∧ Aside0 (Kd.R k32 32 w' w.heap.size (fun _ => True) (.slice Ao4 t230.length co4) t230) ∧ Aside0 (Below w.heap.size w w'))
  case atStart => exact ⟨(0), (0), (by first | rfl | (simp; done) | (simp [*]; done)), (by first | rfl | (simp; done) | (simp [*]; done)), H', ⟨Nat.le_refl _⟩, ⟨by (with_reducible repeat (first | apply Kd.R_alloc | apply Kd.R_drewN | apply Kd.R_drew)); exact HO232.out⟩, ⟨by repeat (first | (with_reducible first | exact HB.out | apply below_alloc | apply pw_below_drewN | apply below_drew1) | exact HB.out)⟩⟩
  case round =>
    clear H'
    try clear c1
    try clear p2
    try clear c4
    obtain ⟨x3_1, x9_1, rfl, rfl, HA, HK1, HO_7, HB⟩ := hrel
    cases gk with
    | zero => exact absurd HA.out (by simp [job_Mask.l0])
    | succ k1 =>
      have H := HA.out
      clear HA
      simp only [job_Mask.l0] at H
      by_cases c5 : x9_1 < (t230.length : Int)
      · rw [if_pos c5] at H
        have c5b0 : decide (x9_1 < (t230.length : Int)) = true := decide_eq_true c5
        clear c5
        by_cases c6 : 0 ≤ x9_1
        · rw [if_pos c6] at H
          have c6b0 : decide (0 ≤ x9_1) = true := decide_eq_true c6
          clear c6
          by_cases c7 : x9_1 < (t230.length : Int)
          · rw [if_pos c7] at H
            have c7b0 : decide (x9_1 < (t230.length : Int)) = true := decide_eq_true c7
            clear c7
            have H' := Aside0.mk H
            clear H
            have p233 : 0 ≤ (x9_1 : Int) := of_decide_eq_true (by first | (with_reducible assumption) | assumption)
            have q233 : x9_1 < (t230.length : Int) := of_decide_eq_true (by first | (with_reducible assumption) | assumption)
            obtain ⟨ad233, e233, hx233_0, hx233_1, hx233_2, hx233_3, hx233_4, hx233_5, hx233_6, hx233_7, hx233_8, hx233_9, hx233_10, hx233_11⟩ := at_T32 (Kd.R_reads' HO_7.out).2.2 x9_1 p233 q233
            cases e233
            replace p233 := eq_true p233
            replace q233 := eq_true q233
            go_wp2_with (first | ((with_reducible refine gate_dst (N := 5) rfl ?_); refine box_event ?hg (N := 5) ?hd (cs := #[.int .i64 0, .int .i64 0, .int .i64 0, .int .i64 0, .int .i64 0, .int .i64 0, .int .i64 0, .int .i64 0, .int .i64 0, .int .i64 0, .int .i64 0, .slice none 0 0]) (t := 32) ?hr ?_; (case hd => rfl); (case hg => rfl); (case hr => first | (go_simp; done) | (go_simp; rfl)); intro gb234 hg w8 hbox hb; have n0_ := Aside0.mk (Kd.R_below (Kd.R_elderB (by (with_reducible repeat (first | apply Kd.R_alloc | apply Kd.R_drewN | apply Kd.R_drew)); exact HO_7.out) gb234 (Nat.le_of_eq hg.symm)) hb); have n1_ := Aside0.mk (below_step (by repeat (first | (with_reducible first | exact HB.out | apply below_alloc | apply pw_below_drewN | apply below_drew1) | exact HB.out)) hb); have n2_ := Aside0.mk (hbox); have n3_ := Aside0.mk ((by rw [hg]; exact (below_size (by repeat (first | (with_reducible first | exact HB.out | apply below_alloc | apply pw_below_drewN | apply below_drew1) | exact HB.out))) : w.heap.size ≤ gb234)); have n4_ := Aside0.mk ((by rw [hg]; exact (below_size (by repeat (first | (with_reducible first | exact HB.out | apply below_alloc | apply pw_below_drewN | apply below_drew1) | exact HB.out))) : w.heap.size ≤ gb234)); clear HO_7; clear HB; have HO_7 := n0_; have HB := n1_; have BK234 := n2_; have GW234 := n3_; have GE234 := n4_; clear n0_ n1_ n2_ n3_ n4_; clear hb hbox hg; have hcz9_0 : w8.cell? ⟨gb234, 0, none⟩ = some (.int .i64 0) := (blk_cell BK234.out 0).trans rfl; have hcz9_1 : w8.cell? ⟨gb234, 1, none⟩ = some (.int .i64 0) := (blk_cell BK234.out 1).trans rfl; have hcz9_2 : w8.cell? ⟨gb234, 2, none⟩ = some (.int .i64 0) := (blk_cell BK234.out 2).trans rfl; have hcz9_3 : w8.cell? ⟨gb234, 3, none⟩ = some (.int .i64 0) := (blk_cell BK234.out 3).trans rfl; have hcz9_4 : w8.cell? ⟨gb234, 4, none⟩ = some (.int .i64 0) := (blk_cell BK234.out 4).trans rfl; have hcz9_5 : w8.cell? ⟨gb234, 5, none⟩ = some (.int .i64 0) := (blk_cell BK234.out 5).trans rfl; have hcz9_6 : w8.cell? ⟨gb234, 6, none⟩ = some (.int .i64 0) := (blk_cell BK234.out 6).trans rfl; have hcz9_7 : w8.cell? ⟨gb234, 7, none⟩ = some (.int .i64 0) := (blk_cell BK234.out 7).trans rfl; have hcz9_8 : w8.cell? ⟨gb234, 8, none⟩ = some (.int .i64 0) := (blk_cell BK234.out 8).trans rfl; have hcz9_9 : w8.cell? ⟨gb234, 9, none⟩ = some (.int .i64 0) := (blk_cell BK234.out 9).trans rfl; have hcz9_10 : w8.cell? ⟨gb234, 10, none⟩ = some (.int .i64 0) := (blk_cell BK234.out 10).trans rfl; have hcz9_11 : w8.cell? ⟨gb234, 11, none⟩ = some (.slice none 0 0) := (blk_cell BK234.out 11).trans rfl; have hfz9_0 := blk_frozen BK234.out 0; have hfz9_1 := blk_frozen BK234.out 1; have hfz9_2 := blk_frozen BK234.out 2; have hfz9_3 := blk_frozen BK234.out 3; have hfz9_4 := blk_frozen BK234.out 4; have hfz9_5 := blk_frozen BK234.out 5; have hfz9_6 := blk_frozen BK234.out 6; have hfz9_7 := blk_frozen BK234.out 7; have hfz9_8 := blk_frozen BK234.out 8; have hfz9_9 := blk_frozen BK234.out 9; have hfz9_10 := blk_frozen BK234.out 10; have hfz9_11 := blk_frozen BK234.out 11))
            go_roundg k1
            case measure => have := HK1.out; omega
            case rel => exact ⟨(Go.bits .or .i64 x3_1 ((rd_T32 t230 x9_1).f9)), (wrap64 (x9_1 + 1)), (by first | rfl | (simp; done) | (simp [*]; done)), (by first | rfl | (simp; done) | (simp [*]; done)), H', ⟨by have := HK1.out; omega⟩, ⟨by (with_reducible repeat (first | apply Kd.R_alloc | apply Kd.R_drewN | apply Kd.R_drew)); exact Kd.R_mono (Kd.R_fa gb234 11 (Kd.R_fa gb234 10 (Kd.R_fa gb234 9 (Kd.R_fa gb234 8 (Kd.R_fa gb234 7 (Kd.R_fa gb234 6 (Kd.R_fa gb234 5 (Kd.R_fa gb234 4 (Kd.R_fa gb234 3 (Kd.R_fa gb234 2 (Kd.R_fa gb234 1 (Kd.R_fa gb234 0 (Kd.R_mono HO_7.out (fun k_ hk => (⟨hk, hk.2⟩ : _ ∧ k_ ≠ gb234))) (.int .i64 ((rd_T32 t230 x9_1).f0))) (.int .i64 ((rd_T32 t230 x9_1).f1))) (.int .i64 ((rd_T32 t230 x9_1).f2))) (.int .i64 ((rd_T32 t230 x9_1).f3))) (.int .i64 ((rd_T32 t230 x9_1).f4))) (.int .i64 ((rd_T32 t230 x9_1).f5))) (.int .i64 ((rd_T32 t230 x9_1).f6))) (.int .i64 ((rd_T32 t230 x9_1).f7))) (.int .i64 ((rd_T32 t230 x9_1).f8))) (.int .i64 ((rd_T32 t230 x9_1).f9))) (.int .i64 ((rd_T32 t230 x9_1).f10))) (.slice ((rd_T32 t230 x9_1).f11).A ((rd_T32 t230 x9_1).f11).n ((rd_T32 t230 x9_1).f11).c)) (fun _ hk => trivial)⟩, ⟨by repeat (first | (with_reducible first | exact HB.out | apply below_alloc | apply pw_below_drewN | apply below_drew1 | refine below_set ?_ GE234.out) | exact HB.out)⟩⟩
          · rw [if_neg c7] at H
            exact absurd H (by simp)
        · rw [if_neg c6] at H
          exact absurd H (by simp)
      · rw [if_neg c5] at H
        have c5b0 : decide (x9_1 < (t230.length : Int)) = false := decide_eq_false c5
        clear c5
        obtain rfl := Option.some.inj H
        go_wp2
        go_ret
        exact ⟨by first | rfl | (simp [errW_none, errW_some] <;> rfl) | (simp [*, errW_none, errW_some] <;> rfl), by repeat (first | (with_reducible first | exact HB.out | apply below_alloc | apply pw_below_drewN | apply below_drew1) | exact HB.out)⟩

end Go.Proofs.Ytkhfgflcanmefaa.PAll
end
section
namespace Go.Proofs.Ytkhfgflcanmefaa.PAll
open Go.RowKit Go.Proofs.YtkhfgflcanmefaaW.PrintWords Go.Proofs.YtkhfgflcanmefaaW.PrintLast Go.Proofs.YtkhfgflcanmefaaW.PrintMore
attribute [local go_sem] max2_int min2_int max_two min_two max_three min_three max_four min_four   -- for this text's walks alone
set_option linter.unusedVariables false
set_option linter.unusedSimpArgs false

theorem eqA59 (d : Nat) (w : World) (x0 y0 : Int) (x1 y1 : Int) :
    (Op.equalIn (d + 2) 59 (.agg #[.int .i64 x0, .int .i64 x1]) (.agg #[.int .i64 y0, .int .i64 y1])).run Try.prog w = .ok (x0 == y0 && (x1 == y1)) w := by
  refine eqA_of Try.underlying59 (by kernel_rfl) ?_
  refine eqf_cons (by rfl) (by go_simp; rfl) (by go_simp; rfl) (by go_simp) ?_
  exact eqf_last (by rfl) (by go_simp; rfl) (by go_simp; rfl) (by go_simp)
end Go.Proofs.Ytkhfgflcanmefaa.PAll
end
section
namespace Go.Proofs.Ytkhfgflcanmefaa.PAll
open Go.RowKit Go.Proofs.YtkhfgflcanmefaaW.PrintWords Go.Proofs.YtkhfgflcanmefaaW.PrintLast Go.Proofs.YtkhfgflcanmefaaW.PrintMore
attribute [local go_sem] max2_int min2_int max_two min_two max_three min_three max_four min_four   -- for this text's walks alone
set_option linter.unusedVariables false
set_option linter.unusedSimpArgs false

attribute [local go_sem high] eqA59
def prebendref19_SameBusy.l0 : Nat → List (S59) → List (S59) → Int → Option (Bool)
  | 0, _, _, _ => none
  | k + 1, x0, x1, x5 => if x5 < (x0.length : Int) then (if 0 ≤ x5 then (if x5 < (x1.length : Int) then (if (!(((rd_T59 x0 x5).f0) == ((rd_T59 x1 x5).f0)) || (!(((rd_T59 x0 x5).f1) == ((rd_T59 x1 x5).f1)))) = true then (some false) else (prebendref19_SameBusy.l0 k x0 x1 (wrap64 (x5 + 1)))) else (none)) else (none)) else (some true)
def prebendref19_SameBusy.f (k : Nat) (l0 : List (S59)) (l1 : List (S59)) : Option (Bool) := if (l0.length : Int) = (l1.length : Int) then (prebendref19_SameBusy.l0 k l0 l1 0) else (some false)
theorem prebendref19_SameBusy.mono_l : ∀ k, (∀ y0 y1 y2, LeO (prebendref19_SameBusy.l0 k y0 y1 y2) (prebendref19_SameBusy.l0 (k + 1) y0 y1 y2))
  | 0 => fun _ _ _ r h => by simp [prebendref19_SameBusy.l0] at h
  | k + 1 => by
    have ih0 := prebendref19_SameBusy.mono_l k
    · intro y0 y1 y2
      unfold prebendref19_SameBusy.l0
      repeat' first
      | (with_reducible exact ih0 _ _ _)
      | (with_reducible exact LeO.refl _)
      | (with_reducible exact LeO.none _)
      | (with_reducible refine LeO.ite ?_ ?_)
      | (with_reducible refine LeO.bind ?_ (fun _ => ?_))
      | exact ih0 _ _ _
      | exact LeO.none _
      | refine LeO.ite ?_ ?_
      | refine LeO.bind ?_ (fun _ => ?_)
theorem prebendref19_SameBusy.mono : ∀ a0 a1 k, LeO (prebendref19_SameBusy.f k a0 a1) (prebendref19_SameBusy.f (k + 1) a0 a1) := by
  intro a0 a1 k
  have ih0 := prebendref19_SameBusy.mono_l k
  unfold prebendref19_SameBusy.f
  repeat' first
      | (with_reducible exact ih0 _ _ _)
      | (with_reducible exact LeO.refl _)
      | (with_reducible exact LeO.none _)
      | (with_reducible refine LeO.ite ?_ ?_)
      | (with_reducible refine LeO.bind ?_ (fun _ => ?_))
      | exact ih0 _ _ _
      | exact LeO.none _
      | refine LeO.ite ?_ ?_
      | refine LeO.bind ?_ (fun _ => ?_)
set_option maxHeartbeats 8000000 in
set_option maxRecDepth 100000 in
theorem prebendref19_SameBusy.calls (k : Nat) (A0 : Option Addr) (c0 : Nat) (l0 : List (S59)) (A1 : Option Addr) (c1 : Nat) (l1 : List (S59)) (r : Bool) (w : World) (hr0 : Kd.C k59 w A0 l0.length l0) (hc0 : l0.length ≤ c0) (hr1 : Kd.C k59 w A1 l1.length l1) (hc1 : l1.length ≤ c1) (h : prebendref19_SameBusy.f k l0 l1 = some r) :
    Calls Try.prog 21 #[.slice A0 l0.length c0, .slice A1 l1.length c1] w fun e w' => e = .returned (.bool r) ∧ Drawn0 w w' := by
  have hu59 := Try.underlying59
  have HR0 := Aside0.mk hr0
  have HC0 := Aside0.mk hc0
  clear hr0 hc0
  have HR1 := Aside0.mk hr1
  have HC1 := Aside0.mk hc1
  clear hr1 hc1
  have H : (if (l0.length : Int) = (l1.length : Int) then (prebendref19_SameBusy.l0 k l0 l1 0) else (some false)) = some r := h
  clear h
  by_cases c3 : (l0.length : Int) = (l1.length : Int)
  · rw [if_pos c3] at H
    have c3b0 : ((l0.length : Int) == (l1.length : Int)) = true := beq_iff_eq.mpr c3
    have c3b1 : ((l0.length : Int) != (l1.length : Int)) = false := bne_eq_false_iff_eq.mpr c3
    have c3b2 : (l0.length == l1.length) = true := by first | simpa using c3 | (simp at c3 ⊢; omega)
    clear c3
    have H' := Aside0.mk H
    clear H
    go_enter Try.func21, Try.ntmps21
    go_wp2
    repeat (go_quiet (fail); try go_wp2)
    go_loopg [5] k (fun kq v5 w' => ∃ (x5_1 : Int), v5 = .int .i64 x5_1 ∧ Aside0 (prebendref19_SameBusy.l0 kq l0 l1 x5_1 = some r) ∧ Aside0 (kq ≤ k) ∧ Drawn0 w w')
    case atStart => exact ⟨(0), (by first | rfl | (simp; done) | (simp [*]; done)), H', ⟨Nat.le_refl _⟩, by repeat (first | exact Drawn0.refl _ | apply Drawn0.step)⟩
    case round =>
      clear H'
      try clear c1
      try clear c2
      try clear p2
      try clear c3
      try clear c3b0
      try clear c3b1
      try clear c3b2
      obtain ⟨x5_1, rfl, HA, HK1, ⟨m1, rfl⟩⟩ := hrel
      cases gk with
      | zero => exact absurd HA.out (by simp [prebendref19_SameBusy.l0])
      | succ k1 =>
        have H := HA.out
        clear HA
        simp only [prebendref19_SameBusy.l0] at H
        by_cases c4 : x5_1 < (l0.length : Int)
        · rw [if_pos c4] at H
          have c4b0 : decide (x5_1 < (l0.length : Int)) = true := decide_eq_true c4
          clear c4
          by_cases c5 : 0 ≤ x5_1
          · rw [if_pos c5] at H
            have c5b0 : decide (0 ≤ x5_1) = true := decide_eq_true c5
            clear c5
            by_cases c6 : x5_1 < (l1.length : Int)
            · rw [if_pos c6] at H
              have c6b0 : decide (x5_1 < (l1.length : Int)) = true := decide_eq_true c6
              clear c6
              by_cases c7 : (!(((rd_T59 l0 x5_1).f0) == ((rd_T59 l1 x5_1).f0)) || (!(((rd_T59 l0 x5_1).f1) == ((rd_T59 l1 x5_1).f1)))) = true
              · rw [if_pos c7] at H
                have c7b0 : (!(((rd_T59 l0 x5_1).f0) == ((rd_T59 l1 x5_1).f0)) || (!(((rd_T59 l0 x5_1).f1) == ((rd_T59 l1 x5_1).f1)))) = true := c7
                clear c7
                obtain rfl := Option.some.inj H
                have p235 : 0 ≤ (x5_1 : Int) := of_decide_eq_true (by first | (with_reducible assumption) | assumption)
                have q235 : x5_1 < (l0.length : Int) := of_decide_eq_true (by first | (with_reducible assumption) | assumption)
                obtain ⟨ad235, e235, hx235_0, hx235_1⟩ := at_T59 HR0.out x5_1 p235 q235
                cases e235
                replace p235 := eq_true p235
                replace q235 := eq_true q235
                have p236 : 0 ≤ (x5_1 : Int) := of_decide_eq_true (by first | (with_reducible assumption) | assumption)
                have q236 : x5_1 < (l1.length : Int) := of_decide_eq_true (by first | (with_reducible assumption) | assumption)
                obtain ⟨ad236, e236, hx236_0, hx236_1⟩ := at_T59 HR1.out x5_1 p236 q236
                cases e236
                replace p236 := eq_true p236
                replace q236 := eq_true q236
                go_wp2
                repeat (go_quiet (fail); try go_wp2)
                go_ret
                exact ⟨by first | rfl | (simp; done) | (simp [*]; done), by repeat (first | exact Drawn0.refl _ | apply Drawn0.step)⟩
              · rw [if_neg c7] at H
                have c7b0 : (!(((rd_T59 l0 x5_1).f0) == ((rd_T59 l1 x5_1).f0)) || (!(((rd_T59 l0 x5_1).f1) == ((rd_T59 l1 x5_1).f1)))) = false := by simpa using c7
                clear c7
                have H' := Aside0.mk H
                clear H
                have p235 : 0 ≤ (x5_1 : Int) := of_decide_eq_true (by first | (with_reducible assumption) | assumption)
                have q235 : x5_1 < (l0.length : Int) := of_decide_eq_true (by first | (with_reducible assumption) | assumption)
                obtain ⟨ad235, e235, hx235_0, hx235_1⟩ := at_T59 HR0.out x5_1 p235 q235
                cases e235
                replace p235 := eq_true p235
                replace q235 := eq_true q235
                have p236 : 0 ≤ (x5_1 : Int) := of_decide_eq_true (by first | (with_reducible assumption) | assumption)
                have q236 : x5_1 < (l1.length : Int) := of_decide_eq_true (by first | (with_reducible assumption) | assumption)
                obtain ⟨ad236, e236, hx236_0, hx236_1⟩ := at_T59 HR1.out x5_1 p236 q236
                cases e236
                replace p236 := eq_true p236
                replace q236 := eq_true q236
                go_wp2
                repeat (go_quiet (fail); try go_wp2)
                go_roundg k1
                case measure => have := HK1.out; omega
                case rel => exact ⟨(wrap64 (x5_1 + 1)), (by first | rfl | (simp; done) | (simp [*]; done)), H', ⟨by have := HK1.out; omega⟩, by repeat (first | exact Drawn0.refl _ | apply Drawn0.step)⟩
            · rw [if_neg c6] at H
              exact absurd H (by simp)
          · rw [if_neg c5] at H
            exact absurd H (by simp)
        · rw [if_neg c4] at H
          have c4b0 : decide (x5_1 < (l0.length : Int)) = false := decide_eq_false c4
          clear c4
          obtain rfl := Option.some.inj H
          go_wp2
          repeat (go_quiet (fail); try go_wp2)
          go_ret
          exact ⟨by first | rfl | (simp; done) | (simp [*]; done), by repeat (first | exact Drawn0.refl _ | apply Drawn0.step)⟩
  · rw [if_neg c3] at H
    have c3b0 : ((l0.length : Int) == (l1.length : Int)) = false := beq_eq_false_iff_ne.mpr c3
    have c3b1 : ((l0.length : Int) != (l1.length : Int)) = true := bne_iff_ne.mpr c3
    have c3b2 : (l0.length == l1.length) = false := by first | simpa using c3 | (simp at c3 ⊢; omega)
    obtain rfl := Option.some.inj H
    go_enter Try.func21, Try.ntmps21
    go_wp2
    repeat (go_quiet (fail); try go_wp2)
    go_ret
    exact ⟨by first | rfl | (simp; done) | (simp [*]; done), by repeat (first | exact Drawn0.refl _ | apply Drawn0.step)⟩

end Go.Proofs.Ytkhfgflcanmefaa.PAll
end
section
namespace Go.Proofs.Ytkhfgflcanmefaa.PAll
open Go.RowKit Go.Proofs.YtkhfgflcanmefaaW.PrintWords Go.Proofs.YtkhfgflcanmefaaW.PrintLast Go.Proofs.YtkhfgflcanmefaaW.PrintMore
attribute [local go_sem] max2_int min2_int max_two min_two max_three min_three max_four min_four   -- for this text's walks alone
set_option linter.unusedVariables false
set_option linter.unusedSimpArgs false

def slices_Clip_Busy.f (l0 : List (S59)) : Option (List (S59)) := some l0
theorem slices_Clip_Busy.cut (A : Option Addr) (n c : Nat) (hm : n ≤ c) : ∀ W : World, (Instr.slice 40 (.slice A n c) none (some (.int .i64 (n : Int))) (some (.int .i64 (n : Int)))).run Try.prog W = .ok (.slice A n n) W := by
  intro W
  obtain ⟨i0, hi, _, hsz, _⟩ := info_parts info59
  have ha : (A.map fun x => x.add 0) = A := by cases A <;> simp [Addr.add]
  have hn : (n : Int) ≤ (c : Int) := by omega
  simp [Instr.slice, run_underlying Try.underlying40, Instr.sliceBounds, run_sliceBound, sizeOf, typeInfo, hi, Result.andThen, ha, hn]
set_option maxHeartbeats 8000000 in
set_option maxRecDepth 100000 in
theorem slices_Clip_Busy.calls (P0_ : Nat → Prop) (A0 : Option Addr) (c0 : Nat) (l0 : List (S59)) (r : List (S59)) (w : World) (hs0 : Kd.V k59 59 w w.heap.size (fun k_ => P0_ k_) (.slice A0 l0.length c0) l0) (h : slices_Clip_Busy.f l0 = some r) :
    Calls Try.prog 42 #[.slice A0 l0.length c0] w fun e w' => ∃ v0_ : Value, e = .returned (v0_) ∧ Kd.V k59 59 w' w.heap.size (fun k_ => (P0_ k_ ∨ w.heap.size ≤ k_)) v0_ r ∧ Below w.heap.size w w' := by
  obtain rfl := Option.some.inj h
  have HO0 := Aside0.mk (show Kd.V k59 59 w w.heap.size (fun k_ => (P0_ k_ ∨ w.heap.size ≤ k_)) (.slice A0 l0.length l0.length) l0 from Kd.V_mk (Nat.le_refl _) (Kd.F_mono (Kd.V_F hs0) (fun k_ hk => .inl hk)))
  have hc := (Kd.V_reads' hs0).2.1
  have hcut := slices_Clip_Busy.cut A0 l0.length c0 hc
  clear hs0 hc
  go_enter Try.func42, Try.ntmps42
  go_wp2
  go_ret
  exact ⟨_, rfl, HO0.out, Below.refl _ _⟩
end Go.Proofs.Ytkhfgflcanmefaa.PAll
end
section
namespace Go.Proofs.Ytkhfgflcanmefaa.PAll
open Go.RowKit Go.Proofs.YtkhfgflcanmefaaW.PrintWords Go.Proofs.YtkhfgflcanmefaaW.PrintLast Go.Proofs.YtkhfgflcanmefaaW.PrintMore
attribute [local go_sem] max2_int min2_int max_two min_two max_three min_three max_four min_four   -- for this text's walks alone
set_option linter.unusedVariables false
set_option linter.unusedSimpArgs false

def job_Busy.l0 : Nat → List (S59) → List (S32) → Int → Int → Option ((List (S59)))
 | 0, _, _, _, _ => none
 | k + 1, x3, x7, x8, x9 => if x9 < x8 then (if 0 ≤ x9 then (if x9 < (x7.length : Int) then (if x3.length < 8796093022208 then (job_Busy.l0 k (x3 ++ [(⟨wrap64 (((rd_T32 x7 x9).f8) + ((rd_T32 x7 x9).f3)), (rd_T32 x7 x9).f2⟩ : S59)]) x7 x8 (wrap64 (x9 + 1))) else (none)) else (none)) else (none)) else ((slices_Clip_Busy.f x3).bind fun t245 => (some t245))
def job_Busy.f (k : Nat) (l0 : List (S32)) : Option ((List (S59))) := (job_running.f k l0).bind fun t237 => (job_Busy.l0 k ([] : List (S59)) t237 (t237.length : Int) 0)
theorem job_Busy.mono_l : ∀ k, (∀ y0 y1 y2 y3, LeO (job_Busy.l0 k y0 y1 y2 y3) (job_Busy.l0 (k + 1) y0 y1 y2 y3))
 | 0 => fun _ _ _ _ r h => by simp [job_Busy.l0] at h
 | k + 1 => by
  have ih0 := job_Busy.mono_l k
  ·intro y0 y1 y2 y3
   unfold job_Busy.l0
   repeat' first
   | (with_reducible exact ih0 _ _ _ _)
   | (with_reducible exact job_running.mono _ _)
   | (with_reducible exact LeO.refl _)
   | (with_reducible exact LeO.none _)
   | (with_reducible refine LeO.ite ?_ ?_)
   | (with_reducible refine LeO.bind ?_ (fun _ => ?_))
   | exact ih0 _ _ _ _
   | exact job_running.mono _ _
   | exact LeO.none _
   | refine LeO.ite ?_ ?_
   | refine LeO.bind ?_ (fun _ => ?_)
theorem job_Busy.mono : ∀ a0 k, LeO (job_Busy.f k a0) (job_Busy.f (k + 1) a0) := by
 intro a0 k
 have ih0 := job_Busy.mono_l k
 unfold job_Busy.f
 repeat' first
   | (with_reducible exact ih0 _ _ _ _)
   | (with_reducible exact job_running.mono _ _)
   | (with_reducible exact LeO.refl _)
   | (with_reducible exact LeO.none _)
   | (with_reducible refine LeO.ite ?_ ?_)
   | (with_reducible refine LeO.bind ?_ (fun _ => ?_))
   | exact ih0 _ _ _ _
   | exact job_running.mono _ _
   | exact LeO.none _
   | refine LeO.ite ?_ ?_
   | refine LeO.bind ?_ (fun _ => ?_)
set_option maxHeartbeats 8000000 in
set_option maxRecDepth 100000 in
theorem job_Busy.calls (k : Nat) (A0 : Option Addr) (c0 : Nat) (l0 : List (S32)) (r : List (S59)) (w : World) (hr0 : Kd.C k32 w A0 l0.length l0) (hc0 : l0.length ≤ c0) (h : job_Busy.f k l0 = some r) :
  Calls Try.prog 22 #[.slice A0 l0.length c0] w fun e w' => ∃ v0_ : Value, e = .returned (v0_) ∧ Kd.V k59 59 w' w.heap.size (fun k_ => (w.heap.size ≤ k_)) v0_ r ∧ Below w.heap.size w w' := by
 have hu32 := Try.underlying32
 have hu59 := Try.underlying59
 have HR0 := Aside0.mk hr0
 have HC0 := Aside0.mk hc0
 clear hr0; clear hc0
 have HB := Aside0.mk (Below.refl w.heap.size w)
 have H : ((job_running.f k l0).bind fun t237 => (job_Busy.l0 k ([] : List (S59)) t237 (t237.length : Int) 0)) = some r := h
 clear h
 replace H := Option.bind_eq_some_iff.mp H
 obtain ⟨t237, A20, H⟩ := H
 replace H : (job_Busy.l0 k ([] : List (S59)) t237 (t237.length : Int) 0) = some r := H
 have A2 := Aside0.mk A20
 clear A20
 have H' := Aside0.mk H
 clear H
 go_enter Try.func22, Try.ntmps22
 go_wp2_with (first | ((with_reducible refine gate_callee (f := 41) rfl ?_); refine goesL_ (some 7) rfl rfl Try.func41 (by kernel_rfl) rfl #[.slice A0 l0.length c0] rfl mt ?_; (with_reducible refine (job_running.calls k _ _ l0 t237 _ ?side1 ?side2 A2.out).mono ?_); (case side1 => exact mC HR0.out); (case side2 => exact HC0.out); rintro e w3 ⟨v238, rfl, ho0, hb⟩; refine ⟨_, rfl, ?_⟩; have n0_ := Aside0.mk (Kd.R_lower (Kd.R_newM (M := fun k_ => (w.heap.size ≤ k_)) ho0 (below_size (mB HB.out)) (fun k_ h_ => h_)) (below_size (mB HB.out))); have n1_ := Aside0.mk (below_step (mB HB.out) hb); clear HB; have HO239 := n0_; have HB := n1_; clear n0_ n1_; (try clear hb); (try clear hb2); (try clear hk); (try clear hi); (try clear ho0); obtain ⟨Ao4, co4, eo4⟩ := Kd.R_slice HO239.out; subst eo4))
 go_loopg [3, 9] k (fun kq v3 v9 w' => ∃ (x3_1 : List (S59)) (x9_1 : Int), v9 = .int .i64 x9_1 ∧ Aside0 (job_Busy.l0 kq x3_1 t237 (t237.length : Int) x9_1 = some r) ∧ Aside0 (kq ≤ k) ∧ Aside0 (Kd.R k59 59 w' w.heap.size (fun k_ => (w.heap.size ≤ k_)) v3 x3_1) ∧ Aside0 (Kd.R k32 32 w' w.heap.size (fun k_ => (w.heap.size ≤ k_)) (.slice Ao4 t237.length co4) t237) ∧ Aside0 (Below w.heap.size w w'))
 case atStart => exact ⟨(([] : List (S59))), (0), ez, H', ⟨Nat.le_refl _⟩, ⟨by first | exact Kd.R_nil _ _ _ _ _ | exact Kd.N_nil _ _ _ _ _ | exact Kd.V_nil _ _ _ _ _ | exact Kd.Q_nil _ _ _ _ _ | exact Kd.S_nil _ _ _ _ _⟩, ⟨by (with_reducible repeat (first | apply Kd.R_alloc | apply Kd.R_drewN | apply Kd.R_drew)); exact Kd.R_mono HO239.out (fun _ hk => hk.1)⟩, ⟨mB HB.out⟩⟩
 case round =>
  clear H'
  (try clear c2); (try clear p2); (try clear c4)
  obtain ⟨x3_1, x9_1, rfl, HA, HK1, HO_3, HO_7, HB⟩ := hrel
  cases gk with
  | zero => exact absurd HA.out (by simp [job_Busy.l0])
  | succ k1 =>
   have H := HA.out
   clear HA
   simp only [job_Busy.l0] at H
   by_cases c5 : x9_1 < (t237.length : Int)
   ·rw [if_pos c5] at H
    have c5b0 : decide (x9_1 < (t237.length : Int)) = true := decide_eq_true c5
    clear c5
    by_cases c6 : 0 ≤ x9_1
    ·rw [if_pos c6] at H
     have c6b0 : decide (0 ≤ x9_1) = true := decide_eq_true c6
     clear c6
     by_cases c7 : x9_1 < (t237.length : Int)
     ·rw [if_pos c7] at H
      have c7b0 : decide (x9_1 < (t237.length : Int)) = true := decide_eq_true c7
      clear c7
      by_cases c8 : x3_1.length < 8796093022208
      ·rw [if_pos c8] at H
       have LMc8 := Aside0.mk c8
       clear c8
       obtain ⟨y242, hy242⟩ : ∃ y_ : List (S59), y_ = (x3_1 ++ [(⟨wrap64 (((rd_T32 t237 x9_1).f8) + ((rd_T32 t237 x9_1).f3)), (rd_T32 t237 x9_1).f2⟩ : S59)]) := ⟨_, rfl⟩
       replace H : (job_Busy.l0 k1 y242 t237 (t237.length : Int) (wrap64 (x9_1 + 1))) = some r := mH hy242 H
       have Ny242 := Aside0.mk hy242
       clear hy242
       have H' := Aside0.mk H
       clear H
       have p240 : 0 ≤ (x9_1 : Int) := oda
       have q240 : x9_1 < (t237.length : Int) := oda
       obtain ⟨ad240, e240, hx240_0, hx240_1, hx240_2, hx240_3, hx240_4, hx240_5, hx240_6, hx240_7, hx240_8, hx240_9, hx240_10, hx240_11⟩ := at_T32 (Kd.R_reads' HO_7.out).2.2 x9_1 p240 q240
       cases e240
       replace p240 := eq_true p240
       replace q240 := eq_true q240
       go_wp2_with (first | ((with_reducible refine gate_dst (N := 5) rfl ?_); refine box_event ?hg (N := 5) ?hd (cs := #[.int .i64 0, .int .i64 0, .int .i64 0, .int .i64 0, .int .i64 0, .int .i64 0, .int .i64 0, .int .i64 0, .int .i64 0, .int .i64 0, .int .i64 0, .slice none 0 0]) (t := 32) ?hr ?_; (case hd => rfl); (case hg => rfl); (case hr => first | (go_simp; done) | (go_simp; rfl)); intro gb241 hg w9 hbox hb; have n0_ := Aside0.mk (Kd.R_below (mR HO_3.out) hb); have n1_ := Aside0.mk (Kd.R_below (Kd.R_elderB (mR HO_7.out) gb241 (Nat.le_of_eq hg.symm)) hb); have n2_ := Aside0.mk (below_step (mB HB.out) hb); have n3_ := Aside0.mk (hbox); have n4_ := Aside0.mk ((by rw [hg]; exact (below_size (mB HB.out)) : w.heap.size ≤ gb241)); have n5_ := Aside0.mk ((by rw [hg]; exact (below_size (mB HB.out)) : w.heap.size ≤ gb241)); clear HO_3; clear HO_7; clear HB; have HO_3 := n0_; have HO_7 := n1_; have HB := n2_; have BK241 := n3_; have GW241 := n4_; have GE241 := n5_; clear n0_ n1_ n2_ n3_ n4_ n5_; clear hb hbox hg; have hcz10_0 : w9.cell? ⟨gb241, 0, none⟩ = some (.int .i64 0) := (blk_cell BK241.out 0).trans rfl; have hcz10_1 : w9.cell? ⟨gb241, 1, none⟩ = some (.int .i64 0) := (blk_cell BK241.out 1).trans rfl; have hcz10_2 : w9.cell? ⟨gb241, 2, none⟩ = some (.int .i64 0) := (blk_cell BK241.out 2).trans rfl; have hcz10_3 : w9.cell? ⟨gb241, 3, none⟩ = some (.int .i64 0) := (blk_cell BK241.out 3).trans rfl; have hcz10_4 : w9.cell? ⟨gb241, 4, none⟩ = some (.int .i64 0) := (blk_cell BK241.out 4).trans rfl; have hcz10_5 : w9.cell? ⟨gb241, 5, none⟩ = some (.int .i64 0) := (blk_cell BK241.out 5).trans rfl; have hcz10_6 : w9.cell? ⟨gb241, 6, none⟩ = some (.int .i64 0) := (blk_cell BK241.out 6).trans rfl; have hcz10_7 : w9.cell? ⟨gb241, 7, none⟩ = some (.int .i64 0) := (blk_cell BK241.out 7).trans rfl; have hcz10_8 : w9.cell? ⟨gb241, 8, none⟩ = some (.int .i64 0) := (blk_cell BK241.out 8).trans rfl; have hcz10_9 : w9.cell? ⟨gb241, 9, none⟩ = some (.int .i64 0) := (blk_cell BK241.out 9).trans rfl; have hcz10_10 : w9.cell? ⟨gb241, 10, none⟩ = some (.int .i64 0) := (blk_cell BK241.out 10).trans rfl; have hcz10_11 : w9.cell? ⟨gb241, 11, none⟩ = some (.slice none 0 0) := (blk_cell BK241.out 11).trans rfl; have hfz10_0 := blk_frozen BK241.out 0; have hfz10_1 := blk_frozen BK241.out 1; have hfz10_2 := blk_frozen BK241.out 2; have hfz10_3 := blk_frozen BK241.out 3; have hfz10_4 := blk_frozen BK241.out 4; have hfz10_5 := blk_frozen BK241.out 5; have hfz10_6 := blk_frozen BK241.out 6; have hfz10_7 := blk_frozen BK241.out 7; have hfz10_8 := blk_frozen BK241.out 8; have hfz10_9 := blk_frozen BK241.out 9; have hfz10_10 := blk_frozen BK241.out 10; have hfz10_11 := blk_frozen BK241.out 11) | ((with_reducible refine gate_builtin (b := .append) (xs := #[.tmp 13, .tmp 22]) rfl ?_); at_builtin; refine Kd.R_append k59 (w0 := w) w.heap.size rfl (.tmp 13) (.tmp 22) 40 59 (.agg #[(.int .i64 0), (.int .i64 0)]) 16 rfl Try.underlying40 info59 rfl (by decide) (by omega) u3 x3_1 (⟨wrap64 (((rd_T32 t237 x9_1).f8) + ((rd_T32 t237 x9_1).f3)), (rd_T32 t237 x9_1).f2⟩ : S59) [.int .i64 (wrap64 (((rd_T32 t237 x9_1).f8) + ((rd_T32 t237 x9_1).f3))), .int .i64 ((rd_T32 t237 x9_1).f2)] (fun k_ => (w.heap.size ≤ k_)) (fun _ => False) rfl (by first | (go_simp; done) | (go_simp; rfl)) ?aP (fun _ hk => hk.elim) ?aF ?aO ?aB ?aS ?aL ?_; (case aP => exact k59_mkM _ _ _ (⟨wrap64 (((rd_T32 t237 x9_1).f8) + ((rd_T32 t237 x9_1).f3)), (rd_T32 t237 x9_1).f2⟩ : S59)); (case aB => exact (mBs HB.out)); (case aF => exact (fun k_ hk => (Nat.le_trans (below_size (mBs HB.out)) hk))); (case aO => exact (by (with_reducible repeat (first | apply Kd.R_alloc | apply Kd.R_drewN | apply Kd.R_drew)); exact Kd.R_mono (Kd.R_fa gb241 11 (Kd.R_fa gb241 10 (Kd.R_fa gb241 9 (Kd.R_fa gb241 8 (Kd.R_fa gb241 7 (Kd.R_fa gb241 6 (Kd.R_fa gb241 5 (Kd.R_fa gb241 4 (Kd.R_fa gb241 3 (Kd.R_fa gb241 2 (Kd.R_fa gb241 1 (Kd.R_fa gb241 0 (Kd.R_types HO_3.out BK241.out (by decide)) (.int .i64 ((rd_T32 t237 x9_1).f0))) (.int .i64 ((rd_T32 t237 x9_1).f1))) (.int .i64 ((rd_T32 t237 x9_1).f2))) (.int .i64 ((rd_T32 t237 x9_1).f3))) (.int .i64 ((rd_T32 t237 x9_1).f4))) (.int .i64 ((rd_T32 t237 x9_1).f5))) (.int .i64 ((rd_T32 t237 x9_1).f6))) (.int .i64 ((rd_T32 t237 x9_1).f7))) (.int .i64 ((rd_T32 t237 x9_1).f8))) (.int .i64 ((rd_T32 t237 x9_1).f9))) (.int .i64 ((rd_T32 t237 x9_1).f10))) (.slice ((rd_T32 t237 x9_1).f11).A ((rd_T32 t237 x9_1).f11).n ((rd_T32 t237 x9_1).f11).c)) (fun _ hk => hk.1))); (case aS => exact (below_size (mBs HB.out))); (case aL => have := LMc8.out; omega); intro v243 w11 ho hb hg hat; rw [← Ny242.out] at ho; have n0_ := Aside0.mk (Kd.R_over' (by (with_reducible repeat (first | apply Kd.R_alloc | apply Kd.R_drewN | apply Kd.R_drew)); exact (Kd.R_mono (Kd.R_fa gb241 11 (Kd.R_fa gb241 10 (Kd.R_fa gb241 9 (Kd.R_fa gb241 8 (Kd.R_fa gb241 7 (Kd.R_fa gb241 6 (Kd.R_fa gb241 5 (Kd.R_fa gb241 4 (Kd.R_fa gb241 3 (Kd.R_fa gb241 2 (Kd.R_fa gb241 1 (Kd.R_fa gb241 0 (Kd.R_mono HO_7.out (fun k_ hk => (⟨hk, hk.2⟩ : _ ∧ k_ ≠ gb241))) (.int .i64 ((rd_T32 t237 x9_1).f0))) (.int .i64 ((rd_T32 t237 x9_1).f1))) (.int .i64 ((rd_T32 t237 x9_1).f2))) (.int .i64 ((rd_T32 t237 x9_1).f3))) (.int .i64 ((rd_T32 t237 x9_1).f4))) (.int .i64 ((rd_T32 t237 x9_1).f5))) (.int .i64 ((rd_T32 t237 x9_1).f6))) (.int .i64 ((rd_T32 t237 x9_1).f7))) (.int .i64 ((rd_T32 t237 x9_1).f8))) (.int .i64 ((rd_T32 t237 x9_1).f9))) (.int .i64 ((rd_T32 t237 x9_1).f10))) (.slice ((rd_T32 t237 x9_1).f11).A ((rd_T32 t237 x9_1).f11).n ((rd_T32 t237 x9_1).f11).c)) (fun _ h_ => h_.1))) (Kd.R_typed (by (with_reducible repeat (first | apply Kd.R_alloc | apply Kd.R_drewN | apply Kd.R_drew)); exact (Kd.R_mono (Kd.R_fa gb241 11 (Kd.R_fa gb241 10 (Kd.R_fa gb241 9 (Kd.R_fa gb241 8 (Kd.R_fa gb241 7 (Kd.R_fa gb241 6 (Kd.R_fa gb241 5 (Kd.R_fa gb241 4 (Kd.R_fa gb241 3 (Kd.R_fa gb241 2 (Kd.R_fa gb241 1 (Kd.R_fa gb241 0 (Kd.R_types HO_3.out BK241.out (by decide)) (.int .i64 ((rd_T32 t237 x9_1).f0))) (.int .i64 ((rd_T32 t237 x9_1).f1))) (.int .i64 ((rd_T32 t237 x9_1).f2))) (.int .i64 ((rd_T32 t237 x9_1).f3))) (.int .i64 ((rd_T32 t237 x9_1).f4))) (.int .i64 ((rd_T32 t237 x9_1).f5))) (.int .i64 ((rd_T32 t237 x9_1).f6))) (.int .i64 ((rd_T32 t237 x9_1).f7))) (.int .i64 ((rd_T32 t237 x9_1).f8))) (.int .i64 ((rd_T32 t237 x9_1).f9))) (.int .i64 ((rd_T32 t237 x9_1).f10))) (.slice ((rd_T32 t237 x9_1).f11).A ((rd_T32 t237 x9_1).f11).n ((rd_T32 t237 x9_1).f11).c)) (fun _ h_ => h_.1)))) (by decide) hg); have n1_ := Aside0.mk (blk_grown (g := gb241) (o := .cells (cJ (rd_T32 t237 x9_1)) 32 (0, 0)) (by (with_reducible repeat first | apply blk_drewN | apply blk_drew | apply blk_alloc); refine blk_put (cs := #[.int .i64 ((rd_T32 t237 x9_1).f0), .int .i64 ((rd_T32 t237 x9_1).f1), .int .i64 ((rd_T32 t237 x9_1).f2), .int .i64 ((rd_T32 t237 x9_1).f3), .int .i64 ((rd_T32 t237 x9_1).f4), .int .i64 ((rd_T32 t237 x9_1).f5), .int .i64 ((rd_T32 t237 x9_1).f6), .int .i64 ((rd_T32 t237 x9_1).f7), .int .i64 ((rd_T32 t237 x9_1).f8), .int .i64 ((rd_T32 t237 x9_1).f9), .int .i64 ((rd_T32 t237 x9_1).f10), .slice none 0 0]) ?_ 11 _ rfl; (with_reducible repeat first | apply blk_drewN | apply blk_drew | apply blk_alloc); refine blk_put (cs := #[.int .i64 ((rd_T32 t237 x9_1).f0), .int .i64 ((rd_T32 t237 x9_1).f1), .int .i64 ((rd_T32 t237 x9_1).f2), .int .i64 ((rd_T32 t237 x9_1).f3), .int .i64 ((rd_T32 t237 x9_1).f4), .int .i64 ((rd_T32 t237 x9_1).f5), .int .i64 ((rd_T32 t237 x9_1).f6), .int .i64 ((rd_T32 t237 x9_1).f7), .int .i64 ((rd_T32 t237 x9_1).f8), .int .i64 ((rd_T32 t237 x9_1).f9), .int .i64 0, .slice none 0 0]) ?_ 10 _ rfl; (with_reducible repeat first | apply blk_drewN | apply blk_drew | apply blk_alloc); refine blk_put (cs := #[.int .i64 ((rd_T32 t237 x9_1).f0), .int .i64 ((rd_T32 t237 x9_1).f1), .int .i64 ((rd_T32 t237 x9_1).f2), .int .i64 ((rd_T32 t237 x9_1).f3), .int .i64 ((rd_T32 t237 x9_1).f4), .int .i64 ((rd_T32 t237 x9_1).f5), .int .i64 ((rd_T32 t237 x9_1).f6), .int .i64 ((rd_T32 t237 x9_1).f7), .int .i64 ((rd_T32 t237 x9_1).f8), .int .i64 0, .int .i64 0, .slice none 0 0]) ?_ 9 _ rfl; (with_reducible repeat first | apply blk_drewN | apply blk_drew | apply blk_alloc); refine blk_put (cs := #[.int .i64 ((rd_T32 t237 x9_1).f0), .int .i64 ((rd_T32 t237 x9_1).f1), .int .i64 ((rd_T32 t237 x9_1).f2), .int .i64 ((rd_T32 t237 x9_1).f3), .int .i64 ((rd_T32 t237 x9_1).f4), .int .i64 ((rd_T32 t237 x9_1).f5), .int .i64 ((rd_T32 t237 x9_1).f6), .int .i64 ((rd_T32 t237 x9_1).f7), .int .i64 0, .int .i64 0, .int .i64 0, .slice none 0 0]) ?_ 8 _ rfl; (with_reducible repeat first | apply blk_drewN | apply blk_drew | apply blk_alloc); refine blk_put (cs := #[.int .i64 ((rd_T32 t237 x9_1).f0), .int .i64 ((rd_T32 t237 x9_1).f1), .int .i64 ((rd_T32 t237 x9_1).f2), .int .i64 ((rd_T32 t237 x9_1).f3), .int .i64 ((rd_T32 t237 x9_1).f4), .int .i64 ((rd_T32 t237 x9_1).f5), .int .i64 ((rd_T32 t237 x9_1).f6), .int .i64 0, .int .i64 0, .int .i64 0, .int .i64 0, .slice none 0 0]) ?_ 7 _ rfl; (with_reducible repeat first | apply blk_drewN | apply blk_drew | apply blk_alloc); refine blk_put (cs := #[.int .i64 ((rd_T32 t237 x9_1).f0), .int .i64 ((rd_T32 t237 x9_1).f1), .int .i64 ((rd_T32 t237 x9_1).f2), .int .i64 ((rd_T32 t237 x9_1).f3), .int .i64 ((rd_T32 t237 x9_1).f4), .int .i64 ((rd_T32 t237 x9_1).f5), .int .i64 0, .int .i64 0, .int .i64 0, .int .i64 0, .int .i64 0, .slice none 0 0]) ?_ 6 _ rfl; (with_reducible repeat first | apply blk_drewN | apply blk_drew | apply blk_alloc); refine blk_put (cs := #[.int .i64 ((rd_T32 t237 x9_1).f0), .int .i64 ((rd_T32 t237 x9_1).f1), .int .i64 ((rd_T32 t237 x9_1).f2), .int .i64 ((rd_T32 t237 x9_1).f3), .int .i64 ((rd_T32 t237 x9_1).f4), .int .i64 0, .int .i64 0, .int .i64 0, .int .i64 0, .int .i64 0, .int .i64 0, .slice none 0 0]) ?_ 5 _ rfl; (with_reducible repeat first | apply blk_drewN | apply blk_drew | apply blk_alloc); refine blk_put (cs := #[.int .i64 ((rd_T32 t237 x9_1).f0), .int .i64 ((rd_T32 t237 x9_1).f1), .int .i64 ((rd_T32 t237 x9_1).f2), .int .i64 ((rd_T32 t237 x9_1).f3), .int .i64 0, .int .i64 0, .int .i64 0, .int .i64 0, .int .i64 0, .int .i64 0, .int .i64 0, .slice none 0 0]) ?_ 4 _ rfl; (with_reducible repeat first | apply blk_drewN | apply blk_drew | apply blk_alloc); refine blk_put (cs := #[.int .i64 ((rd_T32 t237 x9_1).f0), .int .i64 ((rd_T32 t237 x9_1).f1), .int .i64 ((rd_T32 t237 x9_1).f2), .int .i64 0, .int .i64 0, .int .i64 0, .int .i64 0, .int .i64 0, .int .i64 0, .int .i64 0, .int .i64 0, .slice none 0 0]) ?_ 3 _ rfl; (with_reducible repeat first | apply blk_drewN | apply blk_drew | apply blk_alloc); refine blk_put (cs := #[.int .i64 ((rd_T32 t237 x9_1).f0), .int .i64 ((rd_T32 t237 x9_1).f1), .int .i64 0, .int .i64 0, .int .i64 0, .int .i64 0, .int .i64 0, .int .i64 0, .int .i64 0, .int .i64 0, .int .i64 0, .slice none 0 0]) ?_ 2 _ rfl; (with_reducible repeat first | apply blk_drewN | apply blk_drew | apply blk_alloc); refine blk_put (cs := #[.int .i64 ((rd_T32 t237 x9_1).f0), .int .i64 0, .int .i64 0, .int .i64 0, .int .i64 0, .int .i64 0, .int .i64 0, .int .i64 0, .int .i64 0, .int .i64 0, .int .i64 0, .slice none 0 0]) ?_ 1 _ rfl; (with_reducible repeat first | apply blk_drewN | apply blk_drew | apply blk_alloc); refine blk_put (cs := #[.int .i64 0, .int .i64 0, .int .i64 0, .int .i64 0, .int .i64 0, .int .i64 0, .int .i64 0, .int .i64 0, .int .i64 0, .int .i64 0, .int .i64 0, .slice none 0 0]) ?_ 0 _ rfl; (with_reducible repeat first | apply blk_drewN | apply blk_drew | apply blk_alloc); exact BK241.out) hg (Kd.R_ne HO_3.out BK241.out (by decide))); have n2_ := Aside0.mk (hb); have n3_ := Aside0.mk (ho); clear HO_7; clear BK241; clear HB; clear HO_3; have HO_7 := n0_; have BK241 := n1_; have HB := n2_; have HO244 := n3_; clear n0_ n1_ n2_ n3_; clear ho hb hg hat))
       go_roundg k1
       case measure => have := HK1.out; omega
       case rel => exact ⟨(y242), (wrap64 (x9_1 + 1)), ez, H', ⟨by have := HK1.out; omega⟩, ⟨mR HO244.out⟩, ⟨by (with_reducible repeat (first | apply Kd.R_alloc | apply Kd.R_drewN | apply Kd.R_drew)); exact Kd.R_mono HO_7.out (fun _ hk => hk.1)⟩, ⟨mBs HB.out⟩⟩
      ·rw [if_neg c8] at H
       exact absurd H (by simp)
     ·rw [if_neg c7] at H
      exact absurd H (by simp)
    ·rw [if_neg c6] at H
     exact absurd H (by simp)
   ·rw [if_neg c5] at H
    have c5b0 : decide (x9_1 < (t237.length : Int)) = false := decide_eq_false c5
    clear c5
    replace H := Option.bind_eq_some_iff.mp H
    obtain ⟨t245, A120, H⟩ := H
    replace H : (some t245) = some r := H
    have A12 := Aside0.mk A120
    clear A120
    obtain rfl := Option.some.inj H
    obtain ⟨Ao13, co13, eo13⟩ := Kd.R_slice HO_3.out
    subst eo13
    go_wp2_with (first | ((with_reducible refine gate_callee (f := 42) rfl ?_); refine goesL_ (some 26) rfl rfl Try.func42 (by kernel_rfl) rfl #[.slice Ao13 x3_1.length co13] rfl mt ?_; (with_reducible refine (slices_Clip_Busy.calls (fun k_ => some k_ = (.slice Ao13 x3_1.length co13 : Value).ownBlock) _ _ x3_1 t245 _ ?side1 A12.out).mono ?_); (case side1 => exact Kd.R_V (Kd.R_tight rfl (Kd.R_apart' (HO_3.out) (Kd.R_typed HO_7.out) (by decide)))); rintro e w14 ⟨v246, rfl, ho0, hb⟩; refine ⟨_, rfl, ?_⟩; have n0_ := Aside0.mk (Kd.R_below (mR HO_3.out) hb); have n1_ := Aside0.mk (Kd.R_below (mR HO_7.out) hb); have n2_ := Aside0.mk (Kd.V_lower (Kd.V_mono (ok' := fun k_ => (w.heap.size ≤ k_) ∧ some k_ ≠ (.slice Ao4 t237.length co4 : Value).ownBlock) ho0 (fun k_ hk_ => ⟨Or.elim hk_ (fun hs_ => ((Kd.R_apart' (HO_3.out) (Kd.R_typed HO_7.out) (by decide)).1 k_ hs_.symm).1) (fun hn_ => (Nat.le_trans (below_size (mB HB.out)) hn_)), Or.elim hk_ (fun hs_ => ((Kd.R_apart' (HO_3.out) (Kd.R_typed HO_7.out) (by decide)).1 k_ hs_.symm).2) (fun hn_ => (Kd.fresh' (Kd.R_lt (mR HO_7.out)) k_ hn_))⟩)) (below_size (mB HB.out))); have n3_ := Aside0.mk (below_step (mB HB.out) hb); clear HO_3; clear HO_7; clear HB; have HO_3 := n0_; have HO_7 := n1_; have HO247 := n2_; have HB := n3_; clear n0_ n1_ n2_ n3_; (try clear hb); (try clear hb2); (try clear hk); (try clear hi); (try clear ho0)))
    go_ret
    exact ⟨_, by first | rfl | (simp [errW_none, errW_some] <;> rfl) | (simp [*, errW_none, errW_some] <;> rfl), by (with_reducible repeat (first | apply Kd.V_alloc | apply Kd.V_drewN | apply Kd.V_drew)); exact Kd.V_mono HO247.out (fun _ hk => hk.1), by repeat (first | (with_reducible first | exact HB.out | apply below_alloc | apply pw_below_drewN | apply below_drew1) | exact HB.out)⟩

end Go.Proofs.Ytkhfgflcanmefaa.PAll
end
section
namespace Go.Proofs.Ytkhfgflcanmefaa.PAll
open Go.RowKit Go.Proofs.YtkhfgflcanmefaaW.PrintWords Go.Proofs.YtkhfgflcanmefaaW.PrintLast Go.Proofs.YtkhfgflcanmefaaW.PrintMore
attribute [local go_sem] max2_int min2_int max_two min_two max_three min_three max_four min_four   -- for this text's walks alone
set_option linter.unusedVariables false
set_option linter.unusedSimpArgs false

def plane_within.f (a0 : Int) (a1 : Int) (a2 : Int) : Option (Bool) := if a0 ≥ a1 then (some (decide (a0 ≤ a2))) else (some false)
set_option maxHeartbeats 8000000 in
set_option maxRecDepth 100000 in
theorem plane_within.calls (a0 : Int) (a1 : Int) (a2 : Int) (r : Bool) (w : World) (h : plane_within.f a0 a1 a2 = some r) :
    Calls Try.prog 61 #[.int .i64 a0, .int .i64 a1, .int .i64 a2] w fun e w' => e = .returned (.bool r) ∧ Drawn0 w w' := by
  have H : (if a0 ≥ a1 then (some (decide (a0 ≤ a2))) else (some false)) = some r := h
  clear h
  by_cases c4 : a0 ≥ a1
  · rw [if_pos c4] at H
    have c4b0 : decide (a1 ≤ a0) = true := decide_eq_true c4
    clear c4
    obtain rfl := Option.some.inj H
    go_enter Try.func61, Try.ntmps61
    go_wp2
    go_ret
    exact ⟨by first | rfl | (simp; done) | (simp [*]; done), by repeat (first | exact Drawn0.refl _ | apply Drawn0.step)⟩
  · rw [if_neg c4] at H
    have c4b0 : decide (a1 ≤ a0) = false := decide_eq_false c4
    clear c4
    obtain rfl := Option.some.inj H
    go_enter Try.func61, Try.ntmps61
    go_wp2
    go_ret
    exact ⟨by first | rfl | (simp; done) | (simp [*]; done), by repeat (first | exact Drawn0.refl _ | apply Drawn0.step)⟩

end Go.Proofs.Ytkhfgflcanmefaa.PAll
end
section
namespace Go.Proofs.Ytkhfgflcanmefaa.PAll
open Go.RowKit Go.Proofs.YtkhfgflcanmefaaW.PrintWords Go.Proofs.YtkhfgflcanmefaaW.PrintLast Go.Proofs.YtkhfgflcanmefaaW.PrintMore
attribute [local go_sem] max2_int min2_int max_two min_two max_three min_three max_four min_four   -- for this text's walks alone
set_option linter.unusedVariables false
set_option linter.unusedSimpArgs false

def plane_Good.f (a0_0 : Int) (a0_1 : Int) (a0_2 : Int) (a0_3 : Int) : Option (Bool) := (plane_within.f a0_0 0 1099511627776).bind fun t249 => (if t249 = true then ((plane_within.f a0_2 1 1048576).bind fun t250 => (if t250 = true then ((plane_within.f a0_1 0 31).bind fun t251 => (if t251 = true then ((plane_within.f a0_3 1 (wrap64 (32 - a0_1))).bind fun t252 => (some t252)) else (some false))) else (some false))) else (some false))
set_option maxHeartbeats 8000000 in
set_option maxRecDepth 100000 in
theorem plane_Good.calls (a0_0 : Int) (a0_1 : Int) (a0_2 : Int) (a0_3 : Int) (r : Bool) (w : World) (h : plane_Good.f a0_0 a0_1 a0_2 a0_3 = some r) :
    Calls Try.prog 51 #[.agg #[.int .i64 a0_0, .int .i64 a0_1, .int .i64 a0_2, .int .i64 a0_3]] w fun e w' => e = .returned (.bool r) ∧ Below w.heap.size w w' := by
  have hu63 := Try.underlying63
  have HB := Aside0.mk (Below.refl w.heap.size w)
  have H : ((plane_within.f a0_0 0 1099511627776).bind fun t249 => (if t249 = true then ((plane_within.f a0_2 1 1048576).bind fun t250 => (if t250 = true then ((plane_within.f a0_1 0 31).bind fun t251 => (if t251 = true then ((plane_within.f a0_3 1 (wrap64 (32 - a0_1))).bind fun t252 => (some t252)) else (some false))) else (some false))) else (some false))) = some r := h
  clear h
  replace H := Option.bind_eq_some_iff.mp H
  obtain ⟨t249, A20, H⟩ := H
  replace H : (if t249 = true then ((plane_within.f a0_2 1 1048576).bind fun t250 => (if t250 = true then ((plane_within.f a0_1 0 31).bind fun t251 => (if t251 = true then ((plane_within.f a0_3 1 (wrap64 (32 - a0_1))).bind fun t252 => (some t252)) else (some false))) else (some false))) else (some false)) = some r := H
  have A2 := Aside0.mk A20
  clear A20
  by_cases c3 : t249 = true
  · subst c3
    have H1 : ((plane_within.f a0_2 1 1048576).bind fun t250 => (if t250 = true then ((plane_within.f a0_1 0 31).bind fun t251 => (if t251 = true then ((plane_within.f a0_3 1 (wrap64 (32 - a0_1))).bind fun t252 => (some t252)) else (some false))) else (some false))) = some r := by rw [if_pos rfl] at H; exact H
    clear H
    have H := H1
    clear H1
    replace H := Option.bind_eq_some_iff.mp H
    obtain ⟨t250, A40, H⟩ := H
    replace H : (if t250 = true then ((plane_within.f a0_1 0 31).bind fun t251 => (if t251 = true then ((plane_within.f a0_3 1 (wrap64 (32 - a0_1))).bind fun t252 => (some t252)) else (some false))) else (some false)) = some r := H
    have A4 := Aside0.mk A40
    clear A40
    by_cases c5 : t250 = true
    · subst c5
      have H1 : ((plane_within.f a0_1 0 31).bind fun t251 => (if t251 = true then ((plane_within.f a0_3 1 (wrap64 (32 - a0_1))).bind fun t252 => (some t252)) else (some false))) = some r := by rw [if_pos rfl] at H; exact H
      clear H
      have H := H1
      clear H1
      replace H := Option.bind_eq_some_iff.mp H
      obtain ⟨t251, A60, H⟩ := H
      replace H : (if t251 = true then ((plane_within.f a0_3 1 (wrap64 (32 - a0_1))).bind fun t252 => (some t252)) else (some false)) = some r := H
      have A6 := Aside0.mk A60
      clear A60
      by_cases c7 : t251 = true
      · subst c7
        have H1 : ((plane_within.f a0_3 1 (wrap64 (32 - a0_1))).bind fun t252 => (some t252)) = some r := by rw [if_pos rfl] at H; exact H
        clear H
        have H := H1
        clear H1
        replace H := Option.bind_eq_some_iff.mp H
        obtain ⟨t252, A80, H⟩ := H
        replace H : (some t252) = some r := H
        have A8 := Aside0.mk A80
        clear A80
        obtain rfl := Option.some.inj H
        go_enter Try.func51, Try.ntmps51
        go_wp2_with (first | ((with_reducible refine gate_dst (N := 1) rfl ?_); refine box_event ?hg (N := 1) ?hd (cs := #[.int .i64 a0_0, .int .i64 a0_1, .int .i64 a0_2, .int .i64 a0_3]) (t := 63) ?hr ?_; (case hd => rfl); (case hg => rfl); (case hr => first | (go_simp; done) | (go_simp; rfl)); intro gb248 hg w9 hbox hb; have n0_ := Aside0.mk (below_step (by repeat (first | (with_reducible first | exact HB.out | apply below_alloc | apply pw_below_drewN | apply below_drew1) | exact HB.out)) hb); have n1_ := Aside0.mk (hbox); have n2_ := Aside0.mk ((by rw [hg]; exact (below_size (by repeat (first | (with_reducible first | exact HB.out | apply below_alloc | apply pw_below_drewN | apply below_drew1) | exact HB.out))) : w.heap.size ≤ gb248)); have n3_ := Aside0.mk ((by rw [hg]; exact (below_size (by repeat (first | (with_reducible first | exact HB.out | apply below_alloc | apply pw_below_drewN | apply below_drew1) | exact HB.out))) : w.heap.size ≤ gb248)); clear HB; have HB := n0_; have BK248 := n1_; have GW248 := n2_; have GE248 := n3_; clear n0_ n1_ n2_ n3_; clear hb hbox hg; have hcz10_0 : w9.cell? ⟨gb248, 0, none⟩ = some (.int .i64 a0_0) := (blk_cell BK248.out 0).trans rfl; have hcz10_1 : w9.cell? ⟨gb248, 1, none⟩ = some (.int .i64 a0_1) := (blk_cell BK248.out 1).trans rfl; have hcz10_2 : w9.cell? ⟨gb248, 2, none⟩ = some (.int .i64 a0_2) := (blk_cell BK248.out 2).trans rfl; have hcz10_3 : w9.cell? ⟨gb248, 3, none⟩ = some (.int .i64 a0_3) := (blk_cell BK248.out 3).trans rfl; have hfz10_0 := blk_frozen BK248.out 0; have hfz10_1 := blk_frozen BK248.out 1; have hfz10_2 := blk_frozen BK248.out 2; have hfz10_3 := blk_frozen BK248.out 3) | ((with_reducible refine gate_callee (f := 61) rfl ?_); refine goesL_ (some 5) rfl rfl Try.func61 (by kernel_rfl) rfl #[.int .i64 a0_0, .int .i64 0, .int .i64 1099511627776] rfl (by (try simp only [List.map_toArray, List.map_cons, List.map_nil]); first | done | rfl | (simp only [List.length_drop, List.length_take]; rfl)) ?_; (with_reducible refine (plane_within.calls a0_0 0 1099511627776 true _ A2.out).mono ?_); rintro e w' ⟨rfl, ⟨nd, rfl⟩⟩; refine ⟨_, rfl, ?_⟩) | (go_at_call 61; (with_reducible refine (plane_within.calls a0_2 1 1048576 true _ A4.out).mono ?_); rintro e w' ⟨rfl, ⟨nd, rfl⟩⟩) | (go_at_call 61; (with_reducible refine (plane_within.calls a0_1 0 31 true _ A6.out).mono ?_); rintro e w' ⟨rfl, ⟨nd, rfl⟩⟩) | (go_at_call 61; (with_reducible refine (plane_within.calls a0_3 1 (wrap64 (32 - a0_1)) t252 _ A8.out).mono ?_); rintro e w' ⟨rfl, ⟨nd, rfl⟩⟩))
        go_ret
        exact ⟨by first | rfl | (simp [errW_none, errW_some] <;> rfl) | (simp [*, errW_none, errW_some] <;> rfl), by repeat (first | (with_reducible first | exact HB.out | apply below_alloc | apply pw_below_drewN | apply below_drew1 | refine below_set ?_ GE248.out) | exact HB.out)⟩
      · replace c7 := Bool.eq_false_iff.mpr c7
        subst c7
        have H1 : (some false) = some r := by rw [if_neg (show ¬ (false = true) by decide)] at H; exact H
        clear H
        have H := H1
        clear H1
        obtain rfl := Option.some.inj H
        go_enter Try.func51, Try.ntmps51
        go_wp2_with (first | ((with_reducible refine gate_dst (N := 1) rfl ?_); refine box_event ?hg (N := 1) ?hd (cs := #[.int .i64 a0_0, .int .i64 a0_1, .int .i64 a0_2, .int .i64 a0_3]) (t := 63) ?hr ?_; (case hd => rfl); (case hg => rfl); (case hr => first | (go_simp; done) | (go_simp; rfl)); intro gb248 hg w11 hbox hb; have n0_ := Aside0.mk (below_step (by repeat (first | (with_reducible first | exact HB.out | apply below_alloc | apply pw_below_drewN | apply below_drew1) | exact HB.out)) hb); have n1_ := Aside0.mk (hbox); have n2_ := Aside0.mk ((by rw [hg]; exact (below_size (by repeat (first | (with_reducible first | exact HB.out | apply below_alloc | apply pw_below_drewN | apply below_drew1) | exact HB.out))) : w.heap.size ≤ gb248)); have n3_ := Aside0.mk ((by rw [hg]; exact (below_size (by repeat (first | (with_reducible first | exact HB.out | apply below_alloc | apply pw_below_drewN | apply below_drew1) | exact HB.out))) : w.heap.size ≤ gb248)); clear HB; have HB := n0_; have BK248 := n1_; have GW248 := n2_; have GE248 := n3_; clear n0_ n1_ n2_ n3_; clear hb hbox hg; have hcz12_0 : w11.cell? ⟨gb248, 0, none⟩ = some (.int .i64 a0_0) := (blk_cell BK248.out 0).trans rfl; have hcz12_1 : w11.cell? ⟨gb248, 1, none⟩ = some (.int .i64 a0_1) := (blk_cell BK248.out 1).trans rfl; have hcz12_2 : w11.cell? ⟨gb248, 2, none⟩ = some (.int .i64 a0_2) := (blk_cell BK248.out 2).trans rfl; have hcz12_3 : w11.cell? ⟨gb248, 3, none⟩ = some (.int .i64 a0_3) := (blk_cell BK248.out 3).trans rfl; have hfz12_0 := blk_frozen BK248.out 0; have hfz12_1 := blk_frozen BK248.out 1; have hfz12_2 := blk_frozen BK248.out 2; have hfz12_3 := blk_frozen BK248.out 3) | ((with_reducible refine gate_callee (f := 61) rfl ?_); refine goesL_ (some 5) rfl rfl Try.func61 (by kernel_rfl) rfl #[.int .i64 a0_0, .int .i64 0, .int .i64 1099511627776] rfl (by (try simp only [List.map_toArray, List.map_cons, List.map_nil]); first | done | rfl | (simp only [List.length_drop, List.length_take]; rfl)) ?_; (with_reducible refine (plane_within.calls a0_0 0 1099511627776 true _ A2.out).mono ?_); rintro e w' ⟨rfl, ⟨nd, rfl⟩⟩; refine ⟨_, rfl, ?_⟩) | (go_at_call 61; (with_reducible refine (plane_within.calls a0_2 1 1048576 true _ A4.out).mono ?_); rintro e w' ⟨rfl, ⟨nd, rfl⟩⟩) | (go_at_call 61; (with_reducible refine (plane_within.calls a0_1 0 31 false _ A6.out).mono ?_); rintro e w' ⟨rfl, ⟨nd, rfl⟩⟩))
        go_ret
        exact ⟨by first | rfl | (simp [errW_none, errW_some] <;> rfl) | (simp [*, errW_none, errW_some] <;> rfl), by repeat (first | (with_reducible first | exact HB.out | apply below_alloc | apply pw_below_drewN | apply below_drew1 | refine below_set ?_ GE248.out) | exact HB.out)⟩
    · replace c5 := Bool.eq_false_iff.mpr c5
      subst c5
      have H1 : (some false) = some r := by rw [if_neg (show ¬ (false = true) by decide)] at H; exact H
      clear H
      have H := H1
      clear H1
      obtain rfl := Option.some.inj H
      go_enter Try.func51, Try.ntmps51
      go_wp2_with (first | ((with_reducible refine gate_dst (N := 1) rfl ?_); refine box_event ?hg (N := 1) ?hd (cs := #[.int .i64 a0_0, .int .i64 a0_1, .int .i64 a0_2, .int .i64 a0_3]) (t := 63) ?hr ?_; (case hd => rfl); (case hg => rfl); (case hr => first | (go_simp; done) | (go_simp; rfl)); intro gb248 hg w13 hbox hb; have n0_ := Aside0.mk (below_step (by repeat (first | (with_reducible first | exact HB.out | apply below_alloc | apply pw_below_drewN | apply below_drew1) | exact HB.out)) hb); have n1_ := Aside0.mk (hbox); have n2_ := Aside0.mk ((by rw [hg]; exact (below_size (by repeat (first | (with_reducible first | exact HB.out | apply below_alloc | apply pw_below_drewN | apply below_drew1) | exact HB.out))) : w.heap.size ≤ gb248)); have n3_ := Aside0.mk ((by rw [hg]; exact (below_size (by repeat (first | (with_reducible first | exact HB.out | apply below_alloc | apply pw_below_drewN | apply below_drew1) | exact HB.out))) : w.heap.size ≤ gb248)); clear HB; have HB := n0_; have BK248 := n1_; have GW248 := n2_; have GE248 := n3_; clear n0_ n1_ n2_ n3_; clear hb hbox hg; have hcz14_0 : w13.cell? ⟨gb248, 0, none⟩ = some (.int .i64 a0_0) := (blk_cell BK248.out 0).trans rfl; have hcz14_1 : w13.cell? ⟨gb248, 1, none⟩ = some (.int .i64 a0_1) := (blk_cell BK248.out 1).trans rfl; have hcz14_2 : w13.cell? ⟨gb248, 2, none⟩ = some (.int .i64 a0_2) := (blk_cell BK248.out 2).trans rfl; have hcz14_3 : w13.cell? ⟨gb248, 3, none⟩ = some (.int .i64 a0_3) := (blk_cell BK248.out 3).trans rfl; have hfz14_0 := blk_frozen BK248.out 0; have hfz14_1 := blk_frozen BK248.out 1; have hfz14_2 := blk_frozen BK248.out 2; have hfz14_3 := blk_frozen BK248.out 3) | ((with_reducible refine gate_callee (f := 61) rfl ?_); refine goesL_ (some 5) rfl rfl Try.func61 (by kernel_rfl) rfl #[.int .i64 a0_0, .int .i64 0, .int .i64 1099511627776] rfl (by (try simp only [List.map_toArray, List.map_cons, List.map_nil]); first | done | rfl | (simp only [List.length_drop, List.length_take]; rfl)) ?_; (with_reducible refine (plane_within.calls a0_0 0 1099511627776 true _ A2.out).mono ?_); rintro e w' ⟨rfl, ⟨nd, rfl⟩⟩; refine ⟨_, rfl, ?_⟩) | (go_at_call 61; (with_reducible refine (plane_within.calls a0_2 1 1048576 false _ A4.out).mono ?_); rintro e w' ⟨rfl, ⟨nd, rfl⟩⟩))
      go_ret
      exact ⟨by first | rfl | (simp [errW_none, errW_some] <;> rfl) | (simp [*, errW_none, errW_some] <;> rfl), by repeat (first | (with_reducible first | exact HB.out | apply below_alloc | apply pw_below_drewN | apply below_drew1 | refine below_set ?_ GE248.out) | exact HB.out)⟩
  · replace c3 := Bool.eq_false_iff.mpr c3
    subst c3
    have H1 : (some false) = some r := by rw [if_neg (show ¬ (false = true) by decide)] at H; exact H
    clear H
    have H := H1
    clear H1
    obtain rfl := Option.some.inj H
    go_enter Try.func51, Try.ntmps51
    go_wp2_with (first | ((with_reducible refine gate_dst (N := 1) rfl ?_); refine box_event ?hg (N := 1) ?hd (cs := #[.int .i64 a0_0, .int .i64 a0_1, .int .i64 a0_2, .int .i64 a0_3]) (t := 63) ?hr ?_; (case hd => rfl); (case hg => rfl); (case hr => first | (go_simp; done) | (go_simp; rfl)); intro gb248 hg w15 hbox hb; have n0_ := Aside0.mk (below_step (by repeat (first | (with_reducible first | exact HB.out | apply below_alloc | apply pw_below_drewN | apply below_drew1) | exact HB.out)) hb); have n1_ := Aside0.mk (hbox); have n2_ := Aside0.mk ((by rw [hg]; exact (below_size (by repeat (first | (with_reducible first | exact HB.out | apply below_alloc | apply pw_below_drewN | apply below_drew1) | exact HB.out))) : w.heap.size ≤ gb248)); have n3_ := Aside0.mk ((by rw [hg]; exact (below_size (by repeat (first | (with_reducible first | exact HB.out | apply below_alloc | apply pw_below_drewN | apply below_drew1) | exact HB.out))) : w.heap.size ≤ gb248)); clear HB; have HB := n0_; have BK248 := n1_; have GW248 := n2_; have GE248 := n3_; clear n0_ n1_ n2_ n3_; clear hb hbox hg; have hcz16_0 : w15.cell? ⟨gb248, 0, none⟩ = some (.int .i64 a0_0) := (blk_cell BK248.out 0).trans rfl; have hcz16_1 : w15.cell? ⟨gb248, 1, none⟩ = some (.int .i64 a0_1) := (blk_cell BK248.out 1).trans rfl; have hcz16_2 : w15.cell? ⟨gb248, 2, none⟩ = some (.int .i64 a0_2) := (blk_cell BK248.out 2).trans rfl; have hcz16_3 : w15.cell? ⟨gb248, 3, none⟩ = some (.int .i64 a0_3) := (blk_cell BK248.out 3).trans rfl; have hfz16_0 := blk_frozen BK248.out 0; have hfz16_1 := blk_frozen BK248.out 1; have hfz16_2 := blk_frozen BK248.out 2; have hfz16_3 := blk_frozen BK248.out 3) | ((with_reducible refine gate_callee (f := 61) rfl ?_); refine goesL_ (some 5) rfl rfl Try.func61 (by kernel_rfl) rfl #[.int .i64 a0_0, .int .i64 0, .int .i64 1099511627776] rfl (by (try simp only [List.map_toArray, List.map_cons, List.map_nil]); first | done | rfl | (simp only [List.length_drop, List.length_take]; rfl)) ?_; (with_reducible refine (plane_within.calls a0_0 0 1099511627776 false _ A2.out).mono ?_); rintro e w' ⟨rfl, ⟨nd, rfl⟩⟩; refine ⟨_, rfl, ?_⟩))
    go_ret
    exact ⟨by first | rfl | (simp [errW_none, errW_some] <;> rfl) | (simp [*, errW_none, errW_some] <;> rfl), by repeat (first | (with_reducible first | exact HB.out | apply below_alloc | apply pw_below_drewN | apply below_drew1 | refine below_set ?_ GE248.out) | exact HB.out)⟩

end Go.Proofs.Ytkhfgflcanmefaa.PAll
end
section
namespace Go.Proofs.Ytkhfgflcanmefaa.PAll
open Go.RowKit Go.Proofs.YtkhfgflcanmefaaW.PrintWords Go.Proofs.YtkhfgflcanmefaaW.PrintLast Go.Proofs.YtkhfgflcanmefaaW.PrintMore
attribute [local go_sem] max2_int min2_int max_two min_two max_three min_three max_four min_four   -- for this text's walks alone
set_option linter.unusedVariables false
set_option linter.unusedSimpArgs false

theorem least_of (p : Nat → Prop) (h : ∃ k, p k) : ∃ k, p k ∧ ∀ j, p j → k ≤ j := by
  obtain ⟨k, hk⟩ := h
  induction k using Nat.strongRecOn with
  | _ k ih =>
    by_cases hc : ∃ j, j < k ∧ p j
    · obtain ⟨j, hj, pj⟩ := hc
      exact ih j hj pj
    · exact ⟨k, hk, fun j pj => Nat.le_of_not_lt fun hlt => hc ⟨j, hlt, pj⟩⟩
open Classical in
theorem wp_scope_ghost {P : Program} {a : Act} {w : World} {Q : Exit → Act → World → Prop} {c rest : Code} (l : Nat) (R : Nat → Act → World → Prop) (hf : findLabel c l = some (Code.skip.seq rest))
    (pass : ∀ k a w, R k a w → rest.wp P (Exit.jump l (fun a' w' => ∃ k', k' < k ∧ R k' a' w') Q) a w)
    (first : (∀ k a w, R k a w → rest.wp P (Exit.jump l (fun a' w' => ∃ k', R k' a' w') Q) a w) → c.wp P (Exit.jump l (fun a' w' => ∃ k', R k' a' w') Q) a w) : (Code.scope c).wp P Q a w := by
  refine wp_scope_jumps l (fun a' w' => ∃ k', R k' a' w') (fun a' w' => if h : ∃ k', R k' a' w' then Classical.choose (least_of _ h) else 0) hf (first ?_) ?_
  · intro k a w h
    refine wp_mono (pass k a w h) ?_
    intro e a' w' hq
    cases e <;> first | exact hq | (obtain ⟨e1, k', _, h'⟩ := hq; exact ⟨e1, k', h'⟩)
  · intro a w h
    refine wp_seq (wp_skip ?_)
    show rest.wp _ _ _ _
    refine wp_mono (pass _ a w (Classical.choose_spec (least_of _ h)).1) ?_
    intro e a' w' hq
    cases e <;> first | exact hq | skip
    obtain ⟨e1, k', hk, h'⟩ := hq
    refine ⟨e1, ⟨k', h'⟩, ?_⟩
    have h2 : ∃ k', R k' a' w' := ⟨k', h'⟩
    simp only [dif_pos h2, dif_pos h]
    exact Nat.lt_of_le_of_lt ((Classical.choose_spec (least_of _ h2)).2 _ h') hk
def bitOf (m n : Int) : Int := Go.bits .and .i64 (shr .i64 m n) 1
mutual
def plane_Rows.up : Nat → Int → Int → Int → Option Int
  | 0, _, _, _ => none
  | k + 1, t, m, n => if n < 32 then (if bitOf m n = t then plane_Rows.up k t m (n + 1) else some n) else some n
end
def plane_Rows.l : Nat → Int → Int → Int → List S63 → Int → Option (List S63)
  | 0, _, _, _, _, _ => none
  | k + 1, a0, a1, a2, out, n => (plane_Rows.up 40 0 a2 n).bind fun p => if p = 32 then some out else (plane_Rows.up 40 1 a2 p).bind fun q => plane_Rows.l k a0 a1 a2 (out ++ [(⟨a0, p, a1, q - p⟩ : S63)]) q
def plane_Rows.f (a0 a1 a2 : Int) : Option (List S63) := (plane_Good.f a0 0 a1 1).bind fun g => if g = true then plane_Rows.l 40 a0 a1 a2 [] 0 else some []
structure RowsAt (a0 a1 a2 : Int) (r : List S63) (w : World) (k : Nat) (a' : Act) (w' : World) : Prop where mk :: (out : ∃ (out : List S63) (n : Int) (v7 u3 u4 u5 u9 u10 u11 u12 u13 u14 u15 u16 u17 u18 u19 u20 u21 u22 u23 u24 u25 u26 u27 u28 u29 u30 u31 u32 u33 u34 u35 u36 u37 u38 u39 u40 u41 u42 u43 u44 u45 u46 u47 u48 u49 u50 u51 u52 : Value), a' = { tmps := #[.int .i64 a0, .int .i64 a1, .int .i64 a2, u3, u4, u5, .slice none 0 0, v7, .int .i64 n, u9, u10, u11, u12, u13, u14, u15, u16, u17, u18, u19, u20, u21, u22, u23, u24, u25, u26, u27, u28, u29, u30, u31, u32, u33, u34, u35, u36, u37, u38, u39, u40, u41, u42, u43, u44, u45, u46, u47, u48, u49, u50, u51, u52], defers := [] } ∧ 0 ≤ n ∧ n ≤ 32 ∧ out.length + k ≤ 40 ∧ plane_Rows.l k a0 a1 a2 out n = some r ∧ Kd.R k63 63 w' w.heap.size (fun _ => True) v7 out ∧ Below w.heap.size w w')
set_option maxHeartbeats 4000000 in
set_option maxRecDepth 100000 in
theorem plane_Rows.calls (a0 : Int) (a1 : Int) (a2 : Int) (r : List (S63)) (w : World) (h : plane_Rows.f a0 a1 a2 = some r) :
    Calls Try.prog 43 #[.int .i64 a0, .int .i64 a1, .int .i64 a2] w fun e w' => ∃ v0_ : Value, e = .returned (v0_) ∧ Kd.R k63 63 w' w.heap.size (fun _ => True) v0_ r ∧ Below w.heap.size w w' := by
  have hu23 := Try.underlying63
  obtain ⟨g, hg, h2⟩ := Option.bind_eq_some_iff.1 h
  have HG := Aside0.mk hg
  have H0 := Aside0.mk h2
  clear hg h2 h
  go_enter Try.func43, Try.ntmps43
  go_wp2_with (fail)
  refine wp_scope_ghost 0 (fun k a' w' => RowsAt a0 a1 a2 r w k a' w') rfl ?_ ?_
  · rintro k a' w' ⟨out, n, v7, u3, u4, u5, u9, u10, u11, u12, u13, u14, u15, u16, u17, u18, u19, u20, u21, u22, u23, u24, u25, u26, u27, u28, u29, u30, u31, u32, u33, u34, u35, u36, u37, u38, u39, u40, u41, u42, u43, u44, u45, u46, u47, u48, u49, u50, u51, u52, rfl, hn0, hn1, hlen, hl, ho, hb⟩
    cases k with
    | zero => simp [plane_Rows.l] at hl
    | succ k =>
      obtain ⟨p, hp, hl⟩ := Option.bind_eq_some_iff.1 hl
      have HL := Aside0.mk hl
      have HO := Aside0.mk ho
      have HB := Aside0.mk hb
      have HP := Aside0.mk hp
      clear hl ho hb hp
      go_wp2_with (fail)
      go_loopg [8] 40 (fun kq v8 wc => ∃ m : Int, v8 = .int .i64 m ∧ Aside0 (plane_Rows.up kq 0 a2 m = some p) ∧ Aside0 (0 ≤ m ∧ m ≤ 32) ∧ wc = w')
      case atStart => exact ⟨n, rfl, HP, ⟨hn0, hn1⟩, rfl⟩
      case round =>
        obtain ⟨m, rfl, hu, hm, rfl⟩ := hrel
        cases gk with
        | zero => exact absurd hu.out (by simp [plane_Rows.up])
        | succ k2 =>
          obtain ⟨m0, m1⟩ := hm.out
          have H := hu.out
          simp only [plane_Rows.up] at H
          by_cases c1 : m < 32
          · rw [if_pos c1] at H
            have d1 : decide (m < 32) = true := decide_eq_true c1
            have e0 := eq_true m0
            have e1 : decide (0 ≤ m) = true := decide_eq_true m0
            have hz : shr .i64 a2 m = a2 / 2 ^ m.toNat := (shr_small rfl (by have : (IntKind.i64.bits : Int) = 64 := rfl; omega)).symm
            unfold bitOf at H
            rw [hz] at H
            have f32 : (m == 32) = false := beq_eq_false_iff_ne.mpr (by omega)
            have g32 : ¬ (m = 32) := by omega
            by_cases c2 : Go.bits .and .i64 (a2 / 2 ^ m.toNat) 1 = 0
            · rw [if_pos c2] at H
              have b0 : ((Go.bits .and .i64 (a2 / 2 ^ m.toNat) 1) == 0) = true := beq_iff_eq.mpr c2
              have H' := Aside0.mk H
              clear H c1 hu hz
              go_wp2_with (fail)
              go_roundg k2
              case measure => omega
              case rel => exact ⟨m + 1, rfl, H', ⟨by omega, by omega⟩, rfl⟩
            · rw [if_neg c2] at H
              have b0 : ((Go.bits .and .i64 (a2 / 2 ^ m.toNat) 1) == 0) = false := beq_eq_false_iff_ne.mpr c2
              have HL2 := HL.out
              obtain rfl : m = p := Option.some.inj H
              rw [if_neg g32] at HL2
              obtain ⟨q, hq, HL2⟩ := Option.bind_eq_some_iff.1 HL2
              have HQ := Aside0.mk hq
              have HL3 := Aside0.mk HL2
              clear H c1 hu HL HL2 HP hz hq g32
              go_wp2_with (fail)
              clear e0 e1 b0 f32 d1
              go_loopg [8] 40 (fun kq v8 wc => ∃ m2 : Int, v8 = .int .i64 m2 ∧ Aside0 (plane_Rows.up kq 1 a2 m2 = some q) ∧ Aside0 (m ≤ m2 ∧ m2 ≤ 32) ∧ wc = wr.alloc (.cells #[.int .i64 a0, .int .i64 m, .int .i64 a1, .int .i64 0] 63 (0, 0)))
              case atStart => exact ⟨m, rfl, HQ, ⟨by omega, by omega⟩, rfl⟩
              case round =>
                obtain ⟨m2, rfl, hu2, hm2, rfl⟩ := hrel
                cases gk with
                | zero => exact absurd hu2.out (by simp [plane_Rows.up])
                | succ k3 =>
                  obtain ⟨n0, n1⟩ := hm2.out
                  have m20 : 0 ≤ m2 := by omega
                  have H := hu2.out
                  simp only [plane_Rows.up] at H
                  by_cases c1 : m2 < 32
                  · rw [if_pos c1] at H
                    have d1 : decide (m2 < 32) = true := decide_eq_true c1
                    have e0 := eq_true m20
                    have e1 : decide (0 ≤ m2) = true := decide_eq_true m20
                    have hz : shr .i64 a2 m2 = a2 / 2 ^ m2.toNat := (shr_small rfl (by have : (IntKind.i64.bits : Int) = 64 := rfl; omega)).symm
                    unfold bitOf at H
                    rw [hz] at H
                    by_cases c2 : Go.bits .and .i64 (a2 / 2 ^ m2.toNat) 1 = 1
                    · rw [if_pos c2] at H
                      have b0 : ((Go.bits .and .i64 (a2 / 2 ^ m2.toNat) 1) == 1) = true := beq_iff_eq.mpr c2
                      have H' := Aside0.mk H
                      clear H c1 hu2 hz
                      go_wp2_with (fail)
                      go_roundg k3
                      case measure => omega
                      case rel => exact ⟨m2 + 1, rfl, H', ⟨by omega, by have := of_decide_eq_true d1; omega⟩, rfl⟩
                    · rw [if_neg c2] at H
                      have b0 : ((Go.bits .and .i64 (a2 / 2 ^ m2.toNat) 1) == 1) = false := beq_eq_false_iff_ne.mpr c2
                      obtain rfl : m2 = q := Option.some.inj H
                      clear H c1 hu2 hz
                      have hwz : wrap64 (m2 - m) = m2 - m := by unfold wrap64; omega
                      go_wp2_with (first | ((with_reducible refine gate_builtin (b := .append) (xs := #[.tmp 49, .tmp 51]) rfl ?_); refine Kd.R_append k63 (w0 := w) w.heap.size rfl (.tmp 49) (.tmp 51) 43 63 (.agg #[(.int .i64 0), (.int .i64 0), (.int .i64 0), (.int .i64 0)]) 32 rfl Try.underlying43 info63 rfl (by decide) (by omega) v7 out (⟨a0, m, a1, m2 - m⟩ : S63) [.int .i64 a0, .int .i64 m, .int .i64 a1, .int .i64 (m2 - m)] (fun _ => True) (fun _ => False) rfl (congrArg (fun b_ => Value.slice (some ⟨b_, 0, none⟩) 1 1) (show wr.heap.size + 1 = (wr.alloc (.cells #[.int .i64 a0, .int .i64 m, .int .i64 a1, .int .i64 (m2 - m)] 63 (0, 0))).heap.size by simp)) ?aP (fun _ hk => hk.elim) ?aF ?aO ?aB ?aS ?aL ?_; (case aP => exact k63_mkM _ _ _ (⟨a0, m, a1, m2 - m⟩ : S63)); (case aB => exact (by repeat (first | (with_reducible first | exact HB.out | apply below_alloc | apply pw_below_drewN | apply below_drew1) | exact HB.out))); (case aF => exact (fun _ _ => trivial)); (case aO => exact (by (with_reducible repeat (first | apply Kd.R_alloc | apply Kd.R_drewN | apply Kd.R_drew)); exact HO.out)); (case aS => exact (below_size (by repeat (first | (with_reducible first | exact HB.out | apply below_alloc | apply pw_below_drewN | apply below_drew1) | exact HB.out)))); (case aL => omega); intro v165 w31 ho hb hg hat; have n0_ := Aside0.mk (hb); have n1_ := Aside0.mk (ho); clear HB; clear HO; have HB := n0_; have HO166 := n1_; clear n0_ n1_; clear ho hb hg hat))
                      go_step3
                      refine ⟨rfl, k, Nat.lt_succ_self k, ⟨out ++ [(⟨a0, m, a1, m2 - m⟩ : S63)], m2, _, _, _, _, _, _, _, _, _, _, _, _, _, _, _, _, _, _, _, _, _, _, _, _, _, _, _, _, _, _, _, _, _, _, _, _, _, _, _, _, _, _, _, _, _, _, _, _, rfl, by omega, by omega, by simp; omega, HL3.out, HO166.out, HB.out⟩⟩
                  · rw [if_neg c1] at H
                    have d1 : decide (m2 < 32) = false := decide_eq_false c1
                    obtain rfl : m2 = q := Option.some.inj H
                    clear H c1 hu2
                    have hwz : wrap64 (m2 - m) = m2 - m := by unfold wrap64; omega
                    go_wp2_with (first | ((with_reducible refine gate_builtin (b := .append) (xs := #[.tmp 49, .tmp 51]) rfl ?_); refine Kd.R_append k63 (w0 := w) w.heap.size rfl (.tmp 49) (.tmp 51) 43 63 (.agg #[(.int .i64 0), (.int .i64 0), (.int .i64 0), (.int .i64 0)]) 32 rfl Try.underlying43 info63 rfl (by decide) (by omega) v7 out (⟨a0, m, a1, m2 - m⟩ : S63) [.int .i64 a0, .int .i64 m, .int .i64 a1, .int .i64 (m2 - m)] (fun _ => True) (fun _ => False) rfl (congrArg (fun b_ => Value.slice (some ⟨b_, 0, none⟩) 1 1) (show wr.heap.size + 1 = (wr.alloc (.cells #[.int .i64 a0, .int .i64 m, .int .i64 a1, .int .i64 (m2 - m)] 63 (0, 0))).heap.size by simp)) ?aP (fun _ hk => hk.elim) ?aF ?aO ?aB ?aS ?aL ?_; (case aP => exact k63_mkM _ _ _ (⟨a0, m, a1, m2 - m⟩ : S63)); (case aB => exact (by repeat (first | (with_reducible first | exact HB.out | apply below_alloc | apply pw_below_drewN | apply below_drew1) | exact HB.out))); (case aF => exact (fun _ _ => trivial)); (case aO => exact (by (with_reducible repeat (first | apply Kd.R_alloc | apply Kd.R_drewN | apply Kd.R_drew)); exact HO.out)); (case aS => exact (below_size (by repeat (first | (with_reducible first | exact HB.out | apply below_alloc | apply pw_below_drewN | apply below_drew1) | exact HB.out)))); (case aL => omega); intro v165 w31 ho hb hg hat; have n0_ := Aside0.mk (hb); have n1_ := Aside0.mk (ho); clear HB; clear HO; have HB := n0_; have HO166 := n1_; clear n0_ n1_; clear ho hb hg hat))
                    go_step3
                    refine ⟨rfl, k, Nat.lt_succ_self k, ⟨out ++ [(⟨a0, m, a1, m2 - m⟩ : S63)], m2, _, _, _, _, _, _, _, _, _, _, _, _, _, _, _, _, _, _, _, _, _, _, _, _, _, _, _, _, _, _, _, _, _, _, _, _, _, _, _, _, _, _, _, _, _, _, _, _, rfl, by omega, by omega, by simp; omega, HL3.out, HO166.out, HB.out⟩⟩
          · rw [if_neg c1] at H
            have d1 : decide (m < 32) = false := decide_eq_false c1
            obtain rfl : m = p := Option.some.inj H
            obtain rfl : m = 32 := by omega
            have HL2 := HL.out
            rw [if_pos rfl] at HL2
            obtain rfl := Option.some.inj HL2
            clear H c1 hu HL HL2 HP
            go_wp2_with (fail)
            simp only [Exit.jump]
            go_ret
            exact ⟨_, rfl, HO.out, HB.out⟩
  · intro HR
    cases g with
    | false =>
      obtain rfl : r = [] := by simpa using H0.out.symm
      go_wp2_with (go_at_call 51; refine (plane_Good.calls a0 0 a1 1 false _ HG.out).mono ?_; rintro e w1 ⟨rfl, hb⟩)
      simp only [Exit.jump]
      go_ret
      exact ⟨_, rfl, Kd.R_nil _ _ _ _ _, hb⟩
    | true =>
      have H1 : plane_Rows.l 40 a0 a1 a2 [] 0 = some r := by simpa using H0.out
      clear H0
      go_wp2_with (go_at_call 51; refine (plane_Good.calls a0 0 a1 1 true _ HG.out).mono ?_; rintro e w1 ⟨rfl, hb⟩)
      go_step3
      go_step
      rename_i aK
      exact aK _ _ <| HR 40 _ _ ⟨[], 0, _, _, _, _, _, _, _, _, _, _, _, _, _, _, _, _, _, _, _, _, _, _, _, _, _, _, _, _, _, _, _, _, _, _, _, _, _, _, _, _, _, _, _, _, _, _, _, _, rfl, by omega, by omega, by simp, H1, Kd.R_nil _ _ _ _ _, hb⟩
end Go.Proofs.Ytkhfgflcanmefaa.PAll
end
section
namespace Go.Proofs.Ytkhfgflcanmefaa.PAll
open Go.RowKit Go.Proofs.YtkhfgflcanmefaaW.PrintWords Go.Proofs.YtkhfgflcanmefaaW.PrintLast Go.Proofs.YtkhfgflcanmefaaW.PrintMore
attribute [local go_sem] max2_int min2_int max_two min_two max_three min_three max_four min_four   -- for this text's walks alone
set_option linter.unusedVariables false
set_option linter.unusedSimpArgs false

def slices_Clip_Box.f (l0 : List (S63)) : Option (List (S63)) := some l0
theorem slices_Clip_Box.cut (A : Option Addr) (n c : Nat) (hm : n ≤ c) : ∀ W : World, (Instr.slice 43 (.slice A n c) none (some (.int .i64 (n : Int))) (some (.int .i64 (n : Int)))).run Try.prog W = .ok (.slice A n n) W := by
  intro W
  obtain ⟨i0, hi, _, hsz, _⟩ := info_parts info63
  have ha : (A.map fun x => x.add 0) = A := by cases A <;> simp [Addr.add]
  have hn : (n : Int) ≤ (c : Int) := by omega
  simp [Instr.slice, run_underlying Try.underlying43, Instr.sliceBounds, run_sliceBound, sizeOf, typeInfo, hi, Result.andThen, ha, hn]
set_option maxHeartbeats 8000000 in
set_option maxRecDepth 100000 in
theorem slices_Clip_Box.calls (P0_ : Nat → Prop) (A0 : Option Addr) (c0 : Nat) (l0 : List (S63)) (r : List (S63)) (w : World) (hs0 : Kd.V k63 63 w w.heap.size (fun k_ => P0_ k_) (.slice A0 l0.length c0) l0) (h : slices_Clip_Box.f l0 = some r) :
    Calls Try.prog 44 #[.slice A0 l0.length c0] w fun e w' => ∃ v0_ : Value, e = .returned (v0_) ∧ Kd.V k63 63 w' w.heap.size (fun k_ => (P0_ k_ ∨ w.heap.size ≤ k_)) v0_ r ∧ Below w.heap.size w w' := by
  obtain rfl := Option.some.inj h
  have HO0 := Aside0.mk (show Kd.V k63 63 w w.heap.size (fun k_ => (P0_ k_ ∨ w.heap.size ≤ k_)) (.slice A0 l0.length l0.length) l0 from Kd.V_mk (Nat.le_refl _) (Kd.F_mono (Kd.V_F hs0) (fun k_ hk => .inl hk)))
  have hc := (Kd.V_reads' hs0).2.1
  have hcut := slices_Clip_Box.cut A0 l0.length c0 hc
  clear hs0 hc
  go_enter Try.func44, Try.ntmps44
  go_wp2
  go_ret
  exact ⟨_, rfl, HO0.out, Below.refl _ _⟩
end Go.Proofs.Ytkhfgflcanmefaa.PAll
end
