/- Words, plain functions and contracts of the functions that the law of this claim reaches; no conditions. -/
import Derived.Test.YtkhfgflcanmefaaBJobEnds0
import Derived.Test.YtkhfgflcanmefaaProg
import Derived.Lib.SliceRun
import Derived.WalkLawsBesides
import Derived.Outline
import Derived.Deep.RegionWith
import Derived.Deep.CutRange
import Derived.ScopeJumps
import Derived.Scope
import Derived.WalkMore
import Derived.Laws.FloatArith
section
namespace Go.Proofs.Ytkhfgflcanmefaa.PAll
open Go.RowKit Go.Proofs.YtkhfgflcanmefaaW.PrintWords Go.Proofs.YtkhfgflcanmefaaW.PrintLast Go.Proofs.YtkhfgflcanmefaaW.PrintMore
attribute [local go_sem] max2_int min2_int max_two min_two max_three min_three max_four min_four   -- for this text's walks alone
set_option linter.unusedVariables false
set_option linter.unusedSimpArgs false



def errW : Option Int → Value
  | none => .nilIface
  | some c => .iface 0 (.int .i64 c)
theorem errW_none : errW none = .nilIface := rfl
theorem errW_some (c : Int) : errW (some c) = .iface 0 (.int .i64 c) := rfl

theorem goesV_ {P : Program} {ops : Array Oper} {Q : Exit → Act → World → Prop} {oi : Oper} {N : Option Tmp} {a : Act} {w : World} {K : Act → World → Prop} {f : FuncId} {fn : Func} {c : Operand} {as_ : Array Operand} {ts : Array TypeId} (hf : P.funcs[f]? = some fn) (hname : (fn.name == "runtime.NumGoroutine") = false) (hb : fn.body.isSome = true) (args : Array Value)
    (hw : Region.wanted oi (yielded ops a.tmps) = true) (hN : oi.dst = N) (hop : oi.op = .call { callee := .value c, args := as_, argTypes := ts }) (hargs : as_.map a.eval = args)
    (hc : a.eval c = .func (.func f) #[] #[])
    (h : Calls P f args w fun e w' => ∃ v, e = .returned v ∧ K (a.put N v) w') : if Region.wanted oi (yielded ops a.tmps) = true then Oper.wp P oi a w K Q else K (a.put N undef) w := by
  refine call_ f args hw hN ?_ h
  have he := enters_ hf hname hb args w
  unfold execOp
  simp [hop, resolve, Deferred.ofValue, invoke, hc, hargs, he]
theorem info3 : (Try.prog.info? 3).map (fun i => (i.zero, i.size, i.bytes)) = some (some (.int .i64 0), 1, 8) := by kernel_rfl
theorem info32 : (Try.prog.info? 32).map (fun i => (i.zero, i.size, i.bytes)) = some (some (.agg #[(.int .i64 0), (.int .i64 0), (.int .i64 0), (.int .i64 0), (.int .i64 0), (.int .i64 0), (.int .i64 0), (.int .i64 0), (.int .i64 0), (.int .i64 0), (.int .i64 0), (.slice none 0 0)]), 12, 112) := by kernel_rfl
theorem info59 : (Try.prog.info? 59).map (fun i => (i.zero, i.size, i.bytes)) = some (some (.agg #[(.int .i64 0), (.int .i64 0)]), 2, 16) := by kernel_rfl
theorem info63 : (Try.prog.info? 63).map (fun i => (i.zero, i.size, i.bytes)) = some (some (.agg #[(.int .i64 0), (.int .i64 0), (.int .i64 0), (.int .i64 0)]), 4, 32) := by kernel_rfl
structure SH where
  A : Option Addr
  n : Nat
  c : Nat
def SH.nil : SH := ⟨none, 0, 0⟩
def kSH : Kd SH := Kd.scalar (fun x : SH => .slice x.A x.n x.c) (fun _ => rfl)
structure S32 where
  f0 : Int
  f1 : Int
  f2 : Int
  f3 : Int
  f4 : Int
  f5 : Int
  f6 : Int
  f7 : Int
  f8 : Int
  f9 : Int
  f10 : Int
  f11 : SH
def z32 : S32 := ⟨(0 : Int), (0 : Int), (0 : Int), (0 : Int), (0 : Int), (0 : Int), (0 : Int), (0 : Int), (0 : Int), (0 : Int), (0 : Int), SH.nil⟩
def k32 : Kd S32 := Kd.iso (Kd.pair (Kd.int .i64) (Kd.pair (Kd.int .i64) (Kd.pair (Kd.int .i64) (Kd.pair (Kd.int .i64) (Kd.pair (Kd.int .i64) (Kd.pair (Kd.int .i64) (Kd.pair (Kd.int .i64) (Kd.pair (Kd.int .i64) (Kd.pair (Kd.int .i64) (Kd.pair (Kd.int .i64) (Kd.pair (Kd.int .i64) kSH))))))))))) (fun x : S32 => (x.f0, x.f1, x.f2, x.f3, x.f4, x.f5, x.f6, x.f7, x.f8, x.f9, x.f10, x.f11))
theorem k32_open {w : World} {x : S32} {cs : List Value} (h : k32.K w x cs) : cs = [.int .i64 x.f0, .int .i64 x.f1, .int .i64 x.f2, .int .i64 x.f3, .int .i64 x.f4, .int .i64 x.f5, .int .i64 x.f6, .int .i64 x.f7, .int .i64 x.f8, .int .i64 x.f9, .int .i64 x.f10, .slice x.f11.A x.f11.n x.f11.c] := by
  obtain ⟨_, _, rfl, rfl, ⟨_, _, rfl, rfl, ⟨_, _, rfl, rfl, ⟨_, _, rfl, rfl, ⟨_, _, rfl, rfl, ⟨_, _, rfl, rfl, ⟨_, _, rfl, rfl, ⟨_, _, rfl, rfl, ⟨_, _, rfl, rfl, ⟨_, _, rfl, rfl, ⟨_, _, rfl, rfl, rfl⟩⟩⟩⟩⟩⟩⟩⟩⟩⟩⟩ := h
  exact rfl
theorem k32_openM {w : World} {base : Nat} {ok : Nat → Prop} {x : S32} {cs : List Value} (h : k32.M w base ok x cs) : cs = [.int .i64 x.f0, .int .i64 x.f1, .int .i64 x.f2, .int .i64 x.f3, .int .i64 x.f4, .int .i64 x.f5, .int .i64 x.f6, .int .i64 x.f7, .int .i64 x.f8, .int .i64 x.f9, .int .i64 x.f10, .slice x.f11.A x.f11.n x.f11.c] := by
  obtain ⟨_, _, rfl, rfl, ⟨_, _, rfl, rfl, ⟨_, _, rfl, rfl, ⟨_, _, rfl, rfl, ⟨_, _, rfl, rfl, ⟨_, _, rfl, rfl, ⟨_, _, rfl, rfl, ⟨_, _, rfl, rfl, ⟨_, _, rfl, rfl, ⟨_, _, rfl, rfl, ⟨_, _, rfl, rfl, rfl⟩⟩⟩⟩⟩⟩⟩⟩⟩⟩⟩ := h
  exact rfl
theorem k32_mkM (w : World) (base : Nat) (ok : Nat → Prop) (x : S32)  : k32.M w base ok x [.int .i64 x.f0, .int .i64 x.f1, .int .i64 x.f2, .int .i64 x.f3, .int .i64 x.f4, .int .i64 x.f5, .int .i64 x.f6, .int .i64 x.f7, .int .i64 x.f8, .int .i64 x.f9, .int .i64 x.f10, .slice x.f11.A x.f11.n x.f11.c] := ⟨[.int .i64 x.f0], [.int .i64 x.f1, .int .i64 x.f2, .int .i64 x.f3, .int .i64 x.f4, .int .i64 x.f5, .int .i64 x.f6, .int .i64 x.f7, .int .i64 x.f8, .int .i64 x.f9, .int .i64 x.f10, .slice x.f11.A x.f11.n x.f11.c], rfl, rfl, ⟨[.int .i64 x.f1], [.int .i64 x.f2, .int .i64 x.f3, .int .i64 x.f4, .int .i64 x.f5, .int .i64 x.f6, .int .i64 x.f7, .int .i64 x.f8, .int .i64 x.f9, .int .i64 x.f10, .slice x.f11.A x.f11.n x.f11.c], rfl, rfl, ⟨[.int .i64 x.f2], [.int .i64 x.f3, .int .i64 x.f4, .int .i64 x.f5, .int .i64 x.f6, .int .i64 x.f7, .int .i64 x.f8, .int .i64 x.f9, .int .i64 x.f10, .slice x.f11.A x.f11.n x.f11.c], rfl, rfl, ⟨[.int .i64 x.f3], [.int .i64 x.f4, .int .i64 x.f5, .int .i64 x.f6, .int .i64 x.f7, .int .i64 x.f8, .int .i64 x.f9, .int .i64 x.f10, .slice x.f11.A x.f11.n x.f11.c], rfl, rfl, ⟨[.int .i64 x.f4], [.int .i64 x.f5, .int .i64 x.f6, .int .i64 x.f7, .int .i64 x.f8, .int .i64 x.f9, .int .i64 x.f10, .slice x.f11.A x.f11.n x.f11.c], rfl, rfl, ⟨[.int .i64 x.f5], [.int .i64 x.f6, .int .i64 x.f7, .int .i64 x.f8, .int .i64 x.f9, .int .i64 x.f10, .slice x.f11.A x.f11.n x.f11.c], rfl, rfl, ⟨[.int .i64 x.f6], [.int .i64 x.f7, .int .i64 x.f8, .int .i64 x.f9, .int .i64 x.f10, .slice x.f11.A x.f11.n x.f11.c], rfl, rfl, ⟨[.int .i64 x.f7], [.int .i64 x.f8, .int .i64 x.f9, .int .i64 x.f10, .slice x.f11.A x.f11.n x.f11.c], rfl, rfl, ⟨[.int .i64 x.f8], [.int .i64 x.f9, .int .i64 x.f10, .slice x.f11.A x.f11.n x.f11.c], rfl, rfl, ⟨[.int .i64 x.f9], [.int .i64 x.f10, .slice x.f11.A x.f11.n x.f11.c], rfl, rfl, ⟨[.int .i64 x.f10], [.slice x.f11.A x.f11.n x.f11.c], rfl, rfl, rfl⟩⟩⟩⟩⟩⟩⟩⟩⟩⟩⟩
def rd_T32 (xs : List S32) (i : Int) : S32 := xs.getD i.toNat z32
theorem at_T32 {w : World} {A : Option Addr} {n : Nat} {xs : List S32} (h : Kd.C k32 w A n xs) (i : Int) (h0 : 0 ≤ i) (h1 : i < n) : ∃ ad , A = some ad ∧ w.cell? (ad.add (i.toNat * 12)) = some (.int .i64 (rd_T32 xs i).f0) ∧ w.cell? ⟨(ad.add (i.toNat * 12)).block, (ad.add (i.toNat * 12)).off + 1, none⟩ = some (.int .i64 (rd_T32 xs i).f1) ∧ w.cell? ⟨(ad.add (i.toNat * 12)).block, (ad.add (i.toNat * 12)).off + 2, none⟩ = some (.int .i64 (rd_T32 xs i).f2) ∧ w.cell? ⟨(ad.add (i.toNat * 12)).block, (ad.add (i.toNat * 12)).off + 3, none⟩ = some (.int .i64 (rd_T32 xs i).f3) ∧ w.cell? ⟨(ad.add (i.toNat * 12)).block, (ad.add (i.toNat * 12)).off + 4, none⟩ = some (.int .i64 (rd_T32 xs i).f4) ∧ w.cell? ⟨(ad.add (i.toNat * 12)).block, (ad.add (i.toNat * 12)).off + 5, none⟩ = some (.int .i64 (rd_T32 xs i).f5) ∧ w.cell? ⟨(ad.add (i.toNat * 12)).block, (ad.add (i.toNat * 12)).off + 6, none⟩ = some (.int .i64 (rd_T32 xs i).f6) ∧ w.cell? ⟨(ad.add (i.toNat * 12)).block, (ad.add (i.toNat * 12)).off + 7, none⟩ = some (.int .i64 (rd_T32 xs i).f7) ∧ w.cell? ⟨(ad.add (i.toNat * 12)).block, (ad.add (i.toNat * 12)).off + 8, none⟩ = some (.int .i64 (rd_T32 xs i).f8) ∧ w.cell? ⟨(ad.add (i.toNat * 12)).block, (ad.add (i.toNat * 12)).off + 9, none⟩ = some (.int .i64 (rd_T32 xs i).f9) ∧ w.cell? ⟨(ad.add (i.toNat * 12)).block, (ad.add (i.toNat * 12)).off + 10, none⟩ = some (.int .i64 (rd_T32 xs i).f10) ∧ w.cell? ⟨(ad.add (i.toNat * 12)).block, (ad.add (i.toNat * 12)).off + 11, none⟩ = some (.slice (rd_T32 xs i).f11.A (rd_T32 xs i).f11.n (rd_T32 xs i).f11.c) := by
  obtain ⟨ad, c, e, _, hK, hc0⟩ := Kd.C_get h z32 i h0 h1
  have hc : ∀ j u, c[j]? = some u → w.cell? (ad.add (i.toNat * 12 + j)) = some u := hc0
  obtain rfl := k32_open hK
  exact ⟨ad, e, hc 0 _ rfl, by rw [← add_field _ _ 1 (by omega)]; exact hc 1 _ rfl, by rw [← add_field _ _ 2 (by omega)]; exact hc 2 _ rfl, by rw [← add_field _ _ 3 (by omega)]; exact hc 3 _ rfl, by rw [← add_field _ _ 4 (by omega)]; exact hc 4 _ rfl, by rw [← add_field _ _ 5 (by omega)]; exact hc 5 _ rfl, by rw [← add_field _ _ 6 (by omega)]; exact hc 6 _ rfl, by rw [← add_field _ _ 7 (by omega)]; exact hc 7 _ rfl, by rw [← add_field _ _ 8 (by omega)]; exact hc 8 _ rfl, by rw [← add_field _ _ 9 (by omega)]; exact hc 9 _ rfl, by rw [← add_field _ _ 10 (by omega)]; exact hc 10 _ rfl, by rw [← add_field _ _ 11 (by omega)]; exact hc 11 _ rfl⟩

def rd_L3 (xs : List (List Int)) (i : Int) : (List Int) := xs.getD i.toNat ([] : List Int)
structure S29 where
  f0 : Int
  f1 : Int
def z29 : S29 := ⟨(0 : Int), (0 : Int)⟩
def k29 : Kd S29 := Kd.iso (Kd.pair (Kd.int .i64) (Kd.int .i64)) (fun x : S29 => (x.f0, x.f1))
def rd_T29 (xs : List S29) (i : Int) : S29 := xs.getD i.toNat z29
def rd_L5 (xs : List (List S29)) (i : Int) : (List S29) := xs.getD i.toNat ([] : List S29)
structure S59 where
  f0 : Int
  f1 : Int
def z59 : S59 := ⟨(0 : Int), (0 : Int)⟩
def k59 : Kd S59 := Kd.iso (Kd.pair (Kd.int .i64) (Kd.int .i64)) (fun x : S59 => (x.f0, x.f1))
theorem k59_open {w : World} {x : S59} {cs : List Value} (h : k59.K w x cs) : cs = [.int .i64 x.f0, .int .i64 x.f1] := by
  obtain ⟨_, _, rfl, rfl, rfl⟩ := h
  exact rfl
theorem k59_mkM (w : World) (base : Nat) (ok : Nat → Prop) (x : S59)  : k59.M w base ok x [.int .i64 x.f0, .int .i64 x.f1] := ⟨[.int .i64 x.f0], [.int .i64 x.f1], rfl, rfl, rfl⟩
def rd_T59 (xs : List S59) (i : Int) : S59 := xs.getD i.toNat z59
theorem at_T59 {w : World} {A : Option Addr} {n : Nat} {xs : List S59} (h : Kd.C k59 w A n xs) (i : Int) (h0 : 0 ≤ i) (h1 : i < n) : ∃ ad , A = some ad ∧ w.cell? (ad.add (i.toNat * 2)) = some (.int .i64 (rd_T59 xs i).f0) ∧ w.cell? ⟨(ad.add (i.toNat * 2)).block, (ad.add (i.toNat * 2)).off + 1, none⟩ = some (.int .i64 (rd_T59 xs i).f1) := by
  obtain ⟨ad, c, e, _, hK, hc0⟩ := Kd.C_get h z59 i h0 h1
  have hc : ∀ j u, c[j]? = some u → w.cell? (ad.add (i.toNat * 2 + j)) = some u := hc0
  obtain rfl := k59_open hK
  exact ⟨ad, e, hc 0 _ rfl, by rw [← add_field _ _ 1 (by omega)]; exact hc 1 _ rfl⟩

def rd_L8 (xs : List (List S59)) (i : Int) : (List S59) := xs.getD i.toNat ([] : List S59)
structure S63 where
  f0 : Int
  f1 : Int
  f2 : Int
  f3 : Int
def z63 : S63 := ⟨(0 : Int), (0 : Int), (0 : Int), (0 : Int)⟩
def k63 : Kd S63 := Kd.iso (Kd.pair (Kd.int .i64) (Kd.pair (Kd.int .i64) (Kd.pair (Kd.int .i64) (Kd.int .i64)))) (fun x : S63 => (x.f0, x.f1, x.f2, x.f3))
theorem k63_mkM (w : World) (base : Nat) (ok : Nat → Prop) (x : S63)  : k63.M w base ok x [.int .i64 x.f0, .int .i64 x.f1, .int .i64 x.f2, .int .i64 x.f3] := ⟨[.int .i64 x.f0], [.int .i64 x.f1, .int .i64 x.f2, .int .i64 x.f3], rfl, rfl, ⟨[.int .i64 x.f1], [.int .i64 x.f2, .int .i64 x.f3], rfl, rfl, ⟨[.int .i64 x.f2], [.int .i64 x.f3], rfl, rfl, rfl⟩⟩⟩
def rd_T63 (xs : List S63) (i : Int) : S63 := xs.getD i.toNat z63
def rd_L10 (xs : List (List S63)) (i : Int) : (List S63) := xs.getD i.toNat ([] : List S63)
def g32 (x : S32) : Prop := ((Lit.int .i64 x.f0).wf = true) ∧ ((Lit.int .i64 x.f1).wf = true) ∧ ((Lit.int .i64 x.f2).wf = true) ∧ ((Lit.int .i64 x.f3).wf = true) ∧ ((Lit.int .i64 x.f4).wf = true) ∧ ((Lit.int .i64 x.f5).wf = true) ∧ ((Lit.int .i64 x.f6).wf = true) ∧ ((Lit.int .i64 x.f7).wf = true) ∧ ((Lit.int .i64 x.f8).wf = true) ∧ ((Lit.int .i64 x.f9).wf = true) ∧ ((Lit.int .i64 x.f10).wf = true) ∧ (True)
end Go.Proofs.Ytkhfgflcanmefaa.PAll
end
section
namespace Go.Proofs.Ytkhfgflcanmefaa.PAll
open Go.RowKit Go.Proofs.YtkhfgflcanmefaaW.PrintWords Go.Proofs.YtkhfgflcanmefaaW.PrintLast Go.Proofs.YtkhfgflcanmefaaW.PrintMore
attribute [local go_sem] max2_int min2_int max_two min_two max_three min_three max_four min_four   -- for this text's walks alone
set_option linter.unusedVariables false
set_option linter.unusedSimpArgs false

def Plan (is : List (Nat × Nat)) (p : Prop) : Prop := p
theorem plan_ (is : List (Nat × Nat)) {p : Prop} (h : Plan is p) : p := h
theorem planEnd_ {p : Prop} (h : p) : Plan [] p := h
section
variable {P : Program} {ops : Array Oper} {Q : Exit → Act → World → Prop} {md : Region.Mode} {S : World → Prop} {ds : List Nat} {i N : Nat} {is : List (Nat × Nat)} {oi : Oper} {v : Value} {fuel : Nat} {l : Array Bool} {a : Act} {w : World}
theorem planP_ (hi : ops[i]? = some oi) (hN : oi.dst = some N) (hc : anyB md ops l (l.setIfInBounds i true) i = true) (hQ : ∀ c a w, Q (.panic c) (a.put oi.dst v) w → Q (.panic c) a w) (hy : Yields P ops oi v a) {a' : Act} (ha : a.put (some N) v = a')
    (h : Plan is (wpAnyLast P md ops Q S ds fuel (l.setIfInBounds i true) a' w)) : Plan ((i, N) :: is) (wpAnyLast P md ops Q S ds (fuel + 1) l a w) := pure_ _ hi hN hc hQ hy ha h
theorem planT_ (hi : ops[i]? = some oi) (hN : oi.dst = some N) (hc : takeB md ops ds l (l.setIfInBounds i true) i = true) (hQ : ∀ c a w, Q (.panic c) (a.put oi.dst v) w → Q (.panic c) a w) (hy : YieldsIf P ops S oi v a) (hS : S w) {a' : Act} (ha : a.put (some N) v = a')
    (h : Plan is (wpAnyLast P md ops Q S ds fuel (l.setIfInBounds i true) a' w)) : Plan ((i, N) :: is) (wpAnyLast P md ops Q S ds (fuel + 1) l a w) := take_ _ hi hN hc hQ hy hS ha h
end

theorem mB {p q : Prop} (h : p) (f : p → q := by intro h; repeat (first | (with_reducible first | exact h | apply below_alloc | apply pw_below_drewN | apply below_drew1) | exact h)) : q := f h
theorem mK {p q : Prop} (h : p) (f : p → q := by intro h; repeat (first | (with_reducible first | exact h | apply Kept.alloc | apply Kept.drewN | apply Kept.drew) | exact h)) : q := f h
theorem mR {p q : Prop} (h : p) (f : p → q := by intro h; (with_reducible repeat (first | apply Kd.R_alloc | apply Kd.R_drewN | apply Kd.R_drew)); exact h) : q := f h
theorem mV {p q : Prop} (h : p) (f : p → q := by intro h; (with_reducible repeat (first | apply Kd.V_alloc | apply Kd.V_drewN | apply Kd.V_drew)); exact h) : q := f h
theorem oda {p : Prop} [Decidable p] (h : decide p = true := by first | (with_reducible assumption) | assumption) : p := of_decide_eq_true h
theorem ez {p : Prop} (h : p := by first | rfl | (simp; done) | (simp [*]; done)) : p := h
theorem mBs {p q : Prop} (h : p) (f : p → q := by intro h; repeat (first | (with_reducible first | exact h | apply below_alloc | apply pw_below_drewN | apply below_drew1 | refine below_set ?_ (Aside0.out (by assumption))) | exact h)) : q := f h
theorem mBK {p q : Prop} (h : p) (f : p → q := by intro h; (with_reducible repeat first | apply blk_drewN | apply blk_drew | apply blk_alloc); exact h) : q := f h
theorem mC {p q : Prop} (h : p) (f : p → q := by intro h; repeat (first | exact h | (with_reducible refine Kd.C_alloc ?_ _) | (with_reducible refine Kd.C_drewN ?_ _) | (with_reducible refine Kd.C_drew ?_))) : q := f h
theorem mt {p : Prop} (h : p := by (try simp only [List.map_toArray, List.map_cons, List.map_nil]); first | done | rfl | (simp only [List.length_drop, List.length_take]; rfl)) : p := h
theorem mH {r p q : Prop} (hy : r) (H : p) (f : r → p → q := by intro hy H; first | (rw [hy]; with_reducible exact H) | (have H2_ := (Option.bind_some _ _).symm.trans H; rw [hy]; with_reducible exact H2_) | (have H2_ := (Option.bind_some _ _).symm.trans H; with_reducible exact H2_) | with_reducible exact H | (rw [hy]; exact H) | exact H) : q := f hy H
end Go.Proofs.Ytkhfgflcanmefaa.PAll
end
section
namespace Go.Proofs.Ytkhfgflcanmefaa.PAll
open Go.RowKit Go.Proofs.YtkhfgflcanmefaaW.PrintWords Go.Proofs.YtkhfgflcanmefaaW.PrintLast Go.Proofs.YtkhfgflcanmefaaW.PrintMore
attribute [local go_sem] max2_int min2_int max_two min_two max_three min_three max_four min_four   -- for this text's walks alone
set_option linter.unusedVariables false
set_option linter.unusedSimpArgs false

def prebendref16_Held.f (a0 : Int) (a1 : Int) : Option (Int) := if a0 < 0 then (some 0) else (if a0 > a1 then (some a1) else (some a0))
set_option maxHeartbeats 8000000 in
set_option maxRecDepth 100000 in
theorem prebendref16_Held.calls (a0 : Int) (a1 : Int) (r : Int) (w : World) (h : prebendref16_Held.f a0 a1 = some r) :
    Calls Try.prog 38 #[.int .i64 a0, .int .i64 a1] w fun e w' => e = .returned (.int .i64 r) ∧ Drawn0 w w' := by
  have H : (if a0 < 0 then (some 0) else (if a0 > a1 then (some a1) else (some a0))) = some r := h
  clear h
  by_cases c3 : a0 < 0
  · rw [if_pos c3] at H
    have c3b0 : decide (a0 < 0) = true := decide_eq_true c3
    clear c3
    obtain rfl := Option.some.inj H
    go_enter Try.func38, Try.ntmps38
    go_wp2
    go_ret
    exact ⟨by first | rfl | (simp; done) | (simp [*]; done), by repeat (first | exact Drawn0.refl _ | apply Drawn0.step)⟩
  · rw [if_neg c3] at H
    have c3b0 : decide (a0 < 0) = false := decide_eq_false c3
    clear c3
    by_cases c4 : a0 > a1
    · rw [if_pos c4] at H
      have c4b0 : decide (a1 < a0) = true := decide_eq_true c4
      clear c4
      obtain rfl := Option.some.inj H
      go_enter Try.func38, Try.ntmps38
      go_wp2
      go_ret
      exact ⟨by first | rfl | (simp; done) | (simp [*]; done), by repeat (first | exact Drawn0.refl _ | apply Drawn0.step)⟩
    · rw [if_neg c4] at H
      have c4b0 : decide (a1 < a0) = false := decide_eq_false c4
      clear c4
      obtain rfl := Option.some.inj H
      go_enter Try.func38, Try.ntmps38
      go_wp2
      go_ret
      exact ⟨by first | rfl | (simp; done) | (simp [*]; done), by repeat (first | exact Drawn0.refl _ | apply Drawn0.step)⟩

end Go.Proofs.Ytkhfgflcanmefaa.PAll
end
section
namespace Go.Proofs.Ytkhfgflcanmefaa.PAll
open Go.RowKit Go.Proofs.YtkhfgflcanmefaaW.PrintWords Go.Proofs.YtkhfgflcanmefaaW.PrintLast Go.Proofs.YtkhfgflcanmefaaW.PrintMore
attribute [local go_sem] max2_int min2_int max_two min_two max_three min_three max_four min_four   -- for this text's walks alone
set_option linter.unusedVariables false
set_option linter.unusedSimpArgs false

mutual
def prebendref19_Held.l0 : Nat → List (S32) → List (S32) → Int → Option ((List (S32)))
 | 0, _, _, _ => none
 | k + 1, x0, x3, x4 => if x4 < (x0.length : Int) then (prebendref19_Held.j1 k x0 x3 x4 (decide (x4 < 24))) else (prebendref19_Held.j1 k x0 x3 x4 false)
def prebendref19_Held.j1 : Nat → List (S32) → List (S32) → Int → Bool → Option ((List (S32)))
 | 0, _, _, _, _ => none
 | k + 1, x0, x3, x4, x14 => if x14 = true then (if 0 ≤ x4 then (if x4 < (x0.length : Int) then ((prebendref16_Held.f ((rd_T32 x0 x4).f8) 1125899906842624).bind fun t195 => ((prebendref16_Held.f ((rd_T32 x0 x4).f3) 1125899906842624).bind fun t196 => (if x3.length < 1256584717458 then (prebendref19_Held.l0 k x0 (x3 ++ [(⟨(rd_T32 x0 x4).f0, (rd_T32 x0 x4).f1, (rd_T32 x0 x4).f2, t196, (rd_T32 x0 x4).f4, (rd_T32 x0 x4).f5, (rd_T32 x0 x4).f6, (rd_T32 x0 x4).f7, t195, (rd_T32 x0 x4).f9, (rd_T32 x0 x4).f10, (rd_T32 x0 x4).f11⟩ : S32)]) (wrap64 (x4 + 1))) else (none)))) else (none)) else (none)) else (some x3)
end
def prebendref19_Held.f (k : Nat) (l0 : List (S32)) : Option ((List (S32))) := prebendref19_Held.l0 k l0 (([] : List (S32))) 0
theorem prebendref19_Held.mono_l : ∀ k, (∀ y0 y1 y2, LeO (prebendref19_Held.l0 k y0 y1 y2) (prebendref19_Held.l0 (k + 1) y0 y1 y2)) ∧ (∀ y0 y1 y2 y3, LeO (prebendref19_Held.j1 k y0 y1 y2 y3) (prebendref19_Held.j1 (k + 1) y0 y1 y2 y3))
 | 0 => ⟨fun _ _ _ r h => by simp [prebendref19_Held.l0] at h, fun _ _ _ _ r h => by simp [prebendref19_Held.j1] at h⟩
 | k + 1 => by
  obtain ⟨ih0, ih1⟩ := prebendref19_Held.mono_l k
  refine ⟨?_, ?_⟩
  ·intro y0 y1 y2
   unfold prebendref19_Held.l0
   repeat' first
   | (with_reducible exact ih0 _ _ _)
   | (with_reducible exact ih1 _ _ _ _)
   | (with_reducible exact LeO.refl _)
   | (with_reducible exact LeO.none _)
   | (with_reducible refine LeO.ite ?_ ?_)
   | (with_reducible refine LeO.bind ?_ (fun _ => ?_))
   | exact ih0 _ _ _
   | exact ih1 _ _ _ _
   | exact LeO.none _
   | refine LeO.ite ?_ ?_
   | refine LeO.bind ?_ (fun _ => ?_)
  ·intro y0 y1 y2 y3
   unfold prebendref19_Held.j1
   repeat' first
   | (with_reducible exact ih0 _ _ _)
   | (with_reducible exact ih1 _ _ _ _)
   | (with_reducible exact LeO.refl _)
   | (with_reducible exact LeO.none _)
   | (with_reducible refine LeO.ite ?_ ?_)
   | (with_reducible refine LeO.bind ?_ (fun _ => ?_))
   | exact ih0 _ _ _
   | exact ih1 _ _ _ _
   | exact LeO.none _
   | refine LeO.ite ?_ ?_
   | refine LeO.bind ?_ (fun _ => ?_)
theorem prebendref19_Held.mono : ∀ a0 k, LeO (prebendref19_Held.f k a0) (prebendref19_Held.f (k + 1) a0) := by
 intro a0 k
 obtain ⟨ih0, ih1⟩ := prebendref19_Held.mono_l k
 unfold prebendref19_Held.f
 repeat' first
   | (with_reducible exact ih0 _ _ _)
   | (with_reducible exact ih1 _ _ _ _)
   | (with_reducible exact LeO.refl _)
   | (with_reducible exact LeO.none _)
   | (with_reducible refine LeO.ite ?_ ?_)
   | (with_reducible refine LeO.bind ?_ (fun _ => ?_))
   | exact ih0 _ _ _
   | exact ih1 _ _ _ _
   | exact LeO.none _
   | refine LeO.ite ?_ ?_
   | refine LeO.bind ?_ (fun _ => ?_)
def prebendref19_Held.T6 : Bool × List (List Nat × List Nat) := (true, [([], []), ([0], [0]), ([1], [1]), ([], []), ([3], [3]), ([4, 2], [4]), ([0, 1, 2, 3, 4], []), ([6, 2, 5, 0, 1, 2, 3, 4], [2, 6]), ([0, 1, 2, 3, 4, 5, 6, 7], []), ([8, 5, 7, 0, 1, 2, 3, 4, 5, 6, 7], [5, 8])])
def prebendref19_Held.B6 : List Nat := [0, 1, 3, 0, 8, 31, 31, 127, 255, 511]
theorem prebendref19_Held.tab6 : rtab .any (opsOf Try.f15 6) = prebendref19_Held.T6 := by kernel_rfl
theorem prebendref19_Held.bits6 : waitsOk prebendref19_Held.T6.2 prebendref19_Held.B6 = true := by kernel_rfl
set_option maxHeartbeats 8000000 in
set_option maxRecDepth 100000 in
theorem prebendref19_Held.calls (k : Nat) (A0 : Option Addr) (c0 : Nat) (l0 : List (S32)) (r : List (S32)) (w : World) (hr0 : Kd.C k32 w A0 l0.length l0) (hc0 : l0.length ≤ c0) (h : prebendref19_Held.f k l0 = some r) :
  Calls Try.prog 15 #[.slice A0 l0.length c0] w fun e w' => ∃ v0_ : Value, e = .returned (v0_) ∧ Kd.R k32 32 w' w.heap.size (fun _ => True) v0_ r ∧ Below w.heap.size w w' := by
 have hu32 := Try.underlying32
 have HR0 := Aside0.mk hr0
 have HC0 := Aside0.mk hc0
 clear hr0; clear hc0
 have HB := Aside0.mk (Below.refl w.heap.size w)
 have H : (prebendref19_Held.l0 k l0 (([] : List (S32))) 0) = some r := h
 clear h
 obtain ⟨y190, hy190⟩ : ∃ y_ : List (S32), y_ = (([] : List (S32))) := ⟨_, rfl⟩
 replace H : (prebendref19_Held.l0 k l0 y190 0) = some r := mH hy190 H
 have Ny190 := Aside0.mk hy190
 clear hy190
 have H' := Aside0.mk H
 clear H
 go_enter Try.func15, Try.ntmps15
 go_wp2_with (first | ((with_reducible refine gate_dst (N := 6) rfl ?_); refine Kd.R_lit k32 _ 32 ?hg (N := 6) ?hd (xs := ([] : List (S32))) (inner := []) (ok := fun _ => True) (okp := fun _ => True) ?hr ?hp (fun _ hk => hk) trivial (Below.refl _ _) (Nat.le_refl _) (by simp) ?_; (case hd => rfl); (case hg => rfl); (case hr => first | (go_simp; done) | (go_simp; rfl)); (case hp => exact (Reps.none _ _)); intro v191 w2 ho3 hb hg_ hnew_; clear hg_ hnew_; (first | rw [← Ny190.out] at ho3 | (simp only [Int.reduceToNat] at ho3; rw [← Ny190.out] at ho3)); have n0_ := Aside0.mk (Kd.R_lower ho3 (below_size (mB HB.out))); have n1_ := Aside0.mk (below_step (mB HB.out) hb); clear HB; have HO192 := n0_; have HB := n1_; clear n0_ n1_; clear hb ho3))
 go_loopg [3, 4] k (fun kq v3 v4 w' => ∃ (x3_1 : List (S32)) (x4_1 : Int), v4 = .int .i64 x4_1 ∧ Aside0 (prebendref19_Held.l0 kq l0 x3_1 x4_1 = some r) ∧ Aside0 (kq ≤ k) ∧ Aside0 (Kd.R k32 32 w' w.heap.size (fun _ => True) v3 x3_1) ∧ Aside0 (Below w.heap.size w w'))
 case atStart => exact ⟨(y190), (0), ez, H', ⟨Nat.le_refl _⟩, ⟨mR HO192.out⟩, ⟨mB HB.out⟩⟩
 case round =>
  clear H'
  (try clear c1); (try clear p2)
  obtain ⟨x3_1, x4_1, rfl, HA, HK1, HO_3, HB⟩ := hrel
  cases gk with
  | zero => exact absurd HA.out (by simp [prebendref19_Held.l0])
  | succ k1 =>
   have H := HA.out
   clear HA
   simp only [prebendref19_Held.l0] at H
   have HC4 := Aside0.mk H
   clear H
   go_upto_region 3 with (fail)
   go_cut [14] (fun v14 wc => ∃ (kq : Nat) (x14_3 : Bool), v14 = .bool x14_3 ∧ Aside0 (prebendref19_Held.j1 kq l0 x3_1 x4_1 x14_3 = some r) ∧ Aside0 (kq ≤ k1) ∧ Aside0 (Kd.R k32 32 wc w.heap.size (fun _ => True) u3 x3_1) ∧ Aside0 (Below w.heap.size w wc))
   case first =>
    have H := HC4.out
    clear HC4
    by_cases c5 : x4_1 < (l0.length : Int)
    ·rw [if_pos c5] at H
     have c5b0 : decide (x4_1 < (l0.length : Int)) = true := decide_eq_true c5
     clear c5
     (first | rw [c5b0] | (simp only [i64_w, i32_w]; rw [c5b0]) | skip)
     have H' := Aside0.mk H
     clear H
     go_wp2
     go_meet
     case rel => exact ⟨_, (decide (x4_1 < 24)), ez, H', ⟨by have := HK1.out; first | omega | exact Nat.le_refl _⟩, ⟨mR HO_3.out⟩, ⟨mB HB.out⟩⟩
    ·rw [if_neg c5] at H
     have c5b0 : decide (x4_1 < (l0.length : Int)) = false := decide_eq_false c5
     clear c5
     (first | rw [c5b0] | (simp only [i64_w, i32_w]; rw [c5b0]) | skip)
     have H' := Aside0.mk H
     clear H
     go_wp2
     go_meet
     case rel => exact ⟨_, (false), ez, H', ⟨by have := HK1.out; first | omega | exact Nat.le_refl _⟩, ⟨mR HO_3.out⟩, ⟨mB HB.out⟩⟩
   case rest =>
    clear HC4
    (try clear c1); (try clear p2); (try clear c5); (try clear c5b0); (try clear p2)
    obtain ⟨kq, x14_3, rfl, HA, HJ3, HO_3, HB⟩ := hcut
    cases kq with
    | zero => exact absurd HA.out (by simp [prebendref19_Held.j1])
    | succ kj3 =>
     have H := HA.out
     clear HA
     simp only [prebendref19_Held.j1] at H
     by_cases c6 : x14_3 = true
     ·subst c6
      have H1 : (if 0 ≤ x4_1 then (if x4_1 < (l0.length : Int) then ((prebendref16_Held.f ((rd_T32 l0 x4_1).f8) 1125899906842624).bind fun t195 => ((prebendref16_Held.f ((rd_T32 l0 x4_1).f3) 1125899906842624).bind fun t196 => (if x3_1.length < 1256584717458 then (prebendref19_Held.l0 kj3 l0 (x3_1 ++ [(⟨(rd_T32 l0 x4_1).f0, (rd_T32 l0 x4_1).f1, (rd_T32 l0 x4_1).f2, t196, (rd_T32 l0 x4_1).f4, (rd_T32 l0 x4_1).f5, (rd_T32 l0 x4_1).f6, (rd_T32 l0 x4_1).f7, t195, (rd_T32 l0 x4_1).f9, (rd_T32 l0 x4_1).f10, (rd_T32 l0 x4_1).f11⟩ : S32)]) (wrap64 (x4_1 + 1))) else (none)))) else (none)) else (none)) = some r := by rw [if_pos rfl] at H; exact H
      clear H
      have H := H1
      clear H1
      by_cases c7 : 0 ≤ x4_1
      ·rw [if_pos c7] at H
       have c7b0 : decide (0 ≤ x4_1) = true := decide_eq_true c7
       clear c7
       by_cases c8 : x4_1 < (l0.length : Int)
       ·rw [if_pos c8] at H
        have c8b0 : decide (x4_1 < (l0.length : Int)) = true := decide_eq_true c8
        clear c8
        replace H := Option.bind_eq_some_iff.mp H
        obtain ⟨t195, A90, H⟩ := H
        replace H : ((prebendref16_Held.f ((rd_T32 l0 x4_1).f3) 1125899906842624).bind fun t196 => (if x3_1.length < 1256584717458 then (prebendref19_Held.l0 kj3 l0 (x3_1 ++ [(⟨(rd_T32 l0 x4_1).f0, (rd_T32 l0 x4_1).f1, (rd_T32 l0 x4_1).f2, t196, (rd_T32 l0 x4_1).f4, (rd_T32 l0 x4_1).f5, (rd_T32 l0 x4_1).f6, (rd_T32 l0 x4_1).f7, t195, (rd_T32 l0 x4_1).f9, (rd_T32 l0 x4_1).f10, (rd_T32 l0 x4_1).f11⟩ : S32)]) (wrap64 (x4_1 + 1))) else (none))) = some r := H
        have A9 := Aside0.mk A90
        clear A90
        replace H := Option.bind_eq_some_iff.mp H
        obtain ⟨t196, A100, H⟩ := H
        replace H : (if x3_1.length < 1256584717458 then (prebendref19_Held.l0 kj3 l0 (x3_1 ++ [(⟨(rd_T32 l0 x4_1).f0, (rd_T32 l0 x4_1).f1, (rd_T32 l0 x4_1).f2, t196, (rd_T32 l0 x4_1).f4, (rd_T32 l0 x4_1).f5, (rd_T32 l0 x4_1).f6, (rd_T32 l0 x4_1).f7, t195, (rd_T32 l0 x4_1).f9, (rd_T32 l0 x4_1).f10, (rd_T32 l0 x4_1).f11⟩ : S32)]) (wrap64 (x4_1 + 1))) else (none)) = some r := H
        have A10 := Aside0.mk A100
        clear A100
        by_cases c11 : x3_1.length < 1256584717458
        ·rw [if_pos c11] at H
         have LMc11 := Aside0.mk c11
         clear c11
         obtain ⟨y197, hy197⟩ : ∃ y_ : List (S32), y_ = (x3_1 ++ [(⟨(rd_T32 l0 x4_1).f0, (rd_T32 l0 x4_1).f1, (rd_T32 l0 x4_1).f2, t196, (rd_T32 l0 x4_1).f4, (rd_T32 l0 x4_1).f5, (rd_T32 l0 x4_1).f6, (rd_T32 l0 x4_1).f7, t195, (rd_T32 l0 x4_1).f9, (rd_T32 l0 x4_1).f10, (rd_T32 l0 x4_1).f11⟩ : S32)]) := ⟨_, rfl⟩
         replace H : (prebendref19_Held.l0 kj3 l0 y197 (wrap64 (x4_1 + 1))) = some r := mH hy197 H
         have Ny197 := Aside0.mk hy197
         clear hy197
         have H' := Aside0.mk H
         clear H
         have p193 : 0 ≤ (x4_1 : Int) := oda
         have q193 : x4_1 < (l0.length : Int) := oda
         obtain ⟨ad193, e193, hx193_0, hx193_1, hx193_2, hx193_3, hx193_4, hx193_5, hx193_6, hx193_7, hx193_8, hx193_9, hx193_10, hx193_11⟩ := at_T32 HR0.out x4_1 p193 q193
         cases e193
         replace hx193_0 := (HB.out.cell (World.block_lt_of_cell? w _ hx193_0)).trans hx193_0
         replace hx193_1 := (HB.out.cell (World.block_lt_of_cell? w _ hx193_1)).trans hx193_1
         replace hx193_2 := (HB.out.cell (World.block_lt_of_cell? w _ hx193_2)).trans hx193_2
         replace hx193_3 := (HB.out.cell (World.block_lt_of_cell? w _ hx193_3)).trans hx193_3
         replace hx193_4 := (HB.out.cell (World.block_lt_of_cell? w _ hx193_4)).trans hx193_4
         replace hx193_5 := (HB.out.cell (World.block_lt_of_cell? w _ hx193_5)).trans hx193_5
         replace hx193_6 := (HB.out.cell (World.block_lt_of_cell? w _ hx193_6)).trans hx193_6
         replace hx193_7 := (HB.out.cell (World.block_lt_of_cell? w _ hx193_7)).trans hx193_7
         replace hx193_8 := (HB.out.cell (World.block_lt_of_cell? w _ hx193_8)).trans hx193_8
         replace hx193_9 := (HB.out.cell (World.block_lt_of_cell? w _ hx193_9)).trans hx193_9
         replace hx193_10 := (HB.out.cell (World.block_lt_of_cell? w _ hx193_10)).trans hx193_10
         replace hx193_11 := (HB.out.cell (World.block_lt_of_cell? w _ hx193_11)).trans hx193_11
         replace p193 := eq_true p193
         replace q193 := eq_true q193
         try go_wp2_with (first | ((with_reducible refine gate_dst (N := 5) rfl ?_); refine box_event ?hg (N := 5) ?hd (cs := #[.int .i64 0, .int .i64 0, .int .i64 0, .int .i64 0, .int .i64 0, .int .i64 0, .int .i64 0, .int .i64 0, .int .i64 0, .int .i64 0, .int .i64 0, .slice none 0 0]) (t := 32) ?hr ?_; (case hd => rfl); (case hg => rfl); (case hr => first | (go_simp; done) | (go_simp; rfl)); intro gb194 hg w12 hbox hb; have n0_ := Aside0.mk (Kd.R_below (Kd.R_elderB (mR HO_3.out) gb194 (Nat.le_of_eq hg.symm)) hb); have n1_ := Aside0.mk (below_step (mB HB.out) hb); have n2_ := Aside0.mk (hbox); have n3_ := Aside0.mk ((by rw [hg]; exact (below_size (mB HB.out)) : w.heap.size ≤ gb194)); have n4_ := Aside0.mk ((by rw [hg]; exact (below_size (mB HB.out)) : w.heap.size ≤ gb194)); clear HO_3; clear HB; have HO_3 := n0_; have HB := n1_; have BK194 := n2_; have GW194 := n3_; have GE194 := n4_; clear n0_ n1_ n2_ n3_ n4_; clear hb hbox hg; have hcz13_0 : w12.cell? ⟨gb194, 0, none⟩ = some (.int .i64 0) := (blk_cell BK194.out 0).trans rfl; have hcz13_1 : w12.cell? ⟨gb194, 1, none⟩ = some (.int .i64 0) := (blk_cell BK194.out 1).trans rfl; have hcz13_2 : w12.cell? ⟨gb194, 2, none⟩ = some (.int .i64 0) := (blk_cell BK194.out 2).trans rfl; have hcz13_3 : w12.cell? ⟨gb194, 3, none⟩ = some (.int .i64 0) := (blk_cell BK194.out 3).trans rfl; have hcz13_4 : w12.cell? ⟨gb194, 4, none⟩ = some (.int .i64 0) := (blk_cell BK194.out 4).trans rfl; have hcz13_5 : w12.cell? ⟨gb194, 5, none⟩ = some (.int .i64 0) := (blk_cell BK194.out 5).trans rfl; have hcz13_6 : w12.cell? ⟨gb194, 6, none⟩ = some (.int .i64 0) := (blk_cell BK194.out 6).trans rfl; have hcz13_7 : w12.cell? ⟨gb194, 7, none⟩ = some (.int .i64 0) := (blk_cell BK194.out 7).trans rfl; have hcz13_8 : w12.cell? ⟨gb194, 8, none⟩ = some (.int .i64 0) := (blk_cell BK194.out 8).trans rfl; have hcz13_9 : w12.cell? ⟨gb194, 9, none⟩ = some (.int .i64 0) := (blk_cell BK194.out 9).trans rfl; have hcz13_10 : w12.cell? ⟨gb194, 10, none⟩ = some (.int .i64 0) := (blk_cell BK194.out 10).trans rfl; have hcz13_11 : w12.cell? ⟨gb194, 11, none⟩ = some (.slice none 0 0) := (blk_cell BK194.out 11).trans rfl; have hfz13_0 := blk_frozen BK194.out 0; have hfz13_1 := blk_frozen BK194.out 1; have hfz13_2 := blk_frozen BK194.out 2; have hfz13_3 := blk_frozen BK194.out 3; have hfz13_4 := blk_frozen BK194.out 4; have hfz13_5 := blk_frozen BK194.out 5; have hfz13_6 := blk_frozen BK194.out 6; have hfz13_7 := blk_frozen BK194.out 7; have hfz13_8 := blk_frozen BK194.out 8; have hfz13_9 := blk_frozen BK194.out 9; have hfz13_10 := blk_frozen BK194.out 10; have hfz13_11 := blk_frozen BK194.out 11))
         have n0_ : Aside0 (Kd.R k32 32 ((((((((((((w12.setCell ⟨gb194, 0, none⟩ (.int .i64 ((rd_T32 l0 x4_1).f0))).setCell ⟨gb194, 1, none⟩ (.int .i64 ((rd_T32 l0 x4_1).f1))).setCell ⟨gb194, 2, none⟩ (.int .i64 ((rd_T32 l0 x4_1).f2))).setCell ⟨gb194, 3, none⟩ (.int .i64 ((rd_T32 l0 x4_1).f3))).setCell ⟨gb194, 4, none⟩ (.int .i64 ((rd_T32 l0 x4_1).f4))).setCell ⟨gb194, 5, none⟩ (.int .i64 ((rd_T32 l0 x4_1).f5))).setCell ⟨gb194, 6, none⟩ (.int .i64 ((rd_T32 l0 x4_1).f6))).setCell ⟨gb194, 7, none⟩ (.int .i64 ((rd_T32 l0 x4_1).f7))).setCell ⟨gb194, 8, none⟩ (.int .i64 ((rd_T32 l0 x4_1).f8))).setCell ⟨gb194, 9, none⟩ (.int .i64 ((rd_T32 l0 x4_1).f9))).setCell ⟨gb194, 10, none⟩ (.int .i64 ((rd_T32 l0 x4_1).f10))).setCell ⟨gb194, 11, none⟩ (.slice ((rd_T32 l0 x4_1).f11).A ((rd_T32 l0 x4_1).f11).n ((rd_T32 l0 x4_1).f11).c)) w.heap.size (fun k_ => k_ ≠ gb194) u3 x3_1) := ⟨by (with_reducible repeat (first | apply Kd.R_alloc | apply Kd.R_drewN | apply Kd.R_drew)); exact Kd.R_mono (Kd.R_fa gb194 11 (Kd.R_fa gb194 10 (Kd.R_fa gb194 9 (Kd.R_fa gb194 8 (Kd.R_fa gb194 7 (Kd.R_fa gb194 6 (Kd.R_fa gb194 5 (Kd.R_fa gb194 4 (Kd.R_fa gb194 3 (Kd.R_fa gb194 2 (Kd.R_fa gb194 1 (Kd.R_fa gb194 0 (Kd.R_mono HO_3.out (fun k_ hk => (⟨hk, hk.2⟩ : _ ∧ k_ ≠ gb194))) (.int .i64 ((rd_T32 l0 x4_1).f0))) (.int .i64 ((rd_T32 l0 x4_1).f1))) (.int .i64 ((rd_T32 l0 x4_1).f2))) (.int .i64 ((rd_T32 l0 x4_1).f3))) (.int .i64 ((rd_T32 l0 x4_1).f4))) (.int .i64 ((rd_T32 l0 x4_1).f5))) (.int .i64 ((rd_T32 l0 x4_1).f6))) (.int .i64 ((rd_T32 l0 x4_1).f7))) (.int .i64 ((rd_T32 l0 x4_1).f8))) (.int .i64 ((rd_T32 l0 x4_1).f9))) (.int .i64 ((rd_T32 l0 x4_1).f10))) (.slice ((rd_T32 l0 x4_1).f11).A ((rd_T32 l0 x4_1).f11).n ((rd_T32 l0 x4_1).f11).c)) (fun _ hk => hk.1.2)⟩
         have n1_ : Aside0 (((((((((((((w12.setCell ⟨gb194, 0, none⟩ (.int .i64 ((rd_T32 l0 x4_1).f0))).setCell ⟨gb194, 1, none⟩ (.int .i64 ((rd_T32 l0 x4_1).f1))).setCell ⟨gb194, 2, none⟩ (.int .i64 ((rd_T32 l0 x4_1).f2))).setCell ⟨gb194, 3, none⟩ (.int .i64 ((rd_T32 l0 x4_1).f3))).setCell ⟨gb194, 4, none⟩ (.int .i64 ((rd_T32 l0 x4_1).f4))).setCell ⟨gb194, 5, none⟩ (.int .i64 ((rd_T32 l0 x4_1).f5))).setCell ⟨gb194, 6, none⟩ (.int .i64 ((rd_T32 l0 x4_1).f6))).setCell ⟨gb194, 7, none⟩ (.int .i64 ((rd_T32 l0 x4_1).f7))).setCell ⟨gb194, 8, none⟩ (.int .i64 ((rd_T32 l0 x4_1).f8))).setCell ⟨gb194, 9, none⟩ (.int .i64 ((rd_T32 l0 x4_1).f9))).setCell ⟨gb194, 10, none⟩ (.int .i64 ((rd_T32 l0 x4_1).f10))).setCell ⟨gb194, 11, none⟩ (.slice ((rd_T32 l0 x4_1).f11).A ((rd_T32 l0 x4_1).f11).n ((rd_T32 l0 x4_1).f11).c)).heap[gb194]? = some (.cells #[.int .i64 ((rd_T32 l0 x4_1).f0), .int .i64 ((rd_T32 l0 x4_1).f1), .int .i64 ((rd_T32 l0 x4_1).f2), .int .i64 ((rd_T32 l0 x4_1).f3), .int .i64 ((rd_T32 l0 x4_1).f4), .int .i64 ((rd_T32 l0 x4_1).f5), .int .i64 ((rd_T32 l0 x4_1).f6), .int .i64 ((rd_T32 l0 x4_1).f7), .int .i64 ((rd_T32 l0 x4_1).f8), .int .i64 ((rd_T32 l0 x4_1).f9), .int .i64 ((rd_T32 l0 x4_1).f10), .slice ((rd_T32 l0 x4_1).f11).A ((rd_T32 l0 x4_1).f11).n ((rd_T32 l0 x4_1).f11).c] 32 (0, 0))) := ⟨by (with_reducible repeat first | apply blk_drewN | apply blk_drew | apply blk_alloc); refine blk_put (cs := #[.int .i64 ((rd_T32 l0 x4_1).f0), .int .i64 ((rd_T32 l0 x4_1).f1), .int .i64 ((rd_T32 l0 x4_1).f2), .int .i64 ((rd_T32 l0 x4_1).f3), .int .i64 ((rd_T32 l0 x4_1).f4), .int .i64 ((rd_T32 l0 x4_1).f5), .int .i64 ((rd_T32 l0 x4_1).f6), .int .i64 ((rd_T32 l0 x4_1).f7), .int .i64 ((rd_T32 l0 x4_1).f8), .int .i64 ((rd_T32 l0 x4_1).f9), .int .i64 ((rd_T32 l0 x4_1).f10), .slice none 0 0]) ?_ 11 _ rfl; (with_reducible repeat first | apply blk_drewN | apply blk_drew | apply blk_alloc); refine blk_put (cs := #[.int .i64 ((rd_T32 l0 x4_1).f0), .int .i64 ((rd_T32 l0 x4_1).f1), .int .i64 ((rd_T32 l0 x4_1).f2), .int .i64 ((rd_T32 l0 x4_1).f3), .int .i64 ((rd_T32 l0 x4_1).f4), .int .i64 ((rd_T32 l0 x4_1).f5), .int .i64 ((rd_T32 l0 x4_1).f6), .int .i64 ((rd_T32 l0 x4_1).f7), .int .i64 ((rd_T32 l0 x4_1).f8), .int .i64 ((rd_T32 l0 x4_1).f9), .int .i64 0, .slice none 0 0]) ?_ 10 _ rfl; (with_reducible repeat first | apply blk_drewN | apply blk_drew | apply blk_alloc); refine blk_put (cs := #[.int .i64 ((rd_T32 l0 x4_1).f0), .int .i64 ((rd_T32 l0 x4_1).f1), .int .i64 ((rd_T32 l0 x4_1).f2), .int .i64 ((rd_T32 l0 x4_1).f3), .int .i64 ((rd_T32 l0 x4_1).f4), .int .i64 ((rd_T32 l0 x4_1).f5), .int .i64 ((rd_T32 l0 x4_1).f6), .int .i64 ((rd_T32 l0 x4_1).f7), .int .i64 ((rd_T32 l0 x4_1).f8), .int .i64 0, .int .i64 0, .slice none 0 0]) ?_ 9 _ rfl; (with_reducible repeat first | apply blk_drewN | apply blk_drew | apply blk_alloc); refine blk_put (cs := #[.int .i64 ((rd_T32 l0 x4_1).f0), .int .i64 ((rd_T32 l0 x4_1).f1), .int .i64 ((rd_T32 l0 x4_1).f2), .int .i64 ((rd_T32 l0 x4_1).f3), .int .i64 ((rd_T32 l0 x4_1).f4), .int .i64 ((rd_T32 l0 x4_1).f5), .int .i64 ((rd_T32 l0 x4_1).f6), .int .i64 ((rd_T32 l0 x4_1).f7), .int .i64 0, .int .i64 0, .int .i64 0, .slice none 0 0]) ?_ 8 _ rfl; (with_reducible repeat first | apply blk_drewN | apply blk_drew | apply blk_alloc); refine blk_put (cs := #[.int .i64 ((rd_T32 l0 x4_1).f0), .int .i64 ((rd_T32 l0 x4_1).f1), .int .i64 ((rd_T32 l0 x4_1).f2), .int .i64 ((rd_T32 l0 x4_1).f3), .int .i64 ((rd_T32 l0 x4_1).f4), .int .i64 ((rd_T32 l0 x4_1).f5), .int .i64 ((rd_T32 l0 x4_1).f6), .int .i64 0, .int .i64 0, .int .i64 0, .int .i64 0, .slice none 0 0]) ?_ 7 _ rfl; (with_reducible repeat first | apply blk_drewN | apply blk_drew | apply blk_alloc); refine blk_put (cs := #[.int .i64 ((rd_T32 l0 x4_1).f0), .int .i64 ((rd_T32 l0 x4_1).f1), .int .i64 ((rd_T32 l0 x4_1).f2), .int .i64 ((rd_T32 l0 x4_1).f3), .int .i64 ((rd_T32 l0 x4_1).f4), .int .i64 ((rd_T32 l0 x4_1).f5), .int .i64 0, .int .i64 0, .int .i64 0, .int .i64 0, .int .i64 0, .slice none 0 0]) ?_ 6 _ rfl; (with_reducible repeat first | apply blk_drewN | apply blk_drew | apply blk_alloc); refine blk_put (cs := #[.int .i64 ((rd_T32 l0 x4_1).f0), .int .i64 ((rd_T32 l0 x4_1).f1), .int .i64 ((rd_T32 l0 x4_1).f2), .int .i64 ((rd_T32 l0 x4_1).f3), .int .i64 ((rd_T32 l0 x4_1).f4), .int .i64 0, .int .i64 0, .int .i64 0, .int .i64 0, .int .i64 0, .int .i64 0, .slice none 0 0]) ?_ 5 _ rfl; (with_reducible repeat first | apply blk_drewN | apply blk_drew | apply blk_alloc); refine blk_put (cs := #[.int .i64 ((rd_T32 l0 x4_1).f0), .int .i64 ((rd_T32 l0 x4_1).f1), .int .i64 ((rd_T32 l0 x4_1).f2), .int .i64 ((rd_T32 l0 x4_1).f3), .int .i64 0, .int .i64 0, .int .i64 0, .int .i64 0, .int .i64 0, .int .i64 0, .int .i64 0, .slice none 0 0]) ?_ 4 _ rfl; (with_reducible repeat first | apply blk_drewN | apply blk_drew | apply blk_alloc); refine blk_put (cs := #[.int .i64 ((rd_T32 l0 x4_1).f0), .int .i64 ((rd_T32 l0 x4_1).f1), .int .i64 ((rd_T32 l0 x4_1).f2), .int .i64 0, .int .i64 0, .int .i64 0, .int .i64 0, .int .i64 0, .int .i64 0, .int .i64 0, .int .i64 0, .slice none 0 0]) ?_ 3 _ rfl; (with_reducible repeat first | apply blk_drewN | apply blk_drew | apply blk_alloc); refine blk_put (cs := #[.int .i64 ((rd_T32 l0 x4_1).f0), .int .i64 ((rd_T32 l0 x4_1).f1), .int .i64 0, .int .i64 0, .int .i64 0, .int .i64 0, .int .i64 0, .int .i64 0, .int .i64 0, .int .i64 0, .int .i64 0, .slice none 0 0]) ?_ 2 _ rfl; (with_reducible repeat first | apply blk_drewN | apply blk_drew | apply blk_alloc); refine blk_put (cs := #[.int .i64 ((rd_T32 l0 x4_1).f0), .int .i64 0, .int .i64 0, .int .i64 0, .int .i64 0, .int .i64 0, .int .i64 0, .int .i64 0, .int .i64 0, .int .i64 0, .int .i64 0, .slice none 0 0]) ?_ 1 _ rfl; (with_reducible repeat first | apply blk_drewN | apply blk_drew | apply blk_alloc); refine blk_put (cs := #[.int .i64 0, .int .i64 0, .int .i64 0, .int .i64 0, .int .i64 0, .int .i64 0, .int .i64 0, .int .i64 0, .int .i64 0, .int .i64 0, .int .i64 0, .slice none 0 0]) ?_ 0 _ rfl; (with_reducible repeat first | apply blk_drewN | apply blk_drew | apply blk_alloc); exact BK194.out⟩
         have n2_ : Aside0 (Below w.heap.size w ((((((((((((w12.setCell ⟨gb194, 0, none⟩ (.int .i64 ((rd_T32 l0 x4_1).f0))).setCell ⟨gb194, 1, none⟩ (.int .i64 ((rd_T32 l0 x4_1).f1))).setCell ⟨gb194, 2, none⟩ (.int .i64 ((rd_T32 l0 x4_1).f2))).setCell ⟨gb194, 3, none⟩ (.int .i64 ((rd_T32 l0 x4_1).f3))).setCell ⟨gb194, 4, none⟩ (.int .i64 ((rd_T32 l0 x4_1).f4))).setCell ⟨gb194, 5, none⟩ (.int .i64 ((rd_T32 l0 x4_1).f5))).setCell ⟨gb194, 6, none⟩ (.int .i64 ((rd_T32 l0 x4_1).f6))).setCell ⟨gb194, 7, none⟩ (.int .i64 ((rd_T32 l0 x4_1).f7))).setCell ⟨gb194, 8, none⟩ (.int .i64 ((rd_T32 l0 x4_1).f8))).setCell ⟨gb194, 9, none⟩ (.int .i64 ((rd_T32 l0 x4_1).f9))).setCell ⟨gb194, 10, none⟩ (.int .i64 ((rd_T32 l0 x4_1).f10))).setCell ⟨gb194, 11, none⟩ (.slice ((rd_T32 l0 x4_1).f11).A ((rd_T32 l0 x4_1).f11).n ((rd_T32 l0 x4_1).f11).c))) := ⟨mBs HB.out⟩
         (try clear HO_3); (try clear BK194); (try clear HB)
         generalize ((((((((((((w12.setCell ⟨gb194, 0, none⟩ (.int .i64 ((rd_T32 l0 x4_1).f0))).setCell ⟨gb194, 1, none⟩ (.int .i64 ((rd_T32 l0 x4_1).f1))).setCell ⟨gb194, 2, none⟩ (.int .i64 ((rd_T32 l0 x4_1).f2))).setCell ⟨gb194, 3, none⟩ (.int .i64 ((rd_T32 l0 x4_1).f3))).setCell ⟨gb194, 4, none⟩ (.int .i64 ((rd_T32 l0 x4_1).f4))).setCell ⟨gb194, 5, none⟩ (.int .i64 ((rd_T32 l0 x4_1).f5))).setCell ⟨gb194, 6, none⟩ (.int .i64 ((rd_T32 l0 x4_1).f6))).setCell ⟨gb194, 7, none⟩ (.int .i64 ((rd_T32 l0 x4_1).f7))).setCell ⟨gb194, 8, none⟩ (.int .i64 ((rd_T32 l0 x4_1).f8))).setCell ⟨gb194, 9, none⟩ (.int .i64 ((rd_T32 l0 x4_1).f9))).setCell ⟨gb194, 10, none⟩ (.int .i64 ((rd_T32 l0 x4_1).f10))).setCell ⟨gb194, 11, none⟩ (.slice ((rd_T32 l0 x4_1).f11).A ((rd_T32 l0 x4_1).f11).n ((rd_T32 l0 x4_1).f11).c)) = w14 at n0_ n1_ n2_ ⊢
         have HO_3 := n0_
         have BK194 := n1_
         have HB := n2_
         clear n0_; clear n1_; clear n2_
         have n0_ := Aside0.mk (Kd.R_drew HO_3.out)
         have n1_ := Aside0.mk (blk_drew BK194.out)
         have n2_ := Aside0.mk (below_drew1 HB.out)
         clear HO_3; clear BK194; clear HB
         have HO_3 := n0_
         have BK194 := n1_
         have HB := n2_
         clear n0_; clear n1_; clear n2_
         refine start_ (n := 10) (S := fun w' => w'.cell? ⟨gb194, 0, none⟩ = some (.int .i64 ((rd_T32 l0 x4_1).f0)) ∧ w'.cell? ⟨gb194, 1, none⟩ = some (.int .i64 ((rd_T32 l0 x4_1).f1)) ∧ w'.cell? ⟨gb194, 2, none⟩ = some (.int .i64 ((rd_T32 l0 x4_1).f2)) ∧ w'.cell? ⟨gb194, 3, none⟩ = some (.int .i64 ((rd_T32 l0 x4_1).f3)) ∧ w'.cell? ⟨gb194, 4, none⟩ = some (.int .i64 ((rd_T32 l0 x4_1).f4)) ∧ w'.cell? ⟨gb194, 5, none⟩ = some (.int .i64 ((rd_T32 l0 x4_1).f5)) ∧ w'.cell? ⟨gb194, 6, none⟩ = some (.int .i64 ((rd_T32 l0 x4_1).f6)) ∧ w'.cell? ⟨gb194, 7, none⟩ = some (.int .i64 ((rd_T32 l0 x4_1).f7)) ∧ w'.cell? ⟨gb194, 8, none⟩ = some (.int .i64 ((rd_T32 l0 x4_1).f8)) ∧ w'.cell? ⟨gb194, 9, none⟩ = some (.int .i64 ((rd_T32 l0 x4_1).f9)) ∧ w'.cell? ⟨gb194, 10, none⟩ = some (.int .i64 ((rd_T32 l0 x4_1).f10)) ∧ w'.cell? ⟨gb194, 11, none⟩ = some (.slice ((rd_T32 l0 x4_1).f11).A ((rd_T32 l0 x4_1).f11).n ((rd_T32 l0 x4_1).f11).c)) (ds := [7, 9]) #[false, false, false, false, false, false, false, false, false, false] (by kernel_rfl) rfl rfl ⟨(blk_cell BK194.out 0).trans rfl, (blk_cell BK194.out 1).trans rfl, (blk_cell BK194.out 2).trans rfl, (blk_cell BK194.out 3).trans rfl, (blk_cell BK194.out 4).trans rfl, (blk_cell BK194.out 5).trans rfl, (blk_cell BK194.out 6).trans rfl, (blk_cell BK194.out 7).trans rfl, (blk_cell BK194.out 8).trans rfl, (blk_cell BK194.out 9).trans rfl, (blk_cell BK194.out 10).trans rfl, (blk_cell BK194.out 11).trans rfl⟩ (fun hHeld => ?_); refine with_tabW prebendref19_Held.tab6 prebendref19_Held.bits6 (fun HT_ HW_ => ?_)
         generalize w14.drew = w15 at HO_3 BK194 HB hHeld ⊢
         refine plan_ [(0, 21), (3, 24)] ?_
         iterate 2 (refine planP_ (v := ?_) (a' := ?_) rfl rfl (any_of HT_.out (by kernel_rfl)) (fun _ _ _ h => h) (Or.inl ⟨by rfl, ?_⟩) ?_ ?_; rotate_left; (intro w'; go_simp; with_reducible rfl); rotate_left; (simp only [Act.put, List.setIfInBounds_toArray, List.set_cons_zero, List.set_cons_succ, i64_w, i32_w]; rfl))
         refine planEnd_ ?_
         refine plan_ [(1, 22), (4, 25)] ?_
         iterate 2 (refine planT_ (v := ?_) (a' := ?_) rfl rfl (take_ofW HT_.out HW_.out (by kernel_rfl)) (fun _ _ _ h => h) (Or.inl ⟨by rfl, ?_⟩) hHeld ?_ ?_; rotate_left; (rintro w' ⟨s0, s1, s2, s3, s4, s5, s6, s7, s8, s9, s10, s11⟩; go_simp; with_reducible rfl); rotate_left; (simp only [Act.put, List.setIfInBounds_toArray, List.set_cons_zero, List.set_cons_succ, i64_w, i32_w]; rfl))
         refine planEnd_ ?_
         refine one_ (i := 2) (N := some 23) #[true, true, true, true, true, false, false, false, false, false] rfl rfl (one_of HT_.out (by kernel_rfl)) (by decide) (fun K hK => ?_)
         refine goes_ Try.func38 (by kernel_rfl) rfl #[.int .i64 ((rd_T32 l0 x4_1).f8), .int .i64 1125899906842624] (by rfl) rfl rfl mt ?_
         with_reducible refine (prebendref16_Held.calls ((rd_T32 l0 x4_1).f8) 1125899906842624 t195 _ A9.out).mono ?_
         rintro e w' ⟨rfl, ⟨nd, rfl⟩⟩
         refine ⟨_, rfl, ?_⟩
         refine hK.out _ _ ⟨(blk_cell BK194.out 0).trans rfl, (blk_cell BK194.out 1).trans rfl, (blk_cell BK194.out 2).trans rfl, (blk_cell BK194.out 3).trans rfl, (blk_cell BK194.out 4).trans rfl, (blk_cell BK194.out 5).trans rfl, (blk_cell BK194.out 6).trans rfl, (blk_cell BK194.out 7).trans rfl, (blk_cell BK194.out 8).trans rfl, (blk_cell BK194.out 9).trans rfl, (blk_cell BK194.out 10).trans rfl, (blk_cell BK194.out 11).trans rfl⟩ (fun hHeld => ?_)
         clear hK; clear K
         refine norm_ (a' := ?_) ?_ ?_
         rotate_left
         ·show Act.put _ (some 23) _ = _
          simp only [Act.put, List.setIfInBounds_toArray, List.set_cons_zero, List.set_cons_succ, i64_w, i32_w]
          rfl
         refine plan_ [(6, 27)] ?_
         refine planP_ (v := ?_) (a' := ?_) rfl rfl (any_of HT_.out (by kernel_rfl)) (fun _ _ _ h => h) (Or.inl ⟨by rfl, ?_⟩) ?_ ?_; rotate_left; (intro w'; go_simp; with_reducible rfl); rotate_left; (simp only [Act.put, List.setIfInBounds_toArray, List.set_cons_zero, List.set_cons_succ, i64_w, i32_w]; rfl)
         refine planEnd_ ?_
         refine one_ (i := 5) (N := some 26) #[true, true, true, true, true, true, true, false, false, false] rfl rfl (one_of HT_.out (by kernel_rfl)) (by decide) (fun K hK => ?_)
         refine goes_ Try.func38 (by kernel_rfl) rfl #[.int .i64 ((rd_T32 l0 x4_1).f3), .int .i64 1125899906842624] (by rfl) rfl rfl mt ?_
         with_reducible refine (prebendref16_Held.calls ((rd_T32 l0 x4_1).f3) 1125899906842624 t196 _ A10.out).mono ?_
         rintro e w' ⟨rfl, ⟨nd, rfl⟩⟩
         refine ⟨_, rfl, ?_⟩
         refine hK.out _ _ ⟨(blk_cell BK194.out 0).trans rfl, (blk_cell BK194.out 1).trans rfl, (blk_cell BK194.out 2).trans rfl, (blk_cell BK194.out 3).trans rfl, (blk_cell BK194.out 4).trans rfl, (blk_cell BK194.out 5).trans rfl, (blk_cell BK194.out 6).trans rfl, (blk_cell BK194.out 7).trans rfl, (blk_cell BK194.out 8).trans rfl, (blk_cell BK194.out 9).trans rfl, (blk_cell BK194.out 10).trans rfl, (blk_cell BK194.out 11).trans rfl⟩ (fun hHeld => ?_)
         clear hK; clear K
         refine norm_ (a' := ?_) ?_ ?_
         rotate_left
         ·show Act.put _ (some 26) _ = _
          simp only [Act.put, List.setIfInBounds_toArray, List.set_cons_zero, List.set_cons_succ, i64_w, i32_w]
          rfl
         refine last_ (i := 7) (N := none) #[true, true, true, true, true, true, true, true, false, false] rfl rfl (one_of HT_.out (by kernel_rfl)) (by decide) (fun K hK => ?_)
         have hs16 : w15.cell? ⟨gb194, 8, none⟩ = some (.int .i64 ((rd_T32 l0 x4_1).f8)) := (blk_cell BK194.out 8).trans rfl
         have hfs16 := blk_frozen BK194.out 8
         refine skip_ (w1 := ?_) (by rfl) rfl ?_ ?_
         rotate_left
         ·go_simp
          rfl
         refine hK.out _ _ ?_
         clear hK; clear K
         refine plan_ [(8, 28)] ?_
         refine planP_ (v := ?_) (a' := ?_) rfl rfl (any_of HT_.out (by kernel_rfl)) (fun _ _ _ h => h) (Or.inl ⟨by rfl, ?_⟩) ?_ ?_; rotate_left; (intro w'; go_simp; with_reducible rfl); rotate_left; (simp only [Act.put, List.setIfInBounds_toArray, List.set_cons_zero, List.set_cons_succ, i64_w, i32_w]; rfl)
         refine planEnd_ ?_
         refine last_ (i := 9) (N := none) #[true, true, true, true, true, true, true, true, true, true] rfl rfl (one_of HT_.out (by kernel_rfl)) (by decide) (fun K hK => ?_)
         have hs17 : w15.cell? ⟨gb194, 3, none⟩ = some (.int .i64 ((rd_T32 l0 x4_1).f3)) := (blk_cell BK194.out 3).trans rfl
         have hfs17 := blk_frozen BK194.out 3
         refine skip_ (w1 := ?_) (by rfl) rfl ?_ ?_
         rotate_left
         ·go_simp
          rfl
         refine hK.out _ _ ?_
         clear hK; clear K
         refine done_ (done_of HT_.out (by kernel_rfl)) ?_
         have hcz18_0 : w15.cell? ⟨gb194, 0, none⟩ = some (.int .i64 ((rd_T32 l0 x4_1).f0)) := (blk_cell BK194.out 0).trans rfl
         have hcz18_1 : w15.cell? ⟨gb194, 1, none⟩ = some (.int .i64 ((rd_T32 l0 x4_1).f1)) := (blk_cell BK194.out 1).trans rfl
         have hcz18_2 : w15.cell? ⟨gb194, 2, none⟩ = some (.int .i64 ((rd_T32 l0 x4_1).f2)) := (blk_cell BK194.out 2).trans rfl
         have hcz18_3 : w15.cell? ⟨gb194, 3, none⟩ = some (.int .i64 ((rd_T32 l0 x4_1).f3)) := (blk_cell BK194.out 3).trans rfl
         have hcz18_4 : w15.cell? ⟨gb194, 4, none⟩ = some (.int .i64 ((rd_T32 l0 x4_1).f4)) := (blk_cell BK194.out 4).trans rfl
         have hcz18_5 : w15.cell? ⟨gb194, 5, none⟩ = some (.int .i64 ((rd_T32 l0 x4_1).f5)) := (blk_cell BK194.out 5).trans rfl
         have hcz18_6 : w15.cell? ⟨gb194, 6, none⟩ = some (.int .i64 ((rd_T32 l0 x4_1).f6)) := (blk_cell BK194.out 6).trans rfl
         have hcz18_7 : w15.cell? ⟨gb194, 7, none⟩ = some (.int .i64 ((rd_T32 l0 x4_1).f7)) := (blk_cell BK194.out 7).trans rfl
         have hcz18_8 : w15.cell? ⟨gb194, 8, none⟩ = some (.int .i64 ((rd_T32 l0 x4_1).f8)) := (blk_cell BK194.out 8).trans rfl
         have hcz18_9 : w15.cell? ⟨gb194, 9, none⟩ = some (.int .i64 ((rd_T32 l0 x4_1).f9)) := (blk_cell BK194.out 9).trans rfl
         have hcz18_10 : w15.cell? ⟨gb194, 10, none⟩ = some (.int .i64 ((rd_T32 l0 x4_1).f10)) := (blk_cell BK194.out 10).trans rfl
         have hcz18_11 : w15.cell? ⟨gb194, 11, none⟩ = some (.slice ((rd_T32 l0 x4_1).f11).A ((rd_T32 l0 x4_1).f11).n ((rd_T32 l0 x4_1).f11).c) := (blk_cell BK194.out 11).trans rfl
         have hfz18_0 := blk_frozen BK194.out 0
         have hfz18_1 := blk_frozen BK194.out 1
         have hfz18_2 := blk_frozen BK194.out 2
         have hfz18_3 := blk_frozen BK194.out 3
         have hfz18_4 := blk_frozen BK194.out 4
         have hfz18_5 := blk_frozen BK194.out 5
         have hfz18_6 := blk_frozen BK194.out 6
         have hfz18_7 := blk_frozen BK194.out 7
         have hfz18_8 := blk_frozen BK194.out 8
         have hfz18_9 := blk_frozen BK194.out 9
         have hfz18_10 := blk_frozen BK194.out 10
         have hfz18_11 := blk_frozen BK194.out 11
         try go_wp2_with (first | ((with_reducible refine gate_builtin (b := .append) (xs := #[.tmp 29, .tmp 31]) rfl ?_); at_builtin; refine Kd.R_append k32 (w0 := w) w.heap.size rfl (.tmp 29) (.tmp 31) 22 32 (.agg #[(.int .i64 0), (.int .i64 0), (.int .i64 0), (.int .i64 0), (.int .i64 0), (.int .i64 0), (.int .i64 0), (.int .i64 0), (.int .i64 0), (.int .i64 0), (.int .i64 0), (.slice none 0 0)]) 112 rfl Try.underlying22 info32 rfl (by decide) (by omega) u3 x3_1 (⟨(rd_T32 l0 x4_1).f0, (rd_T32 l0 x4_1).f1, (rd_T32 l0 x4_1).f2, t196, (rd_T32 l0 x4_1).f4, (rd_T32 l0 x4_1).f5, (rd_T32 l0 x4_1).f6, (rd_T32 l0 x4_1).f7, t195, (rd_T32 l0 x4_1).f9, (rd_T32 l0 x4_1).f10, (rd_T32 l0 x4_1).f11⟩ : S32) [.int .i64 ((rd_T32 l0 x4_1).f0), .int .i64 ((rd_T32 l0 x4_1).f1), .int .i64 ((rd_T32 l0 x4_1).f2), .int .i64 t196, .int .i64 ((rd_T32 l0 x4_1).f4), .int .i64 ((rd_T32 l0 x4_1).f5), .int .i64 ((rd_T32 l0 x4_1).f6), .int .i64 ((rd_T32 l0 x4_1).f7), .int .i64 t195, .int .i64 ((rd_T32 l0 x4_1).f9), .int .i64 ((rd_T32 l0 x4_1).f10), .slice ((rd_T32 l0 x4_1).f11).A ((rd_T32 l0 x4_1).f11).n ((rd_T32 l0 x4_1).f11).c] (fun k_ => k_ ≠ gb194) (fun _ => False) rfl (by first | (go_simp; done) | (go_simp; rfl)) ?aP (fun _ hk => hk.elim) ?aF ?aO ?aB ?aS ?aL ?_; (case aP => exact k32_mkM _ _ _ (⟨(rd_T32 l0 x4_1).f0, (rd_T32 l0 x4_1).f1, (rd_T32 l0 x4_1).f2, t196, (rd_T32 l0 x4_1).f4, (rd_T32 l0 x4_1).f5, (rd_T32 l0 x4_1).f6, (rd_T32 l0 x4_1).f7, t195, (rd_T32 l0 x4_1).f9, (rd_T32 l0 x4_1).f10, (rd_T32 l0 x4_1).f11⟩ : S32)); (case aB => exact (mBs HB.out)); (case aF => exact (fun k_ hk => Kd.freshB (g := gb194) (o := .cells #[.int .i64 ((rd_T32 l0 x4_1).f0), .int .i64 ((rd_T32 l0 x4_1).f1), .int .i64 ((rd_T32 l0 x4_1).f2), .int .i64 t196, .int .i64 ((rd_T32 l0 x4_1).f4), .int .i64 ((rd_T32 l0 x4_1).f5), .int .i64 ((rd_T32 l0 x4_1).f6), .int .i64 ((rd_T32 l0 x4_1).f7), .int .i64 t195, .int .i64 ((rd_T32 l0 x4_1).f9), .int .i64 ((rd_T32 l0 x4_1).f10), .slice ((rd_T32 l0 x4_1).f11).A ((rd_T32 l0 x4_1).f11).n ((rd_T32 l0 x4_1).f11).c] 32 (0, 0)) (by (with_reducible repeat first | apply blk_drewN | apply blk_drew | apply blk_alloc); refine blk_put (cs := #[.int .i64 ((rd_T32 l0 x4_1).f0), .int .i64 ((rd_T32 l0 x4_1).f1), .int .i64 ((rd_T32 l0 x4_1).f2), .int .i64 ((rd_T32 l0 x4_1).f3), .int .i64 ((rd_T32 l0 x4_1).f4), .int .i64 ((rd_T32 l0 x4_1).f5), .int .i64 ((rd_T32 l0 x4_1).f6), .int .i64 ((rd_T32 l0 x4_1).f7), .int .i64 t195, .int .i64 ((rd_T32 l0 x4_1).f9), .int .i64 ((rd_T32 l0 x4_1).f10), .slice ((rd_T32 l0 x4_1).f11).A ((rd_T32 l0 x4_1).f11).n ((rd_T32 l0 x4_1).f11).c]) ?_ 3 _ rfl; (with_reducible repeat first | apply blk_drewN | apply blk_drew | apply blk_alloc); refine blk_put (cs := #[.int .i64 ((rd_T32 l0 x4_1).f0), .int .i64 ((rd_T32 l0 x4_1).f1), .int .i64 ((rd_T32 l0 x4_1).f2), .int .i64 ((rd_T32 l0 x4_1).f3), .int .i64 ((rd_T32 l0 x4_1).f4), .int .i64 ((rd_T32 l0 x4_1).f5), .int .i64 ((rd_T32 l0 x4_1).f6), .int .i64 ((rd_T32 l0 x4_1).f7), .int .i64 ((rd_T32 l0 x4_1).f8), .int .i64 ((rd_T32 l0 x4_1).f9), .int .i64 ((rd_T32 l0 x4_1).f10), .slice ((rd_T32 l0 x4_1).f11).A ((rd_T32 l0 x4_1).f11).n ((rd_T32 l0 x4_1).f11).c]) ?_ 8 _ rfl; (with_reducible repeat first | apply blk_drewN | apply blk_drew | apply blk_alloc); exact BK194.out) k_ hk)); (case aO => exact (by (with_reducible repeat (first | apply Kd.R_alloc | apply Kd.R_drewN | apply Kd.R_drew)); exact Kd.R_mono (Kd.R_fa gb194 3 (Kd.R_fa gb194 8 (Kd.R_mono HO_3.out (fun k_ hk => (⟨hk, hk⟩ : _ ∧ k_ ≠ gb194))) (.int .i64 t195)) (.int .i64 t196)) (fun _ hk => hk.1))); (case aS => exact (below_size (mBs HB.out))); (case aL => have := LMc11.out; omega); intro v198 w19 ho hb hg hat; rw [← Ny197.out] at ho; have n0_ := Aside0.mk (blk_grown (g := gb194) (o := .cells #[.int .i64 ((rd_T32 l0 x4_1).f0), .int .i64 ((rd_T32 l0 x4_1).f1), .int .i64 ((rd_T32 l0 x4_1).f2), .int .i64 t196, .int .i64 ((rd_T32 l0 x4_1).f4), .int .i64 ((rd_T32 l0 x4_1).f5), .int .i64 ((rd_T32 l0 x4_1).f6), .int .i64 ((rd_T32 l0 x4_1).f7), .int .i64 t195, .int .i64 ((rd_T32 l0 x4_1).f9), .int .i64 ((rd_T32 l0 x4_1).f10), .slice ((rd_T32 l0 x4_1).f11).A ((rd_T32 l0 x4_1).f11).n ((rd_T32 l0 x4_1).f11).c] 32 (0, 0)) (by (with_reducible repeat first | apply blk_drewN | apply blk_drew | apply blk_alloc); refine blk_put (cs := #[.int .i64 ((rd_T32 l0 x4_1).f0), .int .i64 ((rd_T32 l0 x4_1).f1), .int .i64 ((rd_T32 l0 x4_1).f2), .int .i64 ((rd_T32 l0 x4_1).f3), .int .i64 ((rd_T32 l0 x4_1).f4), .int .i64 ((rd_T32 l0 x4_1).f5), .int .i64 ((rd_T32 l0 x4_1).f6), .int .i64 ((rd_T32 l0 x4_1).f7), .int .i64 t195, .int .i64 ((rd_T32 l0 x4_1).f9), .int .i64 ((rd_T32 l0 x4_1).f10), .slice ((rd_T32 l0 x4_1).f11).A ((rd_T32 l0 x4_1).f11).n ((rd_T32 l0 x4_1).f11).c]) ?_ 3 _ rfl; (with_reducible repeat first | apply blk_drewN | apply blk_drew | apply blk_alloc); refine blk_put (cs := #[.int .i64 ((rd_T32 l0 x4_1).f0), .int .i64 ((rd_T32 l0 x4_1).f1), .int .i64 ((rd_T32 l0 x4_1).f2), .int .i64 ((rd_T32 l0 x4_1).f3), .int .i64 ((rd_T32 l0 x4_1).f4), .int .i64 ((rd_T32 l0 x4_1).f5), .int .i64 ((rd_T32 l0 x4_1).f6), .int .i64 ((rd_T32 l0 x4_1).f7), .int .i64 ((rd_T32 l0 x4_1).f8), .int .i64 ((rd_T32 l0 x4_1).f9), .int .i64 ((rd_T32 l0 x4_1).f10), .slice ((rd_T32 l0 x4_1).f11).A ((rd_T32 l0 x4_1).f11).n ((rd_T32 l0 x4_1).f11).c]) ?_ 8 _ rfl; (with_reducible repeat first | apply blk_drewN | apply blk_drew | apply blk_alloc); exact BK194.out) hg (Kd.R_away HO_3.out (fun _ hk => hk))); have n1_ := Aside0.mk (hb); have n2_ := Aside0.mk (ho); clear BK194; clear HB; clear HO_3; have BK194 := n0_; have HB := n1_; have HO199 := n2_; clear n0_ n1_ n2_; clear ho hb hg hat))
         go_roundg kj3
         case measure => have := HK1.out; have := HJ3.out; omega
         case rel => exact ⟨(y197), (wrap64 (x4_1 + 1)), ez, H', ⟨by have := HK1.out; have := HJ3.out; omega⟩, ⟨by (with_reducible repeat (first | apply Kd.R_alloc | apply Kd.R_drewN | apply Kd.R_drew)); exact Kd.R_mono HO199.out (fun _ hk => trivial)⟩, ⟨mBs HB.out⟩⟩
        ·rw [if_neg c11] at H
         exact absurd H (by simp)
       ·rw [if_neg c8] at H
        exact absurd H (by simp)
      ·rw [if_neg c7] at H
       exact absurd H (by simp)
     ·replace c6 := Bool.eq_false_iff.mpr c6
      subst c6
      have H1 : (some x3_1) = some r := by rw [if_neg (show ¬ (false = true) by decide)] at H; exact H
      clear H
      have H := H1
      clear H1
      obtain rfl := Option.some.inj H
      go_wp2
      go_ret
      exact ⟨_, by first | rfl | (simp [errW_none, errW_some] <;> rfl) | (simp [*, errW_none, errW_some] <;> rfl), mR HO_3.out, by repeat (first | (with_reducible first | exact HB.out | apply below_alloc | apply pw_below_drewN | apply below_drew1) | exact HB.out)⟩

end Go.Proofs.Ytkhfgflcanmefaa.PAll
end
section
namespace Go.Proofs.Ytkhfgflcanmefaa.PAll
open Go.RowKit Go.Proofs.YtkhfgflcanmefaaW.PrintWords Go.Proofs.YtkhfgflcanmefaaW.PrintLast Go.Proofs.YtkhfgflcanmefaaW.PrintMore
attribute [local go_sem] max2_int min2_int max_two min_two max_three min_three max_four min_four   -- for this text's walks alone
set_option linter.unusedVariables false
set_option linter.unusedSimpArgs false

def slices_Clip_int.f (l0 : List Int) : Option (List Int) := some l0
theorem slices_Clip_int.cut (A : Option Addr) (n c : Nat) (hm : n ≤ c) : ∀ W : World, (Instr.slice 24 (.slice A n c) none (some (.int .i64 (n : Int))) (some (.int .i64 (n : Int)))).run Try.prog W = .ok (.slice A n n) W := by
  intro W
  obtain ⟨i0, hi, _, hsz, _⟩ := info_parts info3
  have ha : (A.map fun x => x.add 0) = A := by cases A <;> simp [Addr.add]
  have hn : (n : Int) ≤ (c : Int) := by omega
  simp [Instr.slice, run_underlying Try.underlying24, Instr.sliceBounds, run_sliceBound, sizeOf, typeInfo, hi, Result.andThen, ha, hn]
set_option maxHeartbeats 8000000 in
set_option maxRecDepth 100000 in
theorem slices_Clip_int.calls (P0_ : Nat → Prop) (A0 : Option Addr) (c0 : Nat) (l0 : List Int) (r : List Int) (w : World) (hs0 : Kd.V (Kd.int .i64) 3 w w.heap.size (fun k_ => P0_ k_) (.slice A0 l0.length c0) l0) (h : slices_Clip_int.f l0 = some r) :
    Calls Try.prog 37 #[.slice A0 l0.length c0] w fun e w' => ∃ v0_ : Value, e = .returned (v0_) ∧ Kd.V (Kd.int .i64) 3 w' w.heap.size (fun k_ => (P0_ k_ ∨ w.heap.size ≤ k_)) v0_ r ∧ Below w.heap.size w w' := by
  obtain rfl := Option.some.inj h
  have HO0 := Aside0.mk (show Kd.V (Kd.int .i64) 3 w w.heap.size (fun k_ => (P0_ k_ ∨ w.heap.size ≤ k_)) (.slice A0 l0.length l0.length) l0 from Kd.V_mk (Nat.le_refl _) (Kd.F_mono (Kd.V_F hs0) (fun k_ hk => .inl hk)))
  have hc := (Kd.V_reads' hs0).2.1
  have hcut := slices_Clip_int.cut A0 l0.length c0 hc
  clear hs0 hc
  go_enter Try.func37, Try.ntmps37
  go_wp2
  go_ret
  exact ⟨_, rfl, HO0.out, Below.refl _ _⟩
end Go.Proofs.Ytkhfgflcanmefaa.PAll
end
section
namespace Go.Proofs.Ytkhfgflcanmefaa.PAll
open Go.RowKit Go.Proofs.YtkhfgflcanmefaaW.PrintWords Go.Proofs.YtkhfgflcanmefaaW.PrintLast Go.Proofs.YtkhfgflcanmefaaW.PrintMore
attribute [local go_sem] max2_int min2_int max_two min_two max_three min_three max_four min_four   -- for this text's walks alone
set_option linter.unusedVariables false
set_option linter.unusedSimpArgs false

def slices_Clone_Job.f (l0 : List (S32)) : Option ((List (S32))) := (some (([] : List (S32)) : List (S32))).bind fun y203 => (if y203.length + l0.length < 1256584717458 then (some (y203 ++ l0)) else (none))
set_option maxHeartbeats 8000000 in
set_option maxRecDepth 100000 in
theorem slices_Clone_Job.calls_some (ad0_ : Addr) (c0 : Nat) (l0 : List (S32)) (r : List (S32)) (w : World) (hr0 : Kd.C k32 w (some ad0_) l0.length l0) (hc0 : l0.length ≤ c0) (h : slices_Clone_Job.f l0 = some r) :
    Calls Try.prog 56 #[.slice (some ad0_) l0.length c0] w fun e w' => ∃ v0_ : Value, e = .returned (v0_) ∧ Kd.R k32 32 w' w.heap.size (fun _ => True) v0_ r ∧ Below w.heap.size w w' := by
  have HR0 := Aside0.mk hr0
  have HC0 := Aside0.mk hc0
  clear hr0 hc0
  have HB := Aside0.mk (Below.refl w.heap.size w)
  have H : ((some (([] : List (S32)) : List (S32))).bind fun y203 => (if y203.length + l0.length < 1256584717458 then (some (y203 ++ l0)) else (none))) = some r := h
  clear h
  obtain ⟨y203, hy203⟩ : ∃ y_ : List (S32), y_ = (([] : List (S32))) := ⟨_, rfl⟩
  replace H : (if y203.length + l0.length < 1256584717458 then (some (y203 ++ l0)) else (none)) = some r := by first | (rw [hy203]; with_reducible exact H) | (have H2_ := (Option.bind_some _ _).symm.trans H; rw [hy203]; with_reducible exact H2_) | (have H2_ := (Option.bind_some _ _).symm.trans H; with_reducible exact H2_) | with_reducible exact H | (rw [hy203]; exact H) | exact H
  have Ny203 := Aside0.mk hy203
  clear hy203
  by_cases c2 : y203.length + l0.length < 1256584717458
  · rw [if_pos c2] at H
    have LMc2 := Aside0.mk c2
    clear c2
    obtain ⟨y206, hy206⟩ : ∃ y_ : List (S32), y_ = (y203 ++ l0) := ⟨_, rfl⟩
    replace H : (some y206) = some r := by first | (rw [hy206]; with_reducible exact H) | (have H2_ := (Option.bind_some _ _).symm.trans H; rw [hy206]; with_reducible exact H2_) | (have H2_ := (Option.bind_some _ _).symm.trans H; with_reducible exact H2_) | with_reducible exact H | (rw [hy206]; exact H) | exact H
    have Ny206 := Aside0.mk hy206
    clear hy206
    obtain rfl := Option.some.inj H
    have hnil_ := fun (W : World) => Lib.run_eql_slice_nil (P := Try.prog) W 22 32 (some ad0_) l0.length c0 0 0 Try.underlying22
    go_enter Try.func56, Try.ntmps56
    go_wp2_with (first | ((with_reducible refine gate_dst (N := 5) rfl ?_); refine Kd.R_lit k32 _ 32 ?hg (N := 5) ?hd (xs := ([] : List (S32))) (inner := []) (ok := fun _ => True) (okp := fun _ => True) ?hr ?hp (fun _ hk => hk) trivial (Below.refl _ _) (Nat.le_refl _) (by simp) ?_; (case hd => rfl); (case hg => rfl); (case hr => first | (go_simp; done) | (go_simp; rfl)); (case hp => exact (Reps.none _ _)); intro v204 w3 ho4 hb hg_ hnew_; clear hg_ hnew_; (first | rw [← Ny203.out] at ho4 | (simp only [Int.reduceToNat] at ho4; rw [← Ny203.out] at ho4)); have n0_ := Aside0.mk (Kd.R_lower ho4 (below_size (by repeat (first | (with_reducible first | exact HB.out | apply below_alloc | apply pw_below_drewN | apply below_drew1) | exact HB.out)))); have n1_ := Aside0.mk (below_step (by repeat (first | (with_reducible first | exact HB.out | apply below_alloc | apply pw_below_drewN | apply below_drew1) | exact HB.out)) hb); clear HB; have HO205 := n0_; have HB := n1_; clear n0_ n1_; clear hb ho4) | ((with_reducible refine gate_builtin (b := .append) (xs := #[.tmp 5, .tmp 6]) rfl ?_); at_builtin; refine Kd.R_append_rows k32 (w0 := w) w.heap.size rfl (.tmp 5) (.tmp 6) 22 32 (.agg #[(.int .i64 0), (.int .i64 0), (.int .i64 0), (.int .i64 0), (.int .i64 0), (.int .i64 0), (.int .i64 0), (.int .i64 0), (.int .i64 0), (.int .i64 0), (.int .i64 0), (.slice none 0 0)]) 112 rfl Try.underlying22 info32 rfl (by decide) (by omega) v204 y203 l0 _ _ _ (fun _ => True) (fun _ => False) rfl rfl ?aO ?aR (fun _ _ h => h) (fun _ h => h.elim) ?aF ?aB ?aS ?aL ?_; (case aR => repeat (first | exact (Kd.C_below HR0.out HB.out) | (with_reducible refine Kd.C_alloc ?_ _) | (with_reducible refine Kd.C_drewN ?_ _) | (with_reducible refine Kd.C_drew ?_))); (case aB => exact (by repeat (first | (with_reducible first | exact HB.out | apply below_alloc | apply pw_below_drewN | apply below_drew1) | exact HB.out))); (case aF => exact (fun _ _ => trivial)); (case aO => exact (by (with_reducible repeat (first | apply Kd.R_alloc | apply Kd.R_drewN | apply Kd.R_drew)); exact HO205.out)); (case aS => exact (below_size (by repeat (first | (with_reducible first | exact HB.out | apply below_alloc | apply pw_below_drewN | apply below_drew1) | exact HB.out)))); (case aL => have := LMc2.out; omega); intro v207 w5 ho hb hg hat; rw [← Ny206.out] at ho; have n0_ := Aside0.mk (hb); have n1_ := Aside0.mk (ho); clear HB; clear HO205; have HB := n0_; have HO208 := n1_; clear n0_ n1_; clear ho hb hg hat))
    go_ret
    exact ⟨_, by first | rfl | (simp [errW_none, errW_some] <;> rfl) | (simp [*, errW_none, errW_some] <;> rfl), by (with_reducible repeat (first | apply Kd.R_alloc | apply Kd.R_drewN | apply Kd.R_drew)); exact HO208.out, by repeat (first | (with_reducible first | exact HB.out | apply below_alloc | apply pw_below_drewN | apply below_drew1) | exact HB.out)⟩
  · rw [if_neg c2] at H
    exact absurd H (by simp)

set_option maxHeartbeats 8000000 in
theorem slices_Clone_Job.calls (A0 : Option Addr) (c0 : Nat) (l0 : List (S32)) (r : List (S32)) (w : World) (hr0 : Kd.C k32 w A0 l0.length l0) (hc0 : l0.length ≤ c0) (h : slices_Clone_Job.f l0 = some r) :
    Calls Try.prog 56 #[.slice A0 l0.length c0] w fun e w' => ∃ v0_ : Value, e = .returned (v0_) ∧ Kd.R k32 32 w' w.heap.size (fun _ => True) v0_ r ∧ Below w.heap.size w w' := by
  cases A0 with
  | some ad0_ => exact slices_Clone_Job.calls_some ad0_ c0 l0 r w hr0 hc0 h
  | none =>
    have hl : l0 = [] := by
      cases l0 with
      | nil => rfl
      | cons x xs => obtain ⟨ad, he, _⟩ := hr0.2.2 (by simp); cases he
    subst hl
    have hr : r = [] := by
      simp [slices_Clone_Job.f] at h; first | exact h | exact h.symm
    subst hr
    have hnil_ := fun (W : World) => Lib.run_eql_slice_nil (P := Try.prog) W 22 32 none 0 c0 0 0 Try.underlying22
    clear hr0 hc0 h
    go_enter Try.func56, Try.ntmps56
    go_wp2
    go_ret
    exact ⟨_, rfl, Kd.R_nil _ _ _ _ _, Below.refl _ _⟩

end Go.Proofs.Ytkhfgflcanmefaa.PAll
end
section
namespace Go.Proofs.Ytkhfgflcanmefaa.PAll
open Go.RowKit Go.Proofs.YtkhfgflcanmefaaW.PrintWords Go.Proofs.YtkhfgflcanmefaaW.PrintLast Go.Proofs.YtkhfgflcanmefaaW.PrintMore
set_option linter.unusedVariables false
set_option linter.unusedSimpArgs false
section
variable {P : Program} {ops : Array Oper} {Q : Exit → Act → World → Prop} {α : Type}
theorem R_past {d : Kd α} {e : Nat} {W : World} {base : Nat} {ok : Nat → Prop} {g n cap : Nat} {xs : List α} (h : d.R e W base ok (.slice (some ⟨g, 0, none⟩) n cap) xs) (o : Nat) (seg : List Value) (hno : n * d.sz ≤ o) (hfit : o + seg.length ≤ cap * d.sz) :
    d.R e (W.setCells g o seg) base ok (.slice (some ⟨g, 0, none⟩) n cap) xs ∧ W.grownBy (W.setCells g o seg) (some g) := by
  obtain ⟨hn, hnc, _⟩ := Kd.R_reads' h
  obtain ⟨hok, inner, ho, hr⟩ := h
  obtain ⟨ho1, ho2⟩ := ho
  rcases ho2 with ⟨hv, _⟩ | ⟨g', cap', cur, hv, hb, hh, hnc', hcm, hcs, ht⟩
  · cases hv
  injection hv with ha _ hc
  injection ha with ha
  injection ha with hg
  subst hg; subst hc
  obtain ⟨cur', h3, h4, h5⟩ := setCells_row seg o W cur hh (by omega)
  obtain ⟨s1, s2, s3, s4⟩ := setCells_same g seg o W
  have hfar : ∀ k, k ≠ g → (W.setCells g o seg).heap[k]? = W.heap[k]? := fun k hk => setCells_far seg _ k hk
  refine ⟨⟨hok, inner, ⟨ho1, .inr ⟨g, cap, cur', by rw [← hn], hb, h3, hnc', hcm, by rw [h4, hcs], ?_⟩⟩, hr.imp_ (fun p c hp => d.M_move (fun k hk => hfar k (fun he => hk.2 (by rw [he]; simp [Value.ownBlock]))) hp)⟩,
    ⟨s1, s2, s3, by rw [s4]; exact Nat.le_refl _, fun k _ hk => hfar k (fun he => hk (by rw [he]))⟩⟩
  rw [h5, ← hn]
  have hl : cur.toList.length = cap * d.sz := by rw [Array.length_toList, hcs]
  rw [List.append_assoc, List.take_append_of_le_length (by rw [List.length_take]; omega), List.take_take, Nat.min_eq_left hno]
  rw [← hn] at ht
  exact ht
theorem run_clear_cells (b o n c : Nat) (w : World) (t e ty : TypeId) (z : Value) (ht : P.underlying t = some (.slice e)) (hv : ∀ w, (zeroValue e).run P w = .ok z w) (h1 : ∀ u ∈ (Builtin.zeroCells z.cells n).toList, u.oneCell' = true) (hn : 0 < n)
    (hc : ∀ j, j < (Builtin.zeroCells z.cells n).toList.length → (w.cell? ⟨b, o + j, none⟩).isSome = true) (hf : ∀ j, j < (Builtin.zeroCells z.cells n).toList.length → w.frozen? ⟨b, o + j, none⟩ = false) :
    (Builtin.clear_ #[t] ty #[.slice (some ⟨b, o, none⟩) n c]).run P w = .ok (.tuple #[]) (w.setCells b o (Builtin.zeroCells z.cells n).toList) := by
  have hst := run_storeCells_cells (P := P) b o (Builtin.zeroCells z.cells n).toList 0 w hc hf h1
  simp only [Nat.add_zero] at hst
  obtain ⟨m, rfl⟩ : ∃ m, n = m + 1 := ⟨n - 1, by omega⟩
  simp [Builtin.clear_, run_underlying ht, hv, hst]
theorem R_clear {d : Kd α} {e : Nat} {w0 W : World} {base : Nat} {ok : Nat → Prop} {A : Option Addr} {n c : Nat} {xs : List α} (h : d.R e W base ok (.slice A n c) xs) (i : Nat) (hi : i ≤ xs.length) {t te ty : TypeId} {z : Value} (ht : P.underlying t = some (.slice te)) (hv : ∀ w, (zeroValue te).run P w = .ok z w)
    (hz : z.cells.size = d.sz) (h1 : ∀ u ∈ z.cells.toList, u.oneCell' = true) {A1 : Option Addr} (hA1 : A1 = if c = i then A else A.map (·.add (i * d.sz))) {m c1 : Nat} (hm : m = n - i) (HB : Below base w0 W) :
    ∃ W2, (Builtin.clear_ #[t] ty #[.slice A1 m c1]).run P W = .ok (.tuple #[]) W2 ∧ d.R e W2 base ok (.slice A i c) (xs.take i) ∧ Below base w0 W2 ∧ W.grownBy W2 (Value.slice A n c).ownBlock := by
  obtain ⟨hn, hnc, _⟩ := Kd.R_reads' h
  have ht_ := Kd.R_take (m := i) h hi
  rcases Nat.eq_zero_or_pos m with h0 | hp
  · refine ⟨W, ?_, ht_, HB, ⟨rfl, rfl, rfl, Nat.le_refl _, fun _ _ _ => rfl⟩⟩
    subst h0
    cases A1 <;> simp [Builtin.clear_, run_underlying ht]
  · have hic : ¬ c = i := by omega
    obtain ⟨g, rfl⟩ : ∃ g, A = some ⟨g, 0, none⟩ := by
      obtain ⟨_, inner, ho, _⟩ := h
      rcases ho.2 with ⟨hv', h2⟩ | ⟨g', cap', cur, hv', _⟩
      · omega
      · injection hv' with ha; exact ⟨g', ha⟩
    have hA2 : A1 = some ⟨g, i * d.sz, none⟩ := by
      rw [hA1, if_neg hic]
      simp only [Option.map_some]
      congr 1
      unfold Addr.add
      by_cases h0 : i * d.sz = 0
      · simp [h0]
      · simp [h0]
    subst hA2
    have hl : (Builtin.zeroCells z.cells m).toList.length = m * d.sz := by simp [Builtin.zeroCells, hz]
    have hone : ∀ u ∈ (Builtin.zeroCells z.cells m).toList, u.oneCell' = true := by
      intro u hu
      obtain ⟨j, hj, rfl⟩ := List.mem_iff_getElem.mp hu
      have hzp : 0 < z.cells.size := by
        rcases Nat.eq_zero_or_pos z.cells.size with h0 | h0
        · rw [hl] at hj; rw [← hz, h0] at hj; omega
        · exact h0
      have hjm : j % z.cells.size < z.cells.size := Nat.mod_lt _ hzp
      simp only [Builtin.zeroCells, Array.toList_map, List.getElem_map, Array.getElem_toList, Array.getElem_range, Array.getElem!_eq_getD, Array.getD, hjm, dif_pos]
      exact h1 _ (by simp)
    have hcell : ∀ j, j < m * d.sz → (W.cell? ⟨g, i * d.sz + j, none⟩).isSome = true ∧ W.frozen? ⟨g, i * d.sz + j, none⟩ = false := by
      intro j hj
      obtain ⟨_, inner, ho, _⟩ := h
      rcases ho.2 with ⟨hv', _⟩ | ⟨g', cap', cur, hv', hb, hh, hnc', hcm, hcs, _⟩
      · cases hv'
      injection hv' with ha _ hc
      injection ha with ha
      injection ha with hg
      subst hg; subst hc
      refine ⟨?_, blk_frozen hh _⟩
      rw [cell_of_row W g _ cur e (0, 0) hh]
      have : i * d.sz + j < cur.size := by
        have h3 : i * d.sz + m * d.sz = (i + m) * d.sz := (Nat.add_mul _ _ _).symm
        have h4 : (i + m) * d.sz ≤ c * d.sz := Nat.mul_le_mul_right _ (by omega)
        omega
      simp [this]
    have hli : (xs.take i).length = i := by rw [List.length_take]; omega
    obtain ⟨hr2, hg2⟩ := R_past ht_ (i * d.sz) (Builtin.zeroCells z.cells m).toList (Nat.le_refl _) (by
      rw [hl, ← Nat.add_mul]; exact Nat.mul_le_mul_right _ (by omega))
    refine ⟨_, run_clear_cells g (i * d.sz) m c1 W t te ty z ht hv hone hp (fun j hj => (hcell j (by omega)).1) (fun j hj => (hcell j (by omega)).2), hr2, ?_, hg2⟩
    have hbg : base ≤ g := Kd.R_base h g (by simp [Value.ownBlock])
    refine HB.trans ⟨hg2.os, hg2.tape, hg2.output, hg2.size, fun k hk => ?_⟩
    have hlt : k < W.heap.size ∨ W.heap.size ≤ k := Nat.lt_or_ge _ _
    rcases hlt with hlt | hge
    · exact hg2.block k hlt (fun he => by injection he with he; omega)
    · exact setCells_far _ _ k (by omega)
theorem clear_event {rest : List Oper} {o : Oper} {a : Act} {W : World} {R : World → Prop} (t : TypeId) (x : Operand) (ho : o.op = .call { callee := .builtin .clear, args := #[x], argTypes := #[t] }) (hN : o.dst = none) (hgd : o.guard = none) {v : Value} (hx : a.eval x = v)
    (hrun : ∃ W2, (Builtin.clear_ #[t] o.type #[v]).run P W = .ok (.tuple #[]) W2 ∧ R W2) (h : ∀ W2, R W2 → wpList P ops Q rest a W2) : wpList P ops Q (o :: rest) a W := by
  obtain ⟨W2, h1, h2⟩ := hrun
  refine wpList_plain hgd fun K hK => ?_
  unfold Oper.wp execOp
  simp [ho, hx, h1, resolve, invoke, builtin]
  show K (a.put o.dst _) W2
  rw [hN]
  exact hK a _ (h W2 h2)
end
end Go.Proofs.Ytkhfgflcanmefaa.PAll
end
section
namespace Go.Proofs.Ytkhfgflcanmefaa.PAll
open Go.RowKit Go.Proofs.YtkhfgflcanmefaaW.PrintWords Go.Proofs.YtkhfgflcanmefaaW.PrintLast Go.Proofs.YtkhfgflcanmefaaW.PrintMore
set_option linter.unusedVariables false
set_option linter.unusedSimpArgs false
section
variable {P : Program} {ops : Array Oper} {Q : Exit → Act → World → Prop} {α : Type}
theorem R_storeW {okp : Nat → Prop} (d : Kd α) {w0 W : World} {base : Nat} {oi : Oper} {a : Act} {t : TypeId} {p x : Operand} (ho : oi.op = .store t p x) {e : TypeId} {g n cap o' : Nat} (i : Int) {xs : List α} (z x' : α) {u : Value} (seg : List Value) {ok : Nat → Prop}
    (haddr : a.eval p = .pointer (some ⟨g, o', none⟩)) (hoff : o' = i.toNat * d.sz) (hx : a.eval x = u) (hu : u.cells.toList = seg) (ht : (P.info? t).map (·.size) = some seg.length) (hs : seg.length = d.sz) (h1 : ∀ q ∈ seg, q.oneCell' = true)
    (HO : d.R e W base ok (.slice (some ⟨g, 0, none⟩) n cap) xs) (h0 : 0 ≤ i) (hi : i < n) (hM : d.M W base okp x' seg) (hokp : ∀ k, okp k → ok k ∧ k ≠ g) (HB : Below base w0 W) :
    ∃ w1, (execOp a.eval oi).run P W = .ok .skip w1 ∧ d.R e w1 base ok (.slice (some ⟨g, 0, none⟩) n cap) (xs.set i.toNat x') ∧ Below base w0 w1 ∧ W.grownBy w1 (some g) := by
  subst hoff
  have hnx : n = xs.length := (Kd.R_reads' HO).1
  obtain ⟨ce, hcl, hMe, hcc, hfr⟩ := Kd.R_elem HO z i h0 (by omega)
  have hM2 : d.M W base okp x' (ce.take 0 ++ seg ++ ce.drop (0 + seg.length)) := by
    rw [List.take_zero, List.nil_append, Nat.zero_add, hs, ← hcl, List.drop_length, List.append_nil]; exact hM
  obtain ⟨hrow, hg⟩ := Kd.R_seg HO i h0 hi hcl hcc (by omega) hM2 hokp
  rw [Nat.add_zero] at hrow hg
  have hbg : base ≤ g := Kd.R_base HO g (by simp [Value.ownBlock])
  have HO2 := HO
  obtain ⟨_, inner, hown, hr⟩ := HO
  have hil : i.toNat < n := by omega
  have hB : Below base w0 (W.setCells g (i.toNat * d.sz) seg) := HB.trans ⟨hg.os, hg.tape, hg.output, hg.size, fun k hk => by
    have hlt : k < W.heap.size ∨ W.heap.size ≤ k := Nat.lt_or_ge _ _
    rcases hlt with hlt | hge
    · exact hg.block k hlt (fun he => by injection he with he; omega)
    · exact setCells_far seg _ k (by omega)⟩
  have hrun : (Instr.storeAt t (.pointer (some ⟨g, i.toNat * d.sz, none⟩)) u).run P W = .ok () (W.setCells g (i.toNat * d.sz) seg) := by
    rcases hown.2 with ⟨hv, _⟩ | ⟨g', cap', cur, hv, hb, hh, hnc, hcm, hcs, _⟩
    · cases hv
    injection hv with ha _ hc
    injection ha with ha
    injection ha with hg'
    subst hg'; subst hc
    refine run_store_run t u seg hh hu ht ?_ h1
    have h2 : i.toNat * d.sz + d.sz ≤ n * d.sz := by rw [← Nat.succ_mul]; exact Nat.mul_le_mul_right _ hil
    have h3 : n * d.sz ≤ cap * d.sz := Nat.mul_le_mul_right _ (by omega)
    omega
  refine ⟨_, ?_, hrow, hB, hg⟩
  unfold execOp
  simp only [ho, haddr, hx, Sem.run_bind, Sem.run_pure, Result.andThen_ok, hrun]
theorem storeW_ {okp : Nat → Prop} (d : Kd α) {w0 W : World} {base : Nat} {oi : Oper} {a : Act} {K : Act → World → Prop} {t : TypeId} {p x : Operand} {e : TypeId} {g n cap o' : Nat} (i : Int) {xs : List α} (z x' : α) {u : Value} (seg : List Value) {ok : Nat → Prop}
    (hw : Region.wanted oi (yielded ops a.tmps) = true) (hN : oi.dst = none) (ho : oi.op = .store t p x)
    (haddr : a.eval p = .pointer (some ⟨g, o', none⟩)) (hoff : o' = i.toNat * d.sz) (hx : a.eval x = u) (hu : u.cells.toList = seg) (ht : (P.info? t).map (·.size) = some seg.length) (hs : seg.length = d.sz) (h1 : ∀ q ∈ seg, q.oneCell' = true)
    (HO : d.R e W base ok (.slice (some ⟨g, 0, none⟩) n cap) xs) (h0 : 0 ≤ i) (hi : i < n) (hM : d.M W base okp x' seg) (hokp : ∀ k, okp k → ok k ∧ k ≠ g) (HB : Below base w0 W)
    (h : ∀ w1, d.R e w1 base ok (.slice (some ⟨g, 0, none⟩) n cap) (xs.set i.toNat x') → Below base w0 w1 → W.grownBy w1 (some g) → K a w1) :
    if Region.wanted oi (yielded ops a.tmps) = true then Oper.wp P oi a W K Q else K (a.put none undef) W := by
  obtain ⟨w1, h1_, h2, h3, h4⟩ := R_storeW (P := P) d ho i z x' seg haddr hoff hx hu ht hs h1 HO h0 hi hM hokp HB
  exact skip_ hw hN h1_ (h w1 h2 h3 h4)
theorem one12 {a b c d e f g h i j k : Int} {A : Option Addr} {n m : Nat} : ∀ q ∈ [Value.int .i64 a, .int .i64 b, .int .i64 c, .int .i64 d, .int .i64 e, .int .i64 f, .int .i64 g, .int .i64 h, .int .i64 i, .int .i64 j, .int .i64 k, .slice A n m], q.oneCell' = true := by
  intro q hq
  simp only [List.mem_cons, List.not_mem_nil, or_false] at hq
  rcases hq with h | h | h | h | h | h | h | h | h | h | h | h <;> (rw [h]; rfl)
end
end Go.Proofs.Ytkhfgflcanmefaa.PAll
end
section
namespace Go.Proofs.Ytkhfgflcanmefaa.PAll
open Go.RowKit Go.Proofs.YtkhfgflcanmefaaW.PrintWords Go.Proofs.YtkhfgflcanmefaaW.PrintLast Go.Proofs.YtkhfgflcanmefaaW.PrintMore
attribute [local go_sem] max2_int min2_int max_two min_two max_three min_three max_four min_four   -- for this text's walks alone
set_option linter.unusedVariables false
set_option linter.unusedSimpArgs false

def job_running_1.f (a0_0 : Int) (a0_1 : Int) (a0_2 : Int) (a0_3 : Int) (a0_4 : Int) (a0_5 : Int) (a0_6 : Int) (a0_7 : Int) (a0_8 : Int) (a0_9 : Int) (a0_10 : Int) (a0_11 : SH) : Option (Bool) := some (a0_7 != 3)
set_option maxHeartbeats 8000000 in
set_option maxRecDepth 100000 in
theorem job_running_1.calls (a0_0 : Int) (a0_1 : Int) (a0_2 : Int) (a0_3 : Int) (a0_4 : Int) (a0_5 : Int) (a0_6 : Int) (a0_7 : Int) (a0_8 : Int) (a0_9 : Int) (a0_10 : Int) (a0_11 : SH) (r : Bool) (w : World) (h : job_running_1.f a0_0 a0_1 a0_2 a0_3 a0_4 a0_5 a0_6 a0_7 a0_8 a0_9 a0_10 a0_11 = some r) :
    Calls Try.prog 57 #[.agg #[.int .i64 a0_0, .int .i64 a0_1, .int .i64 a0_2, .int .i64 a0_3, .int .i64 a0_4, .int .i64 a0_5, .int .i64 a0_6, .int .i64 a0_7, .int .i64 a0_8, .int .i64 a0_9, .int .i64 a0_10, .slice a0_11.A a0_11.n a0_11.c]] w fun e w' => e = .returned (.bool r) ∧ Below w.heap.size w w' := by
  have hu32 := Try.underlying32
  have HB := Aside0.mk (Below.refl w.heap.size w)
  have H : (some (a0_7 != 3)) = some r := h
  clear h
  obtain rfl := Option.some.inj H
  go_enter Try.func57, Try.ntmps57
  go_wp2_with (first | ((with_reducible refine gate_dst (N := 1) rfl ?_); refine box_event ?hg (N := 1) ?hd (cs := #[.int .i64 a0_0, .int .i64 a0_1, .int .i64 a0_2, .int .i64 a0_3, .int .i64 a0_4, .int .i64 a0_5, .int .i64 a0_6, .int .i64 a0_7, .int .i64 a0_8, .int .i64 a0_9, .int .i64 a0_10, .slice a0_11.A a0_11.n a0_11.c]) (t := 32) ?hr ?_; (case hd => rfl); (case hg => rfl); (case hr => first | (go_simp; done) | (go_simp; rfl)); intro gb209 hg w2 hbox hb; have n0_ := Aside0.mk (below_step (by repeat (first | (with_reducible first | exact HB.out | apply below_alloc | apply pw_below_drewN | apply below_drew1) | exact HB.out)) hb); have n1_ := Aside0.mk (hbox); have n2_ := Aside0.mk ((by rw [hg]; exact (below_size (by repeat (first | (with_reducible first | exact HB.out | apply below_alloc | apply pw_below_drewN | apply below_drew1) | exact HB.out))) : w.heap.size ≤ gb209)); have n3_ := Aside0.mk ((by rw [hg]; exact (below_size (by repeat (first | (with_reducible first | exact HB.out | apply below_alloc | apply pw_below_drewN | apply below_drew1) | exact HB.out))) : w.heap.size ≤ gb209)); clear HB; have HB := n0_; have BK209 := n1_; have GW209 := n2_; have GE209 := n3_; clear n0_ n1_ n2_ n3_; clear hb hbox hg; have hcz3_0 : w2.cell? ⟨gb209, 0, none⟩ = some (.int .i64 a0_0) := (blk_cell BK209.out 0).trans rfl; have hcz3_1 : w2.cell? ⟨gb209, 1, none⟩ = some (.int .i64 a0_1) := (blk_cell BK209.out 1).trans rfl; have hcz3_2 : w2.cell? ⟨gb209, 2, none⟩ = some (.int .i64 a0_2) := (blk_cell BK209.out 2).trans rfl; have hcz3_3 : w2.cell? ⟨gb209, 3, none⟩ = some (.int .i64 a0_3) := (blk_cell BK209.out 3).trans rfl; have hcz3_4 : w2.cell? ⟨gb209, 4, none⟩ = some (.int .i64 a0_4) := (blk_cell BK209.out 4).trans rfl; have hcz3_5 : w2.cell? ⟨gb209, 5, none⟩ = some (.int .i64 a0_5) := (blk_cell BK209.out 5).trans rfl; have hcz3_6 : w2.cell? ⟨gb209, 6, none⟩ = some (.int .i64 a0_6) := (blk_cell BK209.out 6).trans rfl; have hcz3_7 : w2.cell? ⟨gb209, 7, none⟩ = some (.int .i64 a0_7) := (blk_cell BK209.out 7).trans rfl; have hcz3_8 : w2.cell? ⟨gb209, 8, none⟩ = some (.int .i64 a0_8) := (blk_cell BK209.out 8).trans rfl; have hcz3_9 : w2.cell? ⟨gb209, 9, none⟩ = some (.int .i64 a0_9) := (blk_cell BK209.out 9).trans rfl; have hcz3_10 : w2.cell? ⟨gb209, 10, none⟩ = some (.int .i64 a0_10) := (blk_cell BK209.out 10).trans rfl; have hcz3_11 : w2.cell? ⟨gb209, 11, none⟩ = some (.slice a0_11.A a0_11.n a0_11.c) := (blk_cell BK209.out 11).trans rfl; have hfz3_0 := blk_frozen BK209.out 0; have hfz3_1 := blk_frozen BK209.out 1; have hfz3_2 := blk_frozen BK209.out 2; have hfz3_3 := blk_frozen BK209.out 3; have hfz3_4 := blk_frozen BK209.out 4; have hfz3_5 := blk_frozen BK209.out 5; have hfz3_6 := blk_frozen BK209.out 6; have hfz3_7 := blk_frozen BK209.out 7; have hfz3_8 := blk_frozen BK209.out 8; have hfz3_9 := blk_frozen BK209.out 9; have hfz3_10 := blk_frozen BK209.out 10; have hfz3_11 := blk_frozen BK209.out 11))
  go_ret
  exact ⟨by first | rfl | (simp [errW_none, errW_some] <;> rfl) | (simp [*, errW_none, errW_some] <;> rfl), by repeat (first | (with_reducible first | exact HB.out | apply below_alloc | apply pw_below_drewN | apply below_drew1 | refine below_set ?_ GE209.out) | exact HB.out)⟩

end Go.Proofs.Ytkhfgflcanmefaa.PAll
end
section
namespace Go.Proofs.Ytkhfgflcanmefaa.PAll
open Go.RowKit Go.Proofs.YtkhfgflcanmefaaW.PrintWords Go.Proofs.YtkhfgflcanmefaaW.PrintLast Go.Proofs.YtkhfgflcanmefaaW.PrintMore
attribute [local go_sem] max2_int min2_int max_two min_two max_three min_three max_four min_four   -- for this text's walks alone
set_option linter.unusedVariables false
set_option linter.unusedSimpArgs false

def slices_IndexFunc_Job__job_running_1.l0 : Nat → List (S32) → Int → Int → Option (Int)
  | 0, _, _, _ => none
  | k + 1, x0, x7, x8 => if x8 < x7 then (if 0 ≤ x8 then (if x8 < (x0.length : Int) then ((job_running_1.f ((rd_T32 x0 x8).f0) ((rd_T32 x0 x8).f1) ((rd_T32 x0 x8).f2) ((rd_T32 x0 x8).f3) ((rd_T32 x0 x8).f4) ((rd_T32 x0 x8).f5) ((rd_T32 x0 x8).f6) ((rd_T32 x0 x8).f7) ((rd_T32 x0 x8).f8) ((rd_T32 x0 x8).f9) ((rd_T32 x0 x8).f10) ((rd_T32 x0 x8).f11)).bind fun t211 => (if t211 = true then (some x8) else (slices_IndexFunc_Job__job_running_1.l0 k x0 x7 (wrap64 (x8 + 1))))) else (none)) else (none)) else (some (-1))
def slices_IndexFunc_Job__job_running_1.f (k : Nat) (l0 : List (S32))  : Option (Int) := slices_IndexFunc_Job__job_running_1.l0 k l0 (l0.length : Int) 0
theorem slices_IndexFunc_Job__job_running_1.mono_l : ∀ k, (∀ y0 y1 y2, LeO (slices_IndexFunc_Job__job_running_1.l0 k y0 y1 y2) (slices_IndexFunc_Job__job_running_1.l0 (k + 1) y0 y1 y2))
  | 0 => fun _ _ _ r h => by simp [slices_IndexFunc_Job__job_running_1.l0] at h
  | k + 1 => by
    have ih0 := slices_IndexFunc_Job__job_running_1.mono_l k
    · intro y0 y1 y2
      unfold slices_IndexFunc_Job__job_running_1.l0
      repeat' first
      | (with_reducible exact ih0 _ _ _)
      | (with_reducible exact LeO.refl _)
      | (with_reducible exact LeO.none _)
      | (with_reducible refine LeO.ite ?_ ?_)
      | (with_reducible refine LeO.bind ?_ (fun _ => ?_))
      | exact ih0 _ _ _
      | exact LeO.none _
      | refine LeO.ite ?_ ?_
      | refine LeO.bind ?_ (fun _ => ?_)
theorem slices_IndexFunc_Job__job_running_1.mono : ∀ a0 k, LeO (slices_IndexFunc_Job__job_running_1.f k a0) (slices_IndexFunc_Job__job_running_1.f (k + 1) a0) := by
  intro a0 k
  have ih0 := slices_IndexFunc_Job__job_running_1.mono_l k
  unfold slices_IndexFunc_Job__job_running_1.f
  repeat' first
      | (with_reducible exact ih0 _ _ _)
      | (with_reducible exact LeO.refl _)
      | (with_reducible exact LeO.none _)
      | (with_reducible refine LeO.ite ?_ ?_)
      | (with_reducible refine LeO.bind ?_ (fun _ => ?_))
      | exact ih0 _ _ _
      | exact LeO.none _
      | refine LeO.ite ?_ ?_
      | refine LeO.bind ?_ (fun _ => ?_)
set_option maxHeartbeats 8000000 in
set_option maxRecDepth 100000 in
theorem slices_IndexFunc_Job__job_running_1.calls (k : Nat) (A0 : Option Addr) (c0 : Nat) (l0 : List (S32))  (r : Int) (w : World) (hr0 : Kd.C k32 w A0 l0.length l0) (hc0 : l0.length ≤ c0) (h : slices_IndexFunc_Job__job_running_1.f k l0 = some r) :
    Calls Try.prog 39 #[.slice A0 l0.length c0, .func (.func 57) #[] #[]] w fun e w' => e = .returned (.int .i64 r) ∧ Below w.heap.size w w' := by
  have hu32 := Try.underlying32
  have HR0 := Aside0.mk hr0
  have HC0 := Aside0.mk hc0
  clear hr0 hc0
  have HB := Aside0.mk (Below.refl w.heap.size w)
  have H : (slices_IndexFunc_Job__job_running_1.l0 k l0 (l0.length : Int) 0) = some r := h
  clear h
  have H' := Aside0.mk H
  clear H
  go_enter Try.func39, Try.ntmps39
  go_wp2
  go_loopg [8] k (fun kq v8 w' => ∃ (x8_1 : Int), v8 = .int .i64 x8_1 ∧ Aside0 (slices_IndexFunc_Job__job_running_1.l0 kq l0 (l0.length : Int) x8_1 = some r) ∧ Aside0 (kq ≤ k) ∧ Aside0 (Below w.heap.size w w'))
  case atStart => exact ⟨(0), (by first | rfl | (simp; done) | (simp [*]; done)), H', ⟨Nat.le_refl _⟩, ⟨by repeat (first | (with_reducible first | exact HB.out | apply below_alloc | apply pw_below_drewN | apply below_drew1) | exact HB.out)⟩⟩
  case round =>
    clear H'
    try clear p2
    obtain ⟨x8_1, rfl, HA, HK1, HB⟩ := hrel
    cases gk with
    | zero => exact absurd HA.out (by simp [slices_IndexFunc_Job__job_running_1.l0])
    | succ k1 =>
      have H := HA.out
      clear HA
      simp only [slices_IndexFunc_Job__job_running_1.l0] at H
      by_cases c3 : x8_1 < (l0.length : Int)
      · rw [if_pos c3] at H
        have c3b0 : decide (x8_1 < (l0.length : Int)) = true := decide_eq_true c3
        clear c3
        by_cases c4 : 0 ≤ x8_1
        · rw [if_pos c4] at H
          have c4b0 : decide (0 ≤ x8_1) = true := decide_eq_true c4
          clear c4
          by_cases c5 : x8_1 < (l0.length : Int)
          · rw [if_pos c5] at H
            have c5b0 : decide (x8_1 < (l0.length : Int)) = true := decide_eq_true c5
            clear c5
            replace H := Option.bind_eq_some_iff.mp H
            obtain ⟨t211, A60, H⟩ := H
            replace H : (if t211 = true then (some x8_1) else (slices_IndexFunc_Job__job_running_1.l0 k1 l0 (l0.length : Int) (wrap64 (x8_1 + 1)))) = some r := H
            have A6 := Aside0.mk A60
            clear A60
            by_cases c7 : t211 = true
            · subst c7
              have H1 : (some x8_1) = some r := by rw [if_pos rfl] at H; exact H
              clear H
              have H := H1
              clear H1
              obtain rfl := Option.some.inj H
              have p210 : 0 ≤ (x8_1 : Int) := of_decide_eq_true (by first | (with_reducible assumption) | assumption)
              have q210 : x8_1 < (l0.length : Int) := of_decide_eq_true (by first | (with_reducible assumption) | assumption)
              obtain ⟨ad210, e210, hx210_0, hx210_1, hx210_2, hx210_3, hx210_4, hx210_5, hx210_6, hx210_7, hx210_8, hx210_9, hx210_10, hx210_11⟩ := at_T32 HR0.out x8_1 p210 q210
              cases e210
              replace hx210_0 := (HB.out.cell (World.block_lt_of_cell? w _ hx210_0)).trans hx210_0
              replace hx210_1 := (HB.out.cell (World.block_lt_of_cell? w _ hx210_1)).trans hx210_1
              replace hx210_2 := (HB.out.cell (World.block_lt_of_cell? w _ hx210_2)).trans hx210_2
              replace hx210_3 := (HB.out.cell (World.block_lt_of_cell? w _ hx210_3)).trans hx210_3
              replace hx210_4 := (HB.out.cell (World.block_lt_of_cell? w _ hx210_4)).trans hx210_4
              replace hx210_5 := (HB.out.cell (World.block_lt_of_cell? w _ hx210_5)).trans hx210_5
              replace hx210_6 := (HB.out.cell (World.block_lt_of_cell? w _ hx210_6)).trans hx210_6
              replace hx210_7 := (HB.out.cell (World.block_lt_of_cell? w _ hx210_7)).trans hx210_7
              replace hx210_8 := (HB.out.cell (World.block_lt_of_cell? w _ hx210_8)).trans hx210_8
              replace hx210_9 := (HB.out.cell (World.block_lt_of_cell? w _ hx210_9)).trans hx210_9
              replace hx210_10 := (HB.out.cell (World.block_lt_of_cell? w _ hx210_10)).trans hx210_10
              replace hx210_11 := (HB.out.cell (World.block_lt_of_cell? w _ hx210_11)).trans hx210_11
              replace p210 := eq_true p210
              replace q210 := eq_true q210
              go_wp2_with (first | (go_at_call 57; (with_reducible refine (job_running_1.calls ((rd_T32 l0 x8_1).f0) ((rd_T32 l0 x8_1).f1) ((rd_T32 l0 x8_1).f2) ((rd_T32 l0 x8_1).f3) ((rd_T32 l0 x8_1).f4) ((rd_T32 l0 x8_1).f5) ((rd_T32 l0 x8_1).f6) ((rd_T32 l0 x8_1).f7) ((rd_T32 l0 x8_1).f8) ((rd_T32 l0 x8_1).f9) ((rd_T32 l0 x8_1).f10) ((rd_T32 l0 x8_1).f11) true _ A6.out).mono ?_); rintro e w8 ⟨rfl, hb⟩; have n0_ := Aside0.mk (below_step (by repeat (first | (with_reducible first | exact HB.out | apply below_alloc | apply pw_below_drewN | apply below_drew1) | exact HB.out)) hb); clear HB; have HB := n0_; clear n0_; (try clear hb); (try clear hb2); (try clear hk); (try clear hi)))
              go_ret
              exact ⟨by first | rfl | (simp [errW_none, errW_some] <;> rfl) | (simp [*, errW_none, errW_some] <;> rfl), by repeat (first | (with_reducible first | exact HB.out | apply below_alloc | apply pw_below_drewN | apply below_drew1) | exact HB.out)⟩
            · replace c7 := Bool.eq_false_iff.mpr c7
              subst c7
              have H1 : (slices_IndexFunc_Job__job_running_1.l0 k1 l0 (l0.length : Int) (wrap64 (x8_1 + 1))) = some r := by rw [if_neg (show ¬ (false = true) by decide)] at H; exact H
              clear H
              have H := H1
              clear H1
              have H' := Aside0.mk H
              clear H
              have p210 : 0 ≤ (x8_1 : Int) := of_decide_eq_true (by first | (with_reducible assumption) | assumption)
              have q210 : x8_1 < (l0.length : Int) := of_decide_eq_true (by first | (with_reducible assumption) | assumption)
              obtain ⟨ad210, e210, hx210_0, hx210_1, hx210_2, hx210_3, hx210_4, hx210_5, hx210_6, hx210_7, hx210_8, hx210_9, hx210_10, hx210_11⟩ := at_T32 HR0.out x8_1 p210 q210
              cases e210
              replace hx210_0 := (HB.out.cell (World.block_lt_of_cell? w _ hx210_0)).trans hx210_0
              replace hx210_1 := (HB.out.cell (World.block_lt_of_cell? w _ hx210_1)).trans hx210_1
              replace hx210_2 := (HB.out.cell (World.block_lt_of_cell? w _ hx210_2)).trans hx210_2
              replace hx210_3 := (HB.out.cell (World.block_lt_of_cell? w _ hx210_3)).trans hx210_3
              replace hx210_4 := (HB.out.cell (World.block_lt_of_cell? w _ hx210_4)).trans hx210_4
              replace hx210_5 := (HB.out.cell (World.block_lt_of_cell? w _ hx210_5)).trans hx210_5
              replace hx210_6 := (HB.out.cell (World.block_lt_of_cell? w _ hx210_6)).trans hx210_6
              replace hx210_7 := (HB.out.cell (World.block_lt_of_cell? w _ hx210_7)).trans hx210_7
              replace hx210_8 := (HB.out.cell (World.block_lt_of_cell? w _ hx210_8)).trans hx210_8
              replace hx210_9 := (HB.out.cell (World.block_lt_of_cell? w _ hx210_9)).trans hx210_9
              replace hx210_10 := (HB.out.cell (World.block_lt_of_cell? w _ hx210_10)).trans hx210_10
              replace hx210_11 := (HB.out.cell (World.block_lt_of_cell? w _ hx210_11)).trans hx210_11
              replace p210 := eq_true p210
              replace q210 := eq_true q210
              go_wp2_with (first | (go_at_call 57; (with_reducible refine (job_running_1.calls ((rd_T32 l0 x8_1).f0) ((rd_T32 l0 x8_1).f1) ((rd_T32 l0 x8_1).f2) ((rd_T32 l0 x8_1).f3) ((rd_T32 l0 x8_1).f4) ((rd_T32 l0 x8_1).f5) ((rd_T32 l0 x8_1).f6) ((rd_T32 l0 x8_1).f7) ((rd_T32 l0 x8_1).f8) ((rd_T32 l0 x8_1).f9) ((rd_T32 l0 x8_1).f10) ((rd_T32 l0 x8_1).f11) false _ A6.out).mono ?_); rintro e w9 ⟨rfl, hb⟩; have n0_ := Aside0.mk (below_step (by repeat (first | (with_reducible first | exact HB.out | apply below_alloc | apply pw_below_drewN | apply below_drew1) | exact HB.out)) hb); clear HB; have HB := n0_; clear n0_; (try clear hb); (try clear hb2); (try clear hk); (try clear hi)))
              go_roundg k1
              case measure => have := HK1.out; omega
              case rel => exact ⟨(wrap64 (x8_1 + 1)), (by first | rfl | (simp; done) | (simp [*]; done)), H', ⟨by have := HK1.out; omega⟩, ⟨by repeat (first | (with_reducible first | exact HB.out | apply below_alloc | apply pw_below_drewN | apply below_drew1) | exact HB.out)⟩⟩
          · rw [if_neg c5] at H
            exact absurd H (by simp)
        · rw [if_neg c4] at H
          exact absurd H (by simp)
      · rw [if_neg c3] at H
        have c3b0 : decide (x8_1 < (l0.length : Int)) = false := decide_eq_false c3
        clear c3
        obtain rfl := Option.some.inj H
        go_wp2
        go_ret
        exact ⟨by first | rfl | (simp [errW_none, errW_some] <;> rfl) | (simp [*, errW_none, errW_some] <;> rfl), by repeat (first | (with_reducible first | exact HB.out | apply below_alloc | apply pw_below_drewN | apply below_drew1) | exact HB.out)⟩

end Go.Proofs.Ytkhfgflcanmefaa.PAll
end
section
namespace Go.Proofs.Ytkhfgflcanmefaa.PAll
open Go.RowKit Go.Proofs.YtkhfgflcanmefaaW.PrintWords Go.Proofs.YtkhfgflcanmefaaW.PrintLast Go.Proofs.YtkhfgflcanmefaaW.PrintMore
attribute [local go_sem] max2_int min2_int max_two min_two max_three min_three max_four min_four   -- for this text's walks alone
set_option linter.unusedVariables false
set_option linter.unusedSimpArgs false

def slices_DeleteFunc_Job__job_running_1.l0 : Nat → List (S32) → Int → Int → Option ((List (S32)))
 | 0, _, _, _ => none
 | k + 1, x0, x5, x6 => if x6 < (x0.length : Int) then (if 0 ≤ x6 then ((job_running_1.f ((rd_T32 x0 x6).f0) ((rd_T32 x0 x6).f1) ((rd_T32 x0 x6).f2) ((rd_T32 x0 x6).f3) ((rd_T32 x0 x6).f4) ((rd_T32 x0 x6).f5) ((rd_T32 x0 x6).f6) ((rd_T32 x0 x6).f7) ((rd_T32 x0 x6).f8) ((rd_T32 x0 x6).f9) ((rd_T32 x0 x6).f10) ((rd_T32 x0 x6).f11)).bind fun t215 => (if t215 = true then (slices_DeleteFunc_Job__job_running_1.l0 k x0 x5 (wrap64 (x6 + 1))) else (if 0 ≤ x5 then (if x5 < (x0.length : Int) then (slices_DeleteFunc_Job__job_running_1.l0 k (x0.set (x5 : Int).toNat (⟨(rd_T32 x0 x6).f0, (rd_T32 x0 x6).f1, (rd_T32 x0 x6).f2, (rd_T32 x0 x6).f3, (rd_T32 x0 x6).f4, (rd_T32 x0 x6).f5, (rd_T32 x0 x6).f6, (rd_T32 x0 x6).f7, (rd_T32 x0 x6).f8, (rd_T32 x0 x6).f9, (rd_T32 x0 x6).f10, (rd_T32 x0 x6).f11⟩ : S32)) (wrap64 (x5 + 1)) (wrap64 (x6 + 1))) else (none)) else (none)))) else (none)) else (if 0 ≤ x5 then (if x5 ≤ (x0.length : Int) then (some (x0.take (x5 : Int).toNat)) else (none)) else (none))
def slices_DeleteFunc_Job__job_running_1.f (k : Nat) (l0 : List (S32))  : Option ((List (S32))) := (slices_IndexFunc_Job__job_running_1.f k l0).bind fun t212 => (if t212 = (-1) then (some l0) else (slices_DeleteFunc_Job__job_running_1.l0 k l0 t212 (wrap64 (t212 + 1))))
theorem slices_DeleteFunc_Job__job_running_1.mono_l : ∀ k, (∀ y0 y1 y2, LeO (slices_DeleteFunc_Job__job_running_1.l0 k y0 y1 y2) (slices_DeleteFunc_Job__job_running_1.l0 (k + 1) y0 y1 y2))
 | 0 => fun _ _ _ r h => by simp [slices_DeleteFunc_Job__job_running_1.l0] at h
 | k + 1 => by
  have ih0 := slices_DeleteFunc_Job__job_running_1.mono_l k
  ·intro y0 y1 y2
   unfold slices_DeleteFunc_Job__job_running_1.l0
   repeat' first
   | (with_reducible exact ih0 _ _ _)
   | (with_reducible exact slices_IndexFunc_Job__job_running_1.mono _ _)
   | (with_reducible exact LeO.refl _)
   | (with_reducible exact LeO.none _)
   | (with_reducible refine LeO.ite ?_ ?_)
   | (with_reducible refine LeO.bind ?_ (fun _ => ?_))
   | exact ih0 _ _ _
   | exact slices_IndexFunc_Job__job_running_1.mono _ _
   | exact LeO.none _
   | refine LeO.ite ?_ ?_
   | refine LeO.bind ?_ (fun _ => ?_)
theorem slices_DeleteFunc_Job__job_running_1.mono : ∀ a0 k, LeO (slices_DeleteFunc_Job__job_running_1.f k a0) (slices_DeleteFunc_Job__job_running_1.f (k + 1) a0) := by
 intro a0 k
 have ih0 := slices_DeleteFunc_Job__job_running_1.mono_l k
 unfold slices_DeleteFunc_Job__job_running_1.f
 repeat' first
   | (with_reducible exact ih0 _ _ _)
   | (with_reducible exact slices_IndexFunc_Job__job_running_1.mono _ _)
   | (with_reducible exact LeO.refl _)
   | (with_reducible exact LeO.none _)
   | (with_reducible refine LeO.ite ?_ ?_)
   | (with_reducible refine LeO.bind ?_ (fun _ => ?_))
   | exact ih0 _ _ _
   | exact slices_IndexFunc_Job__job_running_1.mono _ _
   | exact LeO.none _
   | refine LeO.ite ?_ ?_
   | refine LeO.bind ?_ (fun _ => ?_)
set_option maxHeartbeats 8000000 in
set_option maxRecDepth 100000 in
theorem slices_DeleteFunc_Job__job_running_1.calls (k : Nat) (P0_ : Nat → Prop) (u9000_ : Value) (l0 : List (S32))  (r : List (S32)) (w0 w : World) (hB : Below w0.heap.size w0 w) (ho0 : Kd.R k32 32 w w0.heap.size P0_ u9000_ l0) (h : slices_DeleteFunc_Job__job_running_1.f k l0 = some r) :
  Calls Try.prog 55 #[u9000_, .func (.func 57) #[] #[]] w fun e w' => ∃ v0_ : Value, e = .returned (v0_) ∧ Kd.R k32 32 w' w0.heap.size (fun k_ => (P0_ k_ ∨ w.heap.size ≤ k_)) v0_ r ∧ Below w0.heap.size w0 w' ∧ Kept w w' (fun k_ => P0_ k_) := by
 have hu32 := Try.underlying32
 have HO0 := Aside0.mk (show Kd.R k32 32 w w0.heap.size (fun k_ => (P0_ k_ ∨ w.heap.size ≤ k_)) u9000_ l0 from Kd.R_mono ho0 (fun k_ hk => (.inl hk)))
 have HK := Aside0.mk (Kept.refl w (fun k_ => P0_ k_))
 have HW0 := Aside0.mk hB.size
 have HB := Aside0.mk hB
 clear hB
 have H : ((slices_IndexFunc_Job__job_running_1.f k l0).bind fun t212 => (if t212 = (-1) then (some l0) else (slices_DeleteFunc_Job__job_running_1.l0 k l0 t212 (wrap64 (t212 + 1))))) = some r := h
 clear h
 replace H := Option.bind_eq_some_iff.mp H
 obtain ⟨t212, A30, H⟩ := H
 replace H : (if t212 = (-1) then (some l0) else (slices_DeleteFunc_Job__job_running_1.l0 k l0 t212 (wrap64 (t212 + 1)))) = some r := H
 have A3 := Aside0.mk A30
 clear A30
 by_cases c4 : t212 = (-1)
 ·rw [if_pos c4] at H
  have c4b0 : (t212 == (-1)) = true := beq_iff_eq.mpr c4
  have c4b1 : (t212 != (-1)) = false := bne_eq_false_iff_eq.mpr c4
  clear c4
  obtain rfl := Option.some.inj H
  obtain ⟨Ao5, co5, eo5⟩ := Kd.R_slice HO0.out
  subst eo5
  go_enter Try.func55, Try.ntmps55
  go_wp2_with (first | ((with_reducible refine gate_callee (f := 39) rfl ?_); refine goesL_ (some 10) rfl rfl Try.func39 (by kernel_rfl) rfl #[.slice Ao5 l0.length co5, .func (.func 57) #[] #[]] rfl mt ?_; (with_reducible refine (slices_IndexFunc_Job__job_running_1.calls k _ _ l0  t212 _ ?side1 ?side2 A3.out).mono ?_); (case side1 => exact mC (Kd.R_reads' HO0.out).2.2); (case side2 => exact (Kd.R_reads' HO0.out).2.1); rintro e w6 ⟨rfl, hb⟩; refine ⟨_, rfl, ?_⟩; have n0_ := Aside0.mk (Kd.R_below (mR HO0.out) hb); have n1_ := Aside0.mk (Kept.below (S := (fun k_ => P0_ k_)) (mK HK.out) hb); have n2_ := Aside0.mk (below_step (mB HB.out) hb); clear HO0; clear HK; clear HB; have HO0 := n0_; have HK := n1_; have HB := n2_; clear n0_ n1_ n2_; (try clear hb); (try clear hb2); (try clear hk); (try clear hi)))
  go_ret
  exact ⟨_, by first | rfl | (simp [errW_none, errW_some] <;> rfl) | (simp [*, errW_none, errW_some] <;> rfl), mR HO0.out, by repeat (first | (with_reducible first | exact HB.out | apply below_alloc | apply pw_below_drewN | apply below_drew1) | exact HB.out), by repeat (first | (with_reducible first | exact HK.out | apply Kept.alloc | apply Kept.drewN | apply Kept.drew) | exact HK.out)⟩
 ·rw [if_neg c4] at H
  have c4b0 : (t212 == (-1)) = false := beq_eq_false_iff_ne.mpr c4
  have c4b1 : (t212 != (-1)) = true := bne_iff_ne.mpr c4
  have H' := Aside0.mk H
  clear H
  obtain ⟨Ao7, co7, eo7⟩ := Kd.R_slice HO0.out
  subst eo7
  go_enter Try.func55, Try.ntmps55
  go_wp2_with (first | ((with_reducible refine gate_callee (f := 39) rfl ?_); refine goesL_ (some 10) rfl rfl Try.func39 (by kernel_rfl) rfl #[.slice Ao7 l0.length co7, .func (.func 57) #[] #[]] rfl mt ?_; (with_reducible refine (slices_IndexFunc_Job__job_running_1.calls k _ _ l0  t212 _ ?side1 ?side2 A3.out).mono ?_); (case side1 => exact mC (Kd.R_reads' HO0.out).2.2); (case side2 => exact (Kd.R_reads' HO0.out).2.1); rintro e w8 ⟨rfl, hb⟩; refine ⟨_, rfl, ?_⟩; have n0_ := Aside0.mk (Kd.R_below (mR HO0.out) hb); have n1_ := Aside0.mk (Kept.below (S := (fun k_ => P0_ k_)) (mK HK.out) hb); have n2_ := Aside0.mk (below_step (mB HB.out) hb); clear HO0; clear HK; clear HB; have HO0 := n0_; have HK := n1_; have HB := n2_; clear n0_ n1_ n2_; (try clear hb); (try clear hb2); (try clear hk); (try clear hi)))
  go_loopg [5, 6] k (fun kq v5 v6 w' => ∃ (x0_1 : List (S32)) (x5_1 : Int) (x6_1 : Int), v5 = .int .i64 x5_1 ∧ v6 = .int .i64 x6_1 ∧ Aside0 (slices_DeleteFunc_Job__job_running_1.l0 kq x0_1 x5_1 x6_1 = some r) ∧ Aside0 (kq ≤ k) ∧ Aside0 (Kd.R k32 32 w' w0.heap.size (fun k_ => (P0_ k_ ∨ w.heap.size ≤ k_)) (.slice Ao7 l0.length co7) x0_1) ∧ Aside0 (Kept w w' (fun k_ => P0_ k_)) ∧ Aside0 (Below w0.heap.size w0 w'))
  case atStart => exact ⟨(l0), (t212), (wrap64 (t212 + 1)), ez, ez, H', ⟨Nat.le_refl _⟩, ⟨mR HO0.out⟩, ⟨mK HK.out⟩, ⟨mB HB.out⟩⟩
  case round =>
   clear H'
   (try clear p2); (try clear c4); (try clear c4b0); (try clear c4b1); (try clear p6); (try clear c7)
   obtain ⟨x0_1, x5_1, x6_1, rfl, rfl, HA, HK1, HO_0, HK, HB⟩ := hrel
   have hl0_1 := (Kd.R_reads' HO_0.out).1
   rw [hl0_1] at HO_0
   (try simp only [hl0_1])
   cases gk with
   | zero => exact absurd HA.out (by simp [slices_DeleteFunc_Job__job_running_1.l0])
   | succ k1 =>
    have H := HA.out
    clear HA
    simp only [slices_DeleteFunc_Job__job_running_1.l0] at H
    by_cases c9 : x6_1 < (x0_1.length : Int)
    ·rw [if_pos c9] at H
     have c9b0 : decide (x6_1 < (x0_1.length : Int)) = true := decide_eq_true c9
     clear c9
     by_cases c10 : 0 ≤ x6_1
     ·rw [if_pos c10] at H
      have c10b0 : decide (0 ≤ x6_1) = true := decide_eq_true c10
      clear c10
      replace H := Option.bind_eq_some_iff.mp H
      obtain ⟨t215, A110, H⟩ := H
      replace H : (if t215 = true then (slices_DeleteFunc_Job__job_running_1.l0 k1 x0_1 x5_1 (wrap64 (x6_1 + 1))) else (if 0 ≤ x5_1 then (if x5_1 < (x0_1.length : Int) then (slices_DeleteFunc_Job__job_running_1.l0 k1 (x0_1.set (x5_1 : Int).toNat (⟨(rd_T32 x0_1 x6_1).f0, (rd_T32 x0_1 x6_1).f1, (rd_T32 x0_1 x6_1).f2, (rd_T32 x0_1 x6_1).f3, (rd_T32 x0_1 x6_1).f4, (rd_T32 x0_1 x6_1).f5, (rd_T32 x0_1 x6_1).f6, (rd_T32 x0_1 x6_1).f7, (rd_T32 x0_1 x6_1).f8, (rd_T32 x0_1 x6_1).f9, (rd_T32 x0_1 x6_1).f10, (rd_T32 x0_1 x6_1).f11⟩ : S32)) (wrap64 (x5_1 + 1)) (wrap64 (x6_1 + 1))) else (none)) else (none))) = some r := H
      have A11 := Aside0.mk A110
      clear A110
      by_cases c12 : t215 = true
      ·subst c12
       have H1 : (slices_DeleteFunc_Job__job_running_1.l0 k1 x0_1 x5_1 (wrap64 (x6_1 + 1))) = some r := by rw [if_pos rfl] at H; exact H
       clear H
       have H := H1
       clear H1
       have H' := Aside0.mk H
       clear H
       have p213 : 0 ≤ (x6_1 : Int) := oda
       have q213 : x6_1 < (x0_1.length : Int) := oda
       obtain ⟨ad213, e213, hx213_0, hx213_1, hx213_2, hx213_3, hx213_4, hx213_5, hx213_6, hx213_7, hx213_8, hx213_9, hx213_10, hx213_11⟩ := at_T32 (Kd.R_reads' HO_0.out).2.2 x6_1 p213 q213
       cases e213
       replace p213 := eq_true p213
       replace q213 := eq_true q213
       go_wp2_with (first | ((with_reducible refine gate_dst (N := 7) rfl ?_); refine box_event ?hg (N := 7) ?hd (cs := #[.int .i64 0, .int .i64 0, .int .i64 0, .int .i64 0, .int .i64 0, .int .i64 0, .int .i64 0, .int .i64 0, .int .i64 0, .int .i64 0, .int .i64 0, .slice none 0 0]) (t := 32) ?hr ?_; (case hd => rfl); (case hg => rfl); (case hr => first | (go_simp; done) | (go_simp; rfl)); intro gb214 hg w13 hbox hb; have n0_ := Aside0.mk (Kd.R_below (Kd.R_elderB (mR HO_0.out) gb214 (Nat.le_of_eq hg.symm)) hb); have n1_ := Aside0.mk (Kept.below (S := (fun k_ => P0_ k_)) (mK HK.out) hb); have n2_ := Aside0.mk (below_step (mB HB.out) hb); have n3_ := Aside0.mk (hbox); have n4_ := Aside0.mk ((by rw [hg]; exact (by first | exact HK.out.1 | exact (show Kept w _ (fun k_ => P0_ k_) from by repeat (first | (with_reducible first | exact HK.out | apply Kept.alloc | apply Kept.drewN | apply Kept.drew) | exact HK.out)).1) : w.heap.size ≤ gb214)); have n5_ := Aside0.mk ((by rw [hg]; exact (below_size (mB HB.out)) : w0.heap.size ≤ gb214)); clear HO_0; clear HK; clear HB; have HO_0 := n0_; have HK := n1_; have HB := n2_; have BK214 := n3_; have GW214 := n4_; have GE214 := n5_; clear n0_ n1_ n2_ n3_ n4_ n5_; clear hb hbox hg; have hcz14_0 : w13.cell? ⟨gb214, 0, none⟩ = some (.int .i64 0) := (blk_cell BK214.out 0).trans rfl; have hcz14_1 : w13.cell? ⟨gb214, 1, none⟩ = some (.int .i64 0) := (blk_cell BK214.out 1).trans rfl; have hcz14_2 : w13.cell? ⟨gb214, 2, none⟩ = some (.int .i64 0) := (blk_cell BK214.out 2).trans rfl; have hcz14_3 : w13.cell? ⟨gb214, 3, none⟩ = some (.int .i64 0) := (blk_cell BK214.out 3).trans rfl; have hcz14_4 : w13.cell? ⟨gb214, 4, none⟩ = some (.int .i64 0) := (blk_cell BK214.out 4).trans rfl; have hcz14_5 : w13.cell? ⟨gb214, 5, none⟩ = some (.int .i64 0) := (blk_cell BK214.out 5).trans rfl; have hcz14_6 : w13.cell? ⟨gb214, 6, none⟩ = some (.int .i64 0) := (blk_cell BK214.out 6).trans rfl; have hcz14_7 : w13.cell? ⟨gb214, 7, none⟩ = some (.int .i64 0) := (blk_cell BK214.out 7).trans rfl; have hcz14_8 : w13.cell? ⟨gb214, 8, none⟩ = some (.int .i64 0) := (blk_cell BK214.out 8).trans rfl; have hcz14_9 : w13.cell? ⟨gb214, 9, none⟩ = some (.int .i64 0) := (blk_cell BK214.out 9).trans rfl; have hcz14_10 : w13.cell? ⟨gb214, 10, none⟩ = some (.int .i64 0) := (blk_cell BK214.out 10).trans rfl; have hcz14_11 : w13.cell? ⟨gb214, 11, none⟩ = some (.slice none 0 0) := (blk_cell BK214.out 11).trans rfl; have hfz14_0 := blk_frozen BK214.out 0; have hfz14_1 := blk_frozen BK214.out 1; have hfz14_2 := blk_frozen BK214.out 2; have hfz14_3 := blk_frozen BK214.out 3; have hfz14_4 := blk_frozen BK214.out 4; have hfz14_5 := blk_frozen BK214.out 5; have hfz14_6 := blk_frozen BK214.out 6; have hfz14_7 := blk_frozen BK214.out 7; have hfz14_8 := blk_frozen BK214.out 8; have hfz14_9 := blk_frozen BK214.out 9; have hfz14_10 := blk_frozen BK214.out 10; have hfz14_11 := blk_frozen BK214.out 11) | (go_at_call 57; (with_reducible refine (job_running_1.calls ((rd_T32 x0_1 x6_1).f0) ((rd_T32 x0_1 x6_1).f1) ((rd_T32 x0_1 x6_1).f2) ((rd_T32 x0_1 x6_1).f3) ((rd_T32 x0_1 x6_1).f4) ((rd_T32 x0_1 x6_1).f5) ((rd_T32 x0_1 x6_1).f6) ((rd_T32 x0_1 x6_1).f7) ((rd_T32 x0_1 x6_1).f8) ((rd_T32 x0_1 x6_1).f9) ((rd_T32 x0_1 x6_1).f10) ((rd_T32 x0_1 x6_1).f11) true _ A11.out).mono ?_); rintro e w15 ⟨rfl, hb⟩; have n0_ := Aside0.mk (Kd.R_below (by (with_reducible repeat (first | apply Kd.R_alloc | apply Kd.R_drewN | apply Kd.R_drew)); exact (Kd.R_mono (Kd.R_fa gb214 11 (Kd.R_fa gb214 10 (Kd.R_fa gb214 9 (Kd.R_fa gb214 8 (Kd.R_fa gb214 7 (Kd.R_fa gb214 6 (Kd.R_fa gb214 5 (Kd.R_fa gb214 4 (Kd.R_fa gb214 3 (Kd.R_fa gb214 2 (Kd.R_fa gb214 1 (Kd.R_fa gb214 0 (Kd.R_mono HO_0.out (fun k_ hk => (⟨hk, hk.2⟩ : _ ∧ k_ ≠ gb214))) (.int .i64 ((rd_T32 x0_1 x6_1).f0))) (.int .i64 ((rd_T32 x0_1 x6_1).f1))) (.int .i64 ((rd_T32 x0_1 x6_1).f2))) (.int .i64 ((rd_T32 x0_1 x6_1).f3))) (.int .i64 ((rd_T32 x0_1 x6_1).f4))) (.int .i64 ((rd_T32 x0_1 x6_1).f5))) (.int .i64 ((rd_T32 x0_1 x6_1).f6))) (.int .i64 ((rd_T32 x0_1 x6_1).f7))) (.int .i64 ((rd_T32 x0_1 x6_1).f8))) (.int .i64 ((rd_T32 x0_1 x6_1).f9))) (.int .i64 ((rd_T32 x0_1 x6_1).f10))) (.slice ((rd_T32 x0_1 x6_1).f11).A ((rd_T32 x0_1 x6_1).f11).n ((rd_T32 x0_1 x6_1).f11).c)) (fun _ h_ => h_.1))) hb); have n1_ := Aside0.mk (blk_below (g := gb214) (o := .cells #[.int .i64 ((rd_T32 x0_1 x6_1).f0), .int .i64 ((rd_T32 x0_1 x6_1).f1), .int .i64 ((rd_T32 x0_1 x6_1).f2), .int .i64 ((rd_T32 x0_1 x6_1).f3), .int .i64 ((rd_T32 x0_1 x6_1).f4), .int .i64 ((rd_T32 x0_1 x6_1).f5), .int .i64 ((rd_T32 x0_1 x6_1).f6), .int .i64 ((rd_T32 x0_1 x6_1).f7), .int .i64 ((rd_T32 x0_1 x6_1).f8), .int .i64 ((rd_T32 x0_1 x6_1).f9), .int .i64 ((rd_T32 x0_1 x6_1).f10), .slice ((rd_T32 x0_1 x6_1).f11).A ((rd_T32 x0_1 x6_1).f11).n ((rd_T32 x0_1 x6_1).f11).c] 32 (0, 0)) (by (with_reducible repeat first | apply blk_drewN | apply blk_drew | apply blk_alloc); refine blk_put (cs := #[.int .i64 ((rd_T32 x0_1 x6_1).f0), .int .i64 ((rd_T32 x0_1 x6_1).f1), .int .i64 ((rd_T32 x0_1 x6_1).f2), .int .i64 ((rd_T32 x0_1 x6_1).f3), .int .i64 ((rd_T32 x0_1 x6_1).f4), .int .i64 ((rd_T32 x0_1 x6_1).f5), .int .i64 ((rd_T32 x0_1 x6_1).f6), .int .i64 ((rd_T32 x0_1 x6_1).f7), .int .i64 ((rd_T32 x0_1 x6_1).f8), .int .i64 ((rd_T32 x0_1 x6_1).f9), .int .i64 ((rd_T32 x0_1 x6_1).f10), .slice none 0 0]) ?_ 11 _ rfl; (with_reducible repeat first | apply blk_drewN | apply blk_drew | apply blk_alloc); refine blk_put (cs := #[.int .i64 ((rd_T32 x0_1 x6_1).f0), .int .i64 ((rd_T32 x0_1 x6_1).f1), .int .i64 ((rd_T32 x0_1 x6_1).f2), .int .i64 ((rd_T32 x0_1 x6_1).f3), .int .i64 ((rd_T32 x0_1 x6_1).f4), .int .i64 ((rd_T32 x0_1 x6_1).f5), .int .i64 ((rd_T32 x0_1 x6_1).f6), .int .i64 ((rd_T32 x0_1 x6_1).f7), .int .i64 ((rd_T32 x0_1 x6_1).f8), .int .i64 ((rd_T32 x0_1 x6_1).f9), .int .i64 0, .slice none 0 0]) ?_ 10 _ rfl; (with_reducible repeat first | apply blk_drewN | apply blk_drew | apply blk_alloc); refine blk_put (cs := #[.int .i64 ((rd_T32 x0_1 x6_1).f0), .int .i64 ((rd_T32 x0_1 x6_1).f1), .int .i64 ((rd_T32 x0_1 x6_1).f2), .int .i64 ((rd_T32 x0_1 x6_1).f3), .int .i64 ((rd_T32 x0_1 x6_1).f4), .int .i64 ((rd_T32 x0_1 x6_1).f5), .int .i64 ((rd_T32 x0_1 x6_1).f6), .int .i64 ((rd_T32 x0_1 x6_1).f7), .int .i64 ((rd_T32 x0_1 x6_1).f8), .int .i64 0, .int .i64 0, .slice none 0 0]) ?_ 9 _ rfl; (with_reducible repeat first | apply blk_drewN | apply blk_drew | apply blk_alloc); refine blk_put (cs := #[.int .i64 ((rd_T32 x0_1 x6_1).f0), .int .i64 ((rd_T32 x0_1 x6_1).f1), .int .i64 ((rd_T32 x0_1 x6_1).f2), .int .i64 ((rd_T32 x0_1 x6_1).f3), .int .i64 ((rd_T32 x0_1 x6_1).f4), .int .i64 ((rd_T32 x0_1 x6_1).f5), .int .i64 ((rd_T32 x0_1 x6_1).f6), .int .i64 ((rd_T32 x0_1 x6_1).f7), .int .i64 0, .int .i64 0, .int .i64 0, .slice none 0 0]) ?_ 8 _ rfl; (with_reducible repeat first | apply blk_drewN | apply blk_drew | apply blk_alloc); refine blk_put (cs := #[.int .i64 ((rd_T32 x0_1 x6_1).f0), .int .i64 ((rd_T32 x0_1 x6_1).f1), .int .i64 ((rd_T32 x0_1 x6_1).f2), .int .i64 ((rd_T32 x0_1 x6_1).f3), .int .i64 ((rd_T32 x0_1 x6_1).f4), .int .i64 ((rd_T32 x0_1 x6_1).f5), .int .i64 ((rd_T32 x0_1 x6_1).f6), .int .i64 0, .int .i64 0, .int .i64 0, .int .i64 0, .slice none 0 0]) ?_ 7 _ rfl; (with_reducible repeat first | apply blk_drewN | apply blk_drew | apply blk_alloc); refine blk_put (cs := #[.int .i64 ((rd_T32 x0_1 x6_1).f0), .int .i64 ((rd_T32 x0_1 x6_1).f1), .int .i64 ((rd_T32 x0_1 x6_1).f2), .int .i64 ((rd_T32 x0_1 x6_1).f3), .int .i64 ((rd_T32 x0_1 x6_1).f4), .int .i64 ((rd_T32 x0_1 x6_1).f5), .int .i64 0, .int .i64 0, .int .i64 0, .int .i64 0, .int .i64 0, .slice none 0 0]) ?_ 6 _ rfl; (with_reducible repeat first | apply blk_drewN | apply blk_drew | apply blk_alloc); refine blk_put (cs := #[.int .i64 ((rd_T32 x0_1 x6_1).f0), .int .i64 ((rd_T32 x0_1 x6_1).f1), .int .i64 ((rd_T32 x0_1 x6_1).f2), .int .i64 ((rd_T32 x0_1 x6_1).f3), .int .i64 ((rd_T32 x0_1 x6_1).f4), .int .i64 0, .int .i64 0, .int .i64 0, .int .i64 0, .int .i64 0, .int .i64 0, .slice none 0 0]) ?_ 5 _ rfl; (with_reducible repeat first | apply blk_drewN | apply blk_drew | apply blk_alloc); refine blk_put (cs := #[.int .i64 ((rd_T32 x0_1 x6_1).f0), .int .i64 ((rd_T32 x0_1 x6_1).f1), .int .i64 ((rd_T32 x0_1 x6_1).f2), .int .i64 ((rd_T32 x0_1 x6_1).f3), .int .i64 0, .int .i64 0, .int .i64 0, .int .i64 0, .int .i64 0, .int .i64 0, .int .i64 0, .slice none 0 0]) ?_ 4 _ rfl; (with_reducible repeat first | apply blk_drewN | apply blk_drew | apply blk_alloc); refine blk_put (cs := #[.int .i64 ((rd_T32 x0_1 x6_1).f0), .int .i64 ((rd_T32 x0_1 x6_1).f1), .int .i64 ((rd_T32 x0_1 x6_1).f2), .int .i64 0, .int .i64 0, .int .i64 0, .int .i64 0, .int .i64 0, .int .i64 0, .int .i64 0, .int .i64 0, .slice none 0 0]) ?_ 3 _ rfl; (with_reducible repeat first | apply blk_drewN | apply blk_drew | apply blk_alloc); refine blk_put (cs := #[.int .i64 ((rd_T32 x0_1 x6_1).f0), .int .i64 ((rd_T32 x0_1 x6_1).f1), .int .i64 0, .int .i64 0, .int .i64 0, .int .i64 0, .int .i64 0, .int .i64 0, .int .i64 0, .int .i64 0, .int .i64 0, .slice none 0 0]) ?_ 2 _ rfl; (with_reducible repeat first | apply blk_drewN | apply blk_drew | apply blk_alloc); refine blk_put (cs := #[.int .i64 ((rd_T32 x0_1 x6_1).f0), .int .i64 0, .int .i64 0, .int .i64 0, .int .i64 0, .int .i64 0, .int .i64 0, .int .i64 0, .int .i64 0, .int .i64 0, .int .i64 0, .slice none 0 0]) ?_ 1 _ rfl; (with_reducible repeat first | apply blk_drewN | apply blk_drew | apply blk_alloc); refine blk_put (cs := #[.int .i64 0, .int .i64 0, .int .i64 0, .int .i64 0, .int .i64 0, .int .i64 0, .int .i64 0, .int .i64 0, .int .i64 0, .int .i64 0, .int .i64 0, .slice none 0 0]) ?_ 0 _ rfl; (with_reducible repeat first | apply blk_drewN | apply blk_drew | apply blk_alloc); exact BK214.out) hb); have n2_ := Aside0.mk (Kept.below (S := (fun k_ => P0_ k_)) (by repeat (first | (with_reducible first | exact HK.out | apply Kept.alloc | apply Kept.drewN | apply Kept.drew | refine Kept.setCell ?_ (.inr GW214.out) _) | exact HK.out)) hb); have n3_ := Aside0.mk (below_step (mBs HB.out) hb); clear HO_0; clear BK214; clear HK; clear HB; have HO_0 := n0_; have BK214 := n1_; have HK := n2_; have HB := n3_; clear n0_ n1_ n2_ n3_; (try clear hb); (try clear hb2); (try clear hk); (try clear hi)))
       (try simp only [← hl0_1])
       go_roundg k1
       case measure => have := HK1.out; omega
       case rel => exact ⟨(x0_1), (x5_1), (wrap64 (x6_1 + 1)), ez, ez, H', ⟨by have := HK1.out; omega⟩, ⟨by (try simp only [hl0_1]); (with_reducible repeat (first | apply Kd.R_alloc | apply Kd.R_drewN | apply Kd.R_drew)); exact Kd.R_mono HO_0.out (fun _ hk => hk.1)⟩, ⟨by repeat (first | (with_reducible first | exact HK.out | apply Kept.alloc | apply Kept.drewN | apply Kept.drew | refine Kept.setCell ?_ (.inr GW214.out) _) | exact HK.out)⟩, ⟨mBs HB.out⟩⟩
      ·replace c12 := Bool.eq_false_iff.mpr c12
       subst c12
       have H1 : (if 0 ≤ x5_1 then (if x5_1 < (x0_1.length : Int) then (slices_DeleteFunc_Job__job_running_1.l0 k1 (x0_1.set (x5_1 : Int).toNat (⟨(rd_T32 x0_1 x6_1).f0, (rd_T32 x0_1 x6_1).f1, (rd_T32 x0_1 x6_1).f2, (rd_T32 x0_1 x6_1).f3, (rd_T32 x0_1 x6_1).f4, (rd_T32 x0_1 x6_1).f5, (rd_T32 x0_1 x6_1).f6, (rd_T32 x0_1 x6_1).f7, (rd_T32 x0_1 x6_1).f8, (rd_T32 x0_1 x6_1).f9, (rd_T32 x0_1 x6_1).f10, (rd_T32 x0_1 x6_1).f11⟩ : S32)) (wrap64 (x5_1 + 1)) (wrap64 (x6_1 + 1))) else (none)) else (none)) = some r := by rw [if_neg (show ¬ (false = true) by decide)] at H; exact H
       clear H
       have H := H1
       clear H1
       by_cases c16 : 0 ≤ x5_1
       ·rw [if_pos c16] at H
        have c16b0 : decide (0 ≤ x5_1) = true := decide_eq_true c16
        clear c16
        by_cases c17 : x5_1 < (x0_1.length : Int)
        ·rw [if_pos c17] at H
         have c17b0 : decide (x5_1 < (x0_1.length : Int)) = true := decide_eq_true c17
         clear c17
         obtain ⟨y216, hy216⟩ : ∃ y_ : List (S32), y_ = (x0_1.set (x5_1 : Int).toNat (⟨(rd_T32 x0_1 x6_1).f0, (rd_T32 x0_1 x6_1).f1, (rd_T32 x0_1 x6_1).f2, (rd_T32 x0_1 x6_1).f3, (rd_T32 x0_1 x6_1).f4, (rd_T32 x0_1 x6_1).f5, (rd_T32 x0_1 x6_1).f6, (rd_T32 x0_1 x6_1).f7, (rd_T32 x0_1 x6_1).f8, (rd_T32 x0_1 x6_1).f9, (rd_T32 x0_1 x6_1).f10, (rd_T32 x0_1 x6_1).f11⟩ : S32)) := ⟨_, rfl⟩
         replace H : (slices_DeleteFunc_Job__job_running_1.l0 k1 y216 (wrap64 (x5_1 + 1)) (wrap64 (x6_1 + 1))) = some r := mH hy216 H
         have Ny216 := Aside0.mk hy216
         clear hy216
         have H' := Aside0.mk H
         clear H
         have p213 : 0 ≤ (x6_1 : Int) := oda
         have q213 : x6_1 < (x0_1.length : Int) := oda
         obtain ⟨ad213, e213, hx213_0, hx213_1, hx213_2, hx213_3, hx213_4, hx213_5, hx213_6, hx213_7, hx213_8, hx213_9, hx213_10, hx213_11⟩ := at_T32 (Kd.R_reads' HO_0.out).2.2 x6_1 p213 q213
         cases e213
         replace p213 := eq_true p213
         replace q213 := eq_true q213
         go_wp2_with (first | ((with_reducible refine gate_dst (N := 7) rfl ?_); refine box_event ?hg (N := 7) ?hd (cs := #[.int .i64 0, .int .i64 0, .int .i64 0, .int .i64 0, .int .i64 0, .int .i64 0, .int .i64 0, .int .i64 0, .int .i64 0, .int .i64 0, .int .i64 0, .slice none 0 0]) (t := 32) ?hr ?_; (case hd => rfl); (case hg => rfl); (case hr => first | (go_simp; done) | (go_simp; rfl)); intro gb214 hg w19 hbox hb; have n0_ := Aside0.mk (Kd.R_below (Kd.R_elderB (mR HO_0.out) gb214 (Nat.le_of_eq hg.symm)) hb); have n1_ := Aside0.mk (Kept.below (S := (fun k_ => P0_ k_)) (mK HK.out) hb); have n2_ := Aside0.mk (below_step (mB HB.out) hb); have n3_ := Aside0.mk (hbox); have n4_ := Aside0.mk ((by rw [hg]; exact (by first | exact HK.out.1 | exact (show Kept w _ (fun k_ => P0_ k_) from by repeat (first | (with_reducible first | exact HK.out | apply Kept.alloc | apply Kept.drewN | apply Kept.drew) | exact HK.out)).1) : w.heap.size ≤ gb214)); have n5_ := Aside0.mk ((by rw [hg]; exact (below_size (mB HB.out)) : w0.heap.size ≤ gb214)); clear HO_0; clear HK; clear HB; have HO_0 := n0_; have HK := n1_; have HB := n2_; have BK214 := n3_; have GW214 := n4_; have GE214 := n5_; clear n0_ n1_ n2_ n3_ n4_ n5_; clear hb hbox hg; have hcz20_0 : w19.cell? ⟨gb214, 0, none⟩ = some (.int .i64 0) := (blk_cell BK214.out 0).trans rfl; have hcz20_1 : w19.cell? ⟨gb214, 1, none⟩ = some (.int .i64 0) := (blk_cell BK214.out 1).trans rfl; have hcz20_2 : w19.cell? ⟨gb214, 2, none⟩ = some (.int .i64 0) := (blk_cell BK214.out 2).trans rfl; have hcz20_3 : w19.cell? ⟨gb214, 3, none⟩ = some (.int .i64 0) := (blk_cell BK214.out 3).trans rfl; have hcz20_4 : w19.cell? ⟨gb214, 4, none⟩ = some (.int .i64 0) := (blk_cell BK214.out 4).trans rfl; have hcz20_5 : w19.cell? ⟨gb214, 5, none⟩ = some (.int .i64 0) := (blk_cell BK214.out 5).trans rfl; have hcz20_6 : w19.cell? ⟨gb214, 6, none⟩ = some (.int .i64 0) := (blk_cell BK214.out 6).trans rfl; have hcz20_7 : w19.cell? ⟨gb214, 7, none⟩ = some (.int .i64 0) := (blk_cell BK214.out 7).trans rfl; have hcz20_8 : w19.cell? ⟨gb214, 8, none⟩ = some (.int .i64 0) := (blk_cell BK214.out 8).trans rfl; have hcz20_9 : w19.cell? ⟨gb214, 9, none⟩ = some (.int .i64 0) := (blk_cell BK214.out 9).trans rfl; have hcz20_10 : w19.cell? ⟨gb214, 10, none⟩ = some (.int .i64 0) := (blk_cell BK214.out 10).trans rfl; have hcz20_11 : w19.cell? ⟨gb214, 11, none⟩ = some (.slice none 0 0) := (blk_cell BK214.out 11).trans rfl; have hfz20_0 := blk_frozen BK214.out 0; have hfz20_1 := blk_frozen BK214.out 1; have hfz20_2 := blk_frozen BK214.out 2; have hfz20_3 := blk_frozen BK214.out 3; have hfz20_4 := blk_frozen BK214.out 4; have hfz20_5 := blk_frozen BK214.out 5; have hfz20_6 := blk_frozen BK214.out 6; have hfz20_7 := blk_frozen BK214.out 7; have hfz20_8 := blk_frozen BK214.out 8; have hfz20_9 := blk_frozen BK214.out 9; have hfz20_10 := blk_frozen BK214.out 10; have hfz20_11 := blk_frozen BK214.out 11) | (go_at_call 57; (with_reducible refine (job_running_1.calls ((rd_T32 x0_1 x6_1).f0) ((rd_T32 x0_1 x6_1).f1) ((rd_T32 x0_1 x6_1).f2) ((rd_T32 x0_1 x6_1).f3) ((rd_T32 x0_1 x6_1).f4) ((rd_T32 x0_1 x6_1).f5) ((rd_T32 x0_1 x6_1).f6) ((rd_T32 x0_1 x6_1).f7) ((rd_T32 x0_1 x6_1).f8) ((rd_T32 x0_1 x6_1).f9) ((rd_T32 x0_1 x6_1).f10) ((rd_T32 x0_1 x6_1).f11) false _ A11.out).mono ?_); rintro e w21 ⟨rfl, hb⟩; have n0_ := Aside0.mk (Kd.R_below (by (with_reducible repeat (first | apply Kd.R_alloc | apply Kd.R_drewN | apply Kd.R_drew)); exact (Kd.R_mono (Kd.R_fa gb214 11 (Kd.R_fa gb214 10 (Kd.R_fa gb214 9 (Kd.R_fa gb214 8 (Kd.R_fa gb214 7 (Kd.R_fa gb214 6 (Kd.R_fa gb214 5 (Kd.R_fa gb214 4 (Kd.R_fa gb214 3 (Kd.R_fa gb214 2 (Kd.R_fa gb214 1 (Kd.R_fa gb214 0 (Kd.R_mono HO_0.out (fun k_ hk => (⟨hk, hk.2⟩ : _ ∧ k_ ≠ gb214))) (.int .i64 ((rd_T32 x0_1 x6_1).f0))) (.int .i64 ((rd_T32 x0_1 x6_1).f1))) (.int .i64 ((rd_T32 x0_1 x6_1).f2))) (.int .i64 ((rd_T32 x0_1 x6_1).f3))) (.int .i64 ((rd_T32 x0_1 x6_1).f4))) (.int .i64 ((rd_T32 x0_1 x6_1).f5))) (.int .i64 ((rd_T32 x0_1 x6_1).f6))) (.int .i64 ((rd_T32 x0_1 x6_1).f7))) (.int .i64 ((rd_T32 x0_1 x6_1).f8))) (.int .i64 ((rd_T32 x0_1 x6_1).f9))) (.int .i64 ((rd_T32 x0_1 x6_1).f10))) (.slice ((rd_T32 x0_1 x6_1).f11).A ((rd_T32 x0_1 x6_1).f11).n ((rd_T32 x0_1 x6_1).f11).c)) (fun _ h_ => h_.1))) hb); have n1_ := Aside0.mk (blk_below (g := gb214) (o := .cells #[.int .i64 ((rd_T32 x0_1 x6_1).f0), .int .i64 ((rd_T32 x0_1 x6_1).f1), .int .i64 ((rd_T32 x0_1 x6_1).f2), .int .i64 ((rd_T32 x0_1 x6_1).f3), .int .i64 ((rd_T32 x0_1 x6_1).f4), .int .i64 ((rd_T32 x0_1 x6_1).f5), .int .i64 ((rd_T32 x0_1 x6_1).f6), .int .i64 ((rd_T32 x0_1 x6_1).f7), .int .i64 ((rd_T32 x0_1 x6_1).f8), .int .i64 ((rd_T32 x0_1 x6_1).f9), .int .i64 ((rd_T32 x0_1 x6_1).f10), .slice ((rd_T32 x0_1 x6_1).f11).A ((rd_T32 x0_1 x6_1).f11).n ((rd_T32 x0_1 x6_1).f11).c] 32 (0, 0)) (by (with_reducible repeat first | apply blk_drewN | apply blk_drew | apply blk_alloc); refine blk_put (cs := #[.int .i64 ((rd_T32 x0_1 x6_1).f0), .int .i64 ((rd_T32 x0_1 x6_1).f1), .int .i64 ((rd_T32 x0_1 x6_1).f2), .int .i64 ((rd_T32 x0_1 x6_1).f3), .int .i64 ((rd_T32 x0_1 x6_1).f4), .int .i64 ((rd_T32 x0_1 x6_1).f5), .int .i64 ((rd_T32 x0_1 x6_1).f6), .int .i64 ((rd_T32 x0_1 x6_1).f7), .int .i64 ((rd_T32 x0_1 x6_1).f8), .int .i64 ((rd_T32 x0_1 x6_1).f9), .int .i64 ((rd_T32 x0_1 x6_1).f10), .slice none 0 0]) ?_ 11 _ rfl; (with_reducible repeat first | apply blk_drewN | apply blk_drew | apply blk_alloc); refine blk_put (cs := #[.int .i64 ((rd_T32 x0_1 x6_1).f0), .int .i64 ((rd_T32 x0_1 x6_1).f1), .int .i64 ((rd_T32 x0_1 x6_1).f2), .int .i64 ((rd_T32 x0_1 x6_1).f3), .int .i64 ((rd_T32 x0_1 x6_1).f4), .int .i64 ((rd_T32 x0_1 x6_1).f5), .int .i64 ((rd_T32 x0_1 x6_1).f6), .int .i64 ((rd_T32 x0_1 x6_1).f7), .int .i64 ((rd_T32 x0_1 x6_1).f8), .int .i64 ((rd_T32 x0_1 x6_1).f9), .int .i64 0, .slice none 0 0]) ?_ 10 _ rfl; (with_reducible repeat first | apply blk_drewN | apply blk_drew | apply blk_alloc); refine blk_put (cs := #[.int .i64 ((rd_T32 x0_1 x6_1).f0), .int .i64 ((rd_T32 x0_1 x6_1).f1), .int .i64 ((rd_T32 x0_1 x6_1).f2), .int .i64 ((rd_T32 x0_1 x6_1).f3), .int .i64 ((rd_T32 x0_1 x6_1).f4), .int .i64 ((rd_T32 x0_1 x6_1).f5), .int .i64 ((rd_T32 x0_1 x6_1).f6), .int .i64 ((rd_T32 x0_1 x6_1).f7), .int .i64 ((rd_T32 x0_1 x6_1).f8), .int .i64 0, .int .i64 0, .slice none 0 0]) ?_ 9 _ rfl; (with_reducible repeat first | apply blk_drewN | apply blk_drew | apply blk_alloc); refine blk_put (cs := #[.int .i64 ((rd_T32 x0_1 x6_1).f0), .int .i64 ((rd_T32 x0_1 x6_1).f1), .int .i64 ((rd_T32 x0_1 x6_1).f2), .int .i64 ((rd_T32 x0_1 x6_1).f3), .int .i64 ((rd_T32 x0_1 x6_1).f4), .int .i64 ((rd_T32 x0_1 x6_1).f5), .int .i64 ((rd_T32 x0_1 x6_1).f6), .int .i64 ((rd_T32 x0_1 x6_1).f7), .int .i64 0, .int .i64 0, .int .i64 0, .slice none 0 0]) ?_ 8 _ rfl; (with_reducible repeat first | apply blk_drewN | apply blk_drew | apply blk_alloc); refine blk_put (cs := #[.int .i64 ((rd_T32 x0_1 x6_1).f0), .int .i64 ((rd_T32 x0_1 x6_1).f1), .int .i64 ((rd_T32 x0_1 x6_1).f2), .int .i64 ((rd_T32 x0_1 x6_1).f3), .int .i64 ((rd_T32 x0_1 x6_1).f4), .int .i64 ((rd_T32 x0_1 x6_1).f5), .int .i64 ((rd_T32 x0_1 x6_1).f6), .int .i64 0, .int .i64 0, .int .i64 0, .int .i64 0, .slice none 0 0]) ?_ 7 _ rfl; (with_reducible repeat first | apply blk_drewN | apply blk_drew | apply blk_alloc); refine blk_put (cs := #[.int .i64 ((rd_T32 x0_1 x6_1).f0), .int .i64 ((rd_T32 x0_1 x6_1).f1), .int .i64 ((rd_T32 x0_1 x6_1).f2), .int .i64 ((rd_T32 x0_1 x6_1).f3), .int .i64 ((rd_T32 x0_1 x6_1).f4), .int .i64 ((rd_T32 x0_1 x6_1).f5), .int .i64 0, .int .i64 0, .int .i64 0, .int .i64 0, .int .i64 0, .slice none 0 0]) ?_ 6 _ rfl; (with_reducible repeat first | apply blk_drewN | apply blk_drew | apply blk_alloc); refine blk_put (cs := #[.int .i64 ((rd_T32 x0_1 x6_1).f0), .int .i64 ((rd_T32 x0_1 x6_1).f1), .int .i64 ((rd_T32 x0_1 x6_1).f2), .int .i64 ((rd_T32 x0_1 x6_1).f3), .int .i64 ((rd_T32 x0_1 x6_1).f4), .int .i64 0, .int .i64 0, .int .i64 0, .int .i64 0, .int .i64 0, .int .i64 0, .slice none 0 0]) ?_ 5 _ rfl; (with_reducible repeat first | apply blk_drewN | apply blk_drew | apply blk_alloc); refine blk_put (cs := #[.int .i64 ((rd_T32 x0_1 x6_1).f0), .int .i64 ((rd_T32 x0_1 x6_1).f1), .int .i64 ((rd_T32 x0_1 x6_1).f2), .int .i64 ((rd_T32 x0_1 x6_1).f3), .int .i64 0, .int .i64 0, .int .i64 0, .int .i64 0, .int .i64 0, .int .i64 0, .int .i64 0, .slice none 0 0]) ?_ 4 _ rfl; (with_reducible repeat first | apply blk_drewN | apply blk_drew | apply blk_alloc); refine blk_put (cs := #[.int .i64 ((rd_T32 x0_1 x6_1).f0), .int .i64 ((rd_T32 x0_1 x6_1).f1), .int .i64 ((rd_T32 x0_1 x6_1).f2), .int .i64 0, .int .i64 0, .int .i64 0, .int .i64 0, .int .i64 0, .int .i64 0, .int .i64 0, .int .i64 0, .slice none 0 0]) ?_ 3 _ rfl; (with_reducible repeat first | apply blk_drewN | apply blk_drew | apply blk_alloc); refine blk_put (cs := #[.int .i64 ((rd_T32 x0_1 x6_1).f0), .int .i64 ((rd_T32 x0_1 x6_1).f1), .int .i64 0, .int .i64 0, .int .i64 0, .int .i64 0, .int .i64 0, .int .i64 0, .int .i64 0, .int .i64 0, .int .i64 0, .slice none 0 0]) ?_ 2 _ rfl; (with_reducible repeat first | apply blk_drewN | apply blk_drew | apply blk_alloc); refine blk_put (cs := #[.int .i64 ((rd_T32 x0_1 x6_1).f0), .int .i64 0, .int .i64 0, .int .i64 0, .int .i64 0, .int .i64 0, .int .i64 0, .int .i64 0, .int .i64 0, .int .i64 0, .int .i64 0, .slice none 0 0]) ?_ 1 _ rfl; (with_reducible repeat first | apply blk_drewN | apply blk_drew | apply blk_alloc); refine blk_put (cs := #[.int .i64 0, .int .i64 0, .int .i64 0, .int .i64 0, .int .i64 0, .int .i64 0, .int .i64 0, .int .i64 0, .int .i64 0, .int .i64 0, .int .i64 0, .slice none 0 0]) ?_ 0 _ rfl; (with_reducible repeat first | apply blk_drewN | apply blk_drew | apply blk_alloc); exact BK214.out) hb); have n2_ := Aside0.mk (Kept.below (S := (fun k_ => P0_ k_)) (by repeat (first | (with_reducible first | exact HK.out | apply Kept.alloc | apply Kept.drewN | apply Kept.drew | refine Kept.setCell ?_ (.inr GW214.out) _) | exact HK.out)) hb); have n3_ := Aside0.mk (below_step (mBs HB.out) hb); clear HO_0; clear BK214; clear HK; clear HB; have HO_0 := n0_; have BK214 := n1_; have HK := n2_; have HB := n3_; clear n0_ n1_ n2_ n3_; (try clear hb); (try clear hb2); (try clear hk); (try clear hi); have hcz22_0 : w21.cell? ⟨gb214, 0, none⟩ = some (.int .i64 ((rd_T32 x0_1 x6_1).f0)) := (blk_cell BK214.out 0).trans rfl; have hcz22_1 : w21.cell? ⟨gb214, 1, none⟩ = some (.int .i64 ((rd_T32 x0_1 x6_1).f1)) := (blk_cell BK214.out 1).trans rfl; have hcz22_2 : w21.cell? ⟨gb214, 2, none⟩ = some (.int .i64 ((rd_T32 x0_1 x6_1).f2)) := (blk_cell BK214.out 2).trans rfl; have hcz22_3 : w21.cell? ⟨gb214, 3, none⟩ = some (.int .i64 ((rd_T32 x0_1 x6_1).f3)) := (blk_cell BK214.out 3).trans rfl; have hcz22_4 : w21.cell? ⟨gb214, 4, none⟩ = some (.int .i64 ((rd_T32 x0_1 x6_1).f4)) := (blk_cell BK214.out 4).trans rfl; have hcz22_5 : w21.cell? ⟨gb214, 5, none⟩ = some (.int .i64 ((rd_T32 x0_1 x6_1).f5)) := (blk_cell BK214.out 5).trans rfl; have hcz22_6 : w21.cell? ⟨gb214, 6, none⟩ = some (.int .i64 ((rd_T32 x0_1 x6_1).f6)) := (blk_cell BK214.out 6).trans rfl; have hcz22_7 : w21.cell? ⟨gb214, 7, none⟩ = some (.int .i64 ((rd_T32 x0_1 x6_1).f7)) := (blk_cell BK214.out 7).trans rfl; have hcz22_8 : w21.cell? ⟨gb214, 8, none⟩ = some (.int .i64 ((rd_T32 x0_1 x6_1).f8)) := (blk_cell BK214.out 8).trans rfl; have hcz22_9 : w21.cell? ⟨gb214, 9, none⟩ = some (.int .i64 ((rd_T32 x0_1 x6_1).f9)) := (blk_cell BK214.out 9).trans rfl; have hcz22_10 : w21.cell? ⟨gb214, 10, none⟩ = some (.int .i64 ((rd_T32 x0_1 x6_1).f10)) := (blk_cell BK214.out 10).trans rfl; have hcz22_11 : w21.cell? ⟨gb214, 11, none⟩ = some (.slice ((rd_T32 x0_1 x6_1).f11).A ((rd_T32 x0_1 x6_1).f11).n ((rd_T32 x0_1 x6_1).f11).c) := (blk_cell BK214.out 11).trans rfl; have hfz22_0 := blk_frozen BK214.out 0; have hfz22_1 := blk_frozen BK214.out 1; have hfz22_2 := blk_frozen BK214.out 2; have hfz22_3 := blk_frozen BK214.out 3; have hfz22_4 := blk_frozen BK214.out 4; have hfz22_5 := blk_frozen BK214.out 5; have hfz22_6 := blk_frozen BK214.out 6; have hfz22_7 := blk_frozen BK214.out 7; have hfz22_8 := blk_frozen BK214.out 8; have hfz22_9 := blk_frozen BK214.out 9; have hfz22_10 := blk_frozen BK214.out 10; have hfz22_11 := blk_frozen BK214.out 11; have p18 : 0 ≤ (x5_1 : Int) := oda; have q18 : (x5_1 : Int) < ((x0_1.length : Int) : Int) := oda; obtain ⟨go18, co18, eo18, gb18, gl18, cl18, HG18⟩ := Kd.R_form HO_0.out (by omega); (first | cases eo18 | (injection eo18 with ea_ en_ ec_; (first | subst ea_ | (injection ea_ with ea_; subst ea_)); subst ec_; clear en_)); have GB18 := Aside0.mk gb18; have GG18 := Aside0.mk HG18; clear gb18 gl18 HG18; have HMgo18 := Aside0.mk (show (P0_ go18 ∨ w.heap.size ≤ go18) from (HO_0.out.1 _ rfl).1); (first | simp only [add_plain] at hx213_0 | skip); (first | simp only [add_plain] at hx213_1 | skip); (first | simp only [add_plain] at hx213_2 | skip); (first | simp only [add_plain] at hx213_3 | skip); (first | simp only [add_plain] at hx213_4 | skip); (first | simp only [add_plain] at hx213_5 | skip); (first | simp only [add_plain] at hx213_6 | skip); (first | simp only [add_plain] at hx213_7 | skip); (first | simp only [add_plain] at hx213_8 | skip); (first | simp only [add_plain] at hx213_9 | skip); (first | simp only [add_plain] at hx213_10 | skip); (first | simp only [add_plain] at hx213_11 | skip); obtain ⟨ce18, hcl18, hM18, hcc18, hfr18⟩ := Kd.R_elem HO_0.out z32 (x5_1 : Int) p18 q18; obtain rfl := k32_openM hM18; have hx18_0 : w21.cell? ⟨go18, (x5_1 : Int).toNat * 12, none⟩ = some (.int .i64 ((rd_T32 x0_1 x5_1).f0)) := hcc18 0 _ rfl; have hx18_1 : w21.cell? ⟨go18, (x5_1 : Int).toNat * 12 + 1, none⟩ = some (.int .i64 ((rd_T32 x0_1 x5_1).f1)) := hcc18 1 _ rfl; have hx18_2 : w21.cell? ⟨go18, (x5_1 : Int).toNat * 12 + 2, none⟩ = some (.int .i64 ((rd_T32 x0_1 x5_1).f2)) := hcc18 2 _ rfl; have hx18_3 : w21.cell? ⟨go18, (x5_1 : Int).toNat * 12 + 3, none⟩ = some (.int .i64 ((rd_T32 x0_1 x5_1).f3)) := hcc18 3 _ rfl; have hx18_4 : w21.cell? ⟨go18, (x5_1 : Int).toNat * 12 + 4, none⟩ = some (.int .i64 ((rd_T32 x0_1 x5_1).f4)) := hcc18 4 _ rfl; have hx18_5 : w21.cell? ⟨go18, (x5_1 : Int).toNat * 12 + 5, none⟩ = some (.int .i64 ((rd_T32 x0_1 x5_1).f5)) := hcc18 5 _ rfl; have hx18_6 : w21.cell? ⟨go18, (x5_1 : Int).toNat * 12 + 6, none⟩ = some (.int .i64 ((rd_T32 x0_1 x5_1).f6)) := hcc18 6 _ rfl; have hx18_7 : w21.cell? ⟨go18, (x5_1 : Int).toNat * 12 + 7, none⟩ = some (.int .i64 ((rd_T32 x0_1 x5_1).f7)) := hcc18 7 _ rfl; have hx18_8 : w21.cell? ⟨go18, (x5_1 : Int).toNat * 12 + 8, none⟩ = some (.int .i64 ((rd_T32 x0_1 x5_1).f8)) := hcc18 8 _ rfl; have hx18_9 : w21.cell? ⟨go18, (x5_1 : Int).toNat * 12 + 9, none⟩ = some (.int .i64 ((rd_T32 x0_1 x5_1).f9)) := hcc18 9 _ rfl; have hx18_10 : w21.cell? ⟨go18, (x5_1 : Int).toNat * 12 + 10, none⟩ = some (.int .i64 ((rd_T32 x0_1 x5_1).f10)) := hcc18 10 _ rfl; have hx18_11 : w21.cell? ⟨go18, (x5_1 : Int).toNat * 12 + 11, none⟩ = some (.slice ((rd_T32 x0_1 x5_1).f11).A ((rd_T32 x0_1 x5_1).f11).n ((rd_T32 x0_1 x5_1).f11).c) := hcc18 11 _ rfl; have hf18_0 : w21.frozen? ⟨go18, (x5_1 : Int).toNat * 12, none⟩ = false := hfr18 0; have hf18_1 : w21.frozen? ⟨go18, (x5_1 : Int).toNat * 12 + 1, none⟩ = false := hfr18 1; have hf18_2 : w21.frozen? ⟨go18, (x5_1 : Int).toNat * 12 + 2, none⟩ = false := hfr18 2; have hf18_3 : w21.frozen? ⟨go18, (x5_1 : Int).toNat * 12 + 3, none⟩ = false := hfr18 3; have hf18_4 : w21.frozen? ⟨go18, (x5_1 : Int).toNat * 12 + 4, none⟩ = false := hfr18 4; have hf18_5 : w21.frozen? ⟨go18, (x5_1 : Int).toNat * 12 + 5, none⟩ = false := hfr18 5; have hf18_6 : w21.frozen? ⟨go18, (x5_1 : Int).toNat * 12 + 6, none⟩ = false := hfr18 6; have hf18_7 : w21.frozen? ⟨go18, (x5_1 : Int).toNat * 12 + 7, none⟩ = false := hfr18 7; have hf18_8 : w21.frozen? ⟨go18, (x5_1 : Int).toNat * 12 + 8, none⟩ = false := hfr18 8; have hf18_9 : w21.frozen? ⟨go18, (x5_1 : Int).toNat * 12 + 9, none⟩ = false := hfr18 9; have hf18_10 : w21.frozen? ⟨go18, (x5_1 : Int).toNat * 12 + 10, none⟩ = false := hfr18 10; have hf18_11 : w21.frozen? ⟨go18, (x5_1 : Int).toNat * 12 + 11, none⟩ = false := hfr18 11; clear hcl18 hcc18 hfr18 hM18; replace p18 := eq_true p18; replace q18 := eq_true q18; have HX23 := Aside0.mk (show Kd.R k32 32 w21 w0.heap.size (fun k_ => (P0_ k_ ∨ w.heap.size ≤ k_) ∧ k_ ≠ gb214) (.slice (some ⟨go18, 0, none⟩) x0_1.length co7) x0_1 from (mR HO_0.out)); obtain ⟨ce23, hcl23, hM23, hcc23, hfr23⟩ := Kd.R_elem HX23.out z32 (x5_1 : Int) (oda) (by have h_ : (x5_1 : Int) < ((x0_1.length : Int) : Int) := oda; first | exact h_ | (have e_ := (Kd.R_reads' HO_0.out).1; omega) | simpa using h_); obtain rfl := k32_openM hM23; have HP23 := Kd.R_seg HX23.out (x5_1 : Int) (oda) (by have h_ : (x5_1 : Int) < ((x0_1.length : Int) : Int) := oda; first | exact h_ | (have e_ := (Kd.R_reads' HO_0.out).1; omega) | simpa using h_) (seg := [.int .i64 ((rd_T32 x0_1 x6_1).f0), .int .i64 ((rd_T32 x0_1 x6_1).f1), .int .i64 ((rd_T32 x0_1 x6_1).f2), .int .i64 ((rd_T32 x0_1 x6_1).f3), .int .i64 ((rd_T32 x0_1 x6_1).f4), .int .i64 ((rd_T32 x0_1 x6_1).f5), .int .i64 ((rd_T32 x0_1 x6_1).f6), .int .i64 ((rd_T32 x0_1 x6_1).f7), .int .i64 ((rd_T32 x0_1 x6_1).f8), .int .i64 ((rd_T32 x0_1 x6_1).f9), .int .i64 ((rd_T32 x0_1 x6_1).f10), .slice ((rd_T32 x0_1 x6_1).f11).A ((rd_T32 x0_1 x6_1).f11).n ((rd_T32 x0_1 x6_1).f11).c]) (j := 0) hcl23 hcc23 (show 12 ≤ 12 from by decide) (x' := (⟨(rd_T32 x0_1 x6_1).f0, (rd_T32 x0_1 x6_1).f1, (rd_T32 x0_1 x6_1).f2, (rd_T32 x0_1 x6_1).f3, (rd_T32 x0_1 x6_1).f4, (rd_T32 x0_1 x6_1).f5, (rd_T32 x0_1 x6_1).f6, (rd_T32 x0_1 x6_1).f7, (rd_T32 x0_1 x6_1).f8, (rd_T32 x0_1 x6_1).f9, (rd_T32 x0_1 x6_1).f10, (rd_T32 x0_1 x6_1).f11⟩ : S32)) (k32_mkM _ _ _ (⟨(rd_T32 x0_1 x6_1).f0, (rd_T32 x0_1 x6_1).f1, (rd_T32 x0_1 x6_1).f2, (rd_T32 x0_1 x6_1).f3, (rd_T32 x0_1 x6_1).f4, (rd_T32 x0_1 x6_1).f5, (rd_T32 x0_1 x6_1).f6, (rd_T32 x0_1 x6_1).f7, (rd_T32 x0_1 x6_1).f8, (rd_T32 x0_1 x6_1).f9, (rd_T32 x0_1 x6_1).f10, (rd_T32 x0_1 x6_1).f11⟩ : S32) ) (fun _ hk => hk); have hx23_0 := hcc23 0 _ rfl; (try simp only [show (k32).sz = 12 from rfl, Nat.mul_one, Nat.add_zero] at hx23_0); have hf23_0 := hfr23 0; (try simp only [show (k32).sz = 12 from rfl, Nat.mul_one, Nat.add_zero] at hf23_0); have hx23_1 := hcc23 1 _ rfl; (try simp only [show (k32).sz = 12 from rfl, Nat.mul_one, Nat.add_zero] at hx23_1); have hf23_1 := hfr23 1; (try simp only [show (k32).sz = 12 from rfl, Nat.mul_one, Nat.add_zero] at hf23_1); have hx23_2 := hcc23 2 _ rfl; (try simp only [show (k32).sz = 12 from rfl, Nat.mul_one, Nat.add_zero] at hx23_2); have hf23_2 := hfr23 2; (try simp only [show (k32).sz = 12 from rfl, Nat.mul_one, Nat.add_zero] at hf23_2); have hx23_3 := hcc23 3 _ rfl; (try simp only [show (k32).sz = 12 from rfl, Nat.mul_one, Nat.add_zero] at hx23_3); have hf23_3 := hfr23 3; (try simp only [show (k32).sz = 12 from rfl, Nat.mul_one, Nat.add_zero] at hf23_3); have hx23_4 := hcc23 4 _ rfl; (try simp only [show (k32).sz = 12 from rfl, Nat.mul_one, Nat.add_zero] at hx23_4); have hf23_4 := hfr23 4; (try simp only [show (k32).sz = 12 from rfl, Nat.mul_one, Nat.add_zero] at hf23_4); have hx23_5 := hcc23 5 _ rfl; (try simp only [show (k32).sz = 12 from rfl, Nat.mul_one, Nat.add_zero] at hx23_5); have hf23_5 := hfr23 5; (try simp only [show (k32).sz = 12 from rfl, Nat.mul_one, Nat.add_zero] at hf23_5); have hx23_6 := hcc23 6 _ rfl; (try simp only [show (k32).sz = 12 from rfl, Nat.mul_one, Nat.add_zero] at hx23_6); have hf23_6 := hfr23 6; (try simp only [show (k32).sz = 12 from rfl, Nat.mul_one, Nat.add_zero] at hf23_6); have hx23_7 := hcc23 7 _ rfl; (try simp only [show (k32).sz = 12 from rfl, Nat.mul_one, Nat.add_zero] at hx23_7); have hf23_7 := hfr23 7; (try simp only [show (k32).sz = 12 from rfl, Nat.mul_one, Nat.add_zero] at hf23_7); have hx23_8 := hcc23 8 _ rfl; (try simp only [show (k32).sz = 12 from rfl, Nat.mul_one, Nat.add_zero] at hx23_8); have hf23_8 := hfr23 8; (try simp only [show (k32).sz = 12 from rfl, Nat.mul_one, Nat.add_zero] at hf23_8); have hx23_9 := hcc23 9 _ rfl; (try simp only [show (k32).sz = 12 from rfl, Nat.mul_one, Nat.add_zero] at hx23_9); have hf23_9 := hfr23 9; (try simp only [show (k32).sz = 12 from rfl, Nat.mul_one, Nat.add_zero] at hf23_9); have hx23_10 := hcc23 10 _ rfl; (try simp only [show (k32).sz = 12 from rfl, Nat.mul_one, Nat.add_zero] at hx23_10); have hf23_10 := hfr23 10; (try simp only [show (k32).sz = 12 from rfl, Nat.mul_one, Nat.add_zero] at hf23_10); have hx23_11 := hcc23 11 _ rfl; (try simp only [show (k32).sz = 12 from rfl, Nat.mul_one, Nat.add_zero] at hx23_11); have hf23_11 := hfr23 11; (try simp only [show (k32).sz = 12 from rfl, Nat.mul_one, Nat.add_zero] at hf23_11); clear hcl23 hcc23 hfr23 hM23) | ((with_reducible refine gate_store (t := 32) (p := 33) rfl ?_); refine store_event (t := 32) (p := 33) (v := ?vo_w24) (w1 := ((((((((((((w21.setCell ⟨go18, (x5_1 : Int).toNat * 12, none⟩ (.int .i64 ((rd_T32 x0_1 x6_1).f0))).setCell ⟨go18, (x5_1 : Int).toNat * 12 + 1, none⟩ (.int .i64 ((rd_T32 x0_1 x6_1).f1))).setCell ⟨go18, (x5_1 : Int).toNat * 12 + 2, none⟩ (.int .i64 ((rd_T32 x0_1 x6_1).f2))).setCell ⟨go18, (x5_1 : Int).toNat * 12 + 3, none⟩ (.int .i64 ((rd_T32 x0_1 x6_1).f3))).setCell ⟨go18, (x5_1 : Int).toNat * 12 + 4, none⟩ (.int .i64 ((rd_T32 x0_1 x6_1).f4))).setCell ⟨go18, (x5_1 : Int).toNat * 12 + 5, none⟩ (.int .i64 ((rd_T32 x0_1 x6_1).f5))).setCell ⟨go18, (x5_1 : Int).toNat * 12 + 6, none⟩ (.int .i64 ((rd_T32 x0_1 x6_1).f6))).setCell ⟨go18, (x5_1 : Int).toNat * 12 + 7, none⟩ (.int .i64 ((rd_T32 x0_1 x6_1).f7))).setCell ⟨go18, (x5_1 : Int).toNat * 12 + 8, none⟩ (.int .i64 ((rd_T32 x0_1 x6_1).f8))).setCell ⟨go18, (x5_1 : Int).toNat * 12 + 9, none⟩ (.int .i64 ((rd_T32 x0_1 x6_1).f9))).setCell ⟨go18, (x5_1 : Int).toNat * 12 + 10, none⟩ (.int .i64 ((rd_T32 x0_1 x6_1).f10))).setCell ⟨go18, (x5_1 : Int).toNat * 12 + 11, none⟩ (.slice ((rd_T32 x0_1 x6_1).f11).A ((rd_T32 x0_1 x6_1).f11).n ((rd_T32 x0_1 x6_1).f11).c))) ?hg ?ho ?hn ?hr ?_; (case ho => rfl); (case hg => rfl); (case hn => rfl); (case hr => first | (go_simp; done) | (go_simp; rfl)); intro w24 hw; have hg : w21.grownBy w24 (some go18) := (by rw [hw]; exact HP23.2); have hp_ : Kd.R k32 32 w24 w0.heap.size (fun k_ => (P0_ k_ ∨ w.heap.size ≤ k_) ∧ k_ ≠ gb214) (.slice (some ⟨go18, 0, none⟩) x0_1.length co7) y216 := (by rw [hw, Ny216.out]; exact HP23.1); clear HP23; have n0_ := Aside0.mk (hp_); have n1_ := Aside0.mk (blk_grown (g := gb214) (o := .cells #[.int .i64 ((rd_T32 x0_1 x6_1).f0), .int .i64 ((rd_T32 x0_1 x6_1).f1), .int .i64 ((rd_T32 x0_1 x6_1).f2), .int .i64 ((rd_T32 x0_1 x6_1).f3), .int .i64 ((rd_T32 x0_1 x6_1).f4), .int .i64 ((rd_T32 x0_1 x6_1).f5), .int .i64 ((rd_T32 x0_1 x6_1).f6), .int .i64 ((rd_T32 x0_1 x6_1).f7), .int .i64 ((rd_T32 x0_1 x6_1).f8), .int .i64 ((rd_T32 x0_1 x6_1).f9), .int .i64 ((rd_T32 x0_1 x6_1).f10), .slice ((rd_T32 x0_1 x6_1).f11).A ((rd_T32 x0_1 x6_1).f11).n ((rd_T32 x0_1 x6_1).f11).c] 32 (0, 0)) (mBK BK214.out) hg (Kd.R_away HO_0.out (fun _ hk => hk.2))); have n2_ := Aside0.mk ((by rw [hw]; exact below_set (below_set (below_set (below_set (below_set (below_set (below_set (below_set (below_set (below_set (below_set (below_set (HB.out) GB18.out) GB18.out) GB18.out) GB18.out) GB18.out) GB18.out) GB18.out) GB18.out) GB18.out) GB18.out) GB18.out) GB18.out : Below w0.heap.size w0 w24)); have n3_ := Aside0.mk (Kept.of_grown (S := (fun k_ => P0_ k_)) hg (by repeat (first | (with_reducible first | exact HK.out | apply Kept.alloc | apply Kept.drewN | apply Kept.drew | refine Kept.setCell ?_ (.inr GW214.out) _) | exact HK.out)) (fun k_ e_ => (HO_0.out.1 k_ e_).1)); clear HO_0; clear BK214; clear HB; clear HK; have HO_0 := n0_; have BK214 := n1_; have HB := n2_; have HK := n3_; clear n0_ n1_ n2_ n3_; clear hg hw hp_))
         (try simp only [← hl0_1])
         go_roundg k1
         case measure => have := HK1.out; omega
         case rel => exact ⟨(y216), (wrap64 (x5_1 + 1)), (wrap64 (x6_1 + 1)), ez, ez, H', ⟨by have := HK1.out; omega⟩, ⟨by (try simp only [hl0_1]); (with_reducible repeat (first | apply Kd.R_alloc | apply Kd.R_drewN | apply Kd.R_drew)); exact Kd.R_mono HO_0.out (fun _ hk => hk.1)⟩, ⟨by repeat (first | (with_reducible first | exact HK.out | apply Kept.alloc | apply Kept.drewN | apply Kept.drew | refine Kept.setCell ?_ (.inr GW214.out) _) | exact HK.out)⟩, ⟨mBs HB.out⟩⟩
        ·rw [if_neg c17] at H
         exact absurd H (by simp)
       ·rw [if_neg c16] at H
        exact absurd H (by simp)
     ·rw [if_neg c10] at H
      exact absurd H (by simp)
    ·rw [if_neg c9] at H
     have c9b0 : decide (x6_1 < (x0_1.length : Int)) = false := decide_eq_false c9
     clear c9
     by_cases c25 : 0 ≤ x5_1
     ·rw [if_pos c25] at H
      have c25b0 := eq_true c25
      have c25b1 : decide (0 ≤ x5_1) = true := decide_eq_true c25
      clear c25
      by_cases c26 : x5_1 ≤ (x0_1.length : Int)
      ·rw [if_pos c26] at H
       have c26b0 := eq_true c26
       have c26b1 : decide (x5_1 ≤ (x0_1.length : Int)) = true := decide_eq_true c26
       clear c26
       obtain ⟨y217, hy217⟩ : ∃ y_ : List (S32), y_ = (x0_1.drop (x5_1 : Int).toNat) := ⟨_, rfl⟩
       replace H : (some (x0_1.take (x5_1 : Int).toNat)) = some r := mH hy217 H
       have Ny217 := Aside0.mk hy217
       clear hy217
       have c27b0 := eq_true (oda : x5_1 ≤ (x0_1.length : Int))
       obtain ⟨y221, hy221⟩ : ∃ y_ : List (S32), y_ = (x0_1.take (x5_1 : Int).toNat) := ⟨_, rfl⟩
       replace H : (some y221) = some r := mH hy221 H
       have Ny221 := Aside0.mk hy221
       clear hy221
       obtain rfl := Option.some.inj H
       have q28 : (x5_1 : Int) ≤ ((x0_1.length : Int) : Int) := oda
       obtain ⟨i028, hi028, _, hsz28, _⟩ := info_parts info32
       have hroom28 : x0_1.length ≤ co7 := (Kd.R_reads' HO_0.out).2.1
       have hC28 : Kd.C k32 _ Ao7 x0_1.length x0_1 := (Kd.R_reads' HO_0.out).2.2
       have q028 : (0 : Int) ≤ (x5_1 : Int) := oda
       have hcut28 := cut_from (P := Try.prog) 22 32 .i64 Try.underlying22 hi028 12 hsz28 Ao7 x0_1.length co7 x5_1 q028 q28
       have hr28 := Kd.C_drop (m := (x5_1 : Int).toNat) (c := co7) hC28 (by omega) hroom28
       obtain ⟨A28, hA28⟩ : ∃ A1, A1 = (if co7 = (x5_1 : Int).toNat then Ao7 else (Ao7 : Option Addr).map (·.add ((x5_1 : Int).toNat * 12))) := ⟨_, rfl⟩
       obtain ⟨c28, hc28⟩ : ∃ c1, c1 = co7 - (x5_1 : Int).toNat := ⟨_, rfl⟩
       have hy28 : y217.length = x0_1.length - (x5_1 : Int).toNat := (by rw [Ny217.out, List.length_drop] <;> omega)
       rw [show (x0_1).drop (x5_1 : Int).toNat = y217 from Ny217.out.symm] at hr28
       replace hr28 : Kd.C k32 _ A28 y217.length y217 := (by rw [hA28]; exact hr28)
       rw [← hy28, ← hA28, ← hc28] at hcut28
       have HR220 := Aside0.mk hr28
       have HC220 := Aside0.mk (show y217.length ≤ c28 from by rw [hy28, hc28]; exact Nat.sub_le_sub_right hroom28 _)
       clear hr28; clear hC28; clear hroom28; clear hi028; clear hsz28; clear hc28
       have KY28 := Aside0.mk hy28
       have KA28 := Aside0.mk hA28
       clear hy28; clear hA28
       have KL28 := Aside0.mk (show (x5_1 : Int).toNat ≤ x0_1.length from by omega)
       replace q28 := eq_true q28
       have q29 : (x5_1 : Int) ≤ ((x0_1.length : Int) : Int) := oda
       obtain ⟨i029, hi029, _, hsz29, _⟩ := info_parts info32
       have hcut29 := cut_to (P := Try.prog) 22 32 .i64 Try.underlying22 hi029 Ao7 x0_1.length co7 x5_1 (oda) q29 (Kd.R_reads' HO_0.out).2.1
       have hy29 : y221.length = (x5_1 : Int).toNat := (by rw [Ny221.out, List.length_take]; omega)
       rw [← hy29] at hcut29
       have HY29 := Aside0.mk hy29
       clear hi029; clear hsz29; clear hy29
       have KI : (x5_1 : Int).toNat ≤ x0_1.length := by omega
       have HKI := Aside0.mk KI
       clear KI
       replace q29 := eq_true q29
       have hzv : ∀ W_, (zeroValue 32).run Try.prog W_ = .ok (.agg #[(.int .i64 0), (.int .i64 0), (.int .i64 0), (.int .i64 0), (.int .i64 0), (.int .i64 0), (.int .i64 0), (.int .i64 0), (.int .i64 0), (.int .i64 0), (.int .i64 0), (.slice none 0 0)]) W_ := by
        intro W_
        obtain ⟨i_, hi_, hz_, _⟩ := info_parts info32
        simp [zeroValue, typeInfo, hi_, hz_]
       have HZV := Aside0.mk hzv
       clear hzv
       go_wp2_with (first | (refine clear_event (R := fun W2 => Kd.R k32 32 W2 w0.heap.size (fun k_ => (P0_ k_ ∨ w.heap.size ≤ k_)) (.slice Ao7 (x5_1 : Int).toNat co7) (x0_1.take (x5_1 : Int).toNat) ∧ Below w0.heap.size w0 W2 ∧ Kept w W2 (fun k_ => P0_ k_)) 22 (.tmp 38) rfl rfl rfl rfl ?hrun ?_; (case hrun => obtain ⟨W2, h1_, h2_, h3_, h4_⟩ := R_clear (P := Try.prog) HO_0.out (x5_1 : Int).toNat HKI.out (t := 22) (te := 32) (ty := 0) Try.underlying22 HZV.out rfl one12 KA28.out KY28.out HB.out; exact ⟨W2, h1_, h2_, h3_, Kept.of_grown h4_ HK.out (fun k_ e_ => HO_0.out.1 k_ e_)⟩); rintro W2 ⟨ho_, hb_, hk_⟩; have n0_ := Aside0.mk ho_; have n1_ := Aside0.mk hb_; have n2_ := Aside0.mk hk_; clear HO_0 HB HK ho_ hb_ hk_; have HO_0 := n0_; have HB := n1_; have HK := n2_; clear n0_ n1_ n2_))
       go_ret
       have hfin := HO_0.out
       rw [← Ny221.out, ← HY29.out] at hfin
       exact ⟨_, by first | rfl | (simp [errW_none, errW_some] <;> rfl) | (simp [*, errW_none, errW_some] <;> rfl), by (with_reducible repeat (first | apply Kd.R_alloc | apply Kd.R_drewN | apply Kd.R_drew)); exact hfin, by repeat (first | (with_reducible first | exact HB.out | apply below_alloc | apply pw_below_drewN | apply below_drew1) | exact HB.out), by repeat (first | (with_reducible first | exact HK.out | apply Kept.alloc | apply Kept.drewN | apply Kept.drew) | exact HK.out)⟩
      ·rw [if_neg c26] at H
       exact absurd H (by simp)
     ·rw [if_neg c25] at H
      exact absurd H (by simp)

end Go.Proofs.Ytkhfgflcanmefaa.PAll
end
section
namespace Go.Proofs.Ytkhfgflcanmefaa.PAll
open Go.RowKit Go.Proofs.YtkhfgflcanmefaaW.PrintWords Go.Proofs.YtkhfgflcanmefaaW.PrintLast Go.Proofs.YtkhfgflcanmefaaW.PrintMore
attribute [local go_sem] max2_int min2_int max_two min_two max_three min_three max_four min_four   -- for this text's walks alone
set_option linter.unusedVariables false
set_option linter.unusedSimpArgs false

def job_running.f (k : Nat) (l0 : List (S32)) : Option ((List (S32))) := (slices_Clone_Job.f l0).bind fun t224 => ((slices_DeleteFunc_Job__job_running_1.f k t224).bind fun t227 => (some t227))
theorem job_running.mono : ∀ a0 k, LeO (job_running.f k a0) (job_running.f (k + 1) a0) := by
  intro a0 k
  unfold job_running.f
  repeat' first
      | (with_reducible exact slices_DeleteFunc_Job__job_running_1.mono _ _)
      | (with_reducible exact LeO.refl _)
      | (with_reducible exact LeO.none _)
      | (with_reducible refine LeO.ite ?_ ?_)
      | (with_reducible refine LeO.bind ?_ (fun _ => ?_))
      | exact slices_DeleteFunc_Job__job_running_1.mono _ _
      | exact LeO.none _
      | refine LeO.ite ?_ ?_
      | refine LeO.bind ?_ (fun _ => ?_)
set_option maxHeartbeats 8000000 in
set_option maxRecDepth 100000 in
theorem job_running.calls (k : Nat) (A0 : Option Addr) (c0 : Nat) (l0 : List (S32)) (r : List (S32)) (w : World) (hr0 : Kd.C k32 w A0 l0.length l0) (hc0 : l0.length ≤ c0) (h : job_running.f k l0 = some r) :
    Calls Try.prog 41 #[.slice A0 l0.length c0] w fun e w' => ∃ v0_ : Value, e = .returned (v0_) ∧ Kd.R k32 32 w' w.heap.size (fun _ => True) v0_ r ∧ Below w.heap.size w w' := by
  have HR0 := Aside0.mk hr0
  have HC0 := Aside0.mk hc0
  clear hr0 hc0
  have HB := Aside0.mk (Below.refl w.heap.size w)
  have H : ((slices_Clone_Job.f l0).bind fun t224 => ((slices_DeleteFunc_Job__job_running_1.f k t224).bind fun t227 => (some t227))) = some r := h
  clear h
  replace H := Option.bind_eq_some_iff.mp H
  obtain ⟨t224, A20, H⟩ := H
  replace H : ((slices_DeleteFunc_Job__job_running_1.f k t224).bind fun t227 => (some t227)) = some r := H
  have A2 := Aside0.mk A20
  clear A20
  replace H := Option.bind_eq_some_iff.mp H
  obtain ⟨t227, A30, H⟩ := H
  replace H : (some t227) = some r := H
  have A3 := Aside0.mk A30
  clear A30
  obtain rfl := Option.some.inj H
  go_enter Try.func41, Try.ntmps41
  go_wp2_with (first | ((with_reducible refine gate_callee (f := 56) rfl ?_); refine goesL_ (some 4) rfl rfl Try.func56 (by kernel_rfl) rfl #[.slice A0 l0.length c0] rfl (by (try simp only [List.map_toArray, List.map_cons, List.map_nil]); first | done | rfl | (simp only [List.length_drop, List.length_take]; rfl)) ?_; (with_reducible refine (slices_Clone_Job.calls _ _ l0 t224 _ ?side1 ?side2 A2.out).mono ?_); (case side1 => repeat (first | exact HR0.out | (with_reducible refine Kd.C_alloc ?_ _) | (with_reducible refine Kd.C_drewN ?_ _) | (with_reducible refine Kd.C_drew ?_))); (case side2 => exact HC0.out); rintro e w4 ⟨v225, rfl, ho0, hb⟩; refine ⟨_, rfl, ?_⟩; have n0_ := Aside0.mk (Kd.R_lower ho0 (below_size (by repeat (first | (with_reducible first | exact HB.out | apply below_alloc | apply pw_below_drewN | apply below_drew1) | exact HB.out)))); have n1_ := Aside0.mk (below_step (by repeat (first | (with_reducible first | exact HB.out | apply below_alloc | apply pw_below_drewN | apply below_drew1) | exact HB.out)) hb); clear HB; have HO226 := n0_; have HB := n1_; clear n0_ n1_; (try clear hb); (try clear hb2); (try clear hk); (try clear hi); (try clear ho0); obtain ⟨Ao5, co5, eo5⟩ := Kd.R_slice HO226.out; subst eo5) | ((with_reducible refine gate_callee (f := 55) rfl ?_); refine goesL_ (some 5) rfl rfl Try.func55 (by kernel_rfl) rfl #[.slice Ao5 t224.length co5, .func (.func 57) #[] #[]] rfl (by (try simp only [List.map_toArray, List.map_cons, List.map_nil]); first | done | rfl | (simp only [List.length_drop, List.length_take]; rfl)) ?_; (with_reducible refine (slices_DeleteFunc_Job__job_running_1.calls k (fun k_ => some k_ = (.slice Ao5 t224.length co5 : Value).ownBlock) (.slice Ao5 t224.length co5) t224  t227 w _ ?side1 ?side2 A3.out).mono ?_); (case side1 => repeat (first | (with_reducible first | exact HB.out | apply below_alloc | apply pw_below_drewN | apply below_drew1) | exact HB.out)); (case side2 => exact Kd.R_tight rfl HO226.out); rintro e w6 ⟨v228, rfl, ho0, hb, hkp⟩; refine ⟨_, rfl, ?_⟩; have n0_ := Aside0.mk (Kd.R_mono (ok' := fun k_ => True) ho0 (fun k_ hk_ => trivial)); have n1_ := Aside0.mk (hb); clear HB; clear HO226; have HO229 := n0_; have HB := n1_; clear n0_ n1_; (try clear hb); (try clear hkp); (try clear ho0)))
  go_ret
  exact ⟨_, by first | rfl | (simp [errW_none, errW_some] <;> rfl) | (simp [*, errW_none, errW_some] <;> rfl), by (with_reducible repeat (first | apply Kd.R_alloc | apply Kd.R_drewN | apply Kd.R_drew)); exact HO229.out, by repeat (first | (with_reducible first | exact HB.out | apply below_alloc | apply pw_below_drewN | apply below_drew1) | exact HB.out)⟩

end Go.Proofs.Ytkhfgflcanmefaa.PAll
end
section
namespace Go.Proofs.Ytkhfgflcanmefaa.PAll
open Go.RowKit Go.Proofs.YtkhfgflcanmefaaW.PrintWords Go.Proofs.YtkhfgflcanmefaaW.PrintLast Go.Proofs.YtkhfgflcanmefaaW.PrintMore
attribute [local go_sem] max2_int min2_int max_two min_two max_three min_three max_four min_four   -- for this text's walks alone
set_option linter.unusedVariables false
set_option linter.unusedSimpArgs false

def cmp_Or_int.l0 : Nat → Int → List Int → Int → Int → Option (Int)
  | 0, _, _, _, _ => none
  | k + 1, x3, x6, x7, x8 => if x8 < x7 then (if 0 ≤ x8 then (if x8 < (x6.length : Int) then (if (rd x6 x8) = x3 then (cmp_Or_int.l0 k x3 x6 x7 (wrap64 (x8 + 1))) else (some (rd x6 x8))) else (none)) else (none)) else (some x3)
def cmp_Or_int.f (k : Nat) (l0 : List Int) : Option (Int) := cmp_Or_int.l0 k 0 l0 (l0.length : Int) 0
theorem cmp_Or_int.mono_l : ∀ k, (∀ y0 y1 y2 y3, LeO (cmp_Or_int.l0 k y0 y1 y2 y3) (cmp_Or_int.l0 (k + 1) y0 y1 y2 y3))
  | 0 => fun _ _ _ _ r h => by simp [cmp_Or_int.l0] at h
  | k + 1 => by
    have ih0 := cmp_Or_int.mono_l k
    · intro y0 y1 y2 y3
      unfold cmp_Or_int.l0
      repeat' first
      | (with_reducible exact ih0 _ _ _ _)
      | (with_reducible exact LeO.refl _)
      | (with_reducible exact LeO.none _)
      | (with_reducible refine LeO.ite ?_ ?_)
      | (with_reducible refine LeO.bind ?_ (fun _ => ?_))
      | exact ih0 _ _ _ _
      | exact LeO.none _
      | refine LeO.ite ?_ ?_
      | refine LeO.bind ?_ (fun _ => ?_)
theorem cmp_Or_int.mono : ∀ a0 k, LeO (cmp_Or_int.f k a0) (cmp_Or_int.f (k + 1) a0) := by
  intro a0 k
  have ih0 := cmp_Or_int.mono_l k
  unfold cmp_Or_int.f
  repeat' first
      | (with_reducible exact ih0 _ _ _ _)
      | (with_reducible exact LeO.refl _)
      | (with_reducible exact LeO.none _)
      | (with_reducible refine LeO.ite ?_ ?_)
      | (with_reducible refine LeO.bind ?_ (fun _ => ?_))
      | exact ih0 _ _ _ _
      | exact LeO.none _
      | refine LeO.ite ?_ ?_
      | refine LeO.bind ?_ (fun _ => ?_)
set_option maxHeartbeats 8000000 in
set_option maxRecDepth 100000 in
theorem cmp_Or_int.calls (k : Nat) (A0 : Option Addr) (c0 : Nat) (l0 : List Int) (r : Int) (w : World) (hr0 : Kd.C (Kd.int .i64) w A0 l0.length l0) (hc0 : l0.length ≤ c0) (h : cmp_Or_int.f k l0 = some r) :
    Calls Try.prog 35 #[.slice A0 l0.length c0] w fun e w' => e = .returned (.int .i64 r) ∧ Drawn0 w w' := by
  have HR0 := Aside0.mk hr0
  have HC0 := Aside0.mk hc0
  clear hr0 hc0
  have H : (cmp_Or_int.l0 k 0 l0 (l0.length : Int) 0) = some r := h
  clear h
  have H' := Aside0.mk H
  clear H
  go_enter Try.func35, Try.ntmps35
  go_wp2
  go_loopg [8] k (fun kq v8 w' => ∃ (x8_1 : Int), v8 = .int .i64 x8_1 ∧ Aside0 (cmp_Or_int.l0 kq 0 l0 (l0.length : Int) x8_1 = some r) ∧ Aside0 (kq ≤ k) ∧ Drawn0 w w')
  case atStart => exact ⟨(0), (by first | rfl | (simp; done) | (simp [*]; done)), H', ⟨Nat.le_refl _⟩, by repeat (first | exact Drawn0.refl _ | apply Drawn0.step)⟩
  case round =>
    clear H'
    obtain ⟨x8_1, rfl, HA, HK1, ⟨m1, rfl⟩⟩ := hrel
    cases gk with
    | zero => exact absurd HA.out (by simp [cmp_Or_int.l0])
    | succ k1 =>
      have H := HA.out
      clear HA
      simp only [cmp_Or_int.l0] at H
      by_cases c2 : x8_1 < (l0.length : Int)
      · rw [if_pos c2] at H
        have c2b0 : decide (x8_1 < (l0.length : Int)) = true := decide_eq_true c2
        clear c2
        by_cases c3 : 0 ≤ x8_1
        · rw [if_pos c3] at H
          have c3b0 : decide (0 ≤ x8_1) = true := decide_eq_true c3
          clear c3
          by_cases c4 : x8_1 < (l0.length : Int)
          · rw [if_pos c4] at H
            have c4b0 : decide (x8_1 < (l0.length : Int)) = true := decide_eq_true c4
            clear c4
            by_cases c5 : (rd l0 x8_1) = 0
            · rw [if_pos c5] at H
              have c5b0 : ((rd l0 x8_1) == 0) = true := beq_iff_eq.mpr c5
              have c5b1 : ((rd l0 x8_1) != 0) = false := bne_eq_false_iff_eq.mpr c5
              clear c5
              have H' := Aside0.mk H
              clear H
              have p162 : 0 ≤ (x8_1 : Int) := of_decide_eq_true (by first | (with_reducible assumption) | assumption)
              have q162 : x8_1 < (l0.length : Int) := of_decide_eq_true (by first | (with_reducible assumption) | assumption)
              obtain ⟨ad162, e162, hx162_0⟩ := Kd.at_int HR0.out x8_1 p162 q162
              cases e162
              replace p162 := eq_true p162
              replace q162 := eq_true q162
              go_wp2
              go_roundg k1
              case measure => have := HK1.out; omega
              case rel => exact ⟨(wrap64 (x8_1 + 1)), (by first | rfl | (simp; done) | (simp [*]; done)), H', ⟨by have := HK1.out; omega⟩, by repeat (first | exact Drawn0.refl _ | apply Drawn0.step)⟩
            · rw [if_neg c5] at H
              have c5b0 : ((rd l0 x8_1) == 0) = false := beq_eq_false_iff_ne.mpr c5
              have c5b1 : ((rd l0 x8_1) != 0) = true := bne_iff_ne.mpr c5
              obtain rfl := Option.some.inj H
              have p162 : 0 ≤ (x8_1 : Int) := of_decide_eq_true (by first | (with_reducible assumption) | assumption)
              have q162 : x8_1 < (l0.length : Int) := of_decide_eq_true (by first | (with_reducible assumption) | assumption)
              obtain ⟨ad162, e162, hx162_0⟩ := Kd.at_int HR0.out x8_1 p162 q162
              cases e162
              replace p162 := eq_true p162
              replace q162 := eq_true q162
              go_wp2
              go_ret
              exact ⟨by first | rfl | (simp; done) | (simp [*]; done), by repeat (first | exact Drawn0.refl _ | apply Drawn0.step)⟩
          · rw [if_neg c4] at H
            exact absurd H (by simp)
        · rw [if_neg c3] at H
          exact absurd H (by simp)
      · rw [if_neg c2] at H
        have c2b0 : decide (x8_1 < (l0.length : Int)) = false := decide_eq_false c2
        clear c2
        obtain rfl := Option.some.inj H
        go_wp2
        go_ret
        exact ⟨by first | rfl | (simp; done) | (simp [*]; done), by repeat (first | exact Drawn0.refl _ | apply Drawn0.step)⟩

end Go.Proofs.Ytkhfgflcanmefaa.PAll
end
section
namespace Go.Proofs.Ytkhfgflcanmefaa.PAll
open Go.RowKit Go.Proofs.YtkhfgflcanmefaaW.PrintWords Go.Proofs.YtkhfgflcanmefaaW.PrintLast Go.Proofs.YtkhfgflcanmefaaW.PrintMore
attribute [local go_sem] max2_int min2_int max_two min_two max_three min_three max_four min_four   -- for this text's walks alone
set_option linter.unusedVariables false
set_option linter.unusedSimpArgs false

def cmp_isNaN_int.f (a0 : Int) : Option (Bool) := some (a0 != a0)
set_option maxHeartbeats 8000000 in
set_option maxRecDepth 100000 in
theorem cmp_isNaN_int.calls (a0 : Int) (r : Bool) (w : World) (h : cmp_isNaN_int.f a0 = some r) :
    Calls Try.prog 54 #[.int .i64 a0] w fun e w' => e = .returned (.bool r) ∧ Drawn0 w w' := by
  have H : (some (a0 != a0)) = some r := h
  clear h
  obtain rfl := Option.some.inj H
  go_enter Try.func54, Try.ntmps54
  go_wp2
  go_ret
  exact ⟨by first | rfl | (simp; done) | (simp [*]; done), by repeat (first | exact Drawn0.refl _ | apply Drawn0.step)⟩

end Go.Proofs.Ytkhfgflcanmefaa.PAll
end
section
namespace Go.Proofs.Ytkhfgflcanmefaa.PAll
open Go.RowKit Go.Proofs.YtkhfgflcanmefaaW.PrintWords Go.Proofs.YtkhfgflcanmefaaW.PrintLast Go.Proofs.YtkhfgflcanmefaaW.PrintMore
attribute [local go_sem] max2_int min2_int max_two min_two max_three min_three max_four min_four   -- for this text's walks alone
set_option linter.unusedVariables false
set_option linter.unusedSimpArgs false

def cmp_Compare_int.f (a0 : Int) (a1 : Int) : Option (Int) := (cmp_isNaN_int.f a0).bind fun t163 => ((cmp_isNaN_int.f a1).bind fun t164 => (if t163 = true then (if t164 = true then (some 0) else (some (-1))) else (if t164 = true then (some 1) else (if a0 < a1 then (some (-1)) else (if a0 > a1 then (some 1) else (some 0))))))
set_option maxHeartbeats 8000000 in
set_option maxRecDepth 100000 in
theorem cmp_Compare_int.calls (a0 : Int) (a1 : Int) (r : Int) (w : World) (h : cmp_Compare_int.f a0 a1 = some r) :
    Calls Try.prog 36 #[.int .i64 a0, .int .i64 a1] w fun e w' => e = .returned (.int .i64 r) ∧ Drawn0 w w' := by
  have H : ((cmp_isNaN_int.f a0).bind fun t163 => ((cmp_isNaN_int.f a1).bind fun t164 => (if t163 = true then (if t164 = true then (some 0) else (some (-1))) else (if t164 = true then (some 1) else (if a0 < a1 then (some (-1)) else (if a0 > a1 then (some 1) else (some 0))))))) = some r := h
  clear h
  replace H := Option.bind_eq_some_iff.mp H
  obtain ⟨t163, A30, H⟩ := H
  replace H : ((cmp_isNaN_int.f a1).bind fun t164 => (if t163 = true then (if t164 = true then (some 0) else (some (-1))) else (if t164 = true then (some 1) else (if a0 < a1 then (some (-1)) else (if a0 > a1 then (some 1) else (some 0)))))) = some r := H
  have A3 := Aside0.mk A30
  clear A30
  replace H := Option.bind_eq_some_iff.mp H
  obtain ⟨t164, A40, H⟩ := H
  replace H : (if t163 = true then (if t164 = true then (some 0) else (some (-1))) else (if t164 = true then (some 1) else (if a0 < a1 then (some (-1)) else (if a0 > a1 then (some 1) else (some 0))))) = some r := H
  have A4 := Aside0.mk A40
  clear A40
  by_cases c5 : t163 = true
  · subst c5
    have H1 : (if t164 = true then (some 0) else (some (-1))) = some r := by rw [if_pos rfl] at H; exact H
    clear H
    have H := H1
    clear H1
    by_cases c6 : t164 = true
    · subst c6
      have H1 : (some 0) = some r := by rw [if_pos rfl] at H; exact H
      clear H
      have H := H1
      clear H1
      obtain rfl := Option.some.inj H
      go_enter Try.func36, Try.ntmps36
      go_wp2_with (first | ((with_reducible refine gate_callee (f := 54) rfl ?_); refine goesL_ (some 8) rfl rfl Try.func54 (by kernel_rfl) rfl #[.int .i64 a0] rfl (by (try simp only [List.map_toArray, List.map_cons, List.map_nil]); first | done | rfl | (simp only [List.length_drop, List.length_take]; rfl)) ?_; (with_reducible refine (cmp_isNaN_int.calls a0 true _ A3.out).mono ?_); rintro e w' ⟨rfl, ⟨nd, rfl⟩⟩; refine ⟨_, rfl, ?_⟩) | ((with_reducible refine gate_callee (f := 54) rfl ?_); refine goesL_ (some 10) rfl rfl Try.func54 (by kernel_rfl) rfl #[.int .i64 a1] rfl (by (try simp only [List.map_toArray, List.map_cons, List.map_nil]); first | done | rfl | (simp only [List.length_drop, List.length_take]; rfl)) ?_; (with_reducible refine (cmp_isNaN_int.calls a1 true _ A4.out).mono ?_); rintro e w' ⟨rfl, ⟨nd, rfl⟩⟩; refine ⟨_, rfl, ?_⟩))
      go_ret
      exact ⟨by first | rfl | (simp; done) | (simp [*]; done), by repeat (first | exact Drawn0.refl _ | apply Drawn0.step)⟩
    · replace c6 := Bool.eq_false_iff.mpr c6
      subst c6
      have H1 : (some (-1)) = some r := by rw [if_neg (show ¬ (false = true) by decide)] at H; exact H
      clear H
      have H := H1
      clear H1
      obtain rfl := Option.some.inj H
      go_enter Try.func36, Try.ntmps36
      go_wp2_with (first | ((with_reducible refine gate_callee (f := 54) rfl ?_); refine goesL_ (some 8) rfl rfl Try.func54 (by kernel_rfl) rfl #[.int .i64 a0] rfl (by (try simp only [List.map_toArray, List.map_cons, List.map_nil]); first | done | rfl | (simp only [List.length_drop, List.length_take]; rfl)) ?_; (with_reducible refine (cmp_isNaN_int.calls a0 true _ A3.out).mono ?_); rintro e w' ⟨rfl, ⟨nd, rfl⟩⟩; refine ⟨_, rfl, ?_⟩) | ((with_reducible refine gate_callee (f := 54) rfl ?_); refine goesL_ (some 10) rfl rfl Try.func54 (by kernel_rfl) rfl #[.int .i64 a1] rfl (by (try simp only [List.map_toArray, List.map_cons, List.map_nil]); first | done | rfl | (simp only [List.length_drop, List.length_take]; rfl)) ?_; (with_reducible refine (cmp_isNaN_int.calls a1 false _ A4.out).mono ?_); rintro e w' ⟨rfl, ⟨nd, rfl⟩⟩; refine ⟨_, rfl, ?_⟩))
      go_ret
      exact ⟨by first | rfl | (simp; done) | (simp [*]; done), by repeat (first | exact Drawn0.refl _ | apply Drawn0.step)⟩
  · replace c5 := Bool.eq_false_iff.mpr c5
    subst c5
    have H1 : (if t164 = true then (some 1) else (if a0 < a1 then (some (-1)) else (if a0 > a1 then (some 1) else (some 0)))) = some r := by rw [if_neg (show ¬ (false = true) by decide)] at H; exact H
    clear H
    have H := H1
    clear H1
    by_cases c7 : t164 = true
    · subst c7
      have H1 : (some 1) = some r := by rw [if_pos rfl] at H; exact H
      clear H
      have H := H1
      clear H1
      obtain rfl := Option.some.inj H
      go_enter Try.func36, Try.ntmps36
      go_wp2_with (first | ((with_reducible refine gate_callee (f := 54) rfl ?_); refine goesL_ (some 8) rfl rfl Try.func54 (by kernel_rfl) rfl #[.int .i64 a0] rfl (by (try simp only [List.map_toArray, List.map_cons, List.map_nil]); first | done | rfl | (simp only [List.length_drop, List.length_take]; rfl)) ?_; (with_reducible refine (cmp_isNaN_int.calls a0 false _ A3.out).mono ?_); rintro e w' ⟨rfl, ⟨nd, rfl⟩⟩; refine ⟨_, rfl, ?_⟩) | ((with_reducible refine gate_callee (f := 54) rfl ?_); refine goesL_ (some 10) rfl rfl Try.func54 (by kernel_rfl) rfl #[.int .i64 a1] rfl (by (try simp only [List.map_toArray, List.map_cons, List.map_nil]); first | done | rfl | (simp only [List.length_drop, List.length_take]; rfl)) ?_; (with_reducible refine (cmp_isNaN_int.calls a1 true _ A4.out).mono ?_); rintro e w' ⟨rfl, ⟨nd, rfl⟩⟩; refine ⟨_, rfl, ?_⟩))
      go_ret
      exact ⟨by first | rfl | (simp; done) | (simp [*]; done), by repeat (first | exact Drawn0.refl _ | apply Drawn0.step)⟩
    · replace c7 := Bool.eq_false_iff.mpr c7
      subst c7
      have H1 : (if a0 < a1 then (some (-1)) else (if a0 > a1 then (some 1) else (some 0))) = some r := by rw [if_neg (show ¬ (false = true) by decide)] at H; exact H
      clear H
      have H := H1
      clear H1
      by_cases c8 : a0 < a1
      · rw [if_pos c8] at H
        have c8b0 : decide (a0 < a1) = true := decide_eq_true c8
        clear c8
        obtain rfl := Option.some.inj H
        go_enter Try.func36, Try.ntmps36
        go_wp2_with (first | ((with_reducible refine gate_callee (f := 54) rfl ?_); refine goesL_ (some 8) rfl rfl Try.func54 (by kernel_rfl) rfl #[.int .i64 a0] rfl (by (try simp only [List.map_toArray, List.map_cons, List.map_nil]); first | done | rfl | (simp only [List.length_drop, List.length_take]; rfl)) ?_; (with_reducible refine (cmp_isNaN_int.calls a0 false _ A3.out).mono ?_); rintro e w' ⟨rfl, ⟨nd, rfl⟩⟩; refine ⟨_, rfl, ?_⟩) | ((with_reducible refine gate_callee (f := 54) rfl ?_); refine goesL_ (some 10) rfl rfl Try.func54 (by kernel_rfl) rfl #[.int .i64 a1] rfl (by (try simp only [List.map_toArray, List.map_cons, List.map_nil]); first | done | rfl | (simp only [List.length_drop, List.length_take]; rfl)) ?_; (with_reducible refine (cmp_isNaN_int.calls a1 false _ A4.out).mono ?_); rintro e w' ⟨rfl, ⟨nd, rfl⟩⟩; refine ⟨_, rfl, ?_⟩))
        go_ret
        exact ⟨by first | rfl | (simp; done) | (simp [*]; done), by repeat (first | exact Drawn0.refl _ | apply Drawn0.step)⟩
      · rw [if_neg c8] at H
        have c8b0 : decide (a0 < a1) = false := decide_eq_false c8
        clear c8
        by_cases c9 : a0 > a1
        · rw [if_pos c9] at H
          have c9b0 : decide (a1 < a0) = true := decide_eq_true c9
          clear c9
          obtain rfl := Option.some.inj H
          go_enter Try.func36, Try.ntmps36
          go_wp2_with (first | ((with_reducible refine gate_callee (f := 54) rfl ?_); refine goesL_ (some 8) rfl rfl Try.func54 (by kernel_rfl) rfl #[.int .i64 a0] rfl (by (try simp only [List.map_toArray, List.map_cons, List.map_nil]); first | done | rfl | (simp only [List.length_drop, List.length_take]; rfl)) ?_; (with_reducible refine (cmp_isNaN_int.calls a0 false _ A3.out).mono ?_); rintro e w' ⟨rfl, ⟨nd, rfl⟩⟩; refine ⟨_, rfl, ?_⟩) | ((with_reducible refine gate_callee (f := 54) rfl ?_); refine goesL_ (some 10) rfl rfl Try.func54 (by kernel_rfl) rfl #[.int .i64 a1] rfl (by (try simp only [List.map_toArray, List.map_cons, List.map_nil]); first | done | rfl | (simp only [List.length_drop, List.length_take]; rfl)) ?_; (with_reducible refine (cmp_isNaN_int.calls a1 false _ A4.out).mono ?_); rintro e w' ⟨rfl, ⟨nd, rfl⟩⟩; refine ⟨_, rfl, ?_⟩))
          go_ret
          exact ⟨by first | rfl | (simp; done) | (simp [*]; done), by repeat (first | exact Drawn0.refl _ | apply Drawn0.step)⟩
        · rw [if_neg c9] at H
          have c9b0 : decide (a1 < a0) = false := decide_eq_false c9
          clear c9
          obtain rfl := Option.some.inj H
          go_enter Try.func36, Try.ntmps36
          go_wp2_with (first | ((with_reducible refine gate_callee (f := 54) rfl ?_); refine goesL_ (some 8) rfl rfl Try.func54 (by kernel_rfl) rfl #[.int .i64 a0] rfl (by (try simp only [List.map_toArray, List.map_cons, List.map_nil]); first | done | rfl | (simp only [List.length_drop, List.length_take]; rfl)) ?_; (with_reducible refine (cmp_isNaN_int.calls a0 false _ A3.out).mono ?_); rintro e w' ⟨rfl, ⟨nd, rfl⟩⟩; refine ⟨_, rfl, ?_⟩) | ((with_reducible refine gate_callee (f := 54) rfl ?_); refine goesL_ (some 10) rfl rfl Try.func54 (by kernel_rfl) rfl #[.int .i64 a1] rfl (by (try simp only [List.map_toArray, List.map_cons, List.map_nil]); first | done | rfl | (simp only [List.length_drop, List.length_take]; rfl)) ?_; (with_reducible refine (cmp_isNaN_int.calls a1 false _ A4.out).mono ?_); rintro e w' ⟨rfl, ⟨nd, rfl⟩⟩; refine ⟨_, rfl, ?_⟩))
          go_ret
          exact ⟨by first | rfl | (simp; done) | (simp [*]; done), by repeat (first | exact Drawn0.refl _ | apply Drawn0.step)⟩

end Go.Proofs.Ytkhfgflcanmefaa.PAll
end
section
namespace Go.Proofs.Ytkhfgflcanmefaa.PAll
open Go.RowKit Go.Proofs.YtkhfgflcanmefaaW.PrintWords Go.Proofs.YtkhfgflcanmefaaW.PrintLast Go.Proofs.YtkhfgflcanmefaaW.PrintMore
attribute [local go_sem] max2_int min2_int max_two min_two max_three min_three max_four min_four   -- for this text's walks alone
set_option linter.unusedVariables false
set_option linter.unusedSimpArgs false

def job_DueL.f (k : Nat) (a0_0 : Int) (a0_1 : Int) (a0_2 : Int) (a0_3 : Int) (a0_4 : Int) (a0_5 : Int) (a0_6 : Int) (a0_7 : Int) (a0_8 : Int) (a0_9 : Int) (a0_10 : Int) (a0_11 : SH) (a1_0 : Int) (a1_1 : Int) (a1_2 : Int) (a1_3 : Int) (a1_4 : Int) (a1_5 : Int) (a1_6 : Int) (a1_7 : Int) (a1_8 : Int) (a1_9 : Int) (a1_10 : Int) (a1_11 : SH) : Option (Int) := (cmp_Compare_int.f (wrap64 (a0_8 + a0_3)) (wrap64 (a1_8 + a1_3))).bind fun t269 => ((cmp_Compare_int.f a0_0 a1_0).bind fun t270 => ((cmp_Or_int.f k (([t269, t270] : List Int))).bind fun t274 => (some t274)))
theorem job_DueL.mono : ∀ a0 a1 a2 a3 a4 a5 a6 a7 a8 a9 a10 a11 a12 a13 a14 a15 a16 a17 a18 a19 a20 a21 a22 a23 k, LeO (job_DueL.f k a0 a1 a2 a3 a4 a5 a6 a7 a8 a9 a10 a11 a12 a13 a14 a15 a16 a17 a18 a19 a20 a21 a22 a23) (job_DueL.f (k + 1) a0 a1 a2 a3 a4 a5 a6 a7 a8 a9 a10 a11 a12 a13 a14 a15 a16 a17 a18 a19 a20 a21 a22 a23) := by
  intro a0 a1 a2 a3 a4 a5 a6 a7 a8 a9 a10 a11 a12 a13 a14 a15 a16 a17 a18 a19 a20 a21 a22 a23 k
  unfold job_DueL.f
  repeat' first
      | (with_reducible exact cmp_Or_int.mono _ _)
      | (with_reducible exact LeO.refl _)
      | (with_reducible exact LeO.none _)
      | (with_reducible refine LeO.ite ?_ ?_)
      | (with_reducible refine LeO.bind ?_ (fun _ => ?_))
      | exact cmp_Or_int.mono _ _
      | exact LeO.none _
      | refine LeO.ite ?_ ?_
      | refine LeO.bind ?_ (fun _ => ?_)
def job_DueL.T1 : Bool × List (List Nat × List Nat) := (true, [([], []), ([0], [0]), ([], []), ([2], [2]), ([1, 3], [1, 3]), ([], []), ([5], [5]), ([], []), ([7], [7]), ([6, 8], [6, 8]), ([4, 9], [4, 9]), ([], []), ([11], [11]), ([], []), ([13], [13]), ([12, 14, 10], [12, 14]), ([10, 15], [10, 15]), ([16, 15], [16]), ([17, 17, 0, 1, 2, 3, 4, 5, 6, 7, 8, 9, 10, 11, 12, 13, 14, 15, 16, 17], [17])])
def job_DueL.B1 : List Nat := [0, 1, 0, 4, 15, 0, 32, 0, 128, 480, 1023, 0, 2048, 0, 8192, 32767, 65535, 131071, 262143]
theorem job_DueL.tab1 : rtab .any (opsOf Try.f47 1) = job_DueL.T1 := by kernel_rfl
theorem job_DueL.bits1 : waitsOk job_DueL.T1.2 job_DueL.B1 = true := by kernel_rfl
set_option maxHeartbeats 8000000 in
set_option maxRecDepth 100000 in
theorem job_DueL.calls (k : Nat) (a0_0 : Int) (a0_1 : Int) (a0_2 : Int) (a0_3 : Int) (a0_4 : Int) (a0_5 : Int) (a0_6 : Int) (a0_7 : Int) (a0_8 : Int) (a0_9 : Int) (a0_10 : Int) (a0_11 : SH) (a1_0 : Int) (a1_1 : Int) (a1_2 : Int) (a1_3 : Int) (a1_4 : Int) (a1_5 : Int) (a1_6 : Int) (a1_7 : Int) (a1_8 : Int) (a1_9 : Int) (a1_10 : Int) (a1_11 : SH) (r : Int) (w : World) (h : job_DueL.f k a0_0 a0_1 a0_2 a0_3 a0_4 a0_5 a0_6 a0_7 a0_8 a0_9 a0_10 a0_11 a1_0 a1_1 a1_2 a1_3 a1_4 a1_5 a1_6 a1_7 a1_8 a1_9 a1_10 a1_11 = some r) :
    Calls Try.prog 47 #[.agg #[.int .i64 a0_0, .int .i64 a0_1, .int .i64 a0_2, .int .i64 a0_3, .int .i64 a0_4, .int .i64 a0_5, .int .i64 a0_6, .int .i64 a0_7, .int .i64 a0_8, .int .i64 a0_9, .int .i64 a0_10, .slice a0_11.A a0_11.n a0_11.c], .agg #[.int .i64 a1_0, .int .i64 a1_1, .int .i64 a1_2, .int .i64 a1_3, .int .i64 a1_4, .int .i64 a1_5, .int .i64 a1_6, .int .i64 a1_7, .int .i64 a1_8, .int .i64 a1_9, .int .i64 a1_10, .slice a1_11.A a1_11.n a1_11.c]] w fun e w' => e = .returned (.int .i64 r) ∧ Below w.heap.size w w' := by
  have hu32 := Try.underlying32
  have HB := Aside0.mk (Below.refl w.heap.size w)
  have H : ((cmp_Compare_int.f (wrap64 (a0_8 + a0_3)) (wrap64 (a1_8 + a1_3))).bind fun t269 => ((cmp_Compare_int.f a0_0 a1_0).bind fun t270 => ((cmp_Or_int.f k (([t269, t270] : List Int))).bind fun t274 => (some t274)))) = some r := h
  clear h
  replace H := Option.bind_eq_some_iff.mp H
  obtain ⟨t269, A30, H⟩ := H
  replace H : ((cmp_Compare_int.f a0_0 a1_0).bind fun t270 => ((cmp_Or_int.f k (([t269, t270] : List Int))).bind fun t274 => (some t274))) = some r := H
  have A3 := Aside0.mk A30
  clear A30
  replace H := Option.bind_eq_some_iff.mp H
  obtain ⟨t270, A40, H⟩ := H
  replace H : ((cmp_Or_int.f k (([t269, t270] : List Int))).bind fun t274 => (some t274)) = some r := H
  have A4 := Aside0.mk A40
  clear A40
  obtain ⟨y271, hy271⟩ : ∃ y_ : List Int, y_ = (([t269, t270] : List Int)) := ⟨_, rfl⟩
  replace H : ((cmp_Or_int.f k y271).bind fun t274 => (some t274)) = some r := by first | (rw [hy271]; with_reducible exact H) | (have H2_ := (Option.bind_some _ _).symm.trans H; rw [hy271]; with_reducible exact H2_) | (have H2_ := (Option.bind_some _ _).symm.trans H; with_reducible exact H2_) | with_reducible exact H | (rw [hy271]; exact H) | exact H
  have Ny271 := Aside0.mk hy271
  clear hy271
  replace H := Option.bind_eq_some_iff.mp H
  obtain ⟨t274, A50, H⟩ := H
  replace H : (some t274) = some r := H
  have A5 := Aside0.mk A50
  clear A50
  obtain rfl := Option.some.inj H
  go_enter Try.func47, Try.ntmps47
  try go_wp2_with (first | ((with_reducible refine gate_dst (N := 2) rfl ?_); refine box_event ?hg (N := 2) ?hd (cs := #[.int .i64 a0_0, .int .i64 a0_1, .int .i64 a0_2, .int .i64 a0_3, .int .i64 a0_4, .int .i64 a0_5, .int .i64 a0_6, .int .i64 a0_7, .int .i64 a0_8, .int .i64 a0_9, .int .i64 a0_10, .slice a0_11.A a0_11.n a0_11.c]) (t := 32) ?hr ?_; (case hd => rfl); (case hg => rfl); (case hr => first | (go_simp; done) | (go_simp; rfl)); intro gb267 hg w6 hbox hb; have n0_ := Aside0.mk (below_step (by repeat (first | (with_reducible first | exact HB.out | apply below_alloc | apply pw_below_drewN | apply below_drew1) | exact HB.out)) hb); have n1_ := Aside0.mk (hbox); have n2_ := Aside0.mk ((by rw [hg]; exact (below_size (by repeat (first | (with_reducible first | exact HB.out | apply below_alloc | apply pw_below_drewN | apply below_drew1) | exact HB.out))) : w.heap.size ≤ gb267)); have n3_ := Aside0.mk ((by rw [hg]; exact (below_size (by repeat (first | (with_reducible first | exact HB.out | apply below_alloc | apply pw_below_drewN | apply below_drew1) | exact HB.out))) : w.heap.size ≤ gb267)); clear HB; have HB := n0_; have BK267 := n1_; have GW267 := n2_; have GE267 := n3_; clear n0_ n1_ n2_ n3_; clear hb hbox hg) | ((with_reducible refine gate_dst (N := 3) rfl ?_); refine box_event ?hg (N := 3) ?hd (cs := #[.int .i64 a1_0, .int .i64 a1_1, .int .i64 a1_2, .int .i64 a1_3, .int .i64 a1_4, .int .i64 a1_5, .int .i64 a1_6, .int .i64 a1_7, .int .i64 a1_8, .int .i64 a1_9, .int .i64 a1_10, .slice a1_11.A a1_11.n a1_11.c]) (t := 32) ?hr ?_; (case hd => rfl); (case hg => rfl); (case hr => first | (go_simp; done) | (go_simp; rfl)); intro gb268 hg w7 hbox hb; have n0_ := Aside0.mk (blk_below (g := gb267) (o := .cells #[.int .i64 a0_0, .int .i64 a0_1, .int .i64 a0_2, .int .i64 a0_3, .int .i64 a0_4, .int .i64 a0_5, .int .i64 a0_6, .int .i64 a0_7, .int .i64 a0_8, .int .i64 a0_9, .int .i64 a0_10, .slice a0_11.A a0_11.n a0_11.c] 32 (0, 0)) (by (with_reducible repeat first | apply blk_drewN | apply blk_drew | apply blk_alloc); exact BK267.out) hb); have n1_ := Aside0.mk (below_step (by repeat (first | (with_reducible first | exact HB.out | apply below_alloc | apply pw_below_drewN | apply below_drew1 | refine below_set ?_ GE267.out) | exact HB.out)) hb); have n2_ := Aside0.mk (hbox); have n3_ := Aside0.mk ((by rw [hg]; exact (below_size (by repeat (first | (with_reducible first | exact HB.out | apply below_alloc | apply pw_below_drewN | apply below_drew1 | refine below_set ?_ GE267.out) | exact HB.out))) : w.heap.size ≤ gb268)); have n4_ := Aside0.mk ((by rw [hg]; exact (below_size (by repeat (first | (with_reducible first | exact HB.out | apply below_alloc | apply pw_below_drewN | apply below_drew1 | refine below_set ?_ GE267.out) | exact HB.out))) : w.heap.size ≤ gb268)); have n5_ := Aside0.mk ((by rw [hg]; exact Nat.ne_of_lt (blk_lt (g := gb267) (o := .cells #[.int .i64 a0_0, .int .i64 a0_1, .int .i64 a0_2, .int .i64 a0_3, .int .i64 a0_4, .int .i64 a0_5, .int .i64 a0_6, .int .i64 a0_7, .int .i64 a0_8, .int .i64 a0_9, .int .i64 a0_10, .slice a0_11.A a0_11.n a0_11.c] 32 (0, 0)) (by (with_reducible repeat first | apply blk_drewN | apply blk_drew | apply blk_alloc); exact BK267.out)) : gb267 ≠ gb268)); have n6_ := Aside0.mk ((by rw [hg]; exact Nat.ne_of_gt (blk_lt (g := gb267) (o := .cells #[.int .i64 a0_0, .int .i64 a0_1, .int .i64 a0_2, .int .i64 a0_3, .int .i64 a0_4, .int .i64 a0_5, .int .i64 a0_6, .int .i64 a0_7, .int .i64 a0_8, .int .i64 a0_9, .int .i64 a0_10, .slice a0_11.A a0_11.n a0_11.c] 32 (0, 0)) (by (with_reducible repeat first | apply blk_drewN | apply blk_drew | apply blk_alloc); exact BK267.out)) : gb268 ≠ gb267)); clear BK267; clear HB; have BK267 := n0_; have HB := n1_; have BK268 := n2_; have GW268 := n3_; have GE268 := n4_; have NB267_268 := n5_; have NB268_267 := n6_; clear n0_ n1_ n2_ n3_ n4_ n5_ n6_; clear hb hbox hg))
  have n0_ := Aside0.mk (blk_drew BK267.out)
  have n1_ := Aside0.mk (blk_drew BK268.out)
  have n2_ := Aside0.mk (below_drew1 HB.out)
  clear BK267
  clear BK268
  clear HB
  have BK267 := n0_
  have BK268 := n1_
  have HB := n2_
  clear n0_ n1_ n2_
  refine start_ (n := 19) (S := fun w' => w'.cell? ⟨gb267, 0, none⟩ = some (.int .i64 a0_0) ∧ w'.cell? ⟨gb267, 1, none⟩ = some (.int .i64 a0_1) ∧ w'.cell? ⟨gb267, 2, none⟩ = some (.int .i64 a0_2) ∧ w'.cell? ⟨gb267, 3, none⟩ = some (.int .i64 a0_3) ∧ w'.cell? ⟨gb267, 4, none⟩ = some (.int .i64 a0_4) ∧ w'.cell? ⟨gb267, 5, none⟩ = some (.int .i64 a0_5) ∧ w'.cell? ⟨gb267, 6, none⟩ = some (.int .i64 a0_6) ∧ w'.cell? ⟨gb267, 7, none⟩ = some (.int .i64 a0_7) ∧ w'.cell? ⟨gb267, 8, none⟩ = some (.int .i64 a0_8) ∧ w'.cell? ⟨gb267, 9, none⟩ = some (.int .i64 a0_9) ∧ w'.cell? ⟨gb267, 10, none⟩ = some (.int .i64 a0_10) ∧ w'.cell? ⟨gb267, 11, none⟩ = some (.slice a0_11.A a0_11.n a0_11.c) ∧ w'.cell? ⟨gb268, 0, none⟩ = some (.int .i64 a1_0) ∧ w'.cell? ⟨gb268, 1, none⟩ = some (.int .i64 a1_1) ∧ w'.cell? ⟨gb268, 2, none⟩ = some (.int .i64 a1_2) ∧ w'.cell? ⟨gb268, 3, none⟩ = some (.int .i64 a1_3) ∧ w'.cell? ⟨gb268, 4, none⟩ = some (.int .i64 a1_4) ∧ w'.cell? ⟨gb268, 5, none⟩ = some (.int .i64 a1_5) ∧ w'.cell? ⟨gb268, 6, none⟩ = some (.int .i64 a1_6) ∧ w'.cell? ⟨gb268, 7, none⟩ = some (.int .i64 a1_7) ∧ w'.cell? ⟨gb268, 8, none⟩ = some (.int .i64 a1_8) ∧ w'.cell? ⟨gb268, 9, none⟩ = some (.int .i64 a1_9) ∧ w'.cell? ⟨gb268, 10, none⟩ = some (.int .i64 a1_10) ∧ w'.cell? ⟨gb268, 11, none⟩ = some (.slice a1_11.A a1_11.n a1_11.c)) (ds := []) #[false, false, false, false, false, false, false, false, false, false, false, false, false, false, false, false, false, false, false] (by kernel_rfl) rfl rfl ⟨(blk_cell BK267.out 0).trans rfl, (blk_cell BK267.out 1).trans rfl, (blk_cell BK267.out 2).trans rfl, (blk_cell BK267.out 3).trans rfl, (blk_cell BK267.out 4).trans rfl, (blk_cell BK267.out 5).trans rfl, (blk_cell BK267.out 6).trans rfl, (blk_cell BK267.out 7).trans rfl, (blk_cell BK267.out 8).trans rfl, (blk_cell BK267.out 9).trans rfl, (blk_cell BK267.out 10).trans rfl, (blk_cell BK267.out 11).trans rfl, (blk_cell BK268.out 0).trans rfl, (blk_cell BK268.out 1).trans rfl, (blk_cell BK268.out 2).trans rfl, (blk_cell BK268.out 3).trans rfl, (blk_cell BK268.out 4).trans rfl, (blk_cell BK268.out 5).trans rfl, (blk_cell BK268.out 6).trans rfl, (blk_cell BK268.out 7).trans rfl, (blk_cell BK268.out 8).trans rfl, (blk_cell BK268.out 9).trans rfl, (blk_cell BK268.out 10).trans rfl, (blk_cell BK268.out 11).trans rfl⟩ (fun hHeld => ?_); refine with_tabW job_DueL.tab1 job_DueL.bits1 (fun HT_ HW_ => ?_)
  generalize w7.drew = w8 at BK267 BK268 HB hHeld ⊢
  refine pure_ (i := 0) (N := some 5) (v := ?_) (a' := ?_) #[true, false, false, false, false, false, false, false, false, false, false, false, false, false, false, false, false, false, false] rfl rfl (any_of HT_.out (by kernel_rfl)) (fun _ _ _ h => h) (Or.inl ⟨by rfl, ?_⟩) ?_ ?_
  rotate_left
  · intro w'
    go_simp
    with_reducible rfl
  rotate_left
  · simp only [Act.put, List.setIfInBounds_toArray, List.set_cons_zero, List.set_cons_succ, i64_w, i32_w]
    rfl
  refine pure_ (i := 2) (N := some 7) (v := ?_) (a' := ?_) #[true, false, true, false, false, false, false, false, false, false, false, false, false, false, false, false, false, false, false] rfl rfl (any_of HT_.out (by kernel_rfl)) (fun _ _ _ h => h) (Or.inl ⟨by rfl, ?_⟩) ?_ ?_
  rotate_left
  · intro w'
    go_simp
    with_reducible rfl
  rotate_left
  · simp only [Act.put, List.setIfInBounds_toArray, List.set_cons_zero, List.set_cons_succ, i64_w, i32_w]
    rfl
  refine pure_ (i := 5) (N := some 10) (v := ?_) (a' := ?_) #[true, false, true, false, false, true, false, false, false, false, false, false, false, false, false, false, false, false, false] rfl rfl (any_of HT_.out (by kernel_rfl)) (fun _ _ _ h => h) (Or.inl ⟨by rfl, ?_⟩) ?_ ?_
  rotate_left
  · intro w'
    go_simp
    with_reducible rfl
  rotate_left
  · simp only [Act.put, List.setIfInBounds_toArray, List.set_cons_zero, List.set_cons_succ, i64_w, i32_w]
    rfl
  refine pure_ (i := 7) (N := some 12) (v := ?_) (a' := ?_) #[true, false, true, false, false, true, false, true, false, false, false, false, false, false, false, false, false, false, false] rfl rfl (any_of HT_.out (by kernel_rfl)) (fun _ _ _ h => h) (Or.inl ⟨by rfl, ?_⟩) ?_ ?_
  rotate_left
  · intro w'
    go_simp
    with_reducible rfl
  rotate_left
  · simp only [Act.put, List.setIfInBounds_toArray, List.set_cons_zero, List.set_cons_succ, i64_w, i32_w]
    rfl
  refine pure_ (i := 11) (N := some 16) (v := ?_) (a' := ?_) #[true, false, true, false, false, true, false, true, false, false, false, true, false, false, false, false, false, false, false] rfl rfl (any_of HT_.out (by kernel_rfl)) (fun _ _ _ h => h) (Or.inl ⟨by rfl, ?_⟩) ?_ ?_
  rotate_left
  · intro w'
    go_simp
    with_reducible rfl
  rotate_left
  · simp only [Act.put, List.setIfInBounds_toArray, List.set_cons_zero, List.set_cons_succ, i64_w, i32_w]
    rfl
  refine pure_ (i := 13) (N := some 18) (v := ?_) (a' := ?_) #[true, false, true, false, false, true, false, true, false, false, false, true, false, true, false, false, false, false, false] rfl rfl (any_of HT_.out (by kernel_rfl)) (fun _ _ _ h => h) (Or.inl ⟨by rfl, ?_⟩) ?_ ?_
  rotate_left
  · intro w'
    go_simp
    with_reducible rfl
  rotate_left
  · simp only [Act.put, List.setIfInBounds_toArray, List.set_cons_zero, List.set_cons_succ, i64_w, i32_w]
    rfl
  refine take_ (i := 1) (N := some 6) (v := ?_) (a' := ?_) #[true, true, true, false, false, true, false, true, false, false, false, true, false, true, false, false, false, false, false] rfl rfl (take_ofW HT_.out HW_.out (by kernel_rfl)) (fun _ _ _ h => h) (Or.inl ⟨by rfl, ?_⟩) hHeld ?_ ?_
  rotate_left
  · rintro w' ⟨s0, s1, s2, s3, s4, s5, s6, s7, s8, s9, s10, s11, s12, s13, s14, s15, s16, s17, s18, s19, s20, s21, s22, s23⟩
    go_simp
    with_reducible rfl
  rotate_left
  · simp only [Act.put, List.setIfInBounds_toArray, List.set_cons_zero, List.set_cons_succ, i64_w, i32_w]
    rfl
  refine take_ (i := 3) (N := some 8) (v := ?_) (a' := ?_) #[true, true, true, true, false, true, false, true, false, false, false, true, false, true, false, false, false, false, false] rfl rfl (take_ofW HT_.out HW_.out (by kernel_rfl)) (fun _ _ _ h => h) (Or.inl ⟨by rfl, ?_⟩) hHeld ?_ ?_
  rotate_left
  · rintro w' ⟨s0, s1, s2, s3, s4, s5, s6, s7, s8, s9, s10, s11, s12, s13, s14, s15, s16, s17, s18, s19, s20, s21, s22, s23⟩
    go_simp
    with_reducible rfl
  rotate_left
  · simp only [Act.put, List.setIfInBounds_toArray, List.set_cons_zero, List.set_cons_succ, i64_w, i32_w]
    rfl
  refine pure_ (i := 4) (N := some 9) (v := ?_) (a' := ?_) #[true, true, true, true, true, true, false, true, false, false, false, true, false, true, false, false, false, false, false] rfl rfl (any_of HT_.out (by kernel_rfl)) (fun _ _ _ h => h) (Or.inl ⟨by rfl, ?_⟩) ?_ ?_
  rotate_left
  · intro w'
    go_simp
    with_reducible rfl
  rotate_left
  · simp only [Act.put, List.setIfInBounds_toArray, List.set_cons_zero, List.set_cons_succ, i64_w, i32_w]
    rfl
  refine take_ (i := 6) (N := some 11) (v := ?_) (a' := ?_) #[true, true, true, true, true, true, true, true, false, false, false, true, false, true, false, false, false, false, false] rfl rfl (take_ofW HT_.out HW_.out (by kernel_rfl)) (fun _ _ _ h => h) (Or.inl ⟨by rfl, ?_⟩) hHeld ?_ ?_
  rotate_left
  · rintro w' ⟨s0, s1, s2, s3, s4, s5, s6, s7, s8, s9, s10, s11, s12, s13, s14, s15, s16, s17, s18, s19, s20, s21, s22, s23⟩
    go_simp
    with_reducible rfl
  rotate_left
  · simp only [Act.put, List.setIfInBounds_toArray, List.set_cons_zero, List.set_cons_succ, i64_w, i32_w]
    rfl
  refine take_ (i := 8) (N := some 13) (v := ?_) (a' := ?_) #[true, true, true, true, true, true, true, true, true, false, false, true, false, true, false, false, false, false, false] rfl rfl (take_ofW HT_.out HW_.out (by kernel_rfl)) (fun _ _ _ h => h) (Or.inl ⟨by rfl, ?_⟩) hHeld ?_ ?_
  rotate_left
  · rintro w' ⟨s0, s1, s2, s3, s4, s5, s6, s7, s8, s9, s10, s11, s12, s13, s14, s15, s16, s17, s18, s19, s20, s21, s22, s23⟩
    go_simp
    with_reducible rfl
  rotate_left
  · simp only [Act.put, List.setIfInBounds_toArray, List.set_cons_zero, List.set_cons_succ, i64_w, i32_w]
    rfl
  refine pure_ (i := 9) (N := some 14) (v := ?_) (a' := ?_) #[true, true, true, true, true, true, true, true, true, true, false, true, false, true, false, false, false, false, false] rfl rfl (any_of HT_.out (by kernel_rfl)) (fun _ _ _ h => h) (Or.inl ⟨by rfl, ?_⟩) ?_ ?_
  rotate_left
  · intro w'
    go_simp
    with_reducible rfl
  rotate_left
  · simp only [Act.put, List.setIfInBounds_toArray, List.set_cons_zero, List.set_cons_succ, i64_w, i32_w]
    rfl
  refine take_ (i := 12) (N := some 17) (v := ?_) (a' := ?_) #[true, true, true, true, true, true, true, true, true, true, false, true, true, true, false, false, false, false, false] rfl rfl (take_ofW HT_.out HW_.out (by kernel_rfl)) (fun _ _ _ h => h) (Or.inl ⟨by rfl, ?_⟩) hHeld ?_ ?_
  rotate_left
  · rintro w' ⟨s0, s1, s2, s3, s4, s5, s6, s7, s8, s9, s10, s11, s12, s13, s14, s15, s16, s17, s18, s19, s20, s21, s22, s23⟩
    go_simp
    with_reducible rfl
  rotate_left
  · simp only [Act.put, List.setIfInBounds_toArray, List.set_cons_zero, List.set_cons_succ, i64_w, i32_w]
    rfl
  refine take_ (i := 14) (N := some 19) (v := ?_) (a' := ?_) #[true, true, true, true, true, true, true, true, true, true, false, true, true, true, true, false, false, false, false] rfl rfl (take_ofW HT_.out HW_.out (by kernel_rfl)) (fun _ _ _ h => h) (Or.inl ⟨by rfl, ?_⟩) hHeld ?_ ?_
  rotate_left
  · rintro w' ⟨s0, s1, s2, s3, s4, s5, s6, s7, s8, s9, s10, s11, s12, s13, s14, s15, s16, s17, s18, s19, s20, s21, s22, s23⟩
    go_simp
    with_reducible rfl
  rotate_left
  · simp only [Act.put, List.setIfInBounds_toArray, List.set_cons_zero, List.set_cons_succ, i64_w, i32_w]
    rfl
  refine one_ (i := 10) (N := some 15) #[true, true, true, true, true, true, true, true, true, true, true, true, true, true, true, false, false, false, false] rfl rfl (one_of HT_.out (by kernel_rfl)) (by decide) (fun K hK => ?_)
  refine goes_ Try.func36 (by kernel_rfl) rfl #[.int .i64 (wrap64 (a0_8 + a0_3)), .int .i64 (wrap64 (a1_8 + a1_3))] (by rfl) rfl rfl (by (try simp only [List.map_toArray, List.map_cons, List.map_nil]); first | done | rfl | (simp only [List.length_drop, List.length_take]; rfl)) ?_
  with_reducible refine (cmp_Compare_int.calls (wrap64 (a0_8 + a0_3)) (wrap64 (a1_8 + a1_3)) t269 _ A3.out).mono ?_
  rintro e w' ⟨rfl, ⟨nd, rfl⟩⟩
  refine ⟨_, rfl, ?_⟩
  refine hK.out _ _ ⟨(blk_cell BK267.out 0).trans rfl, (blk_cell BK267.out 1).trans rfl, (blk_cell BK267.out 2).trans rfl, (blk_cell BK267.out 3).trans rfl, (blk_cell BK267.out 4).trans rfl, (blk_cell BK267.out 5).trans rfl, (blk_cell BK267.out 6).trans rfl, (blk_cell BK267.out 7).trans rfl, (blk_cell BK267.out 8).trans rfl, (blk_cell BK267.out 9).trans rfl, (blk_cell BK267.out 10).trans rfl, (blk_cell BK267.out 11).trans rfl, (blk_cell BK268.out 0).trans rfl, (blk_cell BK268.out 1).trans rfl, (blk_cell BK268.out 2).trans rfl, (blk_cell BK268.out 3).trans rfl, (blk_cell BK268.out 4).trans rfl, (blk_cell BK268.out 5).trans rfl, (blk_cell BK268.out 6).trans rfl, (blk_cell BK268.out 7).trans rfl, (blk_cell BK268.out 8).trans rfl, (blk_cell BK268.out 9).trans rfl, (blk_cell BK268.out 10).trans rfl, (blk_cell BK268.out 11).trans rfl⟩ (fun hHeld => ?_)
  clear hK K
  refine norm_ (a' := ?_) ?_ ?_
  rotate_left
  · show Act.put _ (some 15) _ = _
    simp only [Act.put, List.setIfInBounds_toArray, List.set_cons_zero, List.set_cons_succ, i64_w, i32_w]
    rfl
  refine one_ (i := 15) (N := some 20) #[true, true, true, true, true, true, true, true, true, true, true, true, true, true, true, true, false, false, false] rfl rfl (one_of HT_.out (by kernel_rfl)) (by decide) (fun K hK => ?_)
  refine goes_ Try.func36 (by kernel_rfl) rfl #[.int .i64 a0_0, .int .i64 a1_0] (by rfl) rfl rfl (by (try simp only [List.map_toArray, List.map_cons, List.map_nil]); first | done | rfl | (simp only [List.length_drop, List.length_take]; rfl)) ?_
  with_reducible refine (cmp_Compare_int.calls a0_0 a1_0 t270 _ A4.out).mono ?_
  rintro e w' ⟨rfl, ⟨nd, rfl⟩⟩
  refine ⟨_, rfl, ?_⟩
  refine hK.out _ _ ⟨(blk_cell BK267.out 0).trans rfl, (blk_cell BK267.out 1).trans rfl, (blk_cell BK267.out 2).trans rfl, (blk_cell BK267.out 3).trans rfl, (blk_cell BK267.out 4).trans rfl, (blk_cell BK267.out 5).trans rfl, (blk_cell BK267.out 6).trans rfl, (blk_cell BK267.out 7).trans rfl, (blk_cell BK267.out 8).trans rfl, (blk_cell BK267.out 9).trans rfl, (blk_cell BK267.out 10).trans rfl, (blk_cell BK267.out 11).trans rfl, (blk_cell BK268.out 0).trans rfl, (blk_cell BK268.out 1).trans rfl, (blk_cell BK268.out 2).trans rfl, (blk_cell BK268.out 3).trans rfl, (blk_cell BK268.out 4).trans rfl, (blk_cell BK268.out 5).trans rfl, (blk_cell BK268.out 6).trans rfl, (blk_cell BK268.out 7).trans rfl, (blk_cell BK268.out 8).trans rfl, (blk_cell BK268.out 9).trans rfl, (blk_cell BK268.out 10).trans rfl, (blk_cell BK268.out 11).trans rfl⟩ (fun hHeld => ?_)
  clear hK K
  refine norm_ (a' := ?_) ?_ ?_
  rotate_left
  · show Act.put _ (some 20) _ = _
    simp only [Act.put, List.setIfInBounds_toArray, List.set_cons_zero, List.set_cons_succ, i64_w, i32_w]
    rfl
  refine one_ (i := 16) (N := some 21) #[true, true, true, true, true, true, true, true, true, true, true, true, true, true, true, true, true, false, false] rfl rfl (one_of HT_.out (by kernel_rfl)) (by decide) (fun K hK => ?_)
  refine Kd.R_lit_step (Kd.int .i64) _ 3 ?hg (N := 21) ?hd (xs := ([t269, t270] : List Int)) (inner := [.int .i64 t269, .int .i64 t270]) (ok := fun _ => True) (okp := fun _ => True) ?hr ?hp (fun _ hk => hk) trivial (Below.refl _ _) (Nat.le_refl _) (by simp) ?_; (case hd => rfl); (case hg => rfl); (case hr => first | (go_simp; done) | (go_simp; rfl)); (case hp => exact (Reps.one (show Kd.M (Kd.int .i64) _ _ _ t269 [.int .i64 t269] from rfl) (Reps.one (show Kd.M (Kd.int .i64) _ _ _ t270 [.int .i64 t270] from rfl) (Reps.none _ _))))
  intro v272 w9 ho10 hb hg_ hnew_
  clear hg_ hnew_
  (first | rw [← Ny271.out] at ho10 | (simp only [Int.reduceToNat] at ho10; rw [← Ny271.out] at ho10))
  have n0_ := Aside0.mk (Kd.R_lower ho10 (below_size (by repeat (first | (with_reducible first | exact HB.out | apply below_alloc | apply pw_below_drewN | apply below_drew1 | refine below_set ?_ GE267.out | refine below_set ?_ GE268.out) | exact HB.out))))
  have n1_ := Aside0.mk (blk_below (g := gb267) (o := .cells #[.int .i64 a0_0, .int .i64 a0_1, .int .i64 a0_2, .int .i64 a0_3, .int .i64 a0_4, .int .i64 a0_5, .int .i64 a0_6, .int .i64 a0_7, .int .i64 a0_8, .int .i64 a0_9, .int .i64 a0_10, .slice a0_11.A a0_11.n a0_11.c] 32 (0, 0)) (by (with_reducible repeat first | apply blk_drewN | apply blk_drew | apply blk_alloc); exact BK267.out) hb)
  have n2_ := Aside0.mk (blk_below (g := gb268) (o := .cells #[.int .i64 a1_0, .int .i64 a1_1, .int .i64 a1_2, .int .i64 a1_3, .int .i64 a1_4, .int .i64 a1_5, .int .i64 a1_6, .int .i64 a1_7, .int .i64 a1_8, .int .i64 a1_9, .int .i64 a1_10, .slice a1_11.A a1_11.n a1_11.c] 32 (0, 0)) (by (with_reducible repeat first | apply blk_drewN | apply blk_drew | apply blk_alloc); exact BK268.out) hb)
  have n3_ := Aside0.mk (below_step (by repeat (first | (with_reducible first | exact HB.out | apply below_alloc | apply pw_below_drewN | apply below_drew1 | refine below_set ?_ GE267.out | refine below_set ?_ GE268.out) | exact HB.out)) hb)
  clear BK267
  clear BK268
  clear HB
  have HO273 := n0_
  have BK267 := n1_
  have BK268 := n2_
  have HB := n3_
  clear n0_ n1_ n2_ n3_
  clear hb ho10
  obtain ⟨Ao11, co11, eo11⟩ := Kd.R_slice HO273.out
  (first | subst eo11 | (injection eo11 with f1_ f2_ f3_; have f4_ := f1_.symm; have f5_ := f3_.symm; clear f1_ f2_ f3_; subst f4_; subst f5_))
  refine hK.out _ _ ⟨(blk_cell BK267.out 0).trans rfl, (blk_cell BK267.out 1).trans rfl, (blk_cell BK267.out 2).trans rfl, (blk_cell BK267.out 3).trans rfl, (blk_cell BK267.out 4).trans rfl, (blk_cell BK267.out 5).trans rfl, (blk_cell BK267.out 6).trans rfl, (blk_cell BK267.out 7).trans rfl, (blk_cell BK267.out 8).trans rfl, (blk_cell BK267.out 9).trans rfl, (blk_cell BK267.out 10).trans rfl, (blk_cell BK267.out 11).trans rfl, (blk_cell BK268.out 0).trans rfl, (blk_cell BK268.out 1).trans rfl, (blk_cell BK268.out 2).trans rfl, (blk_cell BK268.out 3).trans rfl, (blk_cell BK268.out 4).trans rfl, (blk_cell BK268.out 5).trans rfl, (blk_cell BK268.out 6).trans rfl, (blk_cell BK268.out 7).trans rfl, (blk_cell BK268.out 8).trans rfl, (blk_cell BK268.out 9).trans rfl, (blk_cell BK268.out 10).trans rfl, (blk_cell BK268.out 11).trans rfl⟩ (fun hHeld => ?_)
  clear hK K
  refine norm_ (a' := ?_) ?_ ?_
  rotate_left
  · show Act.put _ (some 21) _ = _
    simp only [Act.put, List.setIfInBounds_toArray, List.set_cons_zero, List.set_cons_succ, i64_w, i32_w]
    rfl
  refine one_ (i := 17) (N := some 22) #[true, true, true, true, true, true, true, true, true, true, true, true, true, true, true, true, true, true, false] rfl rfl (one_of HT_.out (by kernel_rfl)) (by decide) (fun K hK => ?_)
  refine goes_ Try.func35 (by kernel_rfl) rfl #[.slice Ao11 y271.length co11] (by rfl) rfl rfl (by (try simp only [List.map_toArray, List.map_cons, List.map_nil]); first | done | rfl | (simp only [List.length_drop, List.length_take]; rfl)) ?_
  with_reducible refine (cmp_Or_int.calls k _ _ y271 t274 _ ?side1 ?side2 A5.out).mono ?_
  (case side1 => repeat (first | exact (Kd.R_reads' HO273.out).2.2 | (with_reducible refine Kd.C_alloc ?_ _) | (with_reducible refine Kd.C_drewN ?_ _) | (with_reducible refine Kd.C_drew ?_)))
  (case side2 => exact (Kd.R_reads' HO273.out).2.1)
  rintro e w' ⟨rfl, ⟨nd, rfl⟩⟩
  refine ⟨_, rfl, ?_⟩
  refine hK.out _ _ ⟨(blk_cell BK267.out 0).trans rfl, (blk_cell BK267.out 1).trans rfl, (blk_cell BK267.out 2).trans rfl, (blk_cell BK267.out 3).trans rfl, (blk_cell BK267.out 4).trans rfl, (blk_cell BK267.out 5).trans rfl, (blk_cell BK267.out 6).trans rfl, (blk_cell BK267.out 7).trans rfl, (blk_cell BK267.out 8).trans rfl, (blk_cell BK267.out 9).trans rfl, (blk_cell BK267.out 10).trans rfl, (blk_cell BK267.out 11).trans rfl, (blk_cell BK268.out 0).trans rfl, (blk_cell BK268.out 1).trans rfl, (blk_cell BK268.out 2).trans rfl, (blk_cell BK268.out 3).trans rfl, (blk_cell BK268.out 4).trans rfl, (blk_cell BK268.out 5).trans rfl, (blk_cell BK268.out 6).trans rfl, (blk_cell BK268.out 7).trans rfl, (blk_cell BK268.out 8).trans rfl, (blk_cell BK268.out 9).trans rfl, (blk_cell BK268.out 10).trans rfl, (blk_cell BK268.out 11).trans rfl⟩ (fun hHeld => ?_)
  clear hK K
  refine norm_ (a' := ?_) ?_ ?_
  rotate_left
  · show Act.put _ (some 22) _ = _
    simp only [Act.put, List.setIfInBounds_toArray, List.set_cons_zero, List.set_cons_succ, i64_w, i32_w]
    rfl
  refine pure_ (i := 18) (N := some 4) (v := ?_) (a' := ?_) #[true, true, true, true, true, true, true, true, true, true, true, true, true, true, true, true, true, true, true] rfl rfl (any_of HT_.out (by kernel_rfl)) (fun _ _ _ h => h) (Or.inl ⟨by rfl, ?_⟩) ?_ ?_
  rotate_left
  · intro w'
    go_simp
    with_reducible rfl
  rotate_left
  · simp only [Act.put, List.setIfInBounds_toArray, List.set_cons_zero, List.set_cons_succ, i64_w, i32_w]
    rfl
  refine done_ (done_of HT_.out (by kernel_rfl)) ?_
  try go_wp2
  go_ret
  exact ⟨by first | rfl | (simp [errW_none, errW_some] <;> rfl) | (simp [*, errW_none, errW_some] <;> rfl), by repeat (first | (with_reducible first | exact HB.out | apply below_alloc | apply pw_below_drewN | apply below_drew1 | refine below_set ?_ GE267.out | refine below_set ?_ GE268.out) | exact HB.out)⟩

def job_Due_1.f (a0_0 : Int) (a0_1 : Int) (a0_2 : Int) (a0_3 : Int) (a0_4 : Int) (a0_5 : Int) (a0_6 : Int) (a0_7 : Int) (a0_8 : Int) (a0_9 : Int) (a0_10 : Int) (a0_11 : SH) (a1_0 : Int) (a1_1 : Int) (a1_2 : Int) (a1_3 : Int) (a1_4 : Int) (a1_5 : Int) (a1_6 : Int) (a1_7 : Int) (a1_8 : Int) (a1_9 : Int) (a1_10 : Int) (a1_11 : SH) : Option (Int) := job_DueL.f 10 a0_0 a0_1 a0_2 a0_3 a0_4 a0_5 a0_6 a0_7 a0_8 a0_9 a0_10 a0_11 a1_0 a1_1 a1_2 a1_3 a1_4 a1_5 a1_6 a1_7 a1_8 a1_9 a1_10 a1_11
theorem job_Due_1.calls (a0_0 : Int) (a0_1 : Int) (a0_2 : Int) (a0_3 : Int) (a0_4 : Int) (a0_5 : Int) (a0_6 : Int) (a0_7 : Int) (a0_8 : Int) (a0_9 : Int) (a0_10 : Int) (a0_11 : SH) (a1_0 : Int) (a1_1 : Int) (a1_2 : Int) (a1_3 : Int) (a1_4 : Int) (a1_5 : Int) (a1_6 : Int) (a1_7 : Int) (a1_8 : Int) (a1_9 : Int) (a1_10 : Int) (a1_11 : SH) (r : Int) (w : World) (h : job_Due_1.f a0_0 a0_1 a0_2 a0_3 a0_4 a0_5 a0_6 a0_7 a0_8 a0_9 a0_10 a0_11 a1_0 a1_1 a1_2 a1_3 a1_4 a1_5 a1_6 a1_7 a1_8 a1_9 a1_10 a1_11 = some r) :
    Calls Try.prog 47 #[.agg #[.int .i64 a0_0, .int .i64 a0_1, .int .i64 a0_2, .int .i64 a0_3, .int .i64 a0_4, .int .i64 a0_5, .int .i64 a0_6, .int .i64 a0_7, .int .i64 a0_8, .int .i64 a0_9, .int .i64 a0_10, .slice a0_11.A a0_11.n a0_11.c], .agg #[.int .i64 a1_0, .int .i64 a1_1, .int .i64 a1_2, .int .i64 a1_3, .int .i64 a1_4, .int .i64 a1_5, .int .i64 a1_6, .int .i64 a1_7, .int .i64 a1_8, .int .i64 a1_9, .int .i64 a1_10, .slice a1_11.A a1_11.n a1_11.c]] w fun e w' => e = .returned (.int .i64 r) ∧ Below w.heap.size w w' := job_DueL.calls 10 a0_0 a0_1 a0_2 a0_3 a0_4 a0_5 a0_6 a0_7 a0_8 a0_9 a0_10 a0_11 a1_0 a1_1 a1_2 a1_3 a1_4 a1_5 a1_6 a1_7 a1_8 a1_9 a1_10 a1_11 r w h
end Go.Proofs.Ytkhfgflcanmefaa.PAll
end
section
namespace Go.Proofs.Ytkhfgflcanmefaa.PAll
open Go.RowKit Go.Proofs.YtkhfgflcanmefaaW.PrintWords Go.Proofs.YtkhfgflcanmefaaW.PrintLast Go.Proofs.YtkhfgflcanmefaaW.PrintMore
attribute [local go_sem] max2_int min2_int max_two min_two max_three min_three max_four min_four   -- for this text's walks alone
set_option linter.unusedVariables false
set_option linter.unusedSimpArgs false

mutual
def slices_insertionSortCmpFunc_Job__job_Due_1.l0 : Nat → List (S32) → Int → Int → Int → Option ((List (S32)))
 | 0, _, _, _, _ => none
 | k + 1, x0, x1, x2, x8 => if x8 < x2 then (slices_insertionSortCmpFunc_Job__job_Due_1.l1 k x0 x1 x2 x8 x8) else (some x0)
def slices_insertionSortCmpFunc_Job__job_Due_1.l1 : Nat → List (S32) → Int → Int → Int → Int → Option ((List (S32)))
 | 0, _, _, _, _, _ => none
 | k + 1, x0, x1, x2, x8, x9 => if x9 > x1 then (if 0 ≤ x9 then (if x9 < (x0.length : Int) then (if 0 ≤ (wrap64 (x9 - 1)) then (if (wrap64 (x9 - 1)) < (x0.length : Int) then ((job_Due_1.f ((rd_T32 x0 x9).f0) ((rd_T32 x0 x9).f1) ((rd_T32 x0 x9).f2) ((rd_T32 x0 x9).f3) ((rd_T32 x0 x9).f4) ((rd_T32 x0 x9).f5) ((rd_T32 x0 x9).f6) ((rd_T32 x0 x9).f7) ((rd_T32 x0 x9).f8) ((rd_T32 x0 x9).f9) ((rd_T32 x0 x9).f10) ((rd_T32 x0 x9).f11) ((rd_T32 x0 (wrap64 (x9 - 1))).f0) ((rd_T32 x0 (wrap64 (x9 - 1))).f1) ((rd_T32 x0 (wrap64 (x9 - 1))).f2) ((rd_T32 x0 (wrap64 (x9 - 1))).f3) ((rd_T32 x0 (wrap64 (x9 - 1))).f4) ((rd_T32 x0 (wrap64 (x9 - 1))).f5) ((rd_T32 x0 (wrap64 (x9 - 1))).f6) ((rd_T32 x0 (wrap64 (x9 - 1))).f7) ((rd_T32 x0 (wrap64 (x9 - 1))).f8) ((rd_T32 x0 (wrap64 (x9 - 1))).f9) ((rd_T32 x0 (wrap64 (x9 - 1))).f10) ((rd_T32 x0 (wrap64 (x9 - 1))).f11)).bind fun t269 => (if t269 < 0 then (slices_insertionSortCmpFunc_Job__job_Due_1.l1 k ((x0.set (x9 : Int).toNat (⟨(rd_T32 x0 (wrap64 (x9 - 1))).f0, (rd_T32 x0 (wrap64 (x9 - 1))).f1, (rd_T32 x0 (wrap64 (x9 - 1))).f2, (rd_T32 x0 (wrap64 (x9 - 1))).f3, (rd_T32 x0 (wrap64 (x9 - 1))).f4, (rd_T32 x0 (wrap64 (x9 - 1))).f5, (rd_T32 x0 (wrap64 (x9 - 1))).f6, (rd_T32 x0 (wrap64 (x9 - 1))).f7, (rd_T32 x0 (wrap64 (x9 - 1))).f8, (rd_T32 x0 (wrap64 (x9 - 1))).f9, (rd_T32 x0 (wrap64 (x9 - 1))).f10, (rd_T32 x0 (wrap64 (x9 - 1))).f11⟩ : S32)).set ((wrap64 (x9 - 1)) : Int).toNat (⟨(rd_T32 x0 x9).f0, (rd_T32 x0 x9).f1, (rd_T32 x0 x9).f2, (rd_T32 x0 x9).f3, (rd_T32 x0 x9).f4, (rd_T32 x0 x9).f5, (rd_T32 x0 x9).f6, (rd_T32 x0 x9).f7, (rd_T32 x0 x9).f8, (rd_T32 x0 x9).f9, (rd_T32 x0 x9).f10, (rd_T32 x0 x9).f11⟩ : S32)) x1 x2 x8 (wrap64 (x9 - 1))) else (slices_insertionSortCmpFunc_Job__job_Due_1.l0 k x0 x1 x2 (wrap64 (x8 + 1))))) else (none)) else (none)) else (none)) else (none)) else (slices_insertionSortCmpFunc_Job__job_Due_1.l0 k x0 x1 x2 (wrap64 (x8 + 1)))
end
def slices_insertionSortCmpFunc_Job__job_Due_1.f (k : Nat) (l0 : List (S32)) (a1 : Int) (a2 : Int)  : Option ((List (S32))) := slices_insertionSortCmpFunc_Job__job_Due_1.l0 k l0 a1 a2 (wrap64 (a1 + 1))
theorem slices_insertionSortCmpFunc_Job__job_Due_1.mono_l : ∀ k, (∀ y0 y1 y2 y3, LeO (slices_insertionSortCmpFunc_Job__job_Due_1.l0 k y0 y1 y2 y3) (slices_insertionSortCmpFunc_Job__job_Due_1.l0 (k + 1) y0 y1 y2 y3)) ∧ (∀ y0 y1 y2 y3 y4, LeO (slices_insertionSortCmpFunc_Job__job_Due_1.l1 k y0 y1 y2 y3 y4) (slices_insertionSortCmpFunc_Job__job_Due_1.l1 (k + 1) y0 y1 y2 y3 y4))
 | 0 => ⟨fun _ _ _ _ r h => by simp [slices_insertionSortCmpFunc_Job__job_Due_1.l0] at h, fun _ _ _ _ _ r h => by simp [slices_insertionSortCmpFunc_Job__job_Due_1.l1] at h⟩
 | k + 1 => by
  obtain ⟨ih0, ih1⟩ := slices_insertionSortCmpFunc_Job__job_Due_1.mono_l k
  refine ⟨?_, ?_⟩
  ·intro y0 y1 y2 y3
   unfold slices_insertionSortCmpFunc_Job__job_Due_1.l0
   repeat' first
   | (with_reducible exact ih0 _ _ _ _)
   | (with_reducible exact ih1 _ _ _ _ _)
   | (with_reducible exact LeO.refl _)
   | (with_reducible exact LeO.none _)
   | (with_reducible refine LeO.ite ?_ ?_)
   | (with_reducible refine LeO.bind ?_ (fun _ => ?_))
   | exact ih0 _ _ _ _
   | exact ih1 _ _ _ _ _
   | exact LeO.none _
   | refine LeO.ite ?_ ?_
   | refine LeO.bind ?_ (fun _ => ?_)
  ·intro y0 y1 y2 y3 y4
   unfold slices_insertionSortCmpFunc_Job__job_Due_1.l1
   repeat' first
   | (with_reducible exact ih0 _ _ _ _)
   | (with_reducible exact ih1 _ _ _ _ _)
   | (with_reducible exact LeO.refl _)
   | (with_reducible exact LeO.none _)
   | (with_reducible refine LeO.ite ?_ ?_)
   | (with_reducible refine LeO.bind ?_ (fun _ => ?_))
   | exact ih0 _ _ _ _
   | exact ih1 _ _ _ _ _
   | exact LeO.none _
   | refine LeO.ite ?_ ?_
   | refine LeO.bind ?_ (fun _ => ?_)
theorem slices_insertionSortCmpFunc_Job__job_Due_1.mono : ∀ a0 a1 a2 k, LeO (slices_insertionSortCmpFunc_Job__job_Due_1.f k a0 a1 a2) (slices_insertionSortCmpFunc_Job__job_Due_1.f (k + 1) a0 a1 a2) := by
 intro a0 a1 a2 k
 obtain ⟨ih0, ih1⟩ := slices_insertionSortCmpFunc_Job__job_Due_1.mono_l k
 unfold slices_insertionSortCmpFunc_Job__job_Due_1.f
 repeat' first
   | (with_reducible exact ih0 _ _ _ _)
   | (with_reducible exact ih1 _ _ _ _ _)
   | (with_reducible exact LeO.refl _)
   | (with_reducible exact LeO.none _)
   | (with_reducible refine LeO.ite ?_ ?_)
   | (with_reducible refine LeO.bind ?_ (fun _ => ?_))
   | exact ih0 _ _ _ _
   | exact ih1 _ _ _ _ _
   | exact LeO.none _
   | refine LeO.ite ?_ ?_
   | refine LeO.bind ?_ (fun _ => ?_)
def slices_insertionSortCmpFunc_Job__job_Due_1.T4 : Bool × List (List Nat × List Nat) := (true, [([], []), ([], []), ([0, 1], [0, 1]), ([2], [2]), ([3], [3]), ([3], [3]), ([3], [3]), ([5, 6, 3], [3, 5, 6]), ([7, 3], [3, 7]), ([3], [3]), ([3], [3]), ([10, 3], [3, 10]), ([9, 11, 3], [3, 9, 11]), ([12, 3], [3, 12]), ([4, 8, 13, 3, 3], [3, 4, 8, 13]), ([14, 3], [3, 14]), ([3, 15], [3, 15])])
def slices_insertionSortCmpFunc_Job__job_Due_1.B4 : List Nat := [0, 0, 3, 7, 15, 15, 15, 111, 239, 15, 15, 1039, 3599, 7695, 16383, 32767, 65535]
theorem slices_insertionSortCmpFunc_Job__job_Due_1.tab4 : rtab .any (opsOf Try.f67 4) = slices_insertionSortCmpFunc_Job__job_Due_1.T4 := by kernel_rfl
theorem slices_insertionSortCmpFunc_Job__job_Due_1.bits4 : waitsOk slices_insertionSortCmpFunc_Job__job_Due_1.T4.2 slices_insertionSortCmpFunc_Job__job_Due_1.B4 = true := by kernel_rfl
def slices_insertionSortCmpFunc_Job__job_Due_1.T6 : Bool × List (List Nat × List Nat) := (true, [([], []), ([], []), ([], []), ([], []), ([3], [3]), ([], []), ([], []), ([6], [6]), ([5, 7], [5, 7]), ([8], [8]), ([], []), ([], []), ([10, 11], [10, 11]), ([12], [12]), ([0, 1, 0, 1, 5, 6, 7, 8, 9, 13], [0, 1]), ([14, 9, 0, 1, 5, 6, 7, 8, 9, 13], [9, 14]), ([2, 4, 0, 1, 2, 3, 4, 5, 6, 7, 8, 9, 10, 11, 12, 13, 14, 15], [2, 4]), ([16, 13, 15, 0, 1, 2, 3, 4, 5, 6, 7, 8, 9, 10, 11, 12, 13, 14, 15], [13, 16])])
def slices_insertionSortCmpFunc_Job__job_Due_1.B6 : List Nat := [0, 0, 0, 0, 8, 0, 0, 64, 224, 480, 0, 0, 3072, 7168, 16355, 32739, 65535, 131071]
theorem slices_insertionSortCmpFunc_Job__job_Due_1.tab6 : rtab .any (opsOf Try.f67 6) = slices_insertionSortCmpFunc_Job__job_Due_1.T6 := by kernel_rfl
theorem slices_insertionSortCmpFunc_Job__job_Due_1.bits6 : waitsOk slices_insertionSortCmpFunc_Job__job_Due_1.T6.2 slices_insertionSortCmpFunc_Job__job_Due_1.B6 = true := by kernel_rfl
set_option maxHeartbeats 8000000 in
set_option maxRecDepth 100000 in
theorem slices_insertionSortCmpFunc_Job__job_Due_1.calls (k : Nat) (P0_ : Nat → Prop) (u9000_ : Value) (l0 : List (S32)) (a1 : Int) (a2 : Int)  (r : List (S32)) (w0 w : World) (hB : Below w0.heap.size w0 w) (ho0 : Kd.R k32 32 w w0.heap.size P0_ u9000_ l0) (h : slices_insertionSortCmpFunc_Job__job_Due_1.f k l0 a1 a2 = some r) :
  Calls Try.prog 67 #[u9000_, .int .i64 a1, .int .i64 a2, .func (.func 47) #[] #[]] w fun e w' => e = .returned (.tuple #[]) ∧ Kd.R k32 32 w' w0.heap.size (fun k_ => (P0_ k_ ∨ w.heap.size ≤ k_)) u9000_ r ∧ Below w0.heap.size w0 w' ∧ Kept w w' (fun k_ => P0_ k_) := by
 have hu32 := Try.underlying32
 have HO0 := Aside0.mk (show Kd.R k32 32 w w0.heap.size (fun k_ => (P0_ k_ ∨ w.heap.size ≤ k_)) u9000_ l0 from Kd.R_mono ho0 (fun k_ hk => (.inl hk)))
 have HK := Aside0.mk (Kept.refl w (fun k_ => P0_ k_))
 have HW0 := Aside0.mk hB.size
 have HB := Aside0.mk hB
 clear hB
 have H : (slices_insertionSortCmpFunc_Job__job_Due_1.l0 k l0 a1 a2 (wrap64 (a1 + 1))) = some r := h
 clear h
 have H' := Aside0.mk H
 clear H
 go_enter Try.func67, Try.ntmps67
 go_wp2
 go_loopg [8] k (fun kq v8 w' => ∃ (x0_1 : List (S32)) (x8_1 : Int), v8 = .int .i64 x8_1 ∧ Aside0 (slices_insertionSortCmpFunc_Job__job_Due_1.l0 kq x0_1 a1 a2 x8_1 = some r) ∧ Aside0 (kq ≤ k) ∧ Aside0 (Kd.R k32 32 w' w0.heap.size (fun k_ => (P0_ k_ ∨ w.heap.size ≤ k_)) u9000_ x0_1) ∧ Aside0 (Kept w w' (fun k_ => P0_ k_)) ∧ Aside0 (Below w0.heap.size w0 w'))
 case atStart => exact ⟨(l0), (wrap64 (a1 + 1)), ez, H', ⟨Nat.le_refl _⟩, ⟨mR HO0.out⟩, ⟨mK HK.out⟩, ⟨mB HB.out⟩⟩
 case round =>
  clear H'
  (try clear p2)
  obtain ⟨x0_1, x8_1, rfl, HA, HK1, HO_0, HK, HB⟩ := hrel
  cases gk with
  | zero => exact absurd HA.out (by simp [slices_insertionSortCmpFunc_Job__job_Due_1.l0])
  | succ k1 =>
   have H := HA.out
   clear HA
   simp only [slices_insertionSortCmpFunc_Job__job_Due_1.l0] at H
   by_cases c5 : x8_1 < a2
   ·rw [if_pos c5] at H
    have c5b0 : decide (x8_1 < a2) = true := decide_eq_true c5
    clear c5
    have H' := Aside0.mk H
    clear H
    go_wp2
    go_loopg [9] k1 (fun kq v9 w' => ∃ (x0_2 : List (S32)) (x9_2 : Int), v9 = .int .i64 x9_2 ∧ Aside0 (slices_insertionSortCmpFunc_Job__job_Due_1.l1 kq x0_2 a1 a2 x8_1 x9_2 = some r) ∧ Aside0 (kq ≤ k1) ∧ Aside0 (Kd.R k32 32 w' w0.heap.size (fun k_ => (P0_ k_ ∨ w.heap.size ≤ k_)) u9000_ x0_2) ∧ Aside0 (Kept w w' (fun k_ => P0_ k_)) ∧ Aside0 (Below w0.heap.size w0 w'))
    case atStart => exact ⟨(x0_1), (x8_1), ez, H', ⟨Nat.le_refl _⟩, ⟨mR HO_0.out⟩, ⟨mK HK.out⟩, ⟨mB HB.out⟩⟩
    case round =>
     clear H'
     (try clear p2); (try clear c5); (try clear c5b0); (try clear p2)
     obtain ⟨x0_2, x9_2, rfl, HA, HK2, HO_0, HK, HB⟩ := hrel
     cases gk with
     | zero => exact absurd HA.out (by simp [slices_insertionSortCmpFunc_Job__job_Due_1.l1])
     | succ k2 =>
      have H := HA.out
      clear HA
      simp only [slices_insertionSortCmpFunc_Job__job_Due_1.l1] at H
      by_cases c6 : x9_2 > a1
      ·rw [if_pos c6] at H
       have c6b0 : decide (a1 < x9_2) = true := decide_eq_true c6
       clear c6
       by_cases c7 : 0 ≤ x9_2
       ·rw [if_pos c7] at H
        have c7b0 : decide (0 ≤ x9_2) = true := decide_eq_true c7
        clear c7
        by_cases c8 : x9_2 < (x0_2.length : Int)
        ·rw [if_pos c8] at H
         have c8b0 : decide (x9_2 < (x0_2.length : Int)) = true := decide_eq_true c8
         clear c8
         obtain ⟨ji9, hji9⟩ : ∃ j_ : Int, (wrap64 (x9_2 - 1)) = j_ := ⟨_, rfl⟩
         replace H : (if 0 ≤ (ji9) then (if (ji9) < (x0_2.length : Int) then ((job_Due_1.f ((rd_T32 x0_2 x9_2).f0) ((rd_T32 x0_2 x9_2).f1) ((rd_T32 x0_2 x9_2).f2) ((rd_T32 x0_2 x9_2).f3) ((rd_T32 x0_2 x9_2).f4) ((rd_T32 x0_2 x9_2).f5) ((rd_T32 x0_2 x9_2).f6) ((rd_T32 x0_2 x9_2).f7) ((rd_T32 x0_2 x9_2).f8) ((rd_T32 x0_2 x9_2).f9) ((rd_T32 x0_2 x9_2).f10) ((rd_T32 x0_2 x9_2).f11) ((rd_T32 x0_2 (ji9)).f0) ((rd_T32 x0_2 (ji9)).f1) ((rd_T32 x0_2 (ji9)).f2) ((rd_T32 x0_2 (ji9)).f3) ((rd_T32 x0_2 (ji9)).f4) ((rd_T32 x0_2 (ji9)).f5) ((rd_T32 x0_2 (ji9)).f6) ((rd_T32 x0_2 (ji9)).f7) ((rd_T32 x0_2 (ji9)).f8) ((rd_T32 x0_2 (ji9)).f9) ((rd_T32 x0_2 (ji9)).f10) ((rd_T32 x0_2 (ji9)).f11)).bind fun t269 => (if t269 < 0 then (slices_insertionSortCmpFunc_Job__job_Due_1.l1 k2 ((x0_2.set (x9_2 : Int).toNat (⟨(rd_T32 x0_2 (ji9)).f0, (rd_T32 x0_2 (ji9)).f1, (rd_T32 x0_2 (ji9)).f2, (rd_T32 x0_2 (ji9)).f3, (rd_T32 x0_2 (ji9)).f4, (rd_T32 x0_2 (ji9)).f5, (rd_T32 x0_2 (ji9)).f6, (rd_T32 x0_2 (ji9)).f7, (rd_T32 x0_2 (ji9)).f8, (rd_T32 x0_2 (ji9)).f9, (rd_T32 x0_2 (ji9)).f10, (rd_T32 x0_2 (ji9)).f11⟩ : S32)).set ((ji9) : Int).toNat (⟨(rd_T32 x0_2 x9_2).f0, (rd_T32 x0_2 x9_2).f1, (rd_T32 x0_2 x9_2).f2, (rd_T32 x0_2 x9_2).f3, (rd_T32 x0_2 x9_2).f4, (rd_T32 x0_2 x9_2).f5, (rd_T32 x0_2 x9_2).f6, (rd_T32 x0_2 x9_2).f7, (rd_T32 x0_2 x9_2).f8, (rd_T32 x0_2 x9_2).f9, (rd_T32 x0_2 x9_2).f10, (rd_T32 x0_2 x9_2).f11⟩ : S32)) a1 a2 x8_1 ji9) else (slices_insertionSortCmpFunc_Job__job_Due_1.l0 k2 x0_2 a1 a2 (wrap64 (x8_1 + 1))))) else (none)) else (none)) = some r := by first | (rw [hji9] at H; exact H) | (simp only [hji9] at H ⊢; exact H)
         have hji9w : (IntKind.i64.wrap (x9_2 - 1)) = ji9 := (i64_w _).trans hji9
         by_cases c10 : 0 ≤ (ji9)
         ·rw [if_pos c10] at H
          have c10b0 : decide (0 ≤ (ji9)) = true := decide_eq_true c10
          clear c10
          by_cases c11 : (ji9) < (x0_2.length : Int)
          ·rw [if_pos c11] at H
           have c11b0 : decide ((ji9) < (x0_2.length : Int)) = true := decide_eq_true c11
           clear c11
           replace H := Option.bind_eq_some_iff.mp H
           obtain ⟨t269, A120, H⟩ := H
           replace H : (if t269 < 0 then (slices_insertionSortCmpFunc_Job__job_Due_1.l1 k2 ((x0_2.set (x9_2 : Int).toNat (⟨(rd_T32 x0_2 (ji9)).f0, (rd_T32 x0_2 (ji9)).f1, (rd_T32 x0_2 (ji9)).f2, (rd_T32 x0_2 (ji9)).f3, (rd_T32 x0_2 (ji9)).f4, (rd_T32 x0_2 (ji9)).f5, (rd_T32 x0_2 (ji9)).f6, (rd_T32 x0_2 (ji9)).f7, (rd_T32 x0_2 (ji9)).f8, (rd_T32 x0_2 (ji9)).f9, (rd_T32 x0_2 (ji9)).f10, (rd_T32 x0_2 (ji9)).f11⟩ : S32)).set ((ji9) : Int).toNat (⟨(rd_T32 x0_2 x9_2).f0, (rd_T32 x0_2 x9_2).f1, (rd_T32 x0_2 x9_2).f2, (rd_T32 x0_2 x9_2).f3, (rd_T32 x0_2 x9_2).f4, (rd_T32 x0_2 x9_2).f5, (rd_T32 x0_2 x9_2).f6, (rd_T32 x0_2 x9_2).f7, (rd_T32 x0_2 x9_2).f8, (rd_T32 x0_2 x9_2).f9, (rd_T32 x0_2 x9_2).f10, (rd_T32 x0_2 x9_2).f11⟩ : S32)) a1 a2 x8_1 ji9) else (slices_insertionSortCmpFunc_Job__job_Due_1.l0 k2 x0_2 a1 a2 (wrap64 (x8_1 + 1)))) = some r := H
           have A12 := Aside0.mk A120
           clear A120
           by_cases c13 : t269 < 0
           ·rw [if_pos c13] at H
            have c13b0 : decide (t269 < 0) = true := decide_eq_true c13
            clear c13
            obtain ⟨y272, hy272⟩ : ∃ y_ : List (S32), y_ = (x0_2.set (x9_2 : Int).toNat (⟨(rd_T32 x0_2 (ji9)).f0, (rd_T32 x0_2 (ji9)).f1, (rd_T32 x0_2 (ji9)).f2, (rd_T32 x0_2 (ji9)).f3, (rd_T32 x0_2 (ji9)).f4, (rd_T32 x0_2 (ji9)).f5, (rd_T32 x0_2 (ji9)).f6, (rd_T32 x0_2 (ji9)).f7, (rd_T32 x0_2 (ji9)).f8, (rd_T32 x0_2 (ji9)).f9, (rd_T32 x0_2 (ji9)).f10, (rd_T32 x0_2 (ji9)).f11⟩ : S32)) := ⟨_, rfl⟩
            replace H : (slices_insertionSortCmpFunc_Job__job_Due_1.l1 k2 (y272.set ((ji9) : Int).toNat (⟨(rd_T32 x0_2 x9_2).f0, (rd_T32 x0_2 x9_2).f1, (rd_T32 x0_2 x9_2).f2, (rd_T32 x0_2 x9_2).f3, (rd_T32 x0_2 x9_2).f4, (rd_T32 x0_2 x9_2).f5, (rd_T32 x0_2 x9_2).f6, (rd_T32 x0_2 x9_2).f7, (rd_T32 x0_2 x9_2).f8, (rd_T32 x0_2 x9_2).f9, (rd_T32 x0_2 x9_2).f10, (rd_T32 x0_2 x9_2).f11⟩ : S32)) a1 a2 x8_1 ji9) = some r := mH hy272 H
            have Ny272 := Aside0.mk hy272
            clear hy272
            obtain ⟨y273, hy273⟩ : ∃ y_ : List (S32), y_ = (y272.set ((ji9) : Int).toNat (⟨(rd_T32 x0_2 x9_2).f0, (rd_T32 x0_2 x9_2).f1, (rd_T32 x0_2 x9_2).f2, (rd_T32 x0_2 x9_2).f3, (rd_T32 x0_2 x9_2).f4, (rd_T32 x0_2 x9_2).f5, (rd_T32 x0_2 x9_2).f6, (rd_T32 x0_2 x9_2).f7, (rd_T32 x0_2 x9_2).f8, (rd_T32 x0_2 x9_2).f9, (rd_T32 x0_2 x9_2).f10, (rd_T32 x0_2 x9_2).f11⟩ : S32)) := ⟨_, rfl⟩
            replace H : (slices_insertionSortCmpFunc_Job__job_Due_1.l1 k2 y273 a1 a2 x8_1 ji9) = some r := mH hy273 H
            have Ny273 := Aside0.mk hy273
            clear hy273
            have H' := Aside0.mk H
            clear H
            try go_wp2
            have n0_ := Aside0.mk (Kd.R_drew HO_0.out)
            have n1_ := Aside0.mk (Kept.drew HK.out)
            have n2_ := Aside0.mk (below_drew1 HB.out)
            clear HO_0; clear HK; clear HB
            have HO_0 := n0_
            have HK := n1_
            have HB := n2_
            clear n0_; clear n1_; clear n2_
            obtain ⟨Ao17, co17, eo17⟩ := Kd.R_slice HO_0.out
            (first | subst eo17 | (injection eo17 with f1_ f2_ f3_; have f4_ := f1_.symm; have f5_ := f3_.symm; clear f1_ f2_ f3_; subst f4_; subst f5_))
            have p267 : 0 ≤ (x9_2 : Int) := oda
            have q267 : x9_2 < (x0_2.length : Int) := oda
            obtain ⟨ad267, e267, hx267_0, hx267_1, hx267_2, hx267_3, hx267_4, hx267_5, hx267_6, hx267_7, hx267_8, hx267_9, hx267_10, hx267_11⟩ := at_T32 (Kd.R_reads' HO_0.out).2.2 x9_2 p267 q267
            cases e267
            replace p267 := eq_true p267
            replace q267 := eq_true q267
            have p268 : 0 ≤ ((ji9) : Int) := oda
            have q268 : (ji9) < (x0_2.length : Int) := oda
            obtain ⟨ad268, e268, hx268_0, hx268_1, hx268_2, hx268_3, hx268_4, hx268_5, hx268_6, hx268_7, hx268_8, hx268_9, hx268_10, hx268_11⟩ := at_T32 (Kd.R_reads' HO_0.out).2.2 (ji9) p268 q268
            obtain rfl : ad267 = ad268 := (by injection e268)
            replace p268 := eq_true p268
            replace q268 := eq_true q268
            refine start_ (n := 17) (S := fun w' => w'.cell? (ad267.add ((x9_2).toNat * 12)) = some (.int .i64 ((rd_T32 x0_2 x9_2).f0)) ∧ w'.cell? ⟨(ad267.add ((x9_2).toNat * 12)).block, (ad267.add ((x9_2).toNat * 12)).off + 1, none⟩ = some (.int .i64 ((rd_T32 x0_2 x9_2).f1)) ∧ w'.cell? ⟨(ad267.add ((x9_2).toNat * 12)).block, (ad267.add ((x9_2).toNat * 12)).off + 2, none⟩ = some (.int .i64 ((rd_T32 x0_2 x9_2).f2)) ∧ w'.cell? ⟨(ad267.add ((x9_2).toNat * 12)).block, (ad267.add ((x9_2).toNat * 12)).off + 3, none⟩ = some (.int .i64 ((rd_T32 x0_2 x9_2).f3)) ∧ w'.cell? ⟨(ad267.add ((x9_2).toNat * 12)).block, (ad267.add ((x9_2).toNat * 12)).off + 4, none⟩ = some (.int .i64 ((rd_T32 x0_2 x9_2).f4)) ∧ w'.cell? ⟨(ad267.add ((x9_2).toNat * 12)).block, (ad267.add ((x9_2).toNat * 12)).off + 5, none⟩ = some (.int .i64 ((rd_T32 x0_2 x9_2).f5)) ∧ w'.cell? ⟨(ad267.add ((x9_2).toNat * 12)).block, (ad267.add ((x9_2).toNat * 12)).off + 6, none⟩ = some (.int .i64 ((rd_T32 x0_2 x9_2).f6)) ∧ w'.cell? ⟨(ad267.add ((x9_2).toNat * 12)).block, (ad267.add ((x9_2).toNat * 12)).off + 7, none⟩ = some (.int .i64 ((rd_T32 x0_2 x9_2).f7)) ∧ w'.cell? ⟨(ad267.add ((x9_2).toNat * 12)).block, (ad267.add ((x9_2).toNat * 12)).off + 8, none⟩ = some (.int .i64 ((rd_T32 x0_2 x9_2).f8)) ∧ w'.cell? ⟨(ad267.add ((x9_2).toNat * 12)).block, (ad267.add ((x9_2).toNat * 12)).off + 9, none⟩ = some (.int .i64 ((rd_T32 x0_2 x9_2).f9)) ∧ w'.cell? ⟨(ad267.add ((x9_2).toNat * 12)).block, (ad267.add ((x9_2).toNat * 12)).off + 10, none⟩ = some (.int .i64 ((rd_T32 x0_2 x9_2).f10)) ∧ w'.cell? ⟨(ad267.add ((x9_2).toNat * 12)).block, (ad267.add ((x9_2).toNat * 12)).off + 11, none⟩ = some (.slice ((rd_T32 x0_2 x9_2).f11).A ((rd_T32 x0_2 x9_2).f11).n ((rd_T32 x0_2 x9_2).f11).c) ∧ w'.cell? (ad267.add (((ji9)).toNat * 12)) = some (.int .i64 ((rd_T32 x0_2 (ji9)).f0)) ∧ w'.cell? ⟨(ad267.add (((ji9)).toNat * 12)).block, (ad267.add (((ji9)).toNat * 12)).off + 1, none⟩ = some (.int .i64 ((rd_T32 x0_2 (ji9)).f1)) ∧ w'.cell? ⟨(ad267.add (((ji9)).toNat * 12)).block, (ad267.add (((ji9)).toNat * 12)).off + 2, none⟩ = some (.int .i64 ((rd_T32 x0_2 (ji9)).f2)) ∧ w'.cell? ⟨(ad267.add (((ji9)).toNat * 12)).block, (ad267.add (((ji9)).toNat * 12)).off + 3, none⟩ = some (.int .i64 ((rd_T32 x0_2 (ji9)).f3)) ∧ w'.cell? ⟨(ad267.add (((ji9)).toNat * 12)).block, (ad267.add (((ji9)).toNat * 12)).off + 4, none⟩ = some (.int .i64 ((rd_T32 x0_2 (ji9)).f4)) ∧ w'.cell? ⟨(ad267.add (((ji9)).toNat * 12)).block, (ad267.add (((ji9)).toNat * 12)).off + 5, none⟩ = some (.int .i64 ((rd_T32 x0_2 (ji9)).f5)) ∧ w'.cell? ⟨(ad267.add (((ji9)).toNat * 12)).block, (ad267.add (((ji9)).toNat * 12)).off + 6, none⟩ = some (.int .i64 ((rd_T32 x0_2 (ji9)).f6)) ∧ w'.cell? ⟨(ad267.add (((ji9)).toNat * 12)).block, (ad267.add (((ji9)).toNat * 12)).off + 7, none⟩ = some (.int .i64 ((rd_T32 x0_2 (ji9)).f7)) ∧ w'.cell? ⟨(ad267.add (((ji9)).toNat * 12)).block, (ad267.add (((ji9)).toNat * 12)).off + 8, none⟩ = some (.int .i64 ((rd_T32 x0_2 (ji9)).f8)) ∧ w'.cell? ⟨(ad267.add (((ji9)).toNat * 12)).block, (ad267.add (((ji9)).toNat * 12)).off + 9, none⟩ = some (.int .i64 ((rd_T32 x0_2 (ji9)).f9)) ∧ w'.cell? ⟨(ad267.add (((ji9)).toNat * 12)).block, (ad267.add (((ji9)).toNat * 12)).off + 10, none⟩ = some (.int .i64 ((rd_T32 x0_2 (ji9)).f10)) ∧ w'.cell? ⟨(ad267.add (((ji9)).toNat * 12)).block, (ad267.add (((ji9)).toNat * 12)).off + 11, none⟩ = some (.slice ((rd_T32 x0_2 (ji9)).f11).A ((rd_T32 x0_2 (ji9)).f11).n ((rd_T32 x0_2 (ji9)).f11).c)) (ds := []) #[false, false, false, false, false, false, false, false, false, false, false, false, false, false, false, false, false] (by kernel_rfl) rfl rfl ⟨hx267_0, hx267_1, hx267_2, hx267_3, hx267_4, hx267_5, hx267_6, hx267_7, hx267_8, hx267_9, hx267_10, hx267_11, hx268_0, hx268_1, hx268_2, hx268_3, hx268_4, hx268_5, hx268_6, hx268_7, hx268_8, hx268_9, hx268_10, hx268_11⟩ (fun hHeld => ?_); refine with_tabW slices_insertionSortCmpFunc_Job__job_Due_1.tab4 slices_insertionSortCmpFunc_Job__job_Due_1.bits4 (fun HT_ HW_ => ?_)
            generalize wr.drew = w16 at HO_0 HK HB hx267_0 hx267_1 hx267_10 hx267_11 hx267_2 hx267_3 hx267_4 hx267_5 hx267_6 hx267_7 hx267_8 hx267_9 hx268_0 hx268_1 hx268_10 hx268_11 hx268_2 hx268_3 hx268_4 hx268_5 hx268_6 hx268_7 hx268_8 hx268_9 hHeld ⊢
            refine plan_ [(0, 18), (1, 19), (2, 20), (3, 21), (4, 22), (5, 23), (6, 24), (7, 25), (9, 27), (10, 28), (11, 29), (12, 30)] ?_
            iterate 12 (refine planP_ (v := ?_) (a' := ?_) rfl rfl (any_of HT_.out (by kernel_rfl)) (fun _ _ _ h => h) (Or.inl ⟨by rfl, ?_⟩) ?_ ?_; rotate_left; (intro w'; go_simp; with_reducible rfl); rotate_left; (simp only [Act.put, List.setIfInBounds_toArray, List.set_cons_zero, List.set_cons_succ, i64_w, i32_w]; rfl))
            refine planEnd_ ?_
            refine plan_ [(8, 26), (13, 31)] ?_
            iterate 2 (refine planT_ (v := ?_) (a' := ?_) rfl rfl (take_ofW HT_.out HW_.out (by kernel_rfl)) (fun _ _ _ h => h) (Or.inl ⟨by rfl, ?_⟩) hHeld ?_ ?_; rotate_left; (rintro w' ⟨s0, s1, s2, s3, s4, s5, s6, s7, s8, s9, s10, s11, s12, s13, s14, s15, s16, s17, s18, s19, s20, s21, s22, s23⟩; go_simp; with_reducible rfl); rotate_left; (simp only [Act.put, List.setIfInBounds_toArray, List.set_cons_zero, List.set_cons_succ, i64_w, i32_w]; rfl))
            refine planEnd_ ?_
            refine one_ (i := 14) (N := some 32) #[true, true, true, true, true, true, true, true, true, true, true, true, true, true, true, false, false] rfl rfl (one_of HT_.out (by kernel_rfl)) (by decide) (fun K hK => ?_)
            refine goesV_ Try.func47 (by kernel_rfl) rfl #[.agg #[.int .i64 ((rd_T32 x0_2 x9_2).f0), .int .i64 ((rd_T32 x0_2 x9_2).f1), .int .i64 ((rd_T32 x0_2 x9_2).f2), .int .i64 ((rd_T32 x0_2 x9_2).f3), .int .i64 ((rd_T32 x0_2 x9_2).f4), .int .i64 ((rd_T32 x0_2 x9_2).f5), .int .i64 ((rd_T32 x0_2 x9_2).f6), .int .i64 ((rd_T32 x0_2 x9_2).f7), .int .i64 ((rd_T32 x0_2 x9_2).f8), .int .i64 ((rd_T32 x0_2 x9_2).f9), .int .i64 ((rd_T32 x0_2 x9_2).f10), .slice ((rd_T32 x0_2 x9_2).f11).A ((rd_T32 x0_2 x9_2).f11).n ((rd_T32 x0_2 x9_2).f11).c], .agg #[.int .i64 ((rd_T32 x0_2 (ji9)).f0), .int .i64 ((rd_T32 x0_2 (ji9)).f1), .int .i64 ((rd_T32 x0_2 (ji9)).f2), .int .i64 ((rd_T32 x0_2 (ji9)).f3), .int .i64 ((rd_T32 x0_2 (ji9)).f4), .int .i64 ((rd_T32 x0_2 (ji9)).f5), .int .i64 ((rd_T32 x0_2 (ji9)).f6), .int .i64 ((rd_T32 x0_2 (ji9)).f7), .int .i64 ((rd_T32 x0_2 (ji9)).f8), .int .i64 ((rd_T32 x0_2 (ji9)).f9), .int .i64 ((rd_T32 x0_2 (ji9)).f10), .slice ((rd_T32 x0_2 (ji9)).f11).A ((rd_T32 x0_2 (ji9)).f11).n ((rd_T32 x0_2 (ji9)).f11).c]] (by rfl) rfl rfl (by (try simp only [List.map_toArray, List.map_cons, List.map_nil]); first | done | (simp only [hji9]; rfl) | rfl | (simp only [List.length_drop, List.length_take]; rfl)) rfl ?_
            with_reducible refine (job_Due_1.calls ((rd_T32 x0_2 x9_2).f0) ((rd_T32 x0_2 x9_2).f1) ((rd_T32 x0_2 x9_2).f2) ((rd_T32 x0_2 x9_2).f3) ((rd_T32 x0_2 x9_2).f4) ((rd_T32 x0_2 x9_2).f5) ((rd_T32 x0_2 x9_2).f6) ((rd_T32 x0_2 x9_2).f7) ((rd_T32 x0_2 x9_2).f8) ((rd_T32 x0_2 x9_2).f9) ((rd_T32 x0_2 x9_2).f10) ((rd_T32 x0_2 x9_2).f11) ((rd_T32 x0_2 (ji9)).f0) ((rd_T32 x0_2 (ji9)).f1) ((rd_T32 x0_2 (ji9)).f2) ((rd_T32 x0_2 (ji9)).f3) ((rd_T32 x0_2 (ji9)).f4) ((rd_T32 x0_2 (ji9)).f5) ((rd_T32 x0_2 (ji9)).f6) ((rd_T32 x0_2 (ji9)).f7) ((rd_T32 x0_2 (ji9)).f8) ((rd_T32 x0_2 (ji9)).f9) ((rd_T32 x0_2 (ji9)).f10) ((rd_T32 x0_2 (ji9)).f11) t269 _ A12.out).mono ?_
            rintro e w18 ⟨rfl, hb⟩
            have HS0_ := (hb.cell (World.block_lt_of_cell? _ _ (hHeld.1))).trans (hHeld.1)
            have HS1_ := (hb.cell (World.block_lt_of_cell? _ _ (hHeld.2.1))).trans (hHeld.2.1)
            have HS2_ := (hb.cell (World.block_lt_of_cell? _ _ (hHeld.2.2.1))).trans (hHeld.2.2.1)
            have HS3_ := (hb.cell (World.block_lt_of_cell? _ _ (hHeld.2.2.2.1))).trans (hHeld.2.2.2.1)
            have HS4_ := (hb.cell (World.block_lt_of_cell? _ _ (hHeld.2.2.2.2.1))).trans (hHeld.2.2.2.2.1)
            have HS5_ := (hb.cell (World.block_lt_of_cell? _ _ (hHeld.2.2.2.2.2.1))).trans (hHeld.2.2.2.2.2.1)
            have HS6_ := (hb.cell (World.block_lt_of_cell? _ _ (hHeld.2.2.2.2.2.2.1))).trans (hHeld.2.2.2.2.2.2.1)
            have HS7_ := (hb.cell (World.block_lt_of_cell? _ _ (hHeld.2.2.2.2.2.2.2.1))).trans (hHeld.2.2.2.2.2.2.2.1)
            have HS8_ := (hb.cell (World.block_lt_of_cell? _ _ (hHeld.2.2.2.2.2.2.2.2.1))).trans (hHeld.2.2.2.2.2.2.2.2.1)
            have HS9_ := (hb.cell (World.block_lt_of_cell? _ _ (hHeld.2.2.2.2.2.2.2.2.2.1))).trans (hHeld.2.2.2.2.2.2.2.2.2.1)
            have HS10_ := (hb.cell (World.block_lt_of_cell? _ _ (hHeld.2.2.2.2.2.2.2.2.2.2.1))).trans (hHeld.2.2.2.2.2.2.2.2.2.2.1)
            have HS11_ := (hb.cell (World.block_lt_of_cell? _ _ (hHeld.2.2.2.2.2.2.2.2.2.2.2.1))).trans (hHeld.2.2.2.2.2.2.2.2.2.2.2.1)
            have HS12_ := (hb.cell (World.block_lt_of_cell? _ _ (hHeld.2.2.2.2.2.2.2.2.2.2.2.2.1))).trans (hHeld.2.2.2.2.2.2.2.2.2.2.2.2.1)
            have HS13_ := (hb.cell (World.block_lt_of_cell? _ _ (hHeld.2.2.2.2.2.2.2.2.2.2.2.2.2.1))).trans (hHeld.2.2.2.2.2.2.2.2.2.2.2.2.2.1)
            have HS14_ := (hb.cell (World.block_lt_of_cell? _ _ (hHeld.2.2.2.2.2.2.2.2.2.2.2.2.2.2.1))).trans (hHeld.2.2.2.2.2.2.2.2.2.2.2.2.2.2.1)
            have HS15_ := (hb.cell (World.block_lt_of_cell? _ _ (hHeld.2.2.2.2.2.2.2.2.2.2.2.2.2.2.2.1))).trans (hHeld.2.2.2.2.2.2.2.2.2.2.2.2.2.2.2.1)
            have HS16_ := (hb.cell (World.block_lt_of_cell? _ _ (hHeld.2.2.2.2.2.2.2.2.2.2.2.2.2.2.2.2.1))).trans (hHeld.2.2.2.2.2.2.2.2.2.2.2.2.2.2.2.2.1)
            have HS17_ := (hb.cell (World.block_lt_of_cell? _ _ (hHeld.2.2.2.2.2.2.2.2.2.2.2.2.2.2.2.2.2.1))).trans (hHeld.2.2.2.2.2.2.2.2.2.2.2.2.2.2.2.2.2.1)
            have HS18_ := (hb.cell (World.block_lt_of_cell? _ _ (hHeld.2.2.2.2.2.2.2.2.2.2.2.2.2.2.2.2.2.2.1))).trans (hHeld.2.2.2.2.2.2.2.2.2.2.2.2.2.2.2.2.2.2.1)
            have HS19_ := (hb.cell (World.block_lt_of_cell? _ _ (hHeld.2.2.2.2.2.2.2.2.2.2.2.2.2.2.2.2.2.2.2.1))).trans (hHeld.2.2.2.2.2.2.2.2.2.2.2.2.2.2.2.2.2.2.2.1)
            have HS20_ := (hb.cell (World.block_lt_of_cell? _ _ (hHeld.2.2.2.2.2.2.2.2.2.2.2.2.2.2.2.2.2.2.2.2.1))).trans (hHeld.2.2.2.2.2.2.2.2.2.2.2.2.2.2.2.2.2.2.2.2.1)
            have HS21_ := (hb.cell (World.block_lt_of_cell? _ _ (hHeld.2.2.2.2.2.2.2.2.2.2.2.2.2.2.2.2.2.2.2.2.2.1))).trans (hHeld.2.2.2.2.2.2.2.2.2.2.2.2.2.2.2.2.2.2.2.2.2.1)
            have HS22_ := (hb.cell (World.block_lt_of_cell? _ _ (hHeld.2.2.2.2.2.2.2.2.2.2.2.2.2.2.2.2.2.2.2.2.2.2.1))).trans (hHeld.2.2.2.2.2.2.2.2.2.2.2.2.2.2.2.2.2.2.2.2.2.2.1)
            have HS23_ := (hb.cell (World.block_lt_of_cell? _ _ (hHeld.2.2.2.2.2.2.2.2.2.2.2.2.2.2.2.2.2.2.2.2.2.2.2))).trans (hHeld.2.2.2.2.2.2.2.2.2.2.2.2.2.2.2.2.2.2.2.2.2.2.2)
            refine ⟨_, rfl, ?_⟩
            have n0_ := Aside0.mk (Kd.R_below (mR HO_0.out) hb)
            have n1_ := Aside0.mk (Kept.below (S := (fun k_ => P0_ k_)) (mK HK.out) hb)
            have n2_ := Aside0.mk (below_step (mB HB.out) hb)
            clear HO_0; clear HK; clear HB
            have HO_0 := n0_
            have HK := n1_
            have HB := n2_
            clear n0_; clear n1_; clear n2_
            (try clear hb); (try clear hb2); (try clear hk); (try clear hi)
            refine hK.out _ _ ⟨HS0_, HS1_, HS2_, HS3_, HS4_, HS5_, HS6_, HS7_, HS8_, HS9_, HS10_, HS11_, HS12_, HS13_, HS14_, HS15_, HS16_, HS17_, HS18_, HS19_, HS20_, HS21_, HS22_, HS23_⟩ (fun hHeld => ?_)
            clear hK; clear K
            refine norm_ (a' := ?_) ?_ ?_
            rotate_left
            ·show Act.put _ (some 32) _ = _
             simp only [Act.put, List.setIfInBounds_toArray, List.set_cons_zero, List.set_cons_succ, i64_w, i32_w]
             rfl
            refine plan_ [(15, 33), (16, 34)] ?_
            iterate 2 (refine planP_ (v := ?_) (a' := ?_) rfl rfl (any_of HT_.out (by kernel_rfl)) (fun _ _ _ h => h) (Or.inl ⟨by rfl, ?_⟩) ?_ ?_; rotate_left; (intro w'; go_simp; with_reducible rfl); rotate_left; (simp only [Act.put, List.setIfInBounds_toArray, List.set_cons_zero, List.set_cons_succ, i64_w, i32_w]; rfl))
            refine planEnd_ ?_
            refine done_ (done_of HT_.out (by kernel_rfl)) ?_
            try go_wp2
            have n0_ := Aside0.mk (Kd.R_drew HO_0.out)
            have n1_ := Aside0.mk (Kept.drew HK.out)
            have n2_ := Aside0.mk (below_drew1 HB.out)
            clear HO_0; clear HK; clear HB
            have HO_0 := n0_
            have HK := n1_
            have HB := n2_
            clear n0_; clear n1_; clear n2_
            have p270 : 0 ≤ ((ji9) : Int) := oda
            have q270 : (ji9) < (x0_2.length : Int) := oda
            obtain ⟨ad270, e270, hx270_0, hx270_1, hx270_2, hx270_3, hx270_4, hx270_5, hx270_6, hx270_7, hx270_8, hx270_9, hx270_10, hx270_11⟩ := at_T32 (Kd.R_reads' HO_0.out).2.2 (ji9) p270 q270
            obtain rfl : ad267 = ad270 := (by injection e270)
            replace p270 := eq_true p270
            replace q270 := eq_true q270
            have p271 : 0 ≤ (x9_2 : Int) := oda
            have q271 : x9_2 < (x0_2.length : Int) := oda
            obtain ⟨ad271, e271, hx271_0, hx271_1, hx271_2, hx271_3, hx271_4, hx271_5, hx271_6, hx271_7, hx271_8, hx271_9, hx271_10, hx271_11⟩ := at_T32 (Kd.R_reads' HO_0.out).2.2 x9_2 p271 q271
            obtain rfl : ad267 = ad271 := (by injection e271)
            replace p271 := eq_true p271
            replace q271 := eq_true q271
            have p14 : 0 ≤ (x9_2 : Int) := oda
            have q14 : (x9_2 : Int) < ((x0_2.length : Int) : Int) := oda
            obtain ⟨go14, co14, eo14, gb14, gl14, cl14, HG14⟩ := Kd.R_form HO_0.out (by omega)
            (first | cases eo14 | (injection eo14 with ea_ en_ ec_; (first | subst ea_ | (injection ea_ with ea_; subst ea_)); subst ec_; clear en_))
            have GB14 := Aside0.mk gb14
            have GG14 := Aside0.mk HG14
            clear gb14; clear gl14; clear HG14
            have HMgo14 := Aside0.mk (show (P0_ go14 ∨ w.heap.size ≤ go14) from (HO_0.out.1 _ rfl))
            (first | simp only [add_plain] at hx267_0 | skip)
            (first | simp only [add_plain] at hx267_1 | skip)
            (first | simp only [add_plain] at hx267_2 | skip)
            (first | simp only [add_plain] at hx267_3 | skip)
            (first | simp only [add_plain] at hx267_4 | skip)
            (first | simp only [add_plain] at hx267_5 | skip)
            (first | simp only [add_plain] at hx267_6 | skip)
            (first | simp only [add_plain] at hx267_7 | skip)
            (first | simp only [add_plain] at hx267_8 | skip)
            (first | simp only [add_plain] at hx267_9 | skip)
            (first | simp only [add_plain] at hx267_10 | skip)
            (first | simp only [add_plain] at hx267_11 | skip)
            (first | simp only [add_plain] at hx268_0 | skip)
            (first | simp only [add_plain] at hx268_1 | skip)
            (first | simp only [add_plain] at hx268_2 | skip)
            (first | simp only [add_plain] at hx268_3 | skip)
            (first | simp only [add_plain] at hx268_4 | skip)
            (first | simp only [add_plain] at hx268_5 | skip)
            (first | simp only [add_plain] at hx268_6 | skip)
            (first | simp only [add_plain] at hx268_7 | skip)
            (first | simp only [add_plain] at hx268_8 | skip)
            (first | simp only [add_plain] at hx268_9 | skip)
            (first | simp only [add_plain] at hx268_10 | skip)
            (first | simp only [add_plain] at hx268_11 | skip)
            (first | simp only [add_plain] at hx270_0 | skip)
            (first | simp only [add_plain] at hx270_1 | skip)
            (first | simp only [add_plain] at hx270_2 | skip)
            (first | simp only [add_plain] at hx270_3 | skip)
            (first | simp only [add_plain] at hx270_4 | skip)
            (first | simp only [add_plain] at hx270_5 | skip)
            (first | simp only [add_plain] at hx270_6 | skip)
            (first | simp only [add_plain] at hx270_7 | skip)
            (first | simp only [add_plain] at hx270_8 | skip)
            (first | simp only [add_plain] at hx270_9 | skip)
            (first | simp only [add_plain] at hx270_10 | skip)
            (first | simp only [add_plain] at hx270_11 | skip)
            (first | simp only [add_plain] at hx271_0 | skip)
            (first | simp only [add_plain] at hx271_1 | skip)
            (first | simp only [add_plain] at hx271_2 | skip)
            (first | simp only [add_plain] at hx271_3 | skip)
            (first | simp only [add_plain] at hx271_4 | skip)
            (first | simp only [add_plain] at hx271_5 | skip)
            (first | simp only [add_plain] at hx271_6 | skip)
            (first | simp only [add_plain] at hx271_7 | skip)
            (first | simp only [add_plain] at hx271_8 | skip)
            (first | simp only [add_plain] at hx271_9 | skip)
            (first | simp only [add_plain] at hx271_10 | skip)
            (first | simp only [add_plain] at hx271_11 | skip)
            refine start_ (n := 18) (S := fun w' => w'.cell? ⟨go14, (((ji9)).toNat * 12), none⟩ = some (.int .i64 ((rd_T32 x0_2 (ji9)).f0)) ∧ w'.cell? ⟨go14, (((ji9)).toNat * 12) + 1, none⟩ = some (.int .i64 ((rd_T32 x0_2 (ji9)).f1)) ∧ w'.cell? ⟨go14, (((ji9)).toNat * 12) + 2, none⟩ = some (.int .i64 ((rd_T32 x0_2 (ji9)).f2)) ∧ w'.cell? ⟨go14, (((ji9)).toNat * 12) + 3, none⟩ = some (.int .i64 ((rd_T32 x0_2 (ji9)).f3)) ∧ w'.cell? ⟨go14, (((ji9)).toNat * 12) + 4, none⟩ = some (.int .i64 ((rd_T32 x0_2 (ji9)).f4)) ∧ w'.cell? ⟨go14, (((ji9)).toNat * 12) + 5, none⟩ = some (.int .i64 ((rd_T32 x0_2 (ji9)).f5)) ∧ w'.cell? ⟨go14, (((ji9)).toNat * 12) + 6, none⟩ = some (.int .i64 ((rd_T32 x0_2 (ji9)).f6)) ∧ w'.cell? ⟨go14, (((ji9)).toNat * 12) + 7, none⟩ = some (.int .i64 ((rd_T32 x0_2 (ji9)).f7)) ∧ w'.cell? ⟨go14, (((ji9)).toNat * 12) + 8, none⟩ = some (.int .i64 ((rd_T32 x0_2 (ji9)).f8)) ∧ w'.cell? ⟨go14, (((ji9)).toNat * 12) + 9, none⟩ = some (.int .i64 ((rd_T32 x0_2 (ji9)).f9)) ∧ w'.cell? ⟨go14, (((ji9)).toNat * 12) + 10, none⟩ = some (.int .i64 ((rd_T32 x0_2 (ji9)).f10)) ∧ w'.cell? ⟨go14, (((ji9)).toNat * 12) + 11, none⟩ = some (.slice ((rd_T32 x0_2 (ji9)).f11).A ((rd_T32 x0_2 (ji9)).f11).n ((rd_T32 x0_2 (ji9)).f11).c) ∧ w'.cell? ⟨go14, ((x9_2).toNat * 12), none⟩ = some (.int .i64 ((rd_T32 x0_2 x9_2).f0)) ∧ w'.cell? ⟨go14, ((x9_2).toNat * 12) + 1, none⟩ = some (.int .i64 ((rd_T32 x0_2 x9_2).f1)) ∧ w'.cell? ⟨go14, ((x9_2).toNat * 12) + 2, none⟩ = some (.int .i64 ((rd_T32 x0_2 x9_2).f2)) ∧ w'.cell? ⟨go14, ((x9_2).toNat * 12) + 3, none⟩ = some (.int .i64 ((rd_T32 x0_2 x9_2).f3)) ∧ w'.cell? ⟨go14, ((x9_2).toNat * 12) + 4, none⟩ = some (.int .i64 ((rd_T32 x0_2 x9_2).f4)) ∧ w'.cell? ⟨go14, ((x9_2).toNat * 12) + 5, none⟩ = some (.int .i64 ((rd_T32 x0_2 x9_2).f5)) ∧ w'.cell? ⟨go14, ((x9_2).toNat * 12) + 6, none⟩ = some (.int .i64 ((rd_T32 x0_2 x9_2).f6)) ∧ w'.cell? ⟨go14, ((x9_2).toNat * 12) + 7, none⟩ = some (.int .i64 ((rd_T32 x0_2 x9_2).f7)) ∧ w'.cell? ⟨go14, ((x9_2).toNat * 12) + 8, none⟩ = some (.int .i64 ((rd_T32 x0_2 x9_2).f8)) ∧ w'.cell? ⟨go14, ((x9_2).toNat * 12) + 9, none⟩ = some (.int .i64 ((rd_T32 x0_2 x9_2).f9)) ∧ w'.cell? ⟨go14, ((x9_2).toNat * 12) + 10, none⟩ = some (.int .i64 ((rd_T32 x0_2 x9_2).f10)) ∧ w'.cell? ⟨go14, ((x9_2).toNat * 12) + 11, none⟩ = some (.slice ((rd_T32 x0_2 x9_2).f11).A ((rd_T32 x0_2 x9_2).f11).n ((rd_T32 x0_2 x9_2).f11).c)) (ds := [15, 17]) #[false, false, false, false, false, false, false, false, false, false, false, false, false, false, false, false, false, false] (by kernel_rfl) rfl rfl ⟨hx270_0, hx270_1, hx270_2, hx270_3, hx270_4, hx270_5, hx270_6, hx270_7, hx270_8, hx270_9, hx270_10, hx270_11, hx271_0, hx271_1, hx271_2, hx271_3, hx271_4, hx271_5, hx271_6, hx271_7, hx271_8, hx271_9, hx271_10, hx271_11⟩ (fun hHeld => ?_); refine with_tabW slices_insertionSortCmpFunc_Job__job_Due_1.tab6 slices_insertionSortCmpFunc_Job__job_Due_1.bits6 (fun HT_ HW_ => ?_)
            generalize w18.drew = w19 at HO_0 HK HB GG14 hx267_0 hx267_1 hx267_10 hx267_11 hx267_2 hx267_3 hx267_4 hx267_5 hx267_6 hx267_7 hx267_8 hx267_9 hx268_0 hx268_1 hx268_10 hx268_11 hx268_2 hx268_3 hx268_4 hx268_5 hx268_6 hx268_7 hx268_8 hx268_9 hx270_0 hx270_1 hx270_10 hx270_11 hx270_2 hx270_3 hx270_4 hx270_5 hx270_6 hx270_7 hx270_8 hx270_9 hx271_0 hx271_1 hx271_10 hx271_11 hx271_2 hx271_3 hx271_4 hx271_5 hx271_6 hx271_7 hx271_8 hx271_9 hHeld ⊢
            refine plan_ [(0, 37), (1, 38), (2, 39), (3, 40), (4, 41), (5, 42), (6, 43), (7, 44), (8, 45), (10, 47), (11, 48), (12, 49)] ?_
            iterate 12 (refine planP_ (v := ?_) (a' := ?_) rfl rfl (any_of HT_.out (by kernel_rfl)) (fun _ _ _ h => h) (Or.inl ⟨by rfl, ?_⟩) ?_ ?_; rotate_left; (intro w'; go_simp; with_reducible rfl); rotate_left; (simp only [Act.put, List.setIfInBounds_toArray, List.set_cons_zero, List.set_cons_succ, i64_w, i32_w]; rfl))
            refine planEnd_ ?_
            refine plan_ [(9, 46), (13, 50)] ?_
            iterate 2 (refine planT_ (v := ?_) (a' := ?_) rfl rfl (take_ofW HT_.out HW_.out (by kernel_rfl)) (fun _ _ _ h => h) (Or.inl ⟨by rfl, ?_⟩) hHeld ?_ ?_; rotate_left; (rintro w' ⟨s0, s1, s2, s3, s4, s5, s6, s7, s8, s9, s10, s11, s12, s13, s14, s15, s16, s17, s18, s19, s20, s21, s22, s23⟩; go_simp; with_reducible rfl); rotate_left; (simp only [Act.put, List.setIfInBounds_toArray, List.set_cons_zero, List.set_cons_succ, i64_w, i32_w]; rfl))
            refine planEnd_ ?_
            refine plan_ [(14, 51)] ?_
            refine planP_ (v := ?_) (a' := ?_) rfl rfl (any_of HT_.out (by kernel_rfl)) (fun _ _ _ h => h) (Or.inl ⟨by rfl, ?_⟩) ?_ ?_; rotate_left; (intro w'; go_simp; with_reducible rfl); rotate_left; (simp only [Act.put, List.setIfInBounds_toArray, List.set_cons_zero, List.set_cons_succ, i64_w, i32_w]; rfl)
            refine planEnd_ ?_
            refine last_ (i := 15) (N := none) #[true, true, true, true, true, true, true, true, true, true, true, true, true, true, true, true, false, false] rfl rfl (one_of HT_.out (by kernel_rfl)) (by decide) (fun K hK => ?_)
            refine storeW_ k32 (w0 := w0) (g := go14) (x9_2) z32 (⟨(rd_T32 x0_2 (ji9)).f0, (rd_T32 x0_2 (ji9)).f1, (rd_T32 x0_2 (ji9)).f2, (rd_T32 x0_2 (ji9)).f3, (rd_T32 x0_2 (ji9)).f4, (rd_T32 x0_2 (ji9)).f5, (rd_T32 x0_2 (ji9)).f6, (rd_T32 x0_2 (ji9)).f7, (rd_T32 x0_2 (ji9)).f8, (rd_T32 x0_2 (ji9)).f9, (rd_T32 x0_2 (ji9)).f10, (rd_T32 x0_2 (ji9)).f11⟩ : S32) [.int .i64 ((rd_T32 x0_2 (ji9)).f0), .int .i64 ((rd_T32 x0_2 (ji9)).f1), .int .i64 ((rd_T32 x0_2 (ji9)).f2), .int .i64 ((rd_T32 x0_2 (ji9)).f3), .int .i64 ((rd_T32 x0_2 (ji9)).f4), .int .i64 ((rd_T32 x0_2 (ji9)).f5), .int .i64 ((rd_T32 x0_2 (ji9)).f6), .int .i64 ((rd_T32 x0_2 (ji9)).f7), .int .i64 ((rd_T32 x0_2 (ji9)).f8), .int .i64 ((rd_T32 x0_2 (ji9)).f9), .int .i64 ((rd_T32 x0_2 (ji9)).f10), .slice ((rd_T32 x0_2 (ji9)).f11).A ((rd_T32 x0_2 (ji9)).f11).n ((rd_T32 x0_2 (ji9)).f11).c] (by rfl) rfl rfl (by first | rfl | (go_simp; done) | (go_simp; rfl)) rfl (by first | rfl | (go_simp; done) | (go_simp; rfl)) rfl (by kernel_rfl) rfl one12 HO_0.out (of_eq_true p271) (of_eq_true q271) (k32_mkM _ _ _ (⟨(rd_T32 x0_2 (ji9)).f0, (rd_T32 x0_2 (ji9)).f1, (rd_T32 x0_2 (ji9)).f2, (rd_T32 x0_2 (ji9)).f3, (rd_T32 x0_2 (ji9)).f4, (rd_T32 x0_2 (ji9)).f5, (rd_T32 x0_2 (ji9)).f6, (rd_T32 x0_2 (ji9)).f7, (rd_T32 x0_2 (ji9)).f8, (rd_T32 x0_2 (ji9)).f9, (rd_T32 x0_2 (ji9)).f10, (rd_T32 x0_2 (ji9)).f11⟩ : S32)) (fun _ hk => hk) HB.out ?_
            intro wa hoa hba hga
            rw [← Ny272.out] at hoa
            have n0_ := Aside0.mk hoa
            have n1_ := Aside0.mk hba
            have n2_ := Aside0.mk (Kept.of_grown hga HK.out (fun k e_ => by injection e_ with e_; subst e_; exact HMgo14.out))
            clear HO_0; clear HB; clear HK; clear hoa; clear hba; clear hga
            have HO_0 := n0_
            have HB := n1_
            have HK := n2_
            clear n0_; clear n1_; clear n2_
            refine hK.out _ _ ?_
            clear hK; clear K
            refine plan_ [(16, 52)] ?_
            refine planP_ (v := ?_) (a' := ?_) rfl rfl (any_of HT_.out (by kernel_rfl)) (fun _ _ _ h => h) (Or.inl ⟨by rfl, ?_⟩) ?_ ?_; rotate_left; (intro w'; go_simp; with_reducible rfl); rotate_left; (simp only [Act.put, List.setIfInBounds_toArray, List.set_cons_zero, List.set_cons_succ, i64_w, i32_w]; rfl)
            refine planEnd_ ?_
            refine last_ (i := 17) (N := none) #[true, true, true, true, true, true, true, true, true, true, true, true, true, true, true, true, true, true] rfl rfl (one_of HT_.out (by kernel_rfl)) (by decide) (fun K hK => ?_)
            refine storeW_ k32 (w0 := w0) (g := go14) (ji9) z32 (⟨(rd_T32 x0_2 (x9_2)).f0, (rd_T32 x0_2 (x9_2)).f1, (rd_T32 x0_2 (x9_2)).f2, (rd_T32 x0_2 (x9_2)).f3, (rd_T32 x0_2 (x9_2)).f4, (rd_T32 x0_2 (x9_2)).f5, (rd_T32 x0_2 (x9_2)).f6, (rd_T32 x0_2 (x9_2)).f7, (rd_T32 x0_2 (x9_2)).f8, (rd_T32 x0_2 (x9_2)).f9, (rd_T32 x0_2 (x9_2)).f10, (rd_T32 x0_2 (x9_2)).f11⟩ : S32) [.int .i64 ((rd_T32 x0_2 (x9_2)).f0), .int .i64 ((rd_T32 x0_2 (x9_2)).f1), .int .i64 ((rd_T32 x0_2 (x9_2)).f2), .int .i64 ((rd_T32 x0_2 (x9_2)).f3), .int .i64 ((rd_T32 x0_2 (x9_2)).f4), .int .i64 ((rd_T32 x0_2 (x9_2)).f5), .int .i64 ((rd_T32 x0_2 (x9_2)).f6), .int .i64 ((rd_T32 x0_2 (x9_2)).f7), .int .i64 ((rd_T32 x0_2 (x9_2)).f8), .int .i64 ((rd_T32 x0_2 (x9_2)).f9), .int .i64 ((rd_T32 x0_2 (x9_2)).f10), .slice ((rd_T32 x0_2 (x9_2)).f11).A ((rd_T32 x0_2 (x9_2)).f11).n ((rd_T32 x0_2 (x9_2)).f11).c] (by rfl) rfl rfl (by first | rfl | (go_simp; done) | (go_simp; rfl)) rfl (by first | rfl | (go_simp; done) | (go_simp; rfl)) rfl (by kernel_rfl) rfl one12 HO_0.out (of_eq_true p270) (of_eq_true q270) (k32_mkM _ _ _ (⟨(rd_T32 x0_2 (x9_2)).f0, (rd_T32 x0_2 (x9_2)).f1, (rd_T32 x0_2 (x9_2)).f2, (rd_T32 x0_2 (x9_2)).f3, (rd_T32 x0_2 (x9_2)).f4, (rd_T32 x0_2 (x9_2)).f5, (rd_T32 x0_2 (x9_2)).f6, (rd_T32 x0_2 (x9_2)).f7, (rd_T32 x0_2 (x9_2)).f8, (rd_T32 x0_2 (x9_2)).f9, (rd_T32 x0_2 (x9_2)).f10, (rd_T32 x0_2 (x9_2)).f11⟩ : S32)) (fun _ hk => hk) HB.out ?_
            intro wb hob hbb hgb
            rw [← Ny273.out] at hob
            have n0_ := Aside0.mk hob
            have n1_ := Aside0.mk hbb
            have n2_ := Aside0.mk (Kept.of_grown hgb HK.out (fun k e_ => by injection e_ with e_; subst e_; exact HMgo14.out))
            clear HO_0; clear HB; clear HK; clear hob; clear hbb; clear hgb
            have HO_0 := n0_
            have HB := n1_
            have HK := n2_
            clear n0_; clear n1_; clear n2_
            refine hK.out _ _ ?_
            clear hK; clear K
            refine done_ (done_of HT_.out (by kernel_rfl)) ?_
            try go_wp2
            go_roundg k2
            case measure => have := HK1.out; have := HK2.out; omega
            case rel => exact ⟨(y273), (ji9), (by first | rfl | (simp; done) | (simp only [← hji9] <;> (first | rfl | simp)) | (simp [*]; done)), H', ⟨by have := HK1.out; have := HK2.out; omega⟩, ⟨mR HO_0.out⟩, ⟨by repeat (first | (with_reducible first | exact HK.out | apply Kept.alloc | apply Kept.drewN | apply Kept.drew | refine Kept.setCell ?_ HMgo14.out _ | refine Kept.setCell ?_ HMgo14.out _ | refine Kept.setCell ?_ HMgo14.out _ | refine Kept.setCell ?_ HMgo14.out _ | refine Kept.setCell ?_ HMgo14.out _ | refine Kept.setCell ?_ HMgo14.out _ | refine Kept.setCell ?_ HMgo14.out _ | refine Kept.setCell ?_ HMgo14.out _ | refine Kept.setCell ?_ HMgo14.out _ | refine Kept.setCell ?_ HMgo14.out _ | refine Kept.setCell ?_ HMgo14.out _ | refine Kept.setCell ?_ HMgo14.out _ | refine Kept.setCell ?_ HMgo14.out _ | refine Kept.setCell ?_ HMgo14.out _ | refine Kept.setCell ?_ HMgo14.out _ | refine Kept.setCell ?_ HMgo14.out _ | refine Kept.setCell ?_ HMgo14.out _ | refine Kept.setCell ?_ HMgo14.out _ | refine Kept.setCell ?_ HMgo14.out _ | refine Kept.setCell ?_ HMgo14.out _ | refine Kept.setCell ?_ HMgo14.out _ | refine Kept.setCell ?_ HMgo14.out _ | refine Kept.setCell ?_ HMgo14.out _ | refine Kept.setCell ?_ HMgo14.out _) | exact HK.out)⟩, ⟨mBs HB.out⟩⟩
           ·rw [if_neg c13] at H
            have c13b0 : decide (t269 < 0) = false := decide_eq_false c13
            clear c13
            have H' := Aside0.mk H
            clear H
            try go_wp2
            have n0_ := Aside0.mk (Kd.R_drew HO_0.out)
            have n1_ := Aside0.mk (Kept.drew HK.out)
            have n2_ := Aside0.mk (below_drew1 HB.out)
            clear HO_0; clear HK; clear HB
            have HO_0 := n0_
            have HK := n1_
            have HB := n2_
            clear n0_; clear n1_; clear n2_
            obtain ⟨Ao23, co23, eo23⟩ := Kd.R_slice HO_0.out
            (first | subst eo23 | (injection eo23 with f1_ f2_ f3_; have f4_ := f1_.symm; have f5_ := f3_.symm; clear f1_ f2_ f3_; subst f4_; subst f5_))
            have p267 : 0 ≤ (x9_2 : Int) := oda
            have q267 : x9_2 < (x0_2.length : Int) := oda
            obtain ⟨ad267, e267, hx267_0, hx267_1, hx267_2, hx267_3, hx267_4, hx267_5, hx267_6, hx267_7, hx267_8, hx267_9, hx267_10, hx267_11⟩ := at_T32 (Kd.R_reads' HO_0.out).2.2 x9_2 p267 q267
            cases e267
            replace p267 := eq_true p267
            replace q267 := eq_true q267
            have p268 : 0 ≤ ((ji9) : Int) := oda
            have q268 : (ji9) < (x0_2.length : Int) := oda
            obtain ⟨ad268, e268, hx268_0, hx268_1, hx268_2, hx268_3, hx268_4, hx268_5, hx268_6, hx268_7, hx268_8, hx268_9, hx268_10, hx268_11⟩ := at_T32 (Kd.R_reads' HO_0.out).2.2 (ji9) p268 q268
            obtain rfl : ad267 = ad268 := (by injection e268)
            replace p268 := eq_true p268
            replace q268 := eq_true q268
            refine start_ (n := 17) (S := fun w' => w'.cell? (ad267.add ((x9_2).toNat * 12)) = some (.int .i64 ((rd_T32 x0_2 x9_2).f0)) ∧ w'.cell? ⟨(ad267.add ((x9_2).toNat * 12)).block, (ad267.add ((x9_2).toNat * 12)).off + 1, none⟩ = some (.int .i64 ((rd_T32 x0_2 x9_2).f1)) ∧ w'.cell? ⟨(ad267.add ((x9_2).toNat * 12)).block, (ad267.add ((x9_2).toNat * 12)).off + 2, none⟩ = some (.int .i64 ((rd_T32 x0_2 x9_2).f2)) ∧ w'.cell? ⟨(ad267.add ((x9_2).toNat * 12)).block, (ad267.add ((x9_2).toNat * 12)).off + 3, none⟩ = some (.int .i64 ((rd_T32 x0_2 x9_2).f3)) ∧ w'.cell? ⟨(ad267.add ((x9_2).toNat * 12)).block, (ad267.add ((x9_2).toNat * 12)).off + 4, none⟩ = some (.int .i64 ((rd_T32 x0_2 x9_2).f4)) ∧ w'.cell? ⟨(ad267.add ((x9_2).toNat * 12)).block, (ad267.add ((x9_2).toNat * 12)).off + 5, none⟩ = some (.int .i64 ((rd_T32 x0_2 x9_2).f5)) ∧ w'.cell? ⟨(ad267.add ((x9_2).toNat * 12)).block, (ad267.add ((x9_2).toNat * 12)).off + 6, none⟩ = some (.int .i64 ((rd_T32 x0_2 x9_2).f6)) ∧ w'.cell? ⟨(ad267.add ((x9_2).toNat * 12)).block, (ad267.add ((x9_2).toNat * 12)).off + 7, none⟩ = some (.int .i64 ((rd_T32 x0_2 x9_2).f7)) ∧ w'.cell? ⟨(ad267.add ((x9_2).toNat * 12)).block, (ad267.add ((x9_2).toNat * 12)).off + 8, none⟩ = some (.int .i64 ((rd_T32 x0_2 x9_2).f8)) ∧ w'.cell? ⟨(ad267.add ((x9_2).toNat * 12)).block, (ad267.add ((x9_2).toNat * 12)).off + 9, none⟩ = some (.int .i64 ((rd_T32 x0_2 x9_2).f9)) ∧ w'.cell? ⟨(ad267.add ((x9_2).toNat * 12)).block, (ad267.add ((x9_2).toNat * 12)).off + 10, none⟩ = some (.int .i64 ((rd_T32 x0_2 x9_2).f10)) ∧ w'.cell? ⟨(ad267.add ((x9_2).toNat * 12)).block, (ad267.add ((x9_2).toNat * 12)).off + 11, none⟩ = some (.slice ((rd_T32 x0_2 x9_2).f11).A ((rd_T32 x0_2 x9_2).f11).n ((rd_T32 x0_2 x9_2).f11).c) ∧ w'.cell? (ad267.add (((ji9)).toNat * 12)) = some (.int .i64 ((rd_T32 x0_2 (ji9)).f0)) ∧ w'.cell? ⟨(ad267.add (((ji9)).toNat * 12)).block, (ad267.add (((ji9)).toNat * 12)).off + 1, none⟩ = some (.int .i64 ((rd_T32 x0_2 (ji9)).f1)) ∧ w'.cell? ⟨(ad267.add (((ji9)).toNat * 12)).block, (ad267.add (((ji9)).toNat * 12)).off + 2, none⟩ = some (.int .i64 ((rd_T32 x0_2 (ji9)).f2)) ∧ w'.cell? ⟨(ad267.add (((ji9)).toNat * 12)).block, (ad267.add (((ji9)).toNat * 12)).off + 3, none⟩ = some (.int .i64 ((rd_T32 x0_2 (ji9)).f3)) ∧ w'.cell? ⟨(ad267.add (((ji9)).toNat * 12)).block, (ad267.add (((ji9)).toNat * 12)).off + 4, none⟩ = some (.int .i64 ((rd_T32 x0_2 (ji9)).f4)) ∧ w'.cell? ⟨(ad267.add (((ji9)).toNat * 12)).block, (ad267.add (((ji9)).toNat * 12)).off + 5, none⟩ = some (.int .i64 ((rd_T32 x0_2 (ji9)).f5)) ∧ w'.cell? ⟨(ad267.add (((ji9)).toNat * 12)).block, (ad267.add (((ji9)).toNat * 12)).off + 6, none⟩ = some (.int .i64 ((rd_T32 x0_2 (ji9)).f6)) ∧ w'.cell? ⟨(ad267.add (((ji9)).toNat * 12)).block, (ad267.add (((ji9)).toNat * 12)).off + 7, none⟩ = some (.int .i64 ((rd_T32 x0_2 (ji9)).f7)) ∧ w'.cell? ⟨(ad267.add (((ji9)).toNat * 12)).block, (ad267.add (((ji9)).toNat * 12)).off + 8, none⟩ = some (.int .i64 ((rd_T32 x0_2 (ji9)).f8)) ∧ w'.cell? ⟨(ad267.add (((ji9)).toNat * 12)).block, (ad267.add (((ji9)).toNat * 12)).off + 9, none⟩ = some (.int .i64 ((rd_T32 x0_2 (ji9)).f9)) ∧ w'.cell? ⟨(ad267.add (((ji9)).toNat * 12)).block, (ad267.add (((ji9)).toNat * 12)).off + 10, none⟩ = some (.int .i64 ((rd_T32 x0_2 (ji9)).f10)) ∧ w'.cell? ⟨(ad267.add (((ji9)).toNat * 12)).block, (ad267.add (((ji9)).toNat * 12)).off + 11, none⟩ = some (.slice ((rd_T32 x0_2 (ji9)).f11).A ((rd_T32 x0_2 (ji9)).f11).n ((rd_T32 x0_2 (ji9)).f11).c)) (ds := []) #[false, false, false, false, false, false, false, false, false, false, false, false, false, false, false, false, false] (by kernel_rfl) rfl rfl ⟨hx267_0, hx267_1, hx267_2, hx267_3, hx267_4, hx267_5, hx267_6, hx267_7, hx267_8, hx267_9, hx267_10, hx267_11, hx268_0, hx268_1, hx268_2, hx268_3, hx268_4, hx268_5, hx268_6, hx268_7, hx268_8, hx268_9, hx268_10, hx268_11⟩ (fun hHeld => ?_); refine with_tabW slices_insertionSortCmpFunc_Job__job_Due_1.tab4 slices_insertionSortCmpFunc_Job__job_Due_1.bits4 (fun HT_ HW_ => ?_)
            generalize wr.drew = w22 at HO_0 HK HB hx267_0 hx267_1 hx267_10 hx267_11 hx267_2 hx267_3 hx267_4 hx267_5 hx267_6 hx267_7 hx267_8 hx267_9 hx268_0 hx268_1 hx268_10 hx268_11 hx268_2 hx268_3 hx268_4 hx268_5 hx268_6 hx268_7 hx268_8 hx268_9 hHeld ⊢
            refine plan_ [(0, 18), (1, 19), (2, 20), (3, 21), (4, 22), (5, 23), (6, 24), (7, 25), (9, 27), (10, 28), (11, 29), (12, 30)] ?_
            iterate 12 (refine planP_ (v := ?_) (a' := ?_) rfl rfl (any_of HT_.out (by kernel_rfl)) (fun _ _ _ h => h) (Or.inl ⟨by rfl, ?_⟩) ?_ ?_; rotate_left; (intro w'; go_simp; with_reducible rfl); rotate_left; (simp only [Act.put, List.setIfInBounds_toArray, List.set_cons_zero, List.set_cons_succ, i64_w, i32_w]; rfl))
            refine planEnd_ ?_
            refine plan_ [(8, 26), (13, 31)] ?_
            iterate 2 (refine planT_ (v := ?_) (a' := ?_) rfl rfl (take_ofW HT_.out HW_.out (by kernel_rfl)) (fun _ _ _ h => h) (Or.inl ⟨by rfl, ?_⟩) hHeld ?_ ?_; rotate_left; (rintro w' ⟨s0, s1, s2, s3, s4, s5, s6, s7, s8, s9, s10, s11, s12, s13, s14, s15, s16, s17, s18, s19, s20, s21, s22, s23⟩; go_simp; with_reducible rfl); rotate_left; (simp only [Act.put, List.setIfInBounds_toArray, List.set_cons_zero, List.set_cons_succ, i64_w, i32_w]; rfl))
            refine planEnd_ ?_
            refine one_ (i := 14) (N := some 32) #[true, true, true, true, true, true, true, true, true, true, true, true, true, true, true, false, false] rfl rfl (one_of HT_.out (by kernel_rfl)) (by decide) (fun K hK => ?_)
            refine goesV_ Try.func47 (by kernel_rfl) rfl #[.agg #[.int .i64 ((rd_T32 x0_2 x9_2).f0), .int .i64 ((rd_T32 x0_2 x9_2).f1), .int .i64 ((rd_T32 x0_2 x9_2).f2), .int .i64 ((rd_T32 x0_2 x9_2).f3), .int .i64 ((rd_T32 x0_2 x9_2).f4), .int .i64 ((rd_T32 x0_2 x9_2).f5), .int .i64 ((rd_T32 x0_2 x9_2).f6), .int .i64 ((rd_T32 x0_2 x9_2).f7), .int .i64 ((rd_T32 x0_2 x9_2).f8), .int .i64 ((rd_T32 x0_2 x9_2).f9), .int .i64 ((rd_T32 x0_2 x9_2).f10), .slice ((rd_T32 x0_2 x9_2).f11).A ((rd_T32 x0_2 x9_2).f11).n ((rd_T32 x0_2 x9_2).f11).c], .agg #[.int .i64 ((rd_T32 x0_2 (ji9)).f0), .int .i64 ((rd_T32 x0_2 (ji9)).f1), .int .i64 ((rd_T32 x0_2 (ji9)).f2), .int .i64 ((rd_T32 x0_2 (ji9)).f3), .int .i64 ((rd_T32 x0_2 (ji9)).f4), .int .i64 ((rd_T32 x0_2 (ji9)).f5), .int .i64 ((rd_T32 x0_2 (ji9)).f6), .int .i64 ((rd_T32 x0_2 (ji9)).f7), .int .i64 ((rd_T32 x0_2 (ji9)).f8), .int .i64 ((rd_T32 x0_2 (ji9)).f9), .int .i64 ((rd_T32 x0_2 (ji9)).f10), .slice ((rd_T32 x0_2 (ji9)).f11).A ((rd_T32 x0_2 (ji9)).f11).n ((rd_T32 x0_2 (ji9)).f11).c]] (by rfl) rfl rfl (by (try simp only [List.map_toArray, List.map_cons, List.map_nil]); first | done | (simp only [hji9]; rfl) | rfl | (simp only [List.length_drop, List.length_take]; rfl)) rfl ?_
            with_reducible refine (job_Due_1.calls ((rd_T32 x0_2 x9_2).f0) ((rd_T32 x0_2 x9_2).f1) ((rd_T32 x0_2 x9_2).f2) ((rd_T32 x0_2 x9_2).f3) ((rd_T32 x0_2 x9_2).f4) ((rd_T32 x0_2 x9_2).f5) ((rd_T32 x0_2 x9_2).f6) ((rd_T32 x0_2 x9_2).f7) ((rd_T32 x0_2 x9_2).f8) ((rd_T32 x0_2 x9_2).f9) ((rd_T32 x0_2 x9_2).f10) ((rd_T32 x0_2 x9_2).f11) ((rd_T32 x0_2 (ji9)).f0) ((rd_T32 x0_2 (ji9)).f1) ((rd_T32 x0_2 (ji9)).f2) ((rd_T32 x0_2 (ji9)).f3) ((rd_T32 x0_2 (ji9)).f4) ((rd_T32 x0_2 (ji9)).f5) ((rd_T32 x0_2 (ji9)).f6) ((rd_T32 x0_2 (ji9)).f7) ((rd_T32 x0_2 (ji9)).f8) ((rd_T32 x0_2 (ji9)).f9) ((rd_T32 x0_2 (ji9)).f10) ((rd_T32 x0_2 (ji9)).f11) t269 _ A12.out).mono ?_
            rintro e w24 ⟨rfl, hb⟩
            have HS0_ := (hb.cell (World.block_lt_of_cell? _ _ (hHeld.1))).trans (hHeld.1)
            have HS1_ := (hb.cell (World.block_lt_of_cell? _ _ (hHeld.2.1))).trans (hHeld.2.1)
            have HS2_ := (hb.cell (World.block_lt_of_cell? _ _ (hHeld.2.2.1))).trans (hHeld.2.2.1)
            have HS3_ := (hb.cell (World.block_lt_of_cell? _ _ (hHeld.2.2.2.1))).trans (hHeld.2.2.2.1)
            have HS4_ := (hb.cell (World.block_lt_of_cell? _ _ (hHeld.2.2.2.2.1))).trans (hHeld.2.2.2.2.1)
            have HS5_ := (hb.cell (World.block_lt_of_cell? _ _ (hHeld.2.2.2.2.2.1))).trans (hHeld.2.2.2.2.2.1)
            have HS6_ := (hb.cell (World.block_lt_of_cell? _ _ (hHeld.2.2.2.2.2.2.1))).trans (hHeld.2.2.2.2.2.2.1)
            have HS7_ := (hb.cell (World.block_lt_of_cell? _ _ (hHeld.2.2.2.2.2.2.2.1))).trans (hHeld.2.2.2.2.2.2.2.1)
            have HS8_ := (hb.cell (World.block_lt_of_cell? _ _ (hHeld.2.2.2.2.2.2.2.2.1))).trans (hHeld.2.2.2.2.2.2.2.2.1)
            have HS9_ := (hb.cell (World.block_lt_of_cell? _ _ (hHeld.2.2.2.2.2.2.2.2.2.1))).trans (hHeld.2.2.2.2.2.2.2.2.2.1)
            have HS10_ := (hb.cell (World.block_lt_of_cell? _ _ (hHeld.2.2.2.2.2.2.2.2.2.2.1))).trans (hHeld.2.2.2.2.2.2.2.2.2.2.1)
            have HS11_ := (hb.cell (World.block_lt_of_cell? _ _ (hHeld.2.2.2.2.2.2.2.2.2.2.2.1))).trans (hHeld.2.2.2.2.2.2.2.2.2.2.2.1)
            have HS12_ := (hb.cell (World.block_lt_of_cell? _ _ (hHeld.2.2.2.2.2.2.2.2.2.2.2.2.1))).trans (hHeld.2.2.2.2.2.2.2.2.2.2.2.2.1)
            have HS13_ := (hb.cell (World.block_lt_of_cell? _ _ (hHeld.2.2.2.2.2.2.2.2.2.2.2.2.2.1))).trans (hHeld.2.2.2.2.2.2.2.2.2.2.2.2.2.1)
            have HS14_ := (hb.cell (World.block_lt_of_cell? _ _ (hHeld.2.2.2.2.2.2.2.2.2.2.2.2.2.2.1))).trans (hHeld.2.2.2.2.2.2.2.2.2.2.2.2.2.2.1)
            have HS15_ := (hb.cell (World.block_lt_of_cell? _ _ (hHeld.2.2.2.2.2.2.2.2.2.2.2.2.2.2.2.1))).trans (hHeld.2.2.2.2.2.2.2.2.2.2.2.2.2.2.2.1)
            have HS16_ := (hb.cell (World.block_lt_of_cell? _ _ (hHeld.2.2.2.2.2.2.2.2.2.2.2.2.2.2.2.2.1))).trans (hHeld.2.2.2.2.2.2.2.2.2.2.2.2.2.2.2.2.1)
            have HS17_ := (hb.cell (World.block_lt_of_cell? _ _ (hHeld.2.2.2.2.2.2.2.2.2.2.2.2.2.2.2.2.2.1))).trans (hHeld.2.2.2.2.2.2.2.2.2.2.2.2.2.2.2.2.2.1)
            have HS18_ := (hb.cell (World.block_lt_of_cell? _ _ (hHeld.2.2.2.2.2.2.2.2.2.2.2.2.2.2.2.2.2.2.1))).trans (hHeld.2.2.2.2.2.2.2.2.2.2.2.2.2.2.2.2.2.2.1)
            have HS19_ := (hb.cell (World.block_lt_of_cell? _ _ (hHeld.2.2.2.2.2.2.2.2.2.2.2.2.2.2.2.2.2.2.2.1))).trans (hHeld.2.2.2.2.2.2.2.2.2.2.2.2.2.2.2.2.2.2.2.1)
            have HS20_ := (hb.cell (World.block_lt_of_cell? _ _ (hHeld.2.2.2.2.2.2.2.2.2.2.2.2.2.2.2.2.2.2.2.2.1))).trans (hHeld.2.2.2.2.2.2.2.2.2.2.2.2.2.2.2.2.2.2.2.2.1)
            have HS21_ := (hb.cell (World.block_lt_of_cell? _ _ (hHeld.2.2.2.2.2.2.2.2.2.2.2.2.2.2.2.2.2.2.2.2.2.1))).trans (hHeld.2.2.2.2.2.2.2.2.2.2.2.2.2.2.2.2.2.2.2.2.2.1)
            have HS22_ := (hb.cell (World.block_lt_of_cell? _ _ (hHeld.2.2.2.2.2.2.2.2.2.2.2.2.2.2.2.2.2.2.2.2.2.2.1))).trans (hHeld.2.2.2.2.2.2.2.2.2.2.2.2.2.2.2.2.2.2.2.2.2.2.1)
            have HS23_ := (hb.cell (World.block_lt_of_cell? _ _ (hHeld.2.2.2.2.2.2.2.2.2.2.2.2.2.2.2.2.2.2.2.2.2.2.2))).trans (hHeld.2.2.2.2.2.2.2.2.2.2.2.2.2.2.2.2.2.2.2.2.2.2.2)
            refine ⟨_, rfl, ?_⟩
            have n0_ := Aside0.mk (Kd.R_below (mR HO_0.out) hb)
            have n1_ := Aside0.mk (Kept.below (S := (fun k_ => P0_ k_)) (mK HK.out) hb)
            have n2_ := Aside0.mk (below_step (mB HB.out) hb)
            clear HO_0; clear HK; clear HB
            have HO_0 := n0_
            have HK := n1_
            have HB := n2_
            clear n0_; clear n1_; clear n2_
            (try clear hb); (try clear hb2); (try clear hk); (try clear hi)
            refine hK.out _ _ ⟨HS0_, HS1_, HS2_, HS3_, HS4_, HS5_, HS6_, HS7_, HS8_, HS9_, HS10_, HS11_, HS12_, HS13_, HS14_, HS15_, HS16_, HS17_, HS18_, HS19_, HS20_, HS21_, HS22_, HS23_⟩ (fun hHeld => ?_)
            clear hK; clear K
            refine norm_ (a' := ?_) ?_ ?_
            rotate_left
            ·show Act.put _ (some 32) _ = _
             simp only [Act.put, List.setIfInBounds_toArray, List.set_cons_zero, List.set_cons_succ, i64_w, i32_w]
             rfl
            refine plan_ [(15, 33), (16, 34)] ?_
            iterate 2 (refine planP_ (v := ?_) (a' := ?_) rfl rfl (any_of HT_.out (by kernel_rfl)) (fun _ _ _ h => h) (Or.inl ⟨by rfl, ?_⟩) ?_ ?_; rotate_left; (intro w'; go_simp; with_reducible rfl); rotate_left; (simp only [Act.put, List.setIfInBounds_toArray, List.set_cons_zero, List.set_cons_succ, i64_w, i32_w]; rfl))
            refine planEnd_ ?_
            refine done_ (done_of HT_.out (by kernel_rfl)) ?_
            try go_wp2
            go_roundg k2
            case measure => have := HK1.out; have := HK2.out; omega
            case rel => exact ⟨(x0_2), (wrap64 (x8_1 + 1)), ez, H', ⟨by have := HK1.out; have := HK2.out; omega⟩, ⟨mR HO_0.out⟩, ⟨mK HK.out⟩, ⟨mB HB.out⟩⟩
          ·rw [if_neg c11] at H
           exact absurd H (by simp)
         ·rw [if_neg c10] at H
          exact absurd H (by simp)
        ·rw [if_neg c8] at H
         exact absurd H (by simp)
       ·rw [if_neg c7] at H
        exact absurd H (by simp)
      ·rw [if_neg c6] at H
       have c6b0 : decide (a1 < x9_2) = false := decide_eq_false c6
       clear c6
       have H' := Aside0.mk H
       clear H
       try go_wp2
       have n0_ := Aside0.mk (Kd.R_drew HO_0.out)
       have n1_ := Aside0.mk (Kept.drew HK.out)
       have n2_ := Aside0.mk (below_drew1 HB.out)
       clear HO_0; clear HK; clear HB
       have HO_0 := n0_
       have HK := n1_
       have HB := n2_
       clear n0_; clear n1_; clear n2_
       refine start_ (n := 17) (S := fun w' => True) (ds := []) #[false, false, false, false, false, false, false, false, false, false, false, false, false, false, false, false, false] (by kernel_rfl) rfl rfl trivial (fun hHeld => ?_); refine with_tabW slices_insertionSortCmpFunc_Job__job_Due_1.tab4 slices_insertionSortCmpFunc_Job__job_Due_1.bits4 (fun HT_ HW_ => ?_)
       generalize wr.drew = w25 at HO_0 HK HB hHeld ⊢
       refine plan_ [(0, 18), (1, 19), (2, 20), (3, 21)] ?_
       iterate 4 (refine planP_ (v := ?_) (a' := ?_) rfl rfl (any_of HT_.out (by kernel_rfl)) (fun _ _ _ h => h) (Or.inl ⟨by rfl, ?_⟩) ?_ ?_; rotate_left; (intro w'; go_simp; with_reducible rfl); rotate_left; (simp only [Act.put, List.setIfInBounds_toArray, List.set_cons_zero, List.set_cons_succ, i64_w, i32_w]; rfl))
       refine planEnd_ ?_
       refine plan_ [(4, 22), (5, 23), (6, 24), (7, 25), (8, 26), (9, 27), (10, 28), (11, 29), (12, 30), (13, 31), (14, 32), (15, 33)] ?_
       iterate 12 (refine planP_ (v := undef) (a' := ?_) rfl rfl (any_of HT_.out (by kernel_rfl)) (fun _ _ _ h => h) (Or.inr ⟨by rfl, rfl⟩) ?_ ?_; rotate_left; (simp only [Act.put, List.setIfInBounds_toArray, List.set_cons_zero, List.set_cons_succ, i64_w, i32_w]; rfl))
       refine planEnd_ ?_
       refine plan_ [(16, 34)] ?_
       refine planP_ (v := ?_) (a' := ?_) rfl rfl (any_of HT_.out (by kernel_rfl)) (fun _ _ _ h => h) (Or.inl ⟨by rfl, ?_⟩) ?_ ?_; rotate_left; (intro w'; go_simp; with_reducible rfl); rotate_left; (simp only [Act.put, List.setIfInBounds_toArray, List.set_cons_zero, List.set_cons_succ, i64_w, i32_w]; rfl)
       refine planEnd_ ?_
       refine done_ (done_of HT_.out (by kernel_rfl)) ?_
       try go_wp2
       go_roundg k2
       case measure => have := HK1.out; have := HK2.out; omega
       case rel => exact ⟨(x0_2), (wrap64 (x8_1 + 1)), ez, H', ⟨by have := HK1.out; have := HK2.out; omega⟩, ⟨mR HO_0.out⟩, ⟨mK HK.out⟩, ⟨mB HB.out⟩⟩
   ·rw [if_neg c5] at H
    have c5b0 : decide (x8_1 < a2) = false := decide_eq_false c5
    clear c5
    obtain rfl := Option.some.inj H
    go_wp2
    first | go_end0 | ((try simp only [Exit.inBlock, Exit.then]); refine bodyPost_ret (results_none rfl _ _ _) rfl ?_)
    exact ⟨by first | rfl | (simp [errW_none, errW_some] <;> rfl) | (simp [*, errW_none, errW_some] <;> rfl), mR HO_0.out, by repeat (first | (with_reducible first | exact HB.out | apply below_alloc | apply pw_below_drewN | apply below_drew1) | exact HB.out), by repeat (first | (with_reducible first | exact HK.out | apply Kept.alloc | apply Kept.drewN | apply Kept.drew) | exact HK.out)⟩

end Go.Proofs.Ytkhfgflcanmefaa.PAll
end
