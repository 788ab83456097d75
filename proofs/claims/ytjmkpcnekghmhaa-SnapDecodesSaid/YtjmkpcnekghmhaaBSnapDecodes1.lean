/- Words, plain functions and contracts of the functions that the law of this claim reaches; no conditions. -/
import Derived.Test.YtjmkpcnekghmhaaBSnapDecodes0
import Derived.Test.YtjmkpcnekghmhaaProg
import Derived.Lib.SliceRun
import Derived.Lib.AppendZerosOnto
import Derived.Deep.DeepAppendWide
import Derived.ScopeJumps
import Derived.WalkMore
section
namespace Go.Proofs.Ytjmkpcnekghmhaa.PAll
open Go.RowKit Go.Proofs.YtjmkpcnekghmhaaW.PrintWords Go.Proofs.YtjmkpcnekghmhaaW.PrintLast Go.Proofs.YtjmkpcnekghmhaaW.PrintMore
attribute [local go_sem] max2_int min2_int max_two min_two max_three min_three max_four min_four   -- for this text's walks alone
set_option linter.unusedVariables false
set_option linter.unusedSimpArgs false



def errW : Option Int → Value
  | none => .nilIface
  | some c => .iface 0 (.int .i64 c)
theorem errW_none : errW none = .nilIface := rfl
theorem errW_some (c : Int) : errW (some c) = .iface 0 (.int .i64 c) := rfl

theorem info3 : (Try.prog.info? 3).map (fun i => (i.zero, i.size, i.bytes)) = some (some (.int .i64 0), 1, 8) := by kernel_rfl
theorem info5 : (Try.prog.info? 5).map (fun i => (i.zero, i.size, i.bytes)) = some (some (.int .u8 0), 1, 1) := by kernel_rfl
def rd_L1 (xs : List (List Int)) (i : Int) : (List Int) := xs.getD i.toNat ([] : List Int)
structure S34 where
  f0 : Bool
  f1 : Int
def z34 : S34 := ⟨false, (0 : Int)⟩
def k34 : Kd S34 := Kd.iso (Kd.pair Kd.bool (Kd.int .i64)) (fun x : S34 => (x.f0, x.f1))
def rd_T34 (xs : List S34) (i : Int) : S34 := xs.getD i.toNat z34
def rd_L6 (xs : List (List S34)) (i : Int) : (List S34) := xs.getD i.toNat ([] : List S34)
def rd_L7 (xs : List (List Int)) (i : Int) : (List Int) := xs.getD i.toNat ([] : List Int)
def rd_L8 (xs : List (List ByteArray)) (i : Int) : (List ByteArray) := xs.getD i.toNat ([] : List ByteArray)
structure S87 where
  f0 : Int
  f1 : Int
def z87 : S87 := ⟨(0 : Int), (0 : Int)⟩
def k87 : Kd S87 := Kd.iso (Kd.pair (Kd.int .i64) (Kd.int .i64)) (fun x : S87 => (x.f0, x.f1))
def rd_T87 (xs : List S87) (i : Int) : S87 := xs.getD i.toNat z87
def rd_L11 (xs : List (List S87)) (i : Int) : (List S87) := xs.getD i.toNat ([] : List S87)
structure S50 where
  f0 : Int
  f1 : Int
  f2 : Int
  f3 : ByteArray
  f4 : ByteArray
  f5 : (List Int)
  f6 : (List S87)
def z50 : S50 := ⟨(0 : Int), (0 : Int), (0 : Int), (⟨#[]⟩ : ByteArray), (⟨#[]⟩ : ByteArray), ([] : List Int), ([] : List S87)⟩
def k50 : Kd S50 := Kd.iso (Kd.pair (Kd.int .i64) (Kd.pair (Kd.int .i64) (Kd.pair (Kd.int .i64) (Kd.pair Kd.string (Kd.pair Kd.string (Kd.pair (Kd.slice 3 (Kd.int .i64)) (Kd.slice 87 k87))))))) (fun x : S50 => (x.f0, x.f1, x.f2, x.f3, x.f4, x.f5, x.f6))
def rd_T50 (xs : List S50) (i : Int) : S50 := xs.getD i.toNat z50
structure S102 where
  f0 : Int
  f1 : Int
def z102 : S102 := ⟨(0 : Int), (0 : Int)⟩
def k102 : Kd S102 := Kd.iso (Kd.pair (Kd.int .i64) (Kd.int .i64)) (fun x : S102 => (x.f0, x.f1))
theorem k102_open {w : World} {x : S102} {cs : List Value} (h : k102.K w x cs) : cs = [.int .i64 x.f0, .int .i64 x.f1] := by
  obtain ⟨_, _, rfl, rfl, rfl⟩ := h
  exact rfl
theorem k102_mkM (w : World) (base : Nat) (ok : Nat → Prop) (x : S102)  : k102.M w base ok x [.int .i64 x.f0, .int .i64 x.f1] := ⟨[.int .i64 x.f0], [.int .i64 x.f1], rfl, rfl, rfl⟩
def rd_T102 (xs : List S102) (i : Int) : S102 := xs.getD i.toNat z102
theorem at_T102 {w : World} {A : Option Addr} {n : Nat} {xs : List S102} (h : Kd.C k102 w A n xs) (i : Int) (h0 : 0 ≤ i) (h1 : i < n) : ∃ ad , A = some ad ∧ w.cell? (ad.add (i.toNat * 2)) = some (.int .i64 (rd_T102 xs i).f0) ∧ w.cell? ⟨(ad.add (i.toNat * 2)).block, (ad.add (i.toNat * 2)).off + 1, none⟩ = some (.int .i64 (rd_T102 xs i).f1) := by
  obtain ⟨ad, c, e, _, hK, hc0⟩ := Kd.C_get h z102 i h0 h1
  have hc : ∀ j u, c[j]? = some u → w.cell? (ad.add (i.toNat * 2 + j)) = some u := hc0
  obtain rfl := k102_open hK
  exact ⟨ad, e, hc 0 _ rfl, by rw [← add_field _ _ 1 (by omega)]; exact hc 1 _ rfl⟩

structure S93 where
  f0 : ByteArray
  f1 : Int
  f2 : Int
def z93 : S93 := ⟨(⟨#[]⟩ : ByteArray), (0 : Int), (0 : Int)⟩
def k93 : Kd S93 := Kd.iso (Kd.pair Kd.string (Kd.pair (Kd.int .i64) (Kd.int .i64))) (fun x : S93 => (x.f0, x.f1, x.f2))
theorem k93_open {w : World} {x : S93} {cs : List Value} (h : k93.K w x cs) : cs = [.string x.f0, .int .i64 x.f1, .int .i64 x.f2] := by
  obtain ⟨_, _, rfl, rfl, ⟨_, _, rfl, rfl, rfl⟩⟩ := h
  exact rfl
theorem k93_mkM (w : World) (base : Nat) (ok : Nat → Prop) (x : S93)  : k93.M w base ok x [.string x.f0, .int .i64 x.f1, .int .i64 x.f2] := ⟨[.string x.f0], [.int .i64 x.f1, .int .i64 x.f2], rfl, rfl, ⟨[.int .i64 x.f1], [.int .i64 x.f2], rfl, rfl, rfl⟩⟩
def rd_T93 (xs : List S93) (i : Int) : S93 := xs.getD i.toNat z93
theorem at_T93 {w : World} {A : Option Addr} {n : Nat} {xs : List S93} (h : Kd.C k93 w A n xs) (i : Int) (h0 : 0 ≤ i) (h1 : i < n) : ∃ ad , A = some ad ∧ w.cell? (ad.add (i.toNat * 3)) = some (.string (rd_T93 xs i).f0) ∧ w.cell? ⟨(ad.add (i.toNat * 3)).block, (ad.add (i.toNat * 3)).off + 1, none⟩ = some (.int .i64 (rd_T93 xs i).f1) ∧ w.cell? ⟨(ad.add (i.toNat * 3)).block, (ad.add (i.toNat * 3)).off + 2, none⟩ = some (.int .i64 (rd_T93 xs i).f2) := by
  obtain ⟨ad, c, e, _, hK, hc0⟩ := Kd.C_get h z93 i h0 h1
  have hc : ∀ j u, c[j]? = some u → w.cell? (ad.add (i.toNat * 3 + j)) = some u := hc0
  obtain rfl := k93_open hK
  exact ⟨ad, e, hc 0 _ rfl, by rw [← add_field _ _ 1 (by omega)]; exact hc 1 _ rfl, by rw [← add_field _ _ 2 (by omega)]; exact hc 2 _ rfl⟩

def rd_L15 (xs : List (List S102)) (i : Int) : (List S102) := xs.getD i.toNat ([] : List S102)
structure S100 where
  f0 : Int
  f1 : Int
  f2 : Int
  f3 : Int
  f4 : Int
  f5 : Int
  f6 : Int
  f7 : Int
  f8 : Int
  f9 : Int
  f10 : Int
  f11 : (List S102)
def z100 : S100 := ⟨(0 : Int), (0 : Int), (0 : Int), (0 : Int), (0 : Int), (0 : Int), (0 : Int), (0 : Int), (0 : Int), (0 : Int), (0 : Int), ([] : List S102)⟩
def k100 : Kd S100 := Kd.iso (Kd.pair (Kd.int .i64) (Kd.pair (Kd.int .i64) (Kd.pair (Kd.int .i64) (Kd.pair (Kd.int .i64) (Kd.pair (Kd.int .i64) (Kd.pair (Kd.int .i64) (Kd.pair (Kd.int .i64) (Kd.pair (Kd.int .i64) (Kd.pair (Kd.int .i64) (Kd.pair (Kd.int .i64) (Kd.pair (Kd.int .i64) (Kd.slice 102 k102)))))))))))) (fun x : S100 => (x.f0, x.f1, x.f2, x.f3, x.f4, x.f5, x.f6, x.f7, x.f8, x.f9, x.f10, x.f11))
theorem k100_open {w : World} {x : S100} {cs : List Value} (h : k100.K w x cs) : ∃ A11 c11, cs = [.int .i64 x.f0, .int .i64 x.f1, .int .i64 x.f2, .int .i64 x.f3, .int .i64 x.f4, .int .i64 x.f5, .int .i64 x.f6, .int .i64 x.f7, .int .i64 x.f8, .int .i64 x.f9, .int .i64 x.f10, .slice A11 x.f11.length c11] ∧ x.f11.length ≤ c11 ∧ k102.C w A11 x.f11.length x.f11 := by
  obtain ⟨_, _, rfl, rfl, ⟨_, _, rfl, rfl, ⟨_, _, rfl, rfl, ⟨_, _, rfl, rfl, ⟨_, _, rfl, rfl, ⟨_, _, rfl, rfl, ⟨_, _, rfl, rfl, ⟨_, _, rfl, rfl, ⟨_, _, rfl, rfl, ⟨_, _, rfl, rfl, ⟨_, _, rfl, rfl, ⟨A11, c11, rfl, l11, g11⟩⟩⟩⟩⟩⟩⟩⟩⟩⟩⟩⟩ := h
  exact ⟨A11, c11, rfl, l11, g11⟩
theorem k100_mk (w : World) (x : S100) {A11 : Option Addr} {c11 : Nat} (l11 : x.f11.length ≤ c11) (g11 : k102.C w A11 x.f11.length x.f11) : k100.K w x [.int .i64 x.f0, .int .i64 x.f1, .int .i64 x.f2, .int .i64 x.f3, .int .i64 x.f4, .int .i64 x.f5, .int .i64 x.f6, .int .i64 x.f7, .int .i64 x.f8, .int .i64 x.f9, .int .i64 x.f10, .slice A11 x.f11.length c11] := ⟨[.int .i64 x.f0], [.int .i64 x.f1, .int .i64 x.f2, .int .i64 x.f3, .int .i64 x.f4, .int .i64 x.f5, .int .i64 x.f6, .int .i64 x.f7, .int .i64 x.f8, .int .i64 x.f9, .int .i64 x.f10, .slice A11 x.f11.length c11], rfl, rfl, ⟨[.int .i64 x.f1], [.int .i64 x.f2, .int .i64 x.f3, .int .i64 x.f4, .int .i64 x.f5, .int .i64 x.f6, .int .i64 x.f7, .int .i64 x.f8, .int .i64 x.f9, .int .i64 x.f10, .slice A11 x.f11.length c11], rfl, rfl, ⟨[.int .i64 x.f2], [.int .i64 x.f3, .int .i64 x.f4, .int .i64 x.f5, .int .i64 x.f6, .int .i64 x.f7, .int .i64 x.f8, .int .i64 x.f9, .int .i64 x.f10, .slice A11 x.f11.length c11], rfl, rfl, ⟨[.int .i64 x.f3], [.int .i64 x.f4, .int .i64 x.f5, .int .i64 x.f6, .int .i64 x.f7, .int .i64 x.f8, .int .i64 x.f9, .int .i64 x.f10, .slice A11 x.f11.length c11], rfl, rfl, ⟨[.int .i64 x.f4], [.int .i64 x.f5, .int .i64 x.f6, .int .i64 x.f7, .int .i64 x.f8, .int .i64 x.f9, .int .i64 x.f10, .slice A11 x.f11.length c11], rfl, rfl, ⟨[.int .i64 x.f5], [.int .i64 x.f6, .int .i64 x.f7, .int .i64 x.f8, .int .i64 x.f9, .int .i64 x.f10, .slice A11 x.f11.length c11], rfl, rfl, ⟨[.int .i64 x.f6], [.int .i64 x.f7, .int .i64 x.f8, .int .i64 x.f9, .int .i64 x.f10, .slice A11 x.f11.length c11], rfl, rfl, ⟨[.int .i64 x.f7], [.int .i64 x.f8, .int .i64 x.f9, .int .i64 x.f10, .slice A11 x.f11.length c11], rfl, rfl, ⟨[.int .i64 x.f8], [.int .i64 x.f9, .int .i64 x.f10, .slice A11 x.f11.length c11], rfl, rfl, ⟨[.int .i64 x.f9], [.int .i64 x.f10, .slice A11 x.f11.length c11], rfl, rfl, ⟨[.int .i64 x.f10], [.slice A11 x.f11.length c11], rfl, rfl, ⟨A11, c11, rfl, l11, g11⟩⟩⟩⟩⟩⟩⟩⟩⟩⟩⟩⟩
theorem k100_mkM (w : World) (base : Nat) (ok : Nat → Prop) (x : S100) {v11 : Value} (g11 : k102.R 102 w base ok v11 x.f11) : k100.M w base ok x [.int .i64 x.f0, .int .i64 x.f1, .int .i64 x.f2, .int .i64 x.f3, .int .i64 x.f4, .int .i64 x.f5, .int .i64 x.f6, .int .i64 x.f7, .int .i64 x.f8, .int .i64 x.f9, .int .i64 x.f10, v11] := ⟨[.int .i64 x.f0], [.int .i64 x.f1, .int .i64 x.f2, .int .i64 x.f3, .int .i64 x.f4, .int .i64 x.f5, .int .i64 x.f6, .int .i64 x.f7, .int .i64 x.f8, .int .i64 x.f9, .int .i64 x.f10, v11], rfl, rfl, ⟨[.int .i64 x.f1], [.int .i64 x.f2, .int .i64 x.f3, .int .i64 x.f4, .int .i64 x.f5, .int .i64 x.f6, .int .i64 x.f7, .int .i64 x.f8, .int .i64 x.f9, .int .i64 x.f10, v11], rfl, rfl, ⟨[.int .i64 x.f2], [.int .i64 x.f3, .int .i64 x.f4, .int .i64 x.f5, .int .i64 x.f6, .int .i64 x.f7, .int .i64 x.f8, .int .i64 x.f9, .int .i64 x.f10, v11], rfl, rfl, ⟨[.int .i64 x.f3], [.int .i64 x.f4, .int .i64 x.f5, .int .i64 x.f6, .int .i64 x.f7, .int .i64 x.f8, .int .i64 x.f9, .int .i64 x.f10, v11], rfl, rfl, ⟨[.int .i64 x.f4], [.int .i64 x.f5, .int .i64 x.f6, .int .i64 x.f7, .int .i64 x.f8, .int .i64 x.f9, .int .i64 x.f10, v11], rfl, rfl, ⟨[.int .i64 x.f5], [.int .i64 x.f6, .int .i64 x.f7, .int .i64 x.f8, .int .i64 x.f9, .int .i64 x.f10, v11], rfl, rfl, ⟨[.int .i64 x.f6], [.int .i64 x.f7, .int .i64 x.f8, .int .i64 x.f9, .int .i64 x.f10, v11], rfl, rfl, ⟨[.int .i64 x.f7], [.int .i64 x.f8, .int .i64 x.f9, .int .i64 x.f10, v11], rfl, rfl, ⟨[.int .i64 x.f8], [.int .i64 x.f9, .int .i64 x.f10, v11], rfl, rfl, ⟨[.int .i64 x.f9], [.int .i64 x.f10, v11], rfl, rfl, ⟨[.int .i64 x.f10], [v11], rfl, rfl, ⟨v11, rfl, g11⟩⟩⟩⟩⟩⟩⟩⟩⟩⟩⟩⟩
theorem k100_mkF (W : World) (ok : Nat → Prop) (x : S100) {A11 : Option Addr} {c11 : Nat} (l11 : x.f11.length ≤ c11) (g11 : Kd.F k102 W ok A11 x.f11.length x.f11) : Kd.FK k100 W ok x [.int .i64 x.f0, .int .i64 x.f1, .int .i64 x.f2, .int .i64 x.f3, .int .i64 x.f4, .int .i64 x.f5, .int .i64 x.f6, .int .i64 x.f7, .int .i64 x.f8, .int .i64 x.f9, .int .i64 x.f10, .slice A11 x.f11.length c11] := fun W2 hW => k100_mk W2 x l11 (g11 W2 hW)
def rd_T100 (xs : List S100) (i : Int) : S100 := xs.getD i.toNat z100
theorem at_T100 {w : World} {A : Option Addr} {n : Nat} {xs : List S100} (h : Kd.C k100 w A n xs) (i : Int) (h0 : 0 ≤ i) (h1 : i < n) : ∃ ad A11 c11, A = some ad ∧ w.cell? (ad.add (i.toNat * 12)) = some (.int .i64 (rd_T100 xs i).f0) ∧ w.cell? ⟨(ad.add (i.toNat * 12)).block, (ad.add (i.toNat * 12)).off + 1, none⟩ = some (.int .i64 (rd_T100 xs i).f1) ∧ w.cell? ⟨(ad.add (i.toNat * 12)).block, (ad.add (i.toNat * 12)).off + 2, none⟩ = some (.int .i64 (rd_T100 xs i).f2) ∧ w.cell? ⟨(ad.add (i.toNat * 12)).block, (ad.add (i.toNat * 12)).off + 3, none⟩ = some (.int .i64 (rd_T100 xs i).f3) ∧ w.cell? ⟨(ad.add (i.toNat * 12)).block, (ad.add (i.toNat * 12)).off + 4, none⟩ = some (.int .i64 (rd_T100 xs i).f4) ∧ w.cell? ⟨(ad.add (i.toNat * 12)).block, (ad.add (i.toNat * 12)).off + 5, none⟩ = some (.int .i64 (rd_T100 xs i).f5) ∧ w.cell? ⟨(ad.add (i.toNat * 12)).block, (ad.add (i.toNat * 12)).off + 6, none⟩ = some (.int .i64 (rd_T100 xs i).f6) ∧ w.cell? ⟨(ad.add (i.toNat * 12)).block, (ad.add (i.toNat * 12)).off + 7, none⟩ = some (.int .i64 (rd_T100 xs i).f7) ∧ w.cell? ⟨(ad.add (i.toNat * 12)).block, (ad.add (i.toNat * 12)).off + 8, none⟩ = some (.int .i64 (rd_T100 xs i).f8) ∧ w.cell? ⟨(ad.add (i.toNat * 12)).block, (ad.add (i.toNat * 12)).off + 9, none⟩ = some (.int .i64 (rd_T100 xs i).f9) ∧ w.cell? ⟨(ad.add (i.toNat * 12)).block, (ad.add (i.toNat * 12)).off + 10, none⟩ = some (.int .i64 (rd_T100 xs i).f10) ∧ w.cell? ⟨(ad.add (i.toNat * 12)).block, (ad.add (i.toNat * 12)).off + 11, none⟩ = some (.slice A11 (rd_T100 xs i).f11.length c11) ∧ (rd_T100 xs i).f11.length ≤ c11 ∧ k102.C w A11 (rd_T100 xs i).f11.length (rd_T100 xs i).f11 := by
  obtain ⟨ad, c, e, _, hK, hc0⟩ := Kd.C_get h z100 i h0 h1
  have hc : ∀ j u, c[j]? = some u → w.cell? (ad.add (i.toNat * 12 + j)) = some u := hc0
  obtain ⟨A11, c11, rfl, l11, g11⟩ := k100_open hK
  exact ⟨ad, A11, c11, e, hc 0 _ rfl, by rw [← add_field _ _ 1 (by omega)]; exact hc 1 _ rfl, by rw [← add_field _ _ 2 (by omega)]; exact hc 2 _ rfl, by rw [← add_field _ _ 3 (by omega)]; exact hc 3 _ rfl, by rw [← add_field _ _ 4 (by omega)]; exact hc 4 _ rfl, by rw [← add_field _ _ 5 (by omega)]; exact hc 5 _ rfl, by rw [← add_field _ _ 6 (by omega)]; exact hc 6 _ rfl, by rw [← add_field _ _ 7 (by omega)]; exact hc 7 _ rfl, by rw [← add_field _ _ 8 (by omega)]; exact hc 8 _ rfl, by rw [← add_field _ _ 9 (by omega)]; exact hc 9 _ rfl, by rw [← add_field _ _ 10 (by omega)]; exact hc 10 _ rfl, by rw [← add_field _ _ 11 (by omega)]; exact hc 11 _ rfl, l11, g11⟩

structure S95 where
  f0 : Int
  f1 : Int
  f2 : Int
  f3 : Int
  f4 : Int
  f5 : Int
def z95 : S95 := ⟨(0 : Int), (0 : Int), (0 : Int), (0 : Int), (0 : Int), (0 : Int)⟩
def k95 : Kd S95 := Kd.iso (Kd.pair (Kd.int .i64) (Kd.pair (Kd.int .i64) (Kd.pair (Kd.int .i64) (Kd.pair (Kd.int .i64) (Kd.pair (Kd.int .i64) (Kd.int .i64)))))) (fun x : S95 => (x.f0, x.f1, x.f2, x.f3, x.f4, x.f5))
theorem k95_open {w : World} {x : S95} {cs : List Value} (h : k95.K w x cs) : cs = [.int .i64 x.f0, .int .i64 x.f1, .int .i64 x.f2, .int .i64 x.f3, .int .i64 x.f4, .int .i64 x.f5] := by
  obtain ⟨_, _, rfl, rfl, ⟨_, _, rfl, rfl, ⟨_, _, rfl, rfl, ⟨_, _, rfl, rfl, ⟨_, _, rfl, rfl, rfl⟩⟩⟩⟩⟩ := h
  exact rfl
theorem k95_mkM (w : World) (base : Nat) (ok : Nat → Prop) (x : S95)  : k95.M w base ok x [.int .i64 x.f0, .int .i64 x.f1, .int .i64 x.f2, .int .i64 x.f3, .int .i64 x.f4, .int .i64 x.f5] := ⟨[.int .i64 x.f0], [.int .i64 x.f1, .int .i64 x.f2, .int .i64 x.f3, .int .i64 x.f4, .int .i64 x.f5], rfl, rfl, ⟨[.int .i64 x.f1], [.int .i64 x.f2, .int .i64 x.f3, .int .i64 x.f4, .int .i64 x.f5], rfl, rfl, ⟨[.int .i64 x.f2], [.int .i64 x.f3, .int .i64 x.f4, .int .i64 x.f5], rfl, rfl, ⟨[.int .i64 x.f3], [.int .i64 x.f4, .int .i64 x.f5], rfl, rfl, ⟨[.int .i64 x.f4], [.int .i64 x.f5], rfl, rfl, rfl⟩⟩⟩⟩⟩
def rd_T95 (xs : List S95) (i : Int) : S95 := xs.getD i.toNat z95
theorem at_T95 {w : World} {A : Option Addr} {n : Nat} {xs : List S95} (h : Kd.C k95 w A n xs) (i : Int) (h0 : 0 ≤ i) (h1 : i < n) : ∃ ad , A = some ad ∧ w.cell? (ad.add (i.toNat * 6)) = some (.int .i64 (rd_T95 xs i).f0) ∧ w.cell? ⟨(ad.add (i.toNat * 6)).block, (ad.add (i.toNat * 6)).off + 1, none⟩ = some (.int .i64 (rd_T95 xs i).f1) ∧ w.cell? ⟨(ad.add (i.toNat * 6)).block, (ad.add (i.toNat * 6)).off + 2, none⟩ = some (.int .i64 (rd_T95 xs i).f2) ∧ w.cell? ⟨(ad.add (i.toNat * 6)).block, (ad.add (i.toNat * 6)).off + 3, none⟩ = some (.int .i64 (rd_T95 xs i).f3) ∧ w.cell? ⟨(ad.add (i.toNat * 6)).block, (ad.add (i.toNat * 6)).off + 4, none⟩ = some (.int .i64 (rd_T95 xs i).f4) ∧ w.cell? ⟨(ad.add (i.toNat * 6)).block, (ad.add (i.toNat * 6)).off + 5, none⟩ = some (.int .i64 (rd_T95 xs i).f5) := by
  obtain ⟨ad, c, e, _, hK, hc0⟩ := Kd.C_get h z95 i h0 h1
  have hc : ∀ j u, c[j]? = some u → w.cell? (ad.add (i.toNat * 6 + j)) = some u := hc0
  obtain rfl := k95_open hK
  exact ⟨ad, e, hc 0 _ rfl, by rw [← add_field _ _ 1 (by omega)]; exact hc 1 _ rfl, by rw [← add_field _ _ 2 (by omega)]; exact hc 2 _ rfl, by rw [← add_field _ _ 3 (by omega)]; exact hc 3 _ rfl, by rw [← add_field _ _ 4 (by omega)]; exact hc 4 _ rfl, by rw [← add_field _ _ 5 (by omega)]; exact hc 5 _ rfl⟩

structure S97 where
  f0 : Int
  f1 : Int
  f2 : Int
def z97 : S97 := ⟨(0 : Int), (0 : Int), (0 : Int)⟩
def k97 : Kd S97 := Kd.iso (Kd.pair (Kd.int .i64) (Kd.pair (Kd.int .i64) (Kd.int .i64))) (fun x : S97 => (x.f0, x.f1, x.f2))
theorem k97_open {w : World} {x : S97} {cs : List Value} (h : k97.K w x cs) : cs = [.int .i64 x.f0, .int .i64 x.f1, .int .i64 x.f2] := by
  obtain ⟨_, _, rfl, rfl, ⟨_, _, rfl, rfl, rfl⟩⟩ := h
  exact rfl
theorem k97_mkM (w : World) (base : Nat) (ok : Nat → Prop) (x : S97)  : k97.M w base ok x [.int .i64 x.f0, .int .i64 x.f1, .int .i64 x.f2] := ⟨[.int .i64 x.f0], [.int .i64 x.f1, .int .i64 x.f2], rfl, rfl, ⟨[.int .i64 x.f1], [.int .i64 x.f2], rfl, rfl, rfl⟩⟩
def rd_T97 (xs : List S97) (i : Int) : S97 := xs.getD i.toNat z97
theorem at_T97 {w : World} {A : Option Addr} {n : Nat} {xs : List S97} (h : Kd.C k97 w A n xs) (i : Int) (h0 : 0 ≤ i) (h1 : i < n) : ∃ ad , A = some ad ∧ w.cell? (ad.add (i.toNat * 3)) = some (.int .i64 (rd_T97 xs i).f0) ∧ w.cell? ⟨(ad.add (i.toNat * 3)).block, (ad.add (i.toNat * 3)).off + 1, none⟩ = some (.int .i64 (rd_T97 xs i).f1) ∧ w.cell? ⟨(ad.add (i.toNat * 3)).block, (ad.add (i.toNat * 3)).off + 2, none⟩ = some (.int .i64 (rd_T97 xs i).f2) := by
  obtain ⟨ad, c, e, _, hK, hc0⟩ := Kd.C_get h z97 i h0 h1
  have hc : ∀ j u, c[j]? = some u → w.cell? (ad.add (i.toNat * 3 + j)) = some u := hc0
  obtain rfl := k97_open hK
  exact ⟨ad, e, hc 0 _ rfl, by rw [← add_field _ _ 1 (by omega)]; exact hc 1 _ rfl, by rw [← add_field _ _ 2 (by omega)]; exact hc 2 _ rfl⟩

def rd_L19 (xs : List (List S93)) (i : Int) : (List S93) := xs.getD i.toNat ([] : List S93)
def rd_L20 (xs : List (List S95)) (i : Int) : (List S95) := xs.getD i.toNat ([] : List S95)
def rd_L21 (xs : List (List S97)) (i : Int) : (List S97) := xs.getD i.toNat ([] : List S97)
def rd_L22 (xs : List (List S100)) (i : Int) : (List S100) := xs.getD i.toNat ([] : List S100)
structure S67 where
  f0 : Int
  f1 : Int
  f2 : Int
  f3 : (List S93)
  f4 : (List S95)
  f5 : (List S97)
  f6 : (List S100)
  f7 : (List ByteArray)
def z67 : S67 := ⟨(0 : Int), (0 : Int), (0 : Int), ([] : List S93), ([] : List S95), ([] : List S97), ([] : List S100), ([] : List ByteArray)⟩
def k67 : Kd S67 := Kd.iso (Kd.pair (Kd.int .i64) (Kd.pair (Kd.int .i64) (Kd.pair (Kd.int .i64) (Kd.pair (Kd.slice 93 k93) (Kd.pair (Kd.slice 95 k95) (Kd.pair (Kd.slice 97 k97) (Kd.pair (Kd.slice 100 k100) (Kd.slice 9 Kd.string)))))))) (fun x : S67 => (x.f0, x.f1, x.f2, x.f3, x.f4, x.f5, x.f6, x.f7))
def rd_T67 (xs : List S67) (i : Int) : S67 := xs.getD i.toNat z67
def g34 (x : S34) : Prop := (True) ∧ ((Lit.int .i64 x.f1).wf = true)
def g87 (x : S87) : Prop := ((Lit.int .i64 x.f0).wf = true) ∧ ((Lit.int .i64 x.f1).wf = true)
def g50 (x : S50) : Prop := ((Lit.int .i64 x.f0).wf = true) ∧ ((Lit.int .i64 x.f1).wf = true) ∧ ((Lit.int .i64 x.f2).wf = true) ∧ (x.f3.size ≤ maxLen) ∧ (x.f4.size ≤ maxLen) ∧ ((x.f5.length ≤ maxLen ∧ ∀ y ∈ x.f5, (Lit.int .i64 y).wf = true)) ∧ ((x.f6.length ≤ maxLen ∧ ∀ y ∈ x.f6, g87 y))
def g93 (x : S93) : Prop := (x.f0.size ≤ maxLen) ∧ ((Lit.int .i64 x.f1).wf = true) ∧ ((Lit.int .i64 x.f2).wf = true)
def g95 (x : S95) : Prop := ((Lit.int .i64 x.f0).wf = true) ∧ ((Lit.int .i64 x.f1).wf = true) ∧ ((Lit.int .i64 x.f2).wf = true) ∧ ((Lit.int .i64 x.f3).wf = true) ∧ ((Lit.int .i64 x.f4).wf = true) ∧ ((Lit.int .i64 x.f5).wf = true)
def g97 (x : S97) : Prop := ((Lit.int .i64 x.f0).wf = true) ∧ ((Lit.int .i64 x.f1).wf = true) ∧ ((Lit.int .i64 x.f2).wf = true)
def g102 (x : S102) : Prop := ((Lit.int .i64 x.f0).wf = true) ∧ ((Lit.int .i64 x.f1).wf = true)
def g100 (x : S100) : Prop := ((Lit.int .i64 x.f0).wf = true) ∧ ((Lit.int .i64 x.f1).wf = true) ∧ ((Lit.int .i64 x.f2).wf = true) ∧ ((Lit.int .i64 x.f3).wf = true) ∧ ((Lit.int .i64 x.f4).wf = true) ∧ ((Lit.int .i64 x.f5).wf = true) ∧ ((Lit.int .i64 x.f6).wf = true) ∧ ((Lit.int .i64 x.f7).wf = true) ∧ ((Lit.int .i64 x.f8).wf = true) ∧ ((Lit.int .i64 x.f9).wf = true) ∧ ((Lit.int .i64 x.f10).wf = true) ∧ ((x.f11.length ≤ maxLen ∧ ∀ y ∈ x.f11, g102 y))
def g67 (x : S67) : Prop := ((Lit.int .i64 x.f0).wf = true) ∧ ((Lit.int .i64 x.f1).wf = true) ∧ ((Lit.int .i64 x.f2).wf = true) ∧ ((x.f3.length ≤ maxLen ∧ ∀ y ∈ x.f3, g93 y)) ∧ ((x.f4.length ≤ maxLen ∧ ∀ y ∈ x.f4, g95 y)) ∧ ((x.f5.length ≤ maxLen ∧ ∀ y ∈ x.f5, g97 y)) ∧ ((x.f6.length ≤ maxLen ∧ ∀ y ∈ x.f6, g100 y)) ∧ ((x.f7.length ≤ maxLen ∧ ∀ y ∈ x.f7, y.size ≤ maxLen))
end Go.Proofs.Ytjmkpcnekghmhaa.PAll
end
section
namespace Go.Proofs.Ytjmkpcnekghmhaa.PAll
open Go.RowKit Go.Proofs.YtjmkpcnekghmhaaW.PrintWords Go.Proofs.YtjmkpcnekghmhaaW.PrintLast Go.Proofs.YtjmkpcnekghmhaaW.PrintMore
attribute [local go_sem] max2_int min2_int max_two min_two max_three min_three max_four min_four   -- for this text's walks alone
set_option linter.unusedVariables false
set_option linter.unusedSimpArgs false

def Plan (is : List (Nat × Nat)) (p : Prop) : Prop := p
theorem plan_ (is : List (Nat × Nat)) {p : Prop} (h : Plan is p) : p := h
theorem planEnd_ {p : Prop} (h : p) : Plan [] p := h
section
variable {P : Program} {ops : Array Oper} {Q : Exit → Act → World → Prop} {md : Region.Mode} {S : World → Prop} {ds : List Nat} {i N : Nat} {is : List (Nat × Nat)} {oi : Oper} {v : Value} {fuel : Nat} {l : Array Bool} {a : Act} {w : World}
theorem planP_ (hi : ops[i]? = some oi) (hN : oi.dst = some N) (hc : anyB md ops l (l.setIfInBounds i true) i = true) (hQ : ∀ c a w, Q (.panic c) (a.put oi.dst v) w → Q (.panic c) a w) (hy : Yields P ops oi v a) {a' : Act} (ha : a.put (some N) v = a')
    (h : Plan is (wpAnyLast P md ops Q S ds fuel (l.setIfInBounds i true) a' w)) : Plan ((i, N) :: is) (wpAnyLast P md ops Q S ds (fuel + 1) l a w) := pure_ _ hi hN hc hQ hy ha h
theorem planT_ (hi : ops[i]? = some oi) (hN : oi.dst = some N) (hc : takeB md ops ds l (l.setIfInBounds i true) i = true) (hQ : ∀ c a w, Q (.panic c) (a.put oi.dst v) w → Q (.panic c) a w) (hy : YieldsIf P ops S oi v a) (hS : S w) {a' : Act} (ha : a.put (some N) v = a')
    (h : Plan is (wpAnyLast P md ops Q S ds fuel (l.setIfInBounds i true) a' w)) : Plan ((i, N) :: is) (wpAnyLast P md ops Q S ds (fuel + 1) l a w) := take_ _ hi hN hc hQ hy hS ha h
end

theorem mB {p q : Prop} (h : p) (f : p → q := by intro h; repeat (first | (with_reducible first | exact h | apply below_alloc | apply pw_below_drewN | apply below_drew1) | exact h)) : q := f h
theorem mK {p q : Prop} (h : p) (f : p → q := by intro h; repeat (first | (with_reducible first | exact h | apply Kept.alloc | apply Kept.drewN | apply Kept.drew) | exact h)) : q := f h
theorem mR {p q : Prop} (h : p) (f : p → q := by intro h; (with_reducible repeat (first | apply Kd.R_alloc | apply Kd.R_drewN | apply Kd.R_drew)); exact h) : q := f h
theorem mV {p q : Prop} (h : p) (f : p → q := by intro h; (with_reducible repeat (first | apply Kd.V_alloc | apply Kd.V_drewN | apply Kd.V_drew)); exact h) : q := f h
theorem oda {p : Prop} [Decidable p] (h : decide p = true := by first | (with_reducible assumption) | assumption) : p := of_decide_eq_true h
theorem ez {p : Prop} (h : p := by first | rfl | (simp; done) | (simp [*]; done)) : p := h
theorem mBs {p q : Prop} (h : p) (f : p → q := by intro h; repeat (first | (with_reducible first | exact h | apply below_alloc | apply pw_below_drewN | apply below_drew1 | refine below_set ?_ (Aside0.out (by assumption))) | exact h)) : q := f h
theorem mBK {p q : Prop} (h : p) (f : p → q := by intro h; (with_reducible repeat first | apply blk_drewN | apply blk_drew | apply blk_alloc); exact h) : q := f h
theorem mC {p q : Prop} (h : p) (f : p → q := by intro h; repeat (first | exact h | (with_reducible refine Kd.C_alloc ?_ _) | (with_reducible refine Kd.C_drewN ?_ _) | (with_reducible refine Kd.C_drew ?_))) : q := f h
theorem mt {p : Prop} (h : p := by (try simp only [List.map_toArray, List.map_cons, List.map_nil]); first | done | rfl | (simp only [List.length_drop, List.length_take]; rfl)) : p := h
theorem mH {r p q : Prop} (hy : r) (H : p) (f : r → p → q := by intro hy H; first | (rw [hy]; with_reducible exact H) | (have H2_ := (Option.bind_some _ _).symm.trans H; rw [hy]; with_reducible exact H2_) | (have H2_ := (Option.bind_some _ _).symm.trans H; with_reducible exact H2_) | with_reducible exact H | (rw [hy]; exact H) | exact H) : q := f hy H
end Go.Proofs.Ytjmkpcnekghmhaa.PAll
end
section
namespace Go.Proofs.Ytjmkpcnekghmhaa.PAll
open Go.RowKit Go.Proofs.YtjmkpcnekghmhaaW.PrintWords Go.Proofs.YtjmkpcnekghmhaaW.PrintLast Go.Proofs.YtjmkpcnekghmhaaW.PrintMore
attribute [local go_sem] max2_int min2_int max_two min_two max_three min_three max_four min_four   -- for this text's walks alone
set_option linter.unusedVariables false
set_option linter.unusedSimpArgs false

def slices_Clone_byte.f (l0 : List Int) : Option (List Int) := (some (([] : List Int) : List Int)).bind fun y101 => (if y101.length + l0.length < 140737488355328 then (some (y101 ++ l0)) else (none))
set_option maxHeartbeats 8000000 in
set_option maxRecDepth 100000 in
theorem slices_Clone_byte.calls_some (ad0_ : Addr) (c0 : Nat) (l0 : List Int) (r : List Int) (w : World) (hr0 : Kd.C (Kd.int .u8) w (some ad0_) l0.length l0) (hc0 : l0.length ≤ c0) (h : slices_Clone_byte.f l0 = some r) :
    Calls Try.prog 41 #[.slice (some ad0_) l0.length c0] w fun e w' => ∃ v0_ : Value, e = .returned (v0_) ∧ Kd.R (Kd.int .u8) 5 w' w.heap.size (fun _ => True) v0_ r ∧ Below w.heap.size w w' := by
  have HR0 := Aside0.mk hr0
  have HC0 := Aside0.mk hc0
  clear hr0 hc0
  have HB := Aside0.mk (Below.refl w.heap.size w)
  have H : ((some (([] : List Int) : List Int)).bind fun y101 => (if y101.length + l0.length < 140737488355328 then (some (y101 ++ l0)) else (none))) = some r := h
  clear h
  obtain ⟨y101, hy101⟩ : ∃ y_ : List Int, y_ = (([] : List Int)) := ⟨_, rfl⟩
  replace H : (if y101.length + l0.length < 140737488355328 then (some (y101 ++ l0)) else (none)) = some r := by first | (rw [hy101]; with_reducible exact H) | (have H2_ := (Option.bind_some _ _).symm.trans H; rw [hy101]; with_reducible exact H2_) | (have H2_ := (Option.bind_some _ _).symm.trans H; with_reducible exact H2_) | with_reducible exact H | (rw [hy101]; exact H) | exact H
  have Ny101 := Aside0.mk hy101
  clear hy101
  by_cases c2 : y101.length + l0.length < 140737488355328
  · rw [if_pos c2] at H
    have LMc2 := Aside0.mk c2
    clear c2
    obtain ⟨y104, hy104⟩ : ∃ y_ : List Int, y_ = (y101 ++ l0) := ⟨_, rfl⟩
    replace H : (some y104) = some r := by first | (rw [hy104]; with_reducible exact H) | (have H2_ := (Option.bind_some _ _).symm.trans H; rw [hy104]; with_reducible exact H2_) | (have H2_ := (Option.bind_some _ _).symm.trans H; with_reducible exact H2_) | with_reducible exact H | (rw [hy104]; exact H) | exact H
    have Ny104 := Aside0.mk hy104
    clear hy104
    obtain rfl := Option.some.inj H
    have hnil_ := fun (W : World) => Lib.run_eql_slice_nil (P := Try.prog) W 22 5 (some ad0_) l0.length c0 0 0 Try.underlying22
    go_enter Try.func41, Try.ntmps41
    go_wp2_with (first | ((with_reducible refine gate_dst (N := 5) rfl ?_); refine Kd.R_lit (Kd.int .u8) _ 5 ?hg (N := 5) ?hd (xs := ([] : List Int)) (inner := []) (ok := fun _ => True) (okp := fun _ => True) ?hr ?hp (fun _ hk => hk) trivial (Below.refl _ _) (Nat.le_refl _) (by simp) ?_; (case hd => rfl); (case hg => rfl); (case hr => first | (go_simp; done) | (go_simp; rfl)); (case hp => exact (Reps.none _ _)); intro v102 w3 ho4 hb hg_ hnew_; clear hg_ hnew_; (first | rw [← Ny101.out] at ho4 | (simp only [Int.reduceToNat] at ho4; rw [← Ny101.out] at ho4)); have n0_ := Aside0.mk (Kd.R_lower ho4 (below_size (by repeat (first | (with_reducible first | exact HB.out | apply below_alloc | apply pw_below_drewN | apply below_drew1) | exact HB.out)))); have n1_ := Aside0.mk (below_step (by repeat (first | (with_reducible first | exact HB.out | apply below_alloc | apply pw_below_drewN | apply below_drew1) | exact HB.out)) hb); clear HB; have HO103 := n0_; have HB := n1_; clear n0_ n1_; clear hb ho4) | ((with_reducible refine gate_builtin (b := .append) (xs := #[.tmp 5, .tmp 6]) rfl ?_); at_builtin; refine Kd.R_append_rows (Kd.int .u8) (w0 := w) w.heap.size rfl (.tmp 5) (.tmp 6) 22 5 (.int .u8 0) 1 rfl Try.underlying22 info5 rfl (by decide) (by omega) v102 y101 l0 _ _ _ (fun _ => True) (fun _ => False) rfl rfl ?aO ?aR (fun _ _ h => h) (fun _ h => h.elim) ?aF ?aB ?aS ?aL ?_; (case aR => repeat (first | exact (Kd.C_below HR0.out HB.out) | (with_reducible refine Kd.C_alloc ?_ _) | (with_reducible refine Kd.C_drewN ?_ _) | (with_reducible refine Kd.C_drew ?_))); (case aB => exact (by repeat (first | (with_reducible first | exact HB.out | apply below_alloc | apply pw_below_drewN | apply below_drew1) | exact HB.out))); (case aF => exact (fun _ _ => trivial)); (case aO => exact (by (with_reducible repeat (first | apply Kd.R_alloc | apply Kd.R_drewN | apply Kd.R_drew)); exact HO103.out)); (case aS => exact (below_size (by repeat (first | (with_reducible first | exact HB.out | apply below_alloc | apply pw_below_drewN | apply below_drew1) | exact HB.out)))); (case aL => have := LMc2.out; omega); intro v105 w5 ho hb hg hat; rw [← Ny104.out] at ho; have n0_ := Aside0.mk (hb); have n1_ := Aside0.mk (ho); clear HB; clear HO103; have HB := n0_; have HO106 := n1_; clear n0_ n1_; clear ho hb hg hat))
    go_ret
    exact ⟨_, by first | rfl | (simp [errW_none, errW_some] <;> rfl) | (simp [*, errW_none, errW_some] <;> rfl), by (with_reducible repeat (first | apply Kd.R_alloc | apply Kd.R_drewN | apply Kd.R_drew)); exact HO106.out, by repeat (first | (with_reducible first | exact HB.out | apply below_alloc | apply pw_below_drewN | apply below_drew1) | exact HB.out)⟩
  · rw [if_neg c2] at H
    exact absurd H (by simp)

set_option maxHeartbeats 8000000 in
theorem slices_Clone_byte.calls (A0 : Option Addr) (c0 : Nat) (l0 : List Int) (r : List Int) (w : World) (hr0 : Kd.C (Kd.int .u8) w A0 l0.length l0) (hc0 : l0.length ≤ c0) (h : slices_Clone_byte.f l0 = some r) :
    Calls Try.prog 41 #[.slice A0 l0.length c0] w fun e w' => ∃ v0_ : Value, e = .returned (v0_) ∧ Kd.R (Kd.int .u8) 5 w' w.heap.size (fun _ => True) v0_ r ∧ Below w.heap.size w w' := by
  cases A0 with
  | some ad0_ => exact slices_Clone_byte.calls_some ad0_ c0 l0 r w hr0 hc0 h
  | none =>
    have hl : l0 = [] := by
      cases l0 with
      | nil => rfl
      | cons x xs => obtain ⟨ad, he, _⟩ := hr0.2.2 (by simp); cases he
    subst hl
    have hr : r = [] := by
      simp [slices_Clone_byte.f] at h; first | exact h | exact h.symm
    subst hr
    have hnil_ := fun (W : World) => Lib.run_eql_slice_nil (P := Try.prog) W 22 5 none 0 c0 0 0 Try.underlying22
    clear hr0 hc0 h
    go_enter Try.func41, Try.ntmps41
    go_wp2
    go_ret
    exact ⟨_, rfl, Kd.R_nil _ _ _ _ _, Below.refl _ _⟩

end Go.Proofs.Ytjmkpcnekghmhaa.PAll
end
section
namespace Go.Proofs.Ytjmkpcnekghmhaa.PAll
open Go.RowKit Go.Proofs.YtjmkpcnekghmhaaW.PrintWords Go.Proofs.YtjmkpcnekghmhaaW.PrintLast Go.Proofs.YtjmkpcnekghmhaaW.PrintMore
attribute [local go_sem] max2_int min2_int max_two min_two max_three min_three max_four min_four   -- for this text's walks alone
set_option linter.unusedVariables false
set_option linter.unusedSimpArgs false

theorem C_same {α : Type} {enc : α → Value} {h1 : ∀ x, (enc x).oneCell' = true} {w w1 : World} {A : Option Addr} {n : Nat} {xs : List α} (h : (Kd.scalar enc h1).C w A n xs) (hm : ∀ ad, A = some ad → w1.heap[ad.block]? = w.heap[ad.block]?) : (Kd.scalar enc h1).C w1 A n xs := by
  obtain ⟨h2, h3, h4⟩ := h
  refine ⟨h2, h3, fun hp => ?_⟩
  obtain ⟨ad, rfl, hr⟩ := h4 hp
  refine ⟨ad, rfl, fun j p hj => ?_⟩
  obtain ⟨c, hc1, hc2, hc3⟩ := hr j p hj
  refine ⟨c, hc1, hc2, fun i u hu => ?_⟩
  rw [World.cell?_of_block (w := w) (by rw [add_block]; exact hm ad rfl)]
  exact hc3 i u hu
structure Rdr (base p : Nat) (xs : List Int) (bad : Bool) (W : World) : Prop where
  ex : ∃ A c, W.heap[p]? = some (.cells #[.slice A xs.length c, .bool bad] 82 (0, 0)) ∧ xs.length ≤ c ∧ c ≤ 9223372036854775807 ∧ Kd.C (Kd.int .u8) W A xs.length xs ∧ ∀ ad, A = some ad → base ≤ ad.block ∧ ad.block < p
  by_ : ∀ x ∈ xs, 0 ≤ x ∧ x ≤ 255
theorem Rdr.step {base p : Nat} {xs : List Int} {bad : Bool} {W W1 : World} (h : Rdr base p xs bad W) (hm : ∀ k, k < W.heap.size → base ≤ k → W1.heap[k]? = W.heap[k]?) (hb : base ≤ p) : Rdr base p xs bad W1 := by
  obtain ⟨A, c, h1, h2, h3, h4, h5⟩ := h.ex
  have hp := blk_lt h1
  exact ⟨⟨A, c, (hm p hp hb).trans h1, h2, h3, C_same h4 (fun ad ha => hm _ (by have := (h5 ad ha).2; omega) (h5 ad ha).1), h5⟩, h.by_⟩
theorem Rdr.below {base p : Nat} {xs : List Int} {bad : Bool} {W W1 : World} (h : Rdr base p xs bad W) (hb : Below W.heap.size W W1) : Rdr base p xs bad W1 := by
  obtain ⟨A, c, h1, h2, h3, h4, h5⟩ := h.ex
  exact ⟨⟨A, c, blk_below h1 hb, h2, h3, Kd.C_below h4 hb, h5⟩, h.by_⟩
def PutAt (p : Nat) (W W1 : World) : Prop := ∃ (j : Nat) (v : Value), W1 = W.setCell ⟨p, j, none⟩ v
def Puts (p : Nat) (W W1 : World) : Prop := ∀ B, B ≤ p → (∀ w0 : World, Below B w0 W → Below B w0 W1) ∧ W1.heap.size = W.heap.size ∧ ∀ k, k ≠ p → W1.heap[k]? = W.heap[k]?
theorem Puts.refl (p : Nat) (W : World) : Puts p W W := fun B hB => ⟨fun _ h => h, rfl, fun _ _ => rfl⟩
theorem Puts.set {p : Nat} {W W1 : World} (h : Puts p W W1) (j : Nat) (v : Value) : Puts p W (W1.setCell ⟨p, j, none⟩ v) := fun B hB => by
  obtain ⟨h1, h2, h3⟩ := h B hB
  exact ⟨fun w0 hw => (h1 w0 hw).setCell hB _, by simpa using h2, fun k hk => (Below.heap_setCell _ _ v k hk).trans (h3 k hk)⟩
theorem Puts.trans {p : Nat} {W W1 W2 : World} (h : Puts p W W1) (k : Puts p W1 W2) : Puts p W W2 := fun B hB => by
  obtain ⟨h1, h2, h3⟩ := h B hB
  obtain ⟨k1, k2, k3⟩ := k B hB
  exact ⟨fun w0 hw => k1 w0 (h1 w0 hw), k2.trans h2, fun q hq => (k3 q hq).trans (h3 q hq)⟩
theorem Puts.below {p : Nat} {w0 W W1 : World} (h : Puts p W W1) (hp : w0.heap.size ≤ p) (hb : Below w0.heap.size w0 W) : Below w0.heap.size w0 W1 := (h _ hp).1 w0 hb
set_option maxHeartbeats 4000000 in
theorem take_bad {base p : Nat} {xs : List Int} (n : Int) (W : World) (h : Rdr base p xs true W) : Calls Try.prog 43 #[.pointer (some ⟨p, 0, none⟩), .int .i64 n] W fun e W' => e = .returned (.slice none 0 0) ∧ Rdr base p xs true W' ∧ Puts p W W' := by
  have HH := Aside0.mk h
  obtain ⟨A, c, h1, h2, h3, h4, h5⟩ := h.ex
  have hb1 : W.cell? ⟨p, 1, none⟩ = some (.bool true) := (blk_cell h1 1).trans rfl
  have hf1 := blk_frozen h1 1
  have B1 := Aside0.mk h1
  have B2 := Aside0.mk h2
  have B3 := Aside0.mk h3
  have B4 := Aside0.mk h4
  have B5 := Aside0.mk h5
  clear h h1 h2 h3 h4 h5
  go_enter Try.func43, Try.ntmps43
  go_wp2
  go_ret
  exact ⟨rfl, ⟨⟨A, c, blk_put B1.out 1 _ rfl, B2.out, B3.out, C_same B4.out (fun ad ha => Below.heap_setCell _ _ _ _ (by have := (B5.out ad ha).2; show ad.block ≠ p; omega)), B5.out⟩, HH.out.by_⟩, Puts.set (Puts.refl _ _) 1 _⟩
set_option maxHeartbeats 4000000 in
theorem take_over {base p : Nat} {xs : List Int} (n : Int) (W : World) (h : Rdr base p xs false W) (hn : (xs.length : Int) < n) : Calls Try.prog 43 #[.pointer (some ⟨p, 0, none⟩), .int .i64 n] W fun e W' => e = .returned (.slice none 0 0) ∧ Rdr base p xs true W' ∧ Puts p W W' := by
  have HH := Aside0.mk h
  obtain ⟨A, c, h1, h2, h3, h4, h5⟩ := h.ex
  have hb0 : W.cell? ⟨p, 0, none⟩ = some (.slice A xs.length c) := (blk_cell h1 0).trans rfl
  have hb1 : W.cell? ⟨p, 1, none⟩ = some (.bool false) := (blk_cell h1 1).trans rfl
  have hf1 := blk_frozen h1 1
  have d1 : decide ((xs.length : Int) < n) = true := decide_eq_true hn
  have B1 := Aside0.mk h1
  have B2 := Aside0.mk h2
  have B3 := Aside0.mk h3
  have B4 := Aside0.mk h4
  have B5 := Aside0.mk h5
  clear h h1 h2 h3 h4 h5 hn
  go_enter Try.func43, Try.ntmps43
  go_wp2
  go_ret
  exact ⟨rfl, ⟨⟨A, c, blk_put B1.out 1 _ rfl, B2.out, B3.out, C_same B4.out (fun ad ha => Below.heap_setCell _ _ _ _ (by have := (B5.out ad ha).2; show ad.block ≠ p; omega)), B5.out⟩, HH.out.by_⟩, Puts.set (Puts.refl _ _) 1 _⟩
set_option maxHeartbeats 4000000 in
theorem take_ok {base p : Nat} {xs : List Int} (n : Nat) (W : World) (h : Rdr base p xs false W) (hn : n ≤ xs.length) : Calls Try.prog 43 #[.pointer (some ⟨p, 0, none⟩), .int .i64 n] W fun e W' => ∃ A c, e = .returned (.slice A n c) ∧ n ≤ c ∧ Kd.C (Kd.int .u8) W' A n (xs.take n) ∧ Rdr base p (xs.drop n) false W' ∧ Puts p W W' := by
  have HH := Aside0.mk h
  obtain ⟨A, c, h1, h2, h3, h4, h5⟩ := h.ex
  have hb0 : W.cell? ⟨p, 0, none⟩ = some (.slice A xs.length c) := (blk_cell h1 0).trans rfl
  have hb1 : W.cell? ⟨p, 1, none⟩ = some (.bool false) := (blk_cell h1 1).trans rfl
  have hf0 := blk_frozen h1 0
  have d1 : decide ((xs.length : Int) < (n : Int)) = false := decide_eq_false (by omega)
  have d2 : decide (xs.length < n) = false := decide_eq_false (by omega)
  obtain ⟨i0, hi0, _, hsz0, _⟩ := info_parts info5
  have hcut1 := cut_to (P := Try.prog) 22 5 .i64 Try.underlying22 hi0 A xs.length c (n : Int) (by omega) (by omega) h2
  have hcut2 := cut_from (P := Try.prog) 22 5 .i64 Try.underlying22 hi0 1 hsz0 A xs.length c (n : Int) (by omega) (by omega)
  rw [show ((n : Int)).toNat = n by omega] at hcut1 hcut2
  have B4 := Aside0.mk (show (Kd.int .u8).C W A n (xs.take n) from by have := Kd.C_take h4 hn; rwa [List.length_take, Nat.min_eq_left hn] at this)
  have B6 := Aside0.mk (Kd.C_drop h4 hn h2)
  have B7 : Aside0 (∀ ad, (if c = n then A else A.map (·.add (n * 1))) = some ad → base ≤ ad.block ∧ ad.block < p) := ⟨by
    intro ad ha
    by_cases hc : c = n
    · rw [if_pos hc] at ha; exact h5 ad ha
    · rw [if_neg hc] at ha
      cases hA : A with
      | none => rw [hA] at ha; cases ha
      | some a0 =>
        rw [hA] at ha
        obtain rfl : a0.add (n * 1) = ad := by simpa using ha
        rw [add_block]
        exact h5 a0 hA⟩
  change Aside0 ((Kd.int .u8).C W (if c = n then A else A.map (·.add (n * 1))) (xs.drop n).length (xs.drop n)) at B6
  obtain ⟨A2, hA2⟩ : ∃ A2, (if c = n then A else A.map (·.add (n * 1))) = A2 := ⟨_, rfl⟩
  rw [hA2] at hcut2 B6 B7
  have B1 := Aside0.mk h1
  have B2 := Aside0.mk h2
  have B3 := Aside0.mk h3
  have B5 := Aside0.mk h5
  have HN := Aside0.mk hn
  clear h h1 h2 h3 h4 h5 hi0 hsz0 hn hA2
  go_enter Try.func43, Try.ntmps43
  go_wp2
  go_ret
  refine ⟨A, c, rfl, by have := HN.out; have := B2.out; omega, C_same B4.out (fun ad ha => Below.heap_setCell _ _ _ _ (by have := (B5.out ad ha).2; show ad.block ≠ p; omega)), ⟨⟨A2, c - n, ?_, by have := B2.out; simp; omega, by have := B3.out; omega, C_same B6.out (fun ad ha => Below.heap_setCell _ _ _ _ (by have := (B7.out ad ha).2; show ad.block ≠ p; omega)), B7.out⟩, fun x hx => HH.out.by_ x (List.mem_of_mem_drop hx)⟩, Puts.set (Puts.refl _ _) 0 _⟩
  rw [List.length_drop]
  exact blk_put B1.out 0 _ rfl
def numS : List Int → Int → Int
  | [], n => n
  | c :: r, n => numS r (Go.bits .or .i64 (wrap64 (n * 256)) c)
set_option maxHeartbeats 4000000 in
theorem number_bad {base p : Nat} {xs : List Int} (bad : Bool) (m : Nat) (W : World) (h : Rdr base p xs bad W) (hm : bad = true ∨ xs.length < m) : Calls Try.prog 42 #[.pointer (some ⟨p, 0, none⟩), .int .i64 (m : Int)] W fun e W' => e = .returned (.int .i64 0) ∧ Rdr base p xs true W' ∧ Puts p W W' := by
  have key : Calls Try.prog 43 #[.pointer (some ⟨p, 0, none⟩), .int .i64 (m : Int)] W fun e W' => e = .returned (.slice none 0 0) ∧ Rdr base p xs true W' ∧ Puts p W W' := by
    cases bad with
    | true => exact take_bad _ W h
    | false => exact take_over _ W h (by rcases hm with h | h; cases h; omega)
  clear h hm
  go_enter Try.func42, Try.ntmps42
  go_wp2_with (go_at_call 43; (with_reducible refine key.mono ?_); rintro e w1 ⟨rfl, hr, hp⟩)
  go_loop [5, 12] (fun n i => n = .int .i64 0 ∧ i = .int .i64 0) (fun _ _ => 0)
  case atStart => exact ⟨rfl, rfl⟩
  case round =>
    obtain ⟨rfl, rfl⟩ := hrel
    go_wp2
    go_ret
    exact ⟨rfl, hr, hp⟩
set_option maxHeartbeats 4000000 in
theorem number_ok {base p : Nat} {xs : List Int} (m : Nat) (W : World) (h : Rdr base p xs false W) (hm : m ≤ xs.length) : Calls Try.prog 42 #[.pointer (some ⟨p, 0, none⟩), .int .i64 (m : Int)] W fun e W' => e = .returned (.int .i64 (numS (xs.take m) 0)) ∧ Rdr base p (xs.drop m) false W' ∧ Puts p W W' := by
  obtain ⟨ys, hys⟩ : ∃ ys, xs.take m = ys := ⟨_, rfl⟩
  have hyl : ys.length = m := by rw [← hys, List.length_take]; omega
  have hby : Aside0 (∀ y ∈ ys, 0 ≤ y ∧ y ≤ 255) := ⟨fun y hy => h.by_ y (List.mem_of_mem_take (hys ▸ hy))⟩
  have key := take_ok m W h hm
  rw [hys] at key ⊢
  subst hyl
  clear h hm hys
  go_enter Try.func42, Try.ntmps42
  go_wp2_with (go_at_call 43; (with_reducible refine key.mono ?_); rintro e w1 ⟨A, c, rfl, hc, hC, hr, hp⟩; have HC := Aside0.mk hC; have HR := Aside0.mk hr; have HP := Aside0.mk hp; have HCC := Aside0.mk hc; clear hC hr hp hc)
  go_loop [5, 12] (fun n i => ∃ (k : Nat) (a : Int), k ≤ ys.length ∧ i = .int .i64 (k : Int) ∧ n = .int .i64 a ∧ Aside0 (numS (ys.drop k) a = numS ys 0)) (fun _ i => ys.length - (intOf i).toNat)
  case atStart => exact ⟨0, 0, Nat.zero_le _, rfl, rfl, ⟨rfl⟩⟩
  case round =>
    obtain ⟨k, a, hk, rfl, rfl, ha⟩ := hrel
    by_cases hlt : k < ys.length
    · obtain ⟨ad, ead, hx⟩ := Kd.at_int HC.out (k : Int) (by omega) (by omega)
      cases ead
      rw [show ((k : Int)).toNat = k by omega] at hx
      have hb := hby.out (rd ys (k : Int)) (by simp [rd, List.getD_eq_getElem?_getD, hlt])
      have q3 : (k < ys.length) = True := eq_true hlt
      have q4 : wrap64 ((k : Int) + 1) = ((k + 1 : Nat) : Int) := by have := HC.out.2.1; unfold wrap64; omega
      have hstep : numS (ys.drop (k + 1)) (bits .or .i64 (wrap64 (a * 256)) (rd ys (k : Int))) = numS ys 0 := by
        rw [← ha.out, List.drop_eq_getElem_cons hlt]
        simp [numS, rd, List.getD_eq_getElem?_getD, hlt]
      have HS := Aside0.mk hstep
      clear hstep ha
      go_wp2
      go_round
      case rel => exact ⟨k + 1, _, by omega, by rw [q4], rfl, HS⟩
      case measure => rw [q4]; simp [intOf]; omega
    · obtain rfl : k = ys.length := by omega
      have ha2 : a = numS ys 0 := by have := ha.out; rwa [List.drop_length] at this
      subst ha2
      clear ha
      go_wp2
      go_ret
      exact ⟨rfl, HR.out, HP.out⟩
theorem or_byte (a c : Int) (h0 : 0 ≤ c) (h1 : c < 256) : bits .or .i64 (wrap64 (a * 256)) c = wrap64 (a * 256 + c) := by
  obtain ⟨m, rfl⟩ : ∃ m : Nat, c = (m : Int) := ⟨c.toNat, by omega⟩
  have hm : m < 2 ^ 8 := by omega
  obtain ⟨q, hq⟩ : ∃ q : Nat, (BitVec.ofInt 64 (wrap64 (a * 256))).toNat = 2 ^ 8 * q := by
    rw [BitVec.toNat_ofInt]
    refine ⟨((wrap64 (a * 256)) % 18446744073709551616 / 256).toNat, ?_⟩
    unfold wrap64
    omega
  have hq2 : ((2 ^ 8 * q : Nat) : Int) % 18446744073709551616 = (a * 256) % 18446744073709551616 := by
    rw [← hq, BitVec.toNat_ofInt]
    unfold wrap64
    omega
  have hw : ∀ x : Int, IntKind.i64.wrap x = wrap64 x := fun x => by rw [IntKind.wrap_i64]; unfold wrap64; rfl
  show IntKind.i64.wrap (((BitVec.ofInt 64 (wrap64 (a * 256)) ||| BitVec.ofInt 64 (m : Int)).toNat : Nat) : Int) = _
  rw [BitVec.toNat_or, hq, BitVec.ofInt_natCast, BitVec.toNat_ofNat, Nat.mod_eq_of_lt (show m < 2 ^ 64 by omega), ← Nat.two_pow_add_eq_or_of_lt hm, hw]
  unfold wrap64
  omega
theorem numS_two (x y : Int) (hx : 0 ≤ x ∧ x ≤ 255) (hy : 0 ≤ y ∧ y ≤ 255) : numS [x, y] 0 = x * 256 + y := by
  simp only [numS]
  rw [or_byte 0 x hx.1 (by omega), or_byte _ y hy.1 (by omega)]
  unfold wrap64
  omega
theorem take_two {xs : List Int} (h : 2 ≤ xs.length) : xs.take 2 = [xs.getD 0 0, xs.getD 1 0] := by
  match xs, h with
  | a :: b :: r, _ => rfl
theorem numS_bd {xs : List Int} (h : 2 ≤ xs.length) (hb : ∀ x ∈ xs, 0 ≤ x ∧ x ≤ 255) : 0 ≤ numS (xs.take 2) 0 ∧ numS (xs.take 2) 0 ≤ 65535 := by
  rw [take_two h]
  match xs, h with
  | a :: b :: r, _ =>
    have ha := hb a (by simp)
    have hb' := hb b (by simp)
    show 0 ≤ numS [a, b] 0 ∧ numS [a, b] 0 ≤ 65535
    rw [numS_two a b ha hb']
    omega
def rInt (s : List Int × Bool) : Int × (List Int × Bool) := if s.2 = true ∨ s.1.length < 8 then (0, (s.1, true)) else (numS (s.1.take 8) 0, (s.1.drop 8, false))
def rText (s : List Int × Bool) (m : Int) : List Int × (List Int × Bool) := if s.2 = true ∨ s.1.length < 2 then ([], (s.1, true)) else (if numS (s.1.take 2) 0 > m ∨ ((s.1.length - 2 : Nat) : Int) < numS (s.1.take 2) 0 then ([], (s.1.drop 2, true)) else ((s.1.drop 2).take (numS (s.1.take 2) 0).toNat, ((s.1.drop 2).drop (numS (s.1.take 2) 0).toNat, false)))
def rEnd (s : List Int × Bool) : Bool := !s.2 && s.1.length == 0
set_option maxHeartbeats 4000000 in
theorem int_f {base p : Nat} (s : List Int × Bool) (W : World) (h : Rdr base p s.1 s.2 W) : Calls Try.prog 25 #[.pointer (some ⟨p, 0, none⟩)] W fun e W' => e = .returned (.int .i64 (rInt s).1) ∧ Rdr base p (rInt s).2.1 (rInt s).2.2 W' ∧ Puts p W W' := by
  obtain ⟨xs, bad⟩ := s
  have key : Calls Try.prog 42 #[.pointer (some ⟨p, 0, none⟩), .int .i64 8] W fun e W' => e = .returned (.int .i64 (rInt (xs, bad)).1) ∧ Rdr base p (rInt (xs, bad)).2.1 (rInt (xs, bad)).2.2 W' ∧ Puts p W W' := by
    unfold rInt
    by_cases c : bad = true ∨ xs.length < 8
    · rw [if_pos c]; exact number_bad bad 8 W h c
    · rw [if_neg c]
      obtain rfl : bad = false := by simpa using (not_or.1 c).1
      exact number_ok 8 W h (by have c2 := (not_or.1 c).2; simp at c2; omega)
  obtain ⟨n, hn⟩ : ∃ n, n = (rInt (xs, bad)).1 := ⟨_, rfl⟩
  obtain ⟨t, ht⟩ : ∃ t, t = (rInt (xs, bad)).2 := ⟨_, rfl⟩
  rw [← hn, ← ht] at key ⊢
  clear h hn ht
  go_enter Try.func25, Try.ntmps25
  go_wp2_with (go_at_call 42; (with_reducible refine key.mono ?_); rintro e w1 ⟨rfl, hr, hp⟩)
  go_ret
  exact ⟨rfl, hr, hp⟩
set_option maxHeartbeats 4000000 in
theorem end_f {base p : Nat} (s : List Int × Bool) (W : World) (h : Rdr base p s.1 s.2 W) : Calls Try.prog 26 #[.pointer (some ⟨p, 0, none⟩)] W fun e W' => e = .returned (.bool (rEnd s)) ∧ W' = W := by
  obtain ⟨xs, bad⟩ := s
  obtain ⟨A, c, h1, h2, h3, h4, h5⟩ := h.ex
  have hb0 : W.cell? ⟨p, 0, none⟩ = some (.slice A xs.length c) := (blk_cell h1 0).trans rfl
  have hb1 : W.cell? ⟨p, 1, none⟩ = some (.bool bad) := (blk_cell h1 1).trans rfl
  clear h h1 h2 h3 h4 h5
  cases bad with
  | true =>
    go_enter Try.func26, Try.ntmps26
    go_wp2
    go_ret
    exact ⟨rfl, rfl⟩
  | false =>
    by_cases hx : xs.length = 0
    · have d1 : ((xs.length : Int) == 0) = true := by simp [hx]
      have e1 : rEnd (xs, false) = true := by simp [rEnd, hx]
      rw [e1]
      have H := Aside0.mk d1
      clear e1 d1
      rw [hx] at hb0
      clear hx
      go_enter Try.func26, Try.ntmps26
      go_wp2
      go_ret
      exact ⟨rfl, rfl⟩
    · have d1 : ((xs.length : Int) == 0) = false := beq_eq_false_iff_ne.mpr (by omega)
      have d2 : (xs.length == 0) = false := beq_eq_false_iff_ne.mpr hx
      have d3 : ¬ xs = [] := fun e => hx (by rw [e]; rfl)
      have e1 : rEnd (xs, false) = false := by simp [rEnd, d3]
      rw [e1]
      clear e1 hx
      go_enter Try.func26, Try.ntmps26
      go_wp2
      go_ret
      exact ⟨rfl, rfl⟩
theorem Rdr.setBad {base p : Nat} {xs : List Int} {b : Bool} {W : World} (h : Rdr base p xs b W) : Rdr base p xs true (W.setCell ⟨p, 1, none⟩ (.bool true)) := by
  obtain ⟨A, c, h1, h2, h3, h4, h5⟩ := h.ex
  exact ⟨⟨A, c, blk_put h1 1 _ rfl, h2, h3, C_same h4 (fun ad ha => Below.heap_setCell _ _ _ _ (by have := (h5 ad ha).2; show ad.block ≠ p; omega)), h5⟩, h.by_⟩
theorem Rdr.flag {base p : Nat} {xs : List Int} {b : Bool} {W : World} (h : Rdr base p xs b W) : W.cell? ⟨p, 1, none⟩ = some (.bool b) ∧ W.frozen? ⟨p, 1, none⟩ = false := by
  obtain ⟨A, c, h1, h2, h3, h4, h5⟩ := h.ex
  exact ⟨(blk_cell h1 1).trans rfl, blk_frozen h1 1⟩
theorem conv_nil (W : World) : (convert 22 9 (.slice none 0 0)).run Try.prog W = .ok (.string (strOfNums [])) W :=
  Kd.C_string (P := Try.prog) (w := W) (A := none) (n := 0) (c := 0) Try.underlying22 Try.underlying5 Try.underlying9 (xs := []) ⟨rfl, by omega, fun h => absurd h (by omega)⟩
set_option maxHeartbeats 8000000 in
theorem text_f {base p : Nat} (s : List Int × Bool) (m : Int) (W : World) (h : Rdr base p s.1 s.2 W) : Calls Try.prog 23 #[.pointer (some ⟨p, 0, none⟩), .int .i64 m] W fun e W' => e = .returned (.string (strOfNums (rText s m).1)) ∧ Rdr base p (rText s m).2.1 (rText s m).2.2 W' ∧ Puts p W W' := by
  obtain ⟨xs, bad⟩ := s
  have hcn := conv_nil
  unfold rText
  by_cases c : bad = true ∨ xs.length < 2
  · rw [if_pos c]
    have key : Calls Try.prog 42 #[.pointer (some ⟨p, 0, none⟩), .int .i64 2] W fun e W' => e = .returned (.int .i64 0) ∧ Rdr base p xs true W' ∧ Puts p W W' := number_bad bad 2 W h c
    clear h c
    by_cases c : (0 : Int) > m
    · have c1 : decide (m < 0) = true := decide_eq_true c
      clear c
      go_enter Try.func23, Try.ntmps23
      go_wp2_with (first | (go_at_call 42; (with_reducible refine key.mono ?_); rintro e w1 ⟨rfl, hr, hp⟩; have HR := Aside0.mk hr.setBad; have HP := Aside0.mk (hp.set 1 (.bool true)); obtain ⟨f1, f2⟩ := hr.flag; clear hr hp) | (go_at_call 43; (with_reducible refine (take_bad _ _ HR.out).mono ?_); rintro e w2 ⟨rfl, hr, hp⟩; have HP2 := Aside0.mk (HP.out.trans hp); clear hp))
      go_ret
      exact ⟨rfl, hr, HP2.out⟩
    · have c1 : decide (m < 0) = false := decide_eq_false c
      clear c
      go_enter Try.func23, Try.ntmps23
      go_wp2_with (first | (go_at_call 42; (with_reducible refine key.mono ?_); rintro e w1 ⟨rfl, hr, hp⟩; have HR := Aside0.mk hr; have HP := Aside0.mk hp; clear hr hp) | (go_at_call 43; (with_reducible refine (take_bad _ _ HR.out).mono ?_); rintro e w2 ⟨rfl, hr, hp⟩; have HP2 := Aside0.mk (HP.out.trans hp); clear hp))
      go_ret
      exact ⟨rfl, hr, HP2.out⟩
  · rw [if_neg c]
    obtain rfl : bad = false := by simpa using (not_or.1 c).1
    have hl : 2 ≤ xs.length := by have c2 := (not_or.1 c).2; simp at c2; omega
    have key : Calls Try.prog 42 #[.pointer (some ⟨p, 0, none⟩), .int .i64 2] W fun e W' => e = .returned (.int .i64 (numS (xs.take 2) 0)) ∧ Rdr base p (xs.drop 2) false W' ∧ Puts p W W' := number_ok 2 W h hl
    have hbd := numS_bd hl h.by_
    dsimp only
    obtain ⟨n, hn⟩ : ∃ n : Nat, numS (xs.take 2) 0 = (n : Int) := ⟨(numS (xs.take 2) 0).toNat, by omega⟩
    obtain ⟨ys, hys⟩ : ∃ ys, xs.drop 2 = ys := ⟨_, rfl⟩
    have hyl : xs.length - 2 = ys.length := by rw [← hys, List.length_drop]
    rw [hn, hys] at key
    rw [hn, hys, hyl, show ((n : Int)).toNat = n by omega]
    clear h c hl hn hys hyl hbd
    by_cases c : (n : Int) > m
    · rw [if_pos (Or.inl c)]
      have c1 : decide (m < (n : Int)) = true := decide_eq_true c
      clear c
      go_enter Try.func23, Try.ntmps23
      go_wp2_with (first | (go_at_call 42; (with_reducible refine key.mono ?_); rintro e w1 ⟨rfl, hr, hp⟩; have HR := Aside0.mk hr.setBad; have HP := Aside0.mk (hp.set 1 (.bool true)); obtain ⟨f1, f2⟩ := hr.flag; clear hr hp) | (go_at_call 43; (with_reducible refine (take_bad _ _ HR.out).mono ?_); rintro e w2 ⟨rfl, hr, hp⟩; have HP2 := Aside0.mk (HP.out.trans hp); clear hp))
      go_ret
      exact ⟨rfl, hr, HP2.out⟩
    · have c1 : decide (m < (n : Int)) = false := decide_eq_false c
      by_cases c2 : (ys.length : Int) < (n : Int)
      · rw [if_pos (Or.inr c2)]
        have C2 := Aside0.mk c2
        clear c c2
        go_enter Try.func23, Try.ntmps23
        go_wp2_with (first | (go_at_call 42; (with_reducible refine key.mono ?_); rintro e w1 ⟨rfl, hr, hp⟩; have HR := Aside0.mk hr; have HP := Aside0.mk hp; clear hr hp) | (go_at_call 43; (with_reducible refine (take_over _ _ HR.out C2.out).mono ?_); rintro e w2 ⟨rfl, hr, hp⟩; have HP2 := Aside0.mk (HP.out.trans hp); clear hp))
        go_ret
        exact ⟨rfl, hr, HP2.out⟩
      · rw [if_neg (not_or.2 ⟨c, c2⟩)]
        have C2 : Aside0 (n ≤ ys.length) := ⟨by omega⟩
        clear c c2
        go_enter Try.func23, Try.ntmps23
        go_wp2_with (first | (go_at_call 42; (with_reducible refine key.mono ?_); rintro e w1 ⟨rfl, hr, hp⟩; have HR := Aside0.mk hr; have HP := Aside0.mk hp; clear hr hp) | (go_at_call 43; (with_reducible refine (take_ok _ _ HR.out C2.out).mono ?_); rintro e w2 ⟨A, c, rfl, hc, hC, hr, hp⟩; have HP2 := Aside0.mk (HP.out.trans hp); have HR2 := Aside0.mk hr; have hcv := Kd.C_string (P := Try.prog) (A := A) (c := c) Try.underlying22 Try.underlying5 Try.underlying9 hC; clear hp hr hc hC))
        go_ret
        exact ⟨rfl, HR2.out, HP2.out⟩
set_option maxHeartbeats 4000000 in
theorem new_f (A : Option Addr) (c : Nat) (l : List Int) (w : World) (hC : Kd.C (Kd.int .u8) w A l.length l) (hc : l.length ≤ c) (hb : ∀ x ∈ l, 0 ≤ x ∧ x ≤ 255) (hn : l.length < 140737488355328) :
    Calls Try.prog 21 #[.slice A l.length c] w fun e w' => ∃ p, e = .returned (.pointer (some ⟨p, 0, none⟩)) ∧ w.heap.size ≤ p ∧ Rdr w.heap.size p l false w' ∧ Below w.heap.size w w' := by
  have HC := Aside0.mk hC
  have HCC := Aside0.mk hc
  have HB := Aside0.mk hb
  have HF : Aside0 (slices_Clone_byte.f l = some l) := ⟨by unfold slices_Clone_byte.f; simp only [Option.bind_some]; rw [if_pos (by simp; omega)]; rfl⟩
  clear hC hc hb hn
  go_enter Try.func21, Try.ntmps21
  go_wp2_with (go_at_call 41; (with_reducible refine (slices_Clone_byte.calls A c l l w HC.out HCC.out HF.out).mono ?_); rintro e w1 ⟨v, rfl, ho, hbl⟩; have HO := Aside0.mk ho; have HBL := Aside0.mk hbl; obtain ⟨A1, c1, e1, h1, h2⟩ := Kd.R_reads ho; subst e1; have HR1 := Aside0.mk h1; have HR2 := Aside0.mk h2; clear ho hbl h1 h2)
  go_ret
  refine ⟨w1.heap.size, rfl, HBL.out.size, ⟨⟨A1, c1, heap_alloc_new w1 _, HR1.out, ?_, Kd.C_below HR2.out (below_alloc (Below.refl _ _) _), ?_⟩, HB.out⟩, below_alloc HBL.out _⟩
  · obtain ⟨_, inner, hown, _⟩ := HO.out
    rcases hown.2 with ⟨e, _⟩ | ⟨g, cap, cur, e, _, _, _, hm, _⟩
    · injection e with e1 e2 e3; omega
    · injection e with e1 e2 e3; unfold maxLen at hm; omega
  · intro ad ha
    have hk : (Value.slice A1 l.length c1).ownBlock = some ad.block := by rw [ha]; rfl
    exact ⟨Kd.R_base HO.out _ hk, Kd.R_lt HO.out _ hk⟩
end Go.Proofs.Ytjmkpcnekghmhaa.PAll
end
section
namespace Go.Proofs.Ytjmkpcnekghmhaa.PAll
open Go.RowKit Go.Proofs.YtjmkpcnekghmhaaW.PrintWords Go.Proofs.YtjmkpcnekghmhaaW.PrintLast Go.Proofs.YtjmkpcnekghmhaaW.PrintMore
attribute [local go_sem] max2_int min2_int max_two min_two max_three min_three max_four min_four   -- for this text's walks alone
set_option linter.unusedVariables false
set_option linter.unusedSimpArgs false

structure Ch (S : Nat → Prop) (W W1 : World) : Prop where
 os : W1.os = W.os
 tape : W1.tape = W.tape
 output : W1.output = W.output
 size : W.heap.size ≤ W1.heap.size
 block : ∀ k, k < W.heap.size → ¬ S k → W1.heap[k]? = W.heap[k]?
section
variable {S T : Nat → Prop} {w W W1 W2 : World}
theorem Ch.refl (S : Nat → Prop) (W : World) : Ch S W W := ⟨rfl, rfl, rfl, Nat.le_refl _, fun _ _ _ => rfl⟩
theorem Ch.trans (h : Ch S W W1) (k : Ch T W1 W2) (hT : ∀ i, i < W.heap.size → T i → S i) : Ch S W W2 :=
 ⟨k.os.trans h.os, k.tape.trans h.tape, k.output.trans h.output, Nat.le_trans h.size k.size, fun i hi hS => (k.block i (Nat.lt_of_lt_of_le hi h.size) (fun ht => hS (hT i hi ht))).trans (h.block i hi hS)⟩
theorem Ch.of_below (hb : Below W.heap.size W W1) : Ch S W W1 := ⟨hb.os, hb.tape, hb.output, hb.size, fun k hk _ => hb.block k hk⟩
theorem Ch.set (W : World) {g : Nat} (j : Nat) (v : Value) (hS : S g) : Ch S W (W.setCell ⟨g, j, none⟩ v) :=
 ⟨rfl, rfl, rfl, by simp [World.setCell], fun k _ hk => Below.heap_setCell W _ v k (fun e => hk (by rw [e]; exact hS))⟩
theorem Ch.of_puts {p : Nat} (hp : Puts p W W1) (hS : S p) : Ch S W W1 := by
 have h := hp 0 (Nat.zero_le _)
 have hb := h.1 W (Below.refl 0 W)
 exact ⟨hb.os, hb.tape, hb.output, hb.size, fun k _ hk => h.2.2 k (fun e => hk (by rw [e]; exact hS))⟩
theorem Ch.of_grown {row : Option Nat} (hg : W.grownBy W1 row) (hS : ∀ k, row = some k → S k) : Ch S W W1 :=
 ⟨hg.os, hg.tape, hg.output, hg.size, fun k hk hn => hg.block k hk (fun e => hn (hS k e.symm))⟩
theorem Ch.below (h : Ch S W W1) (hb : Below w.heap.size w W) (hS : ∀ k, S k → w.heap.size ≤ k) : Below w.heap.size w W1 :=
 hb.trans ⟨h.os, h.tape, h.output, h.size, fun k hk => h.block k (Nat.lt_of_lt_of_le hk hb.size) (fun hs => by have := hS k hs; omega)⟩
theorem Ch.mono (h : Ch S W W1) (hS : ∀ k, S k → T k) : Ch T W W1 := ⟨h.os, h.tape, h.output, h.size, fun k hk hn => h.block k hk (fun hs => hn (hS k hs))⟩
theorem Ch.keep (h : Ch S W W1) {k : Nat} {o : Obj} (hk : W.heap[k]? = some o) (hS : ¬ S k) : W1.heap[k]? = some o := (h.block k (blk_lt hk) hS).trans hk
end
structure SR (base p q : Nat) (s : (List Int × Bool) × Bool) (W : World) : Prop where
 rd : Rdr base p s.1.1 s.1.2 W
 rq : W.heap[q]? = some (.cells #[.pointer (some ⟨p, 0, none⟩), .bool s.2] 106 (0, 0))
 lo : base ≤ p ∧ p < q
theorem SR.ch {S : Nat → Prop} {base p q : Nat} {s : (List Int × Bool) × Bool} {W W1 : World} (h : SR base p q s W) (hc : Ch S W W1) (hS : ∀ k, S k → q < k) : SR base p q s W1 := by
 have hlo := h.lo
 obtain ⟨A, c, h1, h2, h3, h4, h5⟩ := h.rd.ex
 have hp := blk_lt h1
 refine ⟨⟨⟨A, c, hc.keep h1 (fun hs => by have := hS _ hs; omega), h2, h3, C_same h4 (fun ad ha => hc.block _ (by have := (h5 ad ha).2; omega) (fun hs => by have := hS _ hs; have := (h5 ad ha).2; omega)), h5⟩, h.rd.by_⟩, hc.keep h.rq (fun hs => by have := hS _ hs; omega), hlo⟩
theorem SR.puts {base p q : Nat} {s : (List Int × Bool) × Bool} {s1 : List Int × Bool} {W W1 : World} (h : SR base p q s W) (hr : Rdr base p s1.1 s1.2 W1) (hp : Puts p W W1) : SR base p q (s1, s.2) W1 :=
 ⟨hr, ((hp 0 (Nat.zero_le _)).2.2 q (by have := h.lo; omega)).trans h.rq, h.lo⟩
theorem SR.below {base p q : Nat} {s : (List Int × Bool) × Bool} {W W1 : World} (h : SR base p q s W) (hb : Below W.heap.size W W1) : SR base p q s W1 := h.ch (S := fun _ => False) (Ch.of_below hb) (fun _ h => h.elim)
theorem SR.setq {base p q : Nat} {s : (List Int × Bool) × Bool} {W : World} (h : SR base p q s W) (b : Bool) : SR base p q (s.1, b) (W.setCell ⟨q, 1, none⟩ (.bool b)) := by
 have hlo := h.lo
 obtain ⟨A, c, h1, h2, h3, h4, h5⟩ := h.rd.ex
 exact ⟨⟨⟨A, c, (Below.heap_setCell W _ _ p (show p ≠ q by omega)).trans h1, h2, h3, C_same h4 (fun ad ha => Below.heap_setCell W _ _ _ (by have := (h5 ad ha).2; show ad.block ≠ q; omega)), h5⟩, h.rd.by_⟩, blk_put h.rq 1 _ rfl, hlo⟩
theorem SR.lt {base p q : Nat} {s : (List Int × Bool) × Bool} {W : World} (h : SR base p q s W) : q < W.heap.size := blk_lt h.rq
theorem SR.q0 {base p q : Nat} {s : (List Int × Bool) × Bool} {W : World} (h : SR base p q s W) : W.cell? ⟨q, 0, none⟩ = some (.pointer (some ⟨p, 0, none⟩)) := (blk_cell h.rq 0).trans rfl
theorem SR.q1 {base p q : Nat} {s : (List Int × Bool) × Bool} {W : World} (h : SR base p q s W) : W.cell? ⟨q, 1, none⟩ = some (.bool s.2) := (blk_cell h.rq 1).trans rfl
def rInts : Nat → (List Int × Bool) → List Int × (List Int × Bool)
 | 0, s => ([], s)
 | n + 1, s => ((rInt s).1 :: (rInts n (rInt s).2).1, (rInts n (rInt s).2).2)
def putN (arr : Array Value) (o : Nat) : List Int → Array Value
 | [] => arr
 | y :: ys => putN (arr.setIfInBounds o (.int .i64 y)) (o + 1) ys
theorem int_s {base p : Nat} {s : List Int × Bool} {st : Int × (List Int × Bool)} (hs : rInt s = st) (W : World) (h : Rdr base p s.1 s.2 W) : Calls Try.prog 25 #[.pointer (some ⟨p, 0, none⟩)] W fun e W' => e = .returned (.int .i64 st.1) ∧ Rdr base p st.2.1 st.2.2 W' ∧ Puts p W W' := by
 subst hs; exact int_f s W h
theorem text_s {base p : Nat} {s : List Int × Bool} {st : List Int × (List Int × Bool)} (hs : rText s 16 = st) (W : World) (h : Rdr base p s.1 s.2 W) : Calls Try.prog 23 #[.pointer (some ⟨p, 0, none⟩), .int .i64 16] W fun e W' => e = .returned (.string (strOfNums st.1)) ∧ Rdr base p st.2.1 st.2.2 W' ∧ Puts p W W' := by
 subst hs; exact text_f s 16 W h
theorem end_s {base p : Nat} {s : List Int × Bool} {eb : Bool} (he : rEnd s = eb) (W : World) (h : Rdr base p s.1 s.2 W) : Calls Try.prog 26 #[.pointer (some ⟨p, 0, none⟩)] W fun e W' => e = .returned (.bool eb) ∧ W' = W := by
 subst he; exact end_f s W h
set_option maxHeartbeats 4000000 in
theorem get_f {base p q g t n o : Nat} {ty : TypeId} {arr tarr : Array Value} (s : (List Int × Bool) × Bool) (W : World) (h : SR base p q s W) (hqg : q < g) (hgt : g ≠ t) (hqt : q < t) (hg : W.heap[g]? = some (.cells arr ty (0, 0))) (ht : W.heap[t]? = some (.cells tarr 108 (0, 0))) (hp : ∀ i, i < n → tarr[i]? = some (.pointer (some ⟨g, o + i, none⟩))) (ha : o + n ≤ arr.size) (hm : n ≤ 100) :
  Calls Try.prog 52 #[.pointer (some ⟨q, 0, none⟩), .slice (some ⟨t, 0, none⟩) n n] W fun e W' => e = .returned (.tuple #[]) ∧ W'.heap[g]? = some (.cells (putN arr o (rInts n s.1).1) ty (0, 0)) ∧ SR base p q ((rInts n s.1).2, s.2) W' ∧ Ch (fun k => k = p ∨ k = g) W W' := by
 obtain ⟨F, hF⟩ : ∃ F, rInts n s.1 = F := ⟨_, rfl⟩
 have HF := Aside0.mk hF
 have HS := Aside0.mk h
 have HG := Aside0.mk hg
 have HT := Aside0.mk ht
 have HP := Aside0.mk hp
 have HA := Aside0.mk ha
 have HM := Aside0.mk hm
 have HL : Aside0 (q < g ∧ g ≠ t ∧ q < t) := ⟨⟨hqg, hgt, hqt⟩⟩
 rw [hF]
 clear h; clear hg; clear ht; clear hp; clear ha; clear hqg; clear hgt; clear hqt; clear hF; clear hm
 go_enter Try.func52, Try.ntmps52
 go_wp2
 go_loopg [8] n (fun kq v8 w' => ∃ (x8 : Int) (i : Nat) (ar : Array Value) (si : List Int × Bool), v8 = .int .i64 x8 ∧ Aside0 (x8 = (i : Int) ∧ i + kq = n ∧ ar.size = arr.size) ∧ Aside0 (w'.heap[g]? = some (.cells ar ty (0, 0))) ∧ Aside0 (putN ar (o + i) (rInts kq si).1 = putN arr o F.1 ∧ (rInts kq si).2 = F.2) ∧ Aside0 (SR base p q (si, s.2) w') ∧ Aside0 (Ch (fun k => k = p ∨ k = g) W w'))
 case atStart => exact ⟨0, 0, arr, s.1, rfl, ⟨rfl, by omega, rfl⟩, HG, ⟨by rw [HF.out]; exact ⟨rfl, rfl⟩⟩, HS, ⟨Ch.refl _ _⟩⟩
 case round =>
  obtain ⟨x8, i, ar, si, rfl, HI, HAR, HE, HSI, HCH⟩ := hrel
  by_cases d1 : x8 < (n : Int)
  ·have d1b : decide (x8 < (n : Int)) = true := decide_eq_true d1
   obtain ⟨k1, rfl⟩ : ∃ k1, gk = k1 + 1 := ⟨gk - 1, by have := HI.out; omega⟩
   obtain ⟨st, hst⟩ : ∃ st, rInt si = st := ⟨_, rfl⟩
   have HST := Aside0.mk hst
   have hi : x8.toNat = i := by have := HI.out; omega
   have hlt : i < n := by have := HI.out; omega
   have hpt : wr.cell? ⟨t, x8.toNat, none⟩ = some (.pointer (some ⟨g, o + i, none⟩)) := by
    have hk := HCH.out.keep HT.out (by rintro (h | h) <;> (have := HL.out; have := HSI.out.lo; omega))
    rw [blk_cell hk, hi]; exact HP.out i hlt
   have p1 := eq_true (show 0 ≤ x8 by have := HI.out; omega)
   have q1 := eq_true d1
   have e8 : wrap64 (x8 + 1) = x8 + 1 := by have := HI.out; have := HM.out; unfold wrap64; omega
   have hq0 := HSI.out.q0
   have HLT := Aside0.mk hlt
   clear d1; clear hst; clear hi; clear hlt
   go_wp2_with (first | (go_at_call 25; (with_reducible refine (int_s HST.out _ HSI.out.rd).mono ?_); rintro e w1 ⟨rfl, hr, hp⟩; have S1 := Aside0.mk (HSI.out.puts hr hp); have C1 := Aside0.mk (HCH.out.trans (Ch.of_puts (S := fun k => k = p ∨ k = g) hp (Or.inl rfl)) (fun _ _ h => h)); have G1 := Aside0.mk (((hp 0 (Nat.zero_le _)).2.2 g (by have := HL.out; have := HSI.out.lo; omega)).trans HAR.out); have hgz := Aside0.mk (blk_cell G1.out (o + i)); have hgf := blk_frozen G1.out (o + i); obtain ⟨z, hz⟩ : ∃ z, World.cell? w1 ⟨g, o + i, none⟩ = some z := ⟨_, hgz.out.trans (Array.getElem?_eq_getElem (by have := HI.out; have := HA.out; have := HLT.out; omega))⟩; clear hr hp hgz))
   go_roundg k1
   case measure => omega
   case rel => exact ⟨x8 + 1, i + 1, _, st.2, by rw [e8], ⟨by have := HI.out; simp; omega⟩, ⟨blk_put G1.out (o + i) _ rfl⟩, ⟨by have := HE.out; simp only [rInts, HST.out, putN] at this; exact this⟩, ⟨S1.out.ch (Ch.set (S := fun k => k = g) _ _ _ rfl) (fun k hk => by have := HL.out; omega)⟩, ⟨C1.out.trans (Ch.set (S := fun k => k = g) _ _ _ rfl) (fun _ _ h => Or.inr h)⟩⟩
  ·have d1b : decide (x8 < (n : Int)) = false := decide_eq_false d1
   have hk0 : gk = 0 := by have := HI.out; omega
   subst hk0
   clear d1
   go_wp2
   go_end0
   have he := HE.out
   refine ⟨rfl, ?_, ?_, HCH.out⟩
   ·rw [← he.1]; exact HAR.out
   ·rw [← he.2]; exact HSI.out
theorem ptrs_step {P : Program} {ops : Array Oper} {o : Oper} {a : Act} {Q : Exit → Act → World → Prop} {Kc : Act → World → Prop} {W : World} (hw : Region.wanted o (yielded ops a.tmps) = true) {N : Tmp} (_hd : o.dst = some N) {cells : Array Value} {n : Nat}
  (hrun : (execOp a.eval o).run P W = .ok (.value (.slice (some ⟨W.heap.size, 0, none⟩) n n)) (W.alloc (.cells cells 108)))
  (h : ∀ t, t = W.heap.size → ∀ w1, w1.heap[t]? = some (.cells cells 108 (0, 0)) → Below W.heap.size W w1 → Kc (a.put o.dst (.slice (some ⟨t, 0, none⟩) n n)) w1) : if Region.wanted o (yielded ops a.tmps) = true then Oper.wp P o a W Kc Q else Kc (a.put o.dst undef) W :=
 event_step hw hrun (h _ rfl _ (blk_new W _) (below_alloc (Below.refl _ _) _))
structure One (base p q c g : Nat) (cells : Array Value) (ty : TypeId) (s : (List Int × Bool) × Bool) (W : World) : Prop where
 sr : SR base p q s W
 cap : W.heap[c]? = some (.cells #[.pointer (some ⟨q, 0, none⟩)] 104 (0, 0))
 blk : W.heap[g]? = some (.cells cells ty (0, 0))
 lo : q < c ∧ q < g ∧ g ≠ c
theorem One.ch {S : Nat → Prop} {base p q c g : Nat} {cells : Array Value} {ty : TypeId} {s : (List Int × Bool) × Bool} {W W1 : World} (h : One base p q c g cells ty s W) (hc : Ch S W W1) (hS : ∀ k, S k → q < k ∧ k ≠ c ∧ k ≠ g) : One base p q c g cells ty s W1 :=
 ⟨h.sr.ch hc (fun k hk => (hS k hk).1), hc.keep h.cap (fun hk => (hS _ hk).2.1 rfl), hc.keep h.blk (fun hk => (hS _ hk).2.2 rfl), h.lo⟩
theorem One.go {base p q c g : Nat} {cells : Array Value} {ty : TypeId} {s : (List Int × Bool) × Bool} {W W1 : World} (h : One base p q c g cells ty s W) (hb : Below W.heap.size W W1) : One base p q c g cells ty s W1 :=
 h.ch (S := fun _ => False) (Ch.of_below hb) (fun _ h => h.elim)
theorem One.put {base p q c g : Nat} {cells cells' : Array Value} {ty : TypeId} {s : (List Int × Bool) × Bool} {W : World} (h : One base p q c g cells ty s W) (j : Nat) (v : Value) (he : cells.setIfInBounds j v = cells') : One base p q c g cells' ty s (W.setCell ⟨g, j, none⟩ v) :=
 ⟨h.sr.ch (Ch.set (S := fun k => k = g) W j v rfl) (fun k hk => by have := h.lo; omega), (Below.heap_setCell W _ v c (fun e => h.lo.2.2 e.symm)).trans h.cap, blk_put h.blk j v he, h.lo⟩
theorem One.puts {base p q c g : Nat} {cells : Array Value} {ty : TypeId} {s : (List Int × Bool) × Bool} {s1 : List Int × Bool} {W W1 : World} (h : One base p q c g cells ty s W) (hr : Rdr base p s1.1 s1.2 W1) (hp : Puts p W W1) : One base p q c g cells ty (s1, s.2) W1 :=
 ⟨h.sr.puts hr hp, ((hp 0 (Nat.zero_le _)).2.2 c (by have := h.lo; have := h.sr.lo; omega)).trans h.cap, ((hp 0 (Nat.zero_le _)).2.2 g (by have := h.lo; have := h.sr.lo; omega)).trans h.blk, h.lo⟩
theorem One.c0 {base p q c g : Nat} {cells : Array Value} {ty : TypeId} {s : (List Int × Bool) × Bool} {W : World} (h : One base p q c g cells ty s W) : W.cell? ⟨c, 0, none⟩ = some (.pointer (some ⟨q, 0, none⟩)) := (blk_cell h.cap 0).trans rfl

def One56.T0 : Bool × List (List Nat × List Nat) := (true, [([], []), ([], []), ([1], [1]), ([2], [2]), ([], []), ([4], [4]), ([5], [5]), ([], []), ([7], [7]), ([8], [8]), ([], []), ([10], [10]), ([11], [11]), ([], []), ([13], [13]), ([14], [14]), ([], []), ([16], [16]), ([17], [17]), ([3, 6, 9, 12, 15, 18], [3, 6, 9, 12, 15, 18]), ([0, 19], [0, 19])])
def One56.B0 : List Nat := [0, 0, 2, 6, 0, 16, 48, 0, 128, 384, 0, 1024, 3072, 0, 8192, 24576, 0, 65536, 196608, 524286, 1048575]
theorem One56.tab0 : rtab .any (opsOf Try.f56 0) = One56.T0 := by kernel_rfl
theorem One56.bits0 : waitsOk One56.T0.2 One56.B0 = true := by kernel_rfl

set_option maxHeartbeats 8000000 in
set_option maxRecDepth 100000 in
theorem one56 {base p q c g : Nat} {z0 z1 z2 z3 z4 z5 : Value} (s : (List Int × Bool) × Bool) (W : World) (h : One base p q c g #[z0, z1, z2, z3, z4, z5] 95 s W) :
  Calls Try.prog 56 #[.pointer (some ⟨g, 0, none⟩), .pointer (some ⟨c, 0, none⟩)] W fun e W' => e = .returned (.tuple #[]) ∧ W'.heap[g]? = some (.cells (putN #[z0, z1, z2, z3, z4, z5] 0 (rInts 6 s.1).1) 95 (0, 0)) ∧ SR base p q ((rInts 6 s.1).2, s.2) W' ∧ Ch (fun k => k = p ∨ k = g) W W' := by
 have HD := Aside0.mk h
 have HCH := Aside0.mk (Ch.refl (fun k => k = p ∨ k = g) W)
 clear h
 go_enter Try.func56, Try.ntmps56
 go_upto_region 0 with (fail)
 refine start_ (n := 21) (S := fun w' => w'.cell? ⟨c, 0, none⟩ = some (.pointer (some ⟨q, 0, none⟩))) (ds := [20]) #[false, false, false, false, false, false, false, false, false, false, false, false, false, false, false, false, false, false, false, false, false] (by kernel_rfl) rfl rfl ((blk_cell (HD.out.go (below_drew (Below.refl _ _))).cap 0).trans rfl) (fun hHeld => ?_); refine with_tabW One56.tab0 One56.bits0 (fun HT_ HW_ => ?_)
 have n_ := Aside0.mk (HD.out.go (below_drew (Below.refl _ _)))
 have m_ := Aside0.mk (HCH.out.trans (Ch.of_below (S := fun _ => False) (below_drew (Below.refl _ _))) (fun _ _ h => h.elim))
 clear HD; clear HCH
 have HD := n_
 have HCH := m_
 clear n_; clear m_
 generalize World.drew _ = wz at HD HCH hHeld ⊢
 refine plan_ [(0, 3)] ?_
 refine planT_ (v := ?_) (a' := ?_) rfl rfl (take_ofW HT_.out HW_.out (by kernel_rfl)) (fun _ _ _ h => h) (Or.inl ⟨by rfl, ?_⟩) hHeld ?_ ?_; rotate_left; (rintro w' hs_; go_simp; with_reducible rfl); rotate_left; (simp only [Act.put, List.setIfInBounds_toArray, List.set_cons_zero, List.set_cons_succ, i64_w, i32_w]; rfl)
 refine planEnd_ ?_
 refine plan_ [(1, 4), (2, 5), (3, 6), (4, 7), (5, 8), (6, 9), (7, 10), (8, 11), (9, 12), (10, 13), (11, 14), (12, 15), (13, 16), (14, 17), (15, 18), (16, 19), (17, 20), (18, 21)] ?_
 iterate 18 (refine planP_ (v := ?_) (a' := ?_) rfl rfl (any_of HT_.out (by kernel_rfl)) (fun _ _ _ h => h) (Or.inl ⟨by rfl, ?_⟩) ?_ ?_; rotate_left; (intro w'; go_simp; with_reducible rfl); rotate_left; (simp only [Act.put, List.setIfInBounds_toArray, List.set_cons_zero, List.set_cons_succ, i64_w, i32_w]; rfl))
 refine planEnd_ ?_
 refine one_ (i := 19) (N := some 22) #[true, true, true, true, true, true, true, true, true, true, true, true, true, true, true, true, true, true, true, true, false] rfl rfl (one_of HT_.out (by kernel_rfl)) (by decide) (fun K hK => ?_)
 refine ptrs_step ?hg (N := 22) ?hd (cells := #[.pointer (some ⟨g, 0, none⟩), .pointer (some ⟨g, 1, none⟩), .pointer (some ⟨g, 2, none⟩), .pointer (some ⟨g, 3, none⟩), .pointer (some ⟨g, 4, none⟩), .pointer (some ⟨g, 5, none⟩)]) (n := 6) ?hr ?_; (case hd => rfl); (case hg => rfl); (case hr => first | (go_simp; done) | (go_simp; rfl))
 intro t ht w2 ht2 hb2
 have HTQ : Aside0 (q < t ∧ g ≠ t) := ⟨by subst ht; exact ⟨HD.out.sr.lt, Nat.ne_of_lt (blk_lt HD.out.blk)⟩⟩
 have HPT : Aside0 (∀ i, i < 6 → (#[.pointer (some ⟨g, 0, none⟩), .pointer (some ⟨g, 1, none⟩), .pointer (some ⟨g, 2, none⟩), .pointer (some ⟨g, 3, none⟩), .pointer (some ⟨g, 4, none⟩), .pointer (some ⟨g, 5, none⟩)] : Array Value)[i]? = some (.pointer (some ⟨g, 0 + i, none⟩))) := ⟨by intro i hi; (have hi_ : i = 0 ∨ i = 1 ∨ i = 2 ∨ i = 3 ∨ i = 4 ∨ i = 5 := by omega); rcases hi_ with rfl | rfl | rfl | rfl | rfl | rfl <;> rfl⟩
 have HSZ : Aside0 (0 + 6 ≤ (#[z0, z1, z2, z3, z4, z5] : Array Value).size ∧ 6 ≤ 100) := ⟨by simp, by decide⟩
 have HT2 := Aside0.mk ht2
 have n_ := Aside0.mk (HD.out.go hb2)
 have m_ := Aside0.mk (HCH.out.trans (Ch.of_below (S := fun _ => False) hb2) (fun _ _ h => h.elim))
 clear HD; clear HCH; clear ht; clear ht2; clear hb2
 have HD := n_
 have HCH := m_
 clear n_; clear m_
 refine hK.out _ _ ((blk_cell HD.out.cap 0).trans rfl) (fun hHeld => ?_)
 clear hK; clear K
 refine norm_ (a' := ?_) ?_ ?_
 rotate_left
 ·show Act.put _ (some 22) _ = _
  simp only [Act.put, List.setIfInBounds_toArray, List.set_cons_zero, List.set_cons_succ, i64_w, i32_w]
  rfl
 refine last_ (i := 20) (N := some 23) #[true, true, true, true, true, true, true, true, true, true, true, true, true, true, true, true, true, true, true, true, true] rfl rfl (one_of HT_.out (by kernel_rfl)) (by decide) (fun K hK => ?_)
 refine goes_ Try.func52 (by kernel_rfl) rfl #[.pointer (some ⟨q, 0, none⟩), .slice (some ⟨t, 0, none⟩) 6 6] (by rfl) rfl rfl mt ?_
 with_reducible refine (get_f (g := g) (t := t) (n := 6) (o := 0) (ty := 95) (arr := #[z0, z1, z2, z3, z4, z5]) (tarr := #[.pointer (some ⟨g, 0, none⟩), .pointer (some ⟨g, 1, none⟩), .pointer (some ⟨g, 2, none⟩), .pointer (some ⟨g, 3, none⟩), .pointer (some ⟨g, 4, none⟩), .pointer (some ⟨g, 5, none⟩)]) s _ HD.out.sr HD.out.lo.2.1 HTQ.out.2 HTQ.out.1 HD.out.blk HT2.out HPT.out HSZ.out.1 HSZ.out.2).mono ?_
 rintro e w3 ⟨rfl, hg3, hs3, hc3⟩; have G3 := Aside0.mk hg3; have S3 := Aside0.mk hs3; have K3 := Aside0.mk (HD.out.lo.1); have LL := Aside0.mk HD.out.lo; have C3 := Aside0.mk (hc3.keep HD.out.cap (by rintro (h | h) <;> (have := HD.out.lo; have := HD.out.sr.lo; omega))); have m_ := Aside0.mk (HCH.out.trans hc3 (fun _ _ h => h)); clear HCH HD hg3 hs3 hc3; have HCH := m_; clear m_
 refine ⟨_, rfl, ?_⟩
 refine hK.out _ _ ?_
 clear hK; clear K
 refine norm_ (a' := ?_) ?_ ?_
 rotate_left
 ·show Act.put _ (some 23) _ = _
  simp only [Act.put, List.setIfInBounds_toArray, List.set_cons_zero, List.set_cons_succ, i64_w, i32_w]
  rfl
 refine done_ (done_of HT_.out (by kernel_rfl)) ?_
 try go_wp2
 go_end0
 exact ⟨rfl, G3.out, S3.out, HCH.out⟩

def One58.T0 : Bool × List (List Nat × List Nat) := (true, [([], []), ([], []), ([1], [1]), ([2], [2]), ([], []), ([4], [4]), ([5], [5]), ([], []), ([7], [7]), ([8], [8]), ([3, 6, 9], [3, 6, 9]), ([0, 10], [0, 10])])
def One58.B0 : List Nat := [0, 0, 2, 6, 0, 16, 48, 0, 128, 384, 1022, 2047]
theorem One58.tab0 : rtab .any (opsOf Try.f58 0) = One58.T0 := by kernel_rfl
theorem One58.bits0 : waitsOk One58.T0.2 One58.B0 = true := by kernel_rfl

set_option maxHeartbeats 8000000 in
set_option maxRecDepth 100000 in
theorem one58 {base p q c g : Nat} {z0 z1 z2 : Value} (s : (List Int × Bool) × Bool) (W : World) (h : One base p q c g #[z0, z1, z2] 97 s W) :
  Calls Try.prog 58 #[.pointer (some ⟨g, 0, none⟩), .pointer (some ⟨c, 0, none⟩)] W fun e W' => e = .returned (.tuple #[]) ∧ W'.heap[g]? = some (.cells (putN #[z0, z1, z2] 0 (rInts 3 s.1).1) 97 (0, 0)) ∧ SR base p q ((rInts 3 s.1).2, s.2) W' ∧ Ch (fun k => k = p ∨ k = g) W W' := by
 have HD := Aside0.mk h
 have HCH := Aside0.mk (Ch.refl (fun k => k = p ∨ k = g) W)
 clear h
 go_enter Try.func58, Try.ntmps58
 go_upto_region 0 with (fail)
 refine start_ (n := 12) (S := fun w' => w'.cell? ⟨c, 0, none⟩ = some (.pointer (some ⟨q, 0, none⟩))) (ds := [11]) #[false, false, false, false, false, false, false, false, false, false, false, false] (by kernel_rfl) rfl rfl ((blk_cell (HD.out.go (below_drew (Below.refl _ _))).cap 0).trans rfl) (fun hHeld => ?_); refine with_tabW One58.tab0 One58.bits0 (fun HT_ HW_ => ?_)
 have n_ := Aside0.mk (HD.out.go (below_drew (Below.refl _ _)))
 have m_ := Aside0.mk (HCH.out.trans (Ch.of_below (S := fun _ => False) (below_drew (Below.refl _ _))) (fun _ _ h => h.elim))
 clear HD; clear HCH
 have HD := n_
 have HCH := m_
 clear n_; clear m_
 generalize World.drew _ = wz at HD HCH hHeld ⊢
 refine plan_ [(0, 3)] ?_
 refine planT_ (v := ?_) (a' := ?_) rfl rfl (take_ofW HT_.out HW_.out (by kernel_rfl)) (fun _ _ _ h => h) (Or.inl ⟨by rfl, ?_⟩) hHeld ?_ ?_; rotate_left; (rintro w' hs_; go_simp; with_reducible rfl); rotate_left; (simp only [Act.put, List.setIfInBounds_toArray, List.set_cons_zero, List.set_cons_succ, i64_w, i32_w]; rfl)
 refine planEnd_ ?_
 refine plan_ [(1, 4), (2, 5), (3, 6), (4, 7), (5, 8), (6, 9), (7, 10), (8, 11), (9, 12)] ?_
 iterate 9 (refine planP_ (v := ?_) (a' := ?_) rfl rfl (any_of HT_.out (by kernel_rfl)) (fun _ _ _ h => h) (Or.inl ⟨by rfl, ?_⟩) ?_ ?_; rotate_left; (intro w'; go_simp; with_reducible rfl); rotate_left; (simp only [Act.put, List.setIfInBounds_toArray, List.set_cons_zero, List.set_cons_succ, i64_w, i32_w]; rfl))
 refine planEnd_ ?_
 refine one_ (i := 10) (N := some 13) #[true, true, true, true, true, true, true, true, true, true, true, false] rfl rfl (one_of HT_.out (by kernel_rfl)) (by decide) (fun K hK => ?_)
 refine ptrs_step ?hg (N := 13) ?hd (cells := #[.pointer (some ⟨g, 0, none⟩), .pointer (some ⟨g, 1, none⟩), .pointer (some ⟨g, 2, none⟩)]) (n := 3) ?hr ?_; (case hd => rfl); (case hg => rfl); (case hr => first | (go_simp; done) | (go_simp; rfl))
 intro t ht w2 ht2 hb2
 have HTQ : Aside0 (q < t ∧ g ≠ t) := ⟨by subst ht; exact ⟨HD.out.sr.lt, Nat.ne_of_lt (blk_lt HD.out.blk)⟩⟩
 have HPT : Aside0 (∀ i, i < 3 → (#[.pointer (some ⟨g, 0, none⟩), .pointer (some ⟨g, 1, none⟩), .pointer (some ⟨g, 2, none⟩)] : Array Value)[i]? = some (.pointer (some ⟨g, 0 + i, none⟩))) := ⟨by intro i hi; (have hi_ : i = 0 ∨ i = 1 ∨ i = 2 := by omega); rcases hi_ with rfl | rfl | rfl <;> rfl⟩
 have HSZ : Aside0 (0 + 3 ≤ (#[z0, z1, z2] : Array Value).size ∧ 3 ≤ 100) := ⟨by simp, by decide⟩
 have HT2 := Aside0.mk ht2
 have n_ := Aside0.mk (HD.out.go hb2)
 have m_ := Aside0.mk (HCH.out.trans (Ch.of_below (S := fun _ => False) hb2) (fun _ _ h => h.elim))
 clear HD; clear HCH; clear ht; clear ht2; clear hb2
 have HD := n_
 have HCH := m_
 clear n_; clear m_
 refine hK.out _ _ ((blk_cell HD.out.cap 0).trans rfl) (fun hHeld => ?_)
 clear hK; clear K
 refine norm_ (a' := ?_) ?_ ?_
 rotate_left
 ·show Act.put _ (some 13) _ = _
  simp only [Act.put, List.setIfInBounds_toArray, List.set_cons_zero, List.set_cons_succ, i64_w, i32_w]
  rfl
 refine last_ (i := 11) (N := some 14) #[true, true, true, true, true, true, true, true, true, true, true, true] rfl rfl (one_of HT_.out (by kernel_rfl)) (by decide) (fun K hK => ?_)
 refine goes_ Try.func52 (by kernel_rfl) rfl #[.pointer (some ⟨q, 0, none⟩), .slice (some ⟨t, 0, none⟩) 3 3] (by rfl) rfl rfl mt ?_
 with_reducible refine (get_f (g := g) (t := t) (n := 3) (o := 0) (ty := 97) (arr := #[z0, z1, z2]) (tarr := #[.pointer (some ⟨g, 0, none⟩), .pointer (some ⟨g, 1, none⟩), .pointer (some ⟨g, 2, none⟩)]) s _ HD.out.sr HD.out.lo.2.1 HTQ.out.2 HTQ.out.1 HD.out.blk HT2.out HPT.out HSZ.out.1 HSZ.out.2).mono ?_
 rintro e w3 ⟨rfl, hg3, hs3, hc3⟩; have G3 := Aside0.mk hg3; have S3 := Aside0.mk hs3; have K3 := Aside0.mk (HD.out.lo.1); have LL := Aside0.mk HD.out.lo; have C3 := Aside0.mk (hc3.keep HD.out.cap (by rintro (h | h) <;> (have := HD.out.lo; have := HD.out.sr.lo; omega))); have m_ := Aside0.mk (HCH.out.trans hc3 (fun _ _ h => h)); clear HCH HD hg3 hs3 hc3; have HCH := m_; clear m_
 refine ⟨_, rfl, ?_⟩
 refine hK.out _ _ ?_
 clear hK; clear K
 refine norm_ (a' := ?_) ?_ ?_
 rotate_left
 ·show Act.put _ (some 14) _ = _
  simp only [Act.put, List.setIfInBounds_toArray, List.set_cons_zero, List.set_cons_succ, i64_w, i32_w]
  rfl
 refine done_ (done_of HT_.out (by kernel_rfl)) ?_
 try go_wp2
 go_end0
 exact ⟨rfl, G3.out, S3.out, HCH.out⟩

def One75.T0 : Bool × List (List Nat × List Nat) := (true, [([], []), ([], []), ([1], [1]), ([2], [2]), ([], []), ([4], [4]), ([5], [5]), ([3, 6], [3, 6]), ([0, 7], [0, 7])])
def One75.B0 : List Nat := [0, 0, 2, 6, 0, 16, 48, 126, 255]
theorem One75.tab0 : rtab .any (opsOf Try.f75 0) = One75.T0 := by kernel_rfl
theorem One75.bits0 : waitsOk One75.T0.2 One75.B0 = true := by kernel_rfl

set_option maxHeartbeats 8000000 in
set_option maxRecDepth 100000 in
theorem one75 {base p q c g : Nat} {z0 z1 : Value} (s : (List Int × Bool) × Bool) (W : World) (h : One base p q c g #[z0, z1] 102 s W) :
  Calls Try.prog 75 #[.pointer (some ⟨g, 0, none⟩), .pointer (some ⟨c, 0, none⟩)] W fun e W' => e = .returned (.tuple #[]) ∧ W'.heap[g]? = some (.cells (putN #[z0, z1] 0 (rInts 2 s.1).1) 102 (0, 0)) ∧ SR base p q ((rInts 2 s.1).2, s.2) W' ∧ Ch (fun k => k = p ∨ k = g) W W' := by
 have HD := Aside0.mk h
 have HCH := Aside0.mk (Ch.refl (fun k => k = p ∨ k = g) W)
 clear h
 go_enter Try.func75, Try.ntmps75
 go_upto_region 0 with (fail)
 refine start_ (n := 9) (S := fun w' => w'.cell? ⟨c, 0, none⟩ = some (.pointer (some ⟨q, 0, none⟩))) (ds := [8]) #[false, false, false, false, false, false, false, false, false] (by kernel_rfl) rfl rfl ((blk_cell (HD.out.go (below_drew (Below.refl _ _))).cap 0).trans rfl) (fun hHeld => ?_); refine with_tabW One75.tab0 One75.bits0 (fun HT_ HW_ => ?_)
 have n_ := Aside0.mk (HD.out.go (below_drew (Below.refl _ _)))
 have m_ := Aside0.mk (HCH.out.trans (Ch.of_below (S := fun _ => False) (below_drew (Below.refl _ _))) (fun _ _ h => h.elim))
 clear HD; clear HCH
 have HD := n_
 have HCH := m_
 clear n_; clear m_
 generalize World.drew _ = wz at HD HCH hHeld ⊢
 refine plan_ [(0, 3)] ?_
 refine planT_ (v := ?_) (a' := ?_) rfl rfl (take_ofW HT_.out HW_.out (by kernel_rfl)) (fun _ _ _ h => h) (Or.inl ⟨by rfl, ?_⟩) hHeld ?_ ?_; rotate_left; (rintro w' hs_; go_simp; with_reducible rfl); rotate_left; (simp only [Act.put, List.setIfInBounds_toArray, List.set_cons_zero, List.set_cons_succ, i64_w, i32_w]; rfl)
 refine planEnd_ ?_
 refine plan_ [(1, 4), (2, 5), (3, 6), (4, 7), (5, 8), (6, 9)] ?_
 iterate 6 (refine planP_ (v := ?_) (a' := ?_) rfl rfl (any_of HT_.out (by kernel_rfl)) (fun _ _ _ h => h) (Or.inl ⟨by rfl, ?_⟩) ?_ ?_; rotate_left; (intro w'; go_simp; with_reducible rfl); rotate_left; (simp only [Act.put, List.setIfInBounds_toArray, List.set_cons_zero, List.set_cons_succ, i64_w, i32_w]; rfl))
 refine planEnd_ ?_
 refine one_ (i := 7) (N := some 10) #[true, true, true, true, true, true, true, true, false] rfl rfl (one_of HT_.out (by kernel_rfl)) (by decide) (fun K hK => ?_)
 refine ptrs_step ?hg (N := 10) ?hd (cells := #[.pointer (some ⟨g, 0, none⟩), .pointer (some ⟨g, 1, none⟩)]) (n := 2) ?hr ?_; (case hd => rfl); (case hg => rfl); (case hr => first | (go_simp; done) | (go_simp; rfl))
 intro t ht w2 ht2 hb2
 have HTQ : Aside0 (q < t ∧ g ≠ t) := ⟨by subst ht; exact ⟨HD.out.sr.lt, Nat.ne_of_lt (blk_lt HD.out.blk)⟩⟩
 have HPT : Aside0 (∀ i, i < 2 → (#[.pointer (some ⟨g, 0, none⟩), .pointer (some ⟨g, 1, none⟩)] : Array Value)[i]? = some (.pointer (some ⟨g, 0 + i, none⟩))) := ⟨by intro i hi; (have hi_ : i = 0 ∨ i = 1 := by omega); rcases hi_ with rfl | rfl <;> rfl⟩
 have HSZ : Aside0 (0 + 2 ≤ (#[z0, z1] : Array Value).size ∧ 2 ≤ 100) := ⟨by simp, by decide⟩
 have HT2 := Aside0.mk ht2
 have n_ := Aside0.mk (HD.out.go hb2)
 have m_ := Aside0.mk (HCH.out.trans (Ch.of_below (S := fun _ => False) hb2) (fun _ _ h => h.elim))
 clear HD; clear HCH; clear ht; clear ht2; clear hb2
 have HD := n_
 have HCH := m_
 clear n_; clear m_
 refine hK.out _ _ ((blk_cell HD.out.cap 0).trans rfl) (fun hHeld => ?_)
 clear hK; clear K
 refine norm_ (a' := ?_) ?_ ?_
 rotate_left
 ·show Act.put _ (some 10) _ = _
  simp only [Act.put, List.setIfInBounds_toArray, List.set_cons_zero, List.set_cons_succ, i64_w, i32_w]
  rfl
 refine last_ (i := 8) (N := some 11) #[true, true, true, true, true, true, true, true, true] rfl rfl (one_of HT_.out (by kernel_rfl)) (by decide) (fun K hK => ?_)
 refine goes_ Try.func52 (by kernel_rfl) rfl #[.pointer (some ⟨q, 0, none⟩), .slice (some ⟨t, 0, none⟩) 2 2] (by rfl) rfl rfl mt ?_
 with_reducible refine (get_f (g := g) (t := t) (n := 2) (o := 0) (ty := 102) (arr := #[z0, z1]) (tarr := #[.pointer (some ⟨g, 0, none⟩), .pointer (some ⟨g, 1, none⟩)]) s _ HD.out.sr HD.out.lo.2.1 HTQ.out.2 HTQ.out.1 HD.out.blk HT2.out HPT.out HSZ.out.1 HSZ.out.2).mono ?_
 rintro e w3 ⟨rfl, hg3, hs3, hc3⟩; have G3 := Aside0.mk hg3; have S3 := Aside0.mk hs3; have K3 := Aside0.mk (HD.out.lo.1); have LL := Aside0.mk HD.out.lo; have C3 := Aside0.mk (hc3.keep HD.out.cap (by rintro (h | h) <;> (have := HD.out.lo; have := HD.out.sr.lo; omega))); have m_ := Aside0.mk (HCH.out.trans hc3 (fun _ _ h => h)); clear HCH HD hg3 hs3 hc3; have HCH := m_; clear m_
 refine ⟨_, rfl, ?_⟩
 refine hK.out _ _ ?_
 clear hK; clear K
 refine norm_ (a' := ?_) ?_ ?_
 rotate_left
 ·show Act.put _ (some 11) _ = _
  simp only [Act.put, List.setIfInBounds_toArray, List.set_cons_zero, List.set_cons_succ, i64_w, i32_w]
  rfl
 refine done_ (done_of HT_.out (by kernel_rfl)) ?_
 try go_wp2
 go_end0
 exact ⟨rfl, G3.out, S3.out, HCH.out⟩

def One54.T1 : Bool × List (List Nat × List Nat) := (true, [([], []), ([], []), ([1], [1]), ([2], [2]), ([], []), ([4], [4]), ([5], [5]), ([3, 6], [3, 6]), ([0, 7], [0, 7])])
def One54.B1 : List Nat := [0, 0, 2, 6, 0, 16, 48, 126, 255]
theorem One54.tab1 : rtab .any (opsOf Try.f54 1) = One54.T1 := by kernel_rfl
theorem One54.bits1 : waitsOk One54.T1.2 One54.B1 = true := by kernel_rfl

set_option maxHeartbeats 8000000 in
set_option maxRecDepth 100000 in
theorem one54 {base p q c g : Nat} {z0 z1 z2 : Value} (s : (List Int × Bool) × Bool) (W : World) (h : One base p q c g #[z0, z1, z2] 93 s W) :
  Calls Try.prog 54 #[.pointer (some ⟨g, 0, none⟩), .pointer (some ⟨c, 0, none⟩)] W fun e W' => e = .returned (.tuple #[]) ∧ W'.heap[g]? = some (.cells (putN #[.string (strOfNums (rText s.1 16).1), z1, z2] 1 (rInts 2 (rText s.1 16).2).1) 93 (0, 0)) ∧ SR base p q ((rInts 2 (rText s.1 16).2).2, s.2) W' ∧ Ch (fun k => k = p ∨ k = g) W W' := by
 obtain ⟨st, hst⟩ : ∃ st, rText s.1 16 = st := ⟨_, rfl⟩
 rw [hst]
 have HST := Aside0.mk hst
 have HD := Aside0.mk h
 have HCH := Aside0.mk (Ch.refl (fun k => k = p ∨ k = g) W)
 have hc0 := h.c0
 have hq0 := h.sr.q0
 clear h; clear hst
 go_enter Try.func54, Try.ntmps54
 go_upto_region 1 with (first | (go_at_call 23; (with_reducible refine (text_s HST.out _ HD.out.sr.rd).mono ?_); rintro e w1 ⟨rfl, hr, hp⟩; have n_ := Aside0.mk (HD.out.puts hr hp); have m_ := Aside0.mk (HCH.out.trans (Ch.of_puts (S := fun k => k = p ∨ k = g) hp (Or.inl rfl)) (fun _ _ h => h)); have hgz : World.cell? w1 ⟨g, 0, none⟩ = some z0 := (blk_cell n_.out.blk 0).trans rfl; have hgf := blk_frozen n_.out.blk 0; have e_ := Aside0.mk (n_.out.put (cells' := #[.string (strOfNums st.1), z1, z2]) 0 (.string (strOfNums st.1)) rfl); have f_ := Aside0.mk (m_.out.trans (Ch.set (S := fun k => k = g) w1 (g := g) 0 (.string (strOfNums st.1)) rfl) (fun _ _ h => Or.inr h)); clear HD HCH hr hp; have HD := e_; have HCH := f_; clear n_ m_ e_ f_))
 refine start_ (n := 9) (S := fun w' => w'.cell? ⟨c, 0, none⟩ = some (.pointer (some ⟨q, 0, none⟩))) (ds := [8]) #[false, false, false, false, false, false, false, false, false] (by kernel_rfl) rfl rfl ((blk_cell (HD.out.go (below_drew (Below.refl _ _))).cap 0).trans rfl) (fun hHeld => ?_); refine with_tabW One54.tab1 One54.bits1 (fun HT_ HW_ => ?_)
 have n_ := Aside0.mk (HD.out.go (below_drew (Below.refl _ _)))
 have m_ := Aside0.mk (HCH.out.trans (Ch.of_below (S := fun _ => False) (below_drew (Below.refl _ _))) (fun _ _ h => h.elim))
 clear HD; clear HCH
 have HD := n_
 have HCH := m_
 clear n_; clear m_
 generalize World.drew _ = wz at HD HCH hHeld ⊢
 refine plan_ [(0, 11)] ?_
 refine planT_ (v := ?_) (a' := ?_) rfl rfl (take_ofW HT_.out HW_.out (by kernel_rfl)) (fun _ _ _ h => h) (Or.inl ⟨by rfl, ?_⟩) hHeld ?_ ?_; rotate_left; (rintro w' hs_; go_simp; with_reducible rfl); rotate_left; (simp only [Act.put, List.setIfInBounds_toArray, List.set_cons_zero, List.set_cons_succ, i64_w, i32_w]; rfl)
 refine planEnd_ ?_
 refine plan_ [(1, 12), (2, 13), (3, 14), (4, 15), (5, 16), (6, 17)] ?_
 iterate 6 (refine planP_ (v := ?_) (a' := ?_) rfl rfl (any_of HT_.out (by kernel_rfl)) (fun _ _ _ h => h) (Or.inl ⟨by rfl, ?_⟩) ?_ ?_; rotate_left; (intro w'; go_simp; with_reducible rfl); rotate_left; (simp only [Act.put, List.setIfInBounds_toArray, List.set_cons_zero, List.set_cons_succ, i64_w, i32_w]; rfl))
 refine planEnd_ ?_
 refine one_ (i := 7) (N := some 18) #[true, true, true, true, true, true, true, true, false] rfl rfl (one_of HT_.out (by kernel_rfl)) (by decide) (fun K hK => ?_)
 refine ptrs_step ?hg (N := 18) ?hd (cells := #[.pointer (some ⟨g, 1, none⟩), .pointer (some ⟨g, 2, none⟩)]) (n := 2) ?hr ?_; (case hd => rfl); (case hg => rfl); (case hr => first | (go_simp; done) | (go_simp; rfl))
 intro t ht w2 ht2 hb2
 have HTQ : Aside0 (q < t ∧ g ≠ t) := ⟨by subst ht; exact ⟨HD.out.sr.lt, Nat.ne_of_lt (blk_lt HD.out.blk)⟩⟩
 have HPT : Aside0 (∀ i, i < 2 → (#[.pointer (some ⟨g, 1, none⟩), .pointer (some ⟨g, 2, none⟩)] : Array Value)[i]? = some (.pointer (some ⟨g, 1 + i, none⟩))) := ⟨by intro i hi; (have hi_ : i = 0 ∨ i = 1 := by omega); rcases hi_ with rfl | rfl <;> rfl⟩
 have HSZ : Aside0 (1 + 2 ≤ (#[.string (strOfNums st.1), z1, z2] : Array Value).size ∧ 2 ≤ 100) := ⟨by simp, by decide⟩
 have HT2 := Aside0.mk ht2
 have n_ := Aside0.mk (HD.out.go hb2)
 have m_ := Aside0.mk (HCH.out.trans (Ch.of_below (S := fun _ => False) hb2) (fun _ _ h => h.elim))
 clear HD; clear HCH; clear ht; clear ht2; clear hb2
 have HD := n_
 have HCH := m_
 clear n_; clear m_
 refine hK.out _ _ ((blk_cell HD.out.cap 0).trans rfl) (fun hHeld => ?_)
 clear hK; clear K
 refine norm_ (a' := ?_) ?_ ?_
 rotate_left
 ·show Act.put _ (some 18) _ = _
  simp only [Act.put, List.setIfInBounds_toArray, List.set_cons_zero, List.set_cons_succ, i64_w, i32_w]
  rfl
 refine last_ (i := 8) (N := some 19) #[true, true, true, true, true, true, true, true, true] rfl rfl (one_of HT_.out (by kernel_rfl)) (by decide) (fun K hK => ?_)
 refine goes_ Try.func52 (by kernel_rfl) rfl #[.pointer (some ⟨q, 0, none⟩), .slice (some ⟨t, 0, none⟩) 2 2] (by rfl) rfl rfl mt ?_
 with_reducible refine (get_f (g := g) (t := t) (n := 2) (o := 1) (ty := 93) (arr := #[.string (strOfNums st.1), z1, z2]) (tarr := #[.pointer (some ⟨g, 1, none⟩), .pointer (some ⟨g, 2, none⟩)]) (st.2, s.2) _ HD.out.sr HD.out.lo.2.1 HTQ.out.2 HTQ.out.1 HD.out.blk HT2.out HPT.out HSZ.out.1 HSZ.out.2).mono ?_
 rintro e w3 ⟨rfl, hg3, hs3, hc3⟩; have G3 := Aside0.mk hg3; have S3 := Aside0.mk hs3; have K3 := Aside0.mk (HD.out.lo.1); have LL := Aside0.mk HD.out.lo; have C3 := Aside0.mk (hc3.keep HD.out.cap (by rintro (h | h) <;> (have := HD.out.lo; have := HD.out.sr.lo; omega))); have m_ := Aside0.mk (HCH.out.trans hc3 (fun _ _ h => h)); clear HCH HD hg3 hs3 hc3; have HCH := m_; clear m_
 refine ⟨_, rfl, ?_⟩
 refine hK.out _ _ ?_
 clear hK; clear K
 refine norm_ (a' := ?_) ?_ ?_
 rotate_left
 ·show Act.put _ (some 19) _ = _
  simp only [Act.put, List.setIfInBounds_toArray, List.set_cons_zero, List.set_cons_succ, i64_w, i32_w]
  rfl
 refine done_ (done_of HT_.out (by kernel_rfl)) ?_
 try go_wp2
 go_end0
 exact ⟨rfl, G3.out, S3.out, HCH.out⟩

set_option maxHeartbeats 8000000 in
theorem one62 {base p q c g : Nat} {z0 : Value} (s : (List Int × Bool) × Bool) (W : World) (h : One base p q c g #[z0] 9 s W) :
  Calls Try.prog 62 #[.pointer (some ⟨g, 0, none⟩), .pointer (some ⟨c, 0, none⟩)] W fun e W' => e = .returned (.tuple #[]) ∧ W'.heap[g]? = some (.cells #[.string (strOfNums (rText s.1 16).1)] 9 (0, 0)) ∧ SR base p q ((rText s.1 16).2, s.2) W' ∧ Ch (fun k => k = p ∨ k = g) W W' := by
 obtain ⟨st, hst⟩ : ∃ st, rText s.1 16 = st := ⟨_, rfl⟩
 rw [hst]
 have HST := Aside0.mk hst
 have HD := Aside0.mk h
 have HCH := Aside0.mk (Ch.refl (fun k => k = p ∨ k = g) W)
 have hc0 := h.c0
 have hq0 := h.sr.q0
 clear h; clear hst
 go_enter Try.func62, Try.ntmps62
 go_wp2_with (first | (go_at_call 23; (with_reducible refine (text_s HST.out _ HD.out.sr.rd).mono ?_); rintro e w1 ⟨rfl, hr, hp⟩; have n_ := Aside0.mk (HD.out.puts hr hp); have m_ := Aside0.mk (HCH.out.trans (Ch.of_puts (S := fun k => k = p ∨ k = g) hp (Or.inl rfl)) (fun _ _ h => h)); have hgz : World.cell? w1 ⟨g, 0, none⟩ = some z0 := (blk_cell n_.out.blk 0).trans rfl; have hgf := blk_frozen n_.out.blk 0; have e_ := Aside0.mk (n_.out.put (cells' := #[.string (strOfNums st.1)]) 0 (.string (strOfNums st.1)) rfl); have f_ := Aside0.mk (m_.out.trans (Ch.set (S := fun k => k = g) w1 (g := g) 0 (.string (strOfNums st.1)) rfl) (fun _ _ h => Or.inr h)); clear HD HCH hr hp; have HD := e_; have HCH := f_; clear n_ m_ e_ f_))
 go_end0
 exact ⟨rfl, HD.out.blk, HD.out.sr, HCH.out⟩
abbrev RS := (List Int × Bool) × Bool
def rLoop {α : Type} (one : RS → α × RS) : Nat → RS → List α → List α × RS
 | 0, s, out => (out, s)
 | n + 1, s, out => rLoop one n (one s).2 (out ++ [(one s).1])
def rList {α : Type} (one : RS → α × RS) (m : Int) (s : RS) : List α × RS :=
 if 0 ≤ (rInt s.1).1 ∧ (rInt s.1).1 ≤ m then rLoop one (rInt s.1).1.toNat ((rInt s.1).2, s.2) [] else ([], ((rInt s.1).2, true))
def dFund (s : RS) : S93 × RS := (⟨strOfNums (rText s.1 16).1, (rInts 2 (rText s.1 16).2).1.getD 0 0, (rInts 2 (rText s.1 16).2).1.getD 1 0⟩, ((rInts 2 (rText s.1 16).2).2, s.2))
def dAlloc (s : RS) : S95 × RS := (⟨(rInts 6 s.1).1.getD 0 0, (rInts 6 s.1).1.getD 1 0, (rInts 6 s.1).1.getD 2 0, (rInts 6 s.1).1.getD 3 0, (rInts 6 s.1).1.getD 4 0, (rInts 6 s.1).1.getD 5 0⟩, ((rInts 6 s.1).2, s.2))
def dRate (s : RS) : S97 × RS := (⟨(rInts 3 s.1).1.getD 0 0, (rInts 3 s.1).1.getD 1 0, (rInts 3 s.1).1.getD 2 0⟩, ((rInts 3 s.1).2, s.2))
def dDraw (s : RS) : S102 × RS := (⟨(rInts 2 s.1).1.getD 0 0, (rInts 2 s.1).1.getD 1 0⟩, ((rInts 2 s.1).2, s.2))
def dKey (s : RS) : ByteArray × RS := (strOfNums (rText s.1 16).1, ((rText s.1 16).2, s.2))

theorem sinfo93 : (Try.prog.info? 93).map (fun i => (i.zero, i.size, i.bytes)) = some (some (.agg #[.string (⟨#[]⟩ : ByteArray), .int .i64 0, .int .i64 0]), 3, 32) := by kernel_rfl
theorem one54' {base p q c g : Nat} (s : RS) (x : S93) (s' : RS) (hx : dFund s = (x, s')) (W : World) (h : One base p q c g #[.string (⟨#[]⟩ : ByteArray), .int .i64 0, .int .i64 0] 93 s W) :
  Calls Try.prog 54 #[.pointer (some ⟨g, 0, none⟩), .pointer (some ⟨c, 0, none⟩)] W fun e W' => e = .returned (.tuple #[]) ∧ W'.heap[g]? = some (.cells #[.string x.f0, .int .i64 x.f1, .int .i64 x.f2] 93 (0, 0)) ∧ SR base p q s' W' ∧ Ch (fun k => k = p ∨ k = q ∨ k = g) W W' := by
 refine (one54 s W h).mono (fun e W' h => ?_)
 obtain ⟨h1, h2, h3, h4⟩ := h
 have e1 : x = (dFund s).1 := by rw [hx]
 have e2 : s' = (dFund s).2 := by rw [hx]
 subst e1; subst e2
 exact ⟨h1, h2, h3, h4.mono (fun k hk => hk.elim Or.inl (fun h => Or.inr (Or.inr h)))⟩
set_option maxHeartbeats 8000000 in
set_option maxRecDepth 100000 in
theorem list53 {base p q c : Nat} (s : RS) (m : Int) (W : World) (h : SR base p q s W) (hcap : W.heap[c]? = some (.cells #[.pointer (some ⟨q, 0, none⟩)] 104 (0, 0))) (hqc : q < c) (hm : 0 ≤ m ∧ m ≤ 16) :
  Calls Try.prog 53 #[.pointer (some ⟨q, 0, none⟩), .int .i64 m, .func (.func 54) #[] #[.pointer (some ⟨c, 0, none⟩)]] W fun e W' => ∃ v, e = .returned v ∧ Kd.R k93 93 W' W.heap.size (fun _ => True) v (rList dFund m s).1 ∧ SR base p q (rList dFund m s).2 W' ∧ Ch (fun k => k = p ∨ k = q) W W' := by
 obtain ⟨st, hst⟩ : ∃ st, rInt s.1 = st := ⟨_, rfl⟩
 obtain ⟨L, hL⟩ : ∃ L, rList dFund m s = L := ⟨_, rfl⟩
 have HST := Aside0.mk hst
 have HS := Aside0.mk h
 have HLQ := Aside0.mk h.lt
 have hq0 := h.q0
 have HCAP := Aside0.mk hcap
 have HLC := Aside0.mk hqc
 have HLC2 := Aside0.mk (blk_lt hcap)
 have hdef : rList dFund m s = if 0 ≤ st.1 ∧ st.1 ≤ m then rLoop dFund st.1.toNat (st.2, s.2) [] else ([], (st.2, true)) := by unfold rList; rw [hst]
 rw [hL] at hdef ⊢
 clear h; clear hL; clear hst; clear hcap; clear hqc
 by_cases c0 : st.1 < 0
 ·have c0b : decide (st.1 < 0) = true := decide_eq_true c0
  have HBAD : Aside0 (L = ([], (st.2, true))) := ⟨by rw [hdef, if_neg (by omega)]⟩
  clear hdef; clear c0
  go_enter Try.func53, Try.ntmps53
  go_wp2_with (first | (go_at_call 25; (with_reducible refine (int_s HST.out _ HS.out.rd).mono ?_); rintro e w1 ⟨rfl, hr, hp⟩; have HS1 := Aside0.mk (HS.out.puts hr hp); have HC1 := Aside0.mk (Ch.of_puts (S := fun k => k = p ∨ k = q) hp (Or.inl rfl)); have HP1 := Aside0.mk (HC1.out.keep HCAP.out (by have := HLC.out; have := HS.out.lo; rintro (h | h) <;> omega)); clear hr hp; have hq1 := HS1.out.q1; have hqf := blk_frozen HS1.out.rq 1))
  go_ret
  refine ⟨_, rfl, ?_, ?_, ?_⟩
  ·rw [HBAD.out]; exact Kd.R_nil _ _ _ _ _
  ·rw [HBAD.out]; exact HS1.out.setq true
  ·exact HC1.out.trans (Ch.set (S := fun k => k = p ∨ k = q) _ 1 _ (Or.inr rfl)) (fun _ _ h => h)
 ·have c0b : decide (st.1 < 0) = false := decide_eq_false c0
  by_cases c1 : m < st.1
  ·have c1b : decide (m < st.1) = true := decide_eq_true c1
   have HBAD : Aside0 (L = ([], (st.2, true))) := ⟨by rw [hdef, if_neg (by omega)]⟩
   clear hdef; clear c0; clear c1
   go_enter Try.func53, Try.ntmps53
   go_wp2_with (first | (go_at_call 25; (with_reducible refine (int_s HST.out _ HS.out.rd).mono ?_); rintro e w1 ⟨rfl, hr, hp⟩; have HS1 := Aside0.mk (HS.out.puts hr hp); have HC1 := Aside0.mk (Ch.of_puts (S := fun k => k = p ∨ k = q) hp (Or.inl rfl)); have HP1 := Aside0.mk (HC1.out.keep HCAP.out (by have := HLC.out; have := HS.out.lo; rintro (h | h) <;> omega)); clear hr hp; have hq1 := HS1.out.q1; have hqf := blk_frozen HS1.out.rq 1))
   go_ret
   refine ⟨_, rfl, ?_, ?_, ?_⟩
   ·rw [HBAD.out]; exact Kd.R_nil _ _ _ _ _
   ·rw [HBAD.out]; exact HS1.out.setq true
   ·exact HC1.out.trans (Ch.set (S := fun k => k = p ∨ k = q) _ 1 _ (Or.inr rfl)) (fun _ _ h => h)
  ·have c1b : decide (m < st.1) = false := decide_eq_false c1
   have HN : Aside0 (0 ≤ st.1 ∧ st.1 ≤ 16) := ⟨by omega⟩
   obtain ⟨T, hT⟩ : ∃ T, rLoop dFund st.1.toNat (st.2, s.2) [] = T := ⟨_, rfl⟩
   have HT := Aside0.mk hT
   have HOKE : Aside0 (L = T) := ⟨by rw [hdef, if_pos (by omega), hT]⟩
   clear hdef; clear c0; clear c1; clear hT
   go_enter Try.func53, Try.ntmps53
   go_wp2_with (first | (go_at_call 25; (with_reducible refine (int_s HST.out _ HS.out.rd).mono ?_); rintro e w1 ⟨rfl, hr, hp⟩; have HS1 := Aside0.mk (HS.out.puts hr hp); have HC1 := Aside0.mk (Ch.of_puts (S := fun k => k = p ∨ k = q) hp (Or.inl rfl)); have HP1 := Aside0.mk (HC1.out.keep HCAP.out (by have := HLC.out; have := HS.out.lo; rintro (h | h) <;> omega)); clear hr hp))
   go_loopg [26, 7] st.1.toNat (fun kq v26 v7 w' => ∃ (x26 : Int) (out : List S93) (si : RS), v26 = .int .i64 x26 ∧ Aside0 (x26 + kq = st.1 ∧ 0 ≤ x26 ∧ (out.length : Int) = x26) ∧ Aside0 (rLoop dFund kq si out = T) ∧ Aside0 (Kd.R k93 93 w' W.heap.size (fun k => W.heap.size ≤ k) v7 out) ∧ Aside0 (SR base p q si w') ∧ Aside0 (Ch (fun k => k = p ∨ k = q) W w') ∧ Aside0 (w'.heap[c]? = some (.cells #[.pointer (some ⟨q, 0, none⟩)] 104 (0, 0))))
   case atStart => exact ⟨0, [], (st.2, s.2), rfl, ⟨by have := HN.out; simp; omega⟩, HT, ⟨Kd.R_nil _ _ _ _ _⟩, HS1, HC1, HP1⟩
   case round =>
    clear HS1; clear HC1; clear HT; clear HP1
    obtain ⟨x26, out, si, rfl, HI, HT, HR, HSI, HCH, HCP⟩ := hrel
    by_cases d1 : x26 < st.1
    ·have d1b : decide (x26 < st.1) = true := decide_eq_true d1
     obtain ⟨k1, rfl⟩ : ∃ k1, gk = k1 + 1 := ⟨gk - 1, by have := HI.out; omega⟩
     obtain ⟨⟨x, sj⟩, hx⟩ : ∃ y, dFund si = y := ⟨_, rfl⟩
     have HX := Aside0.mk hx
     have HT2 : Aside0 (rLoop dFund k1 sj (out ++ [x]) = T) := ⟨by have := HT.out; rw [rLoop, hx] at this; exact this⟩
     have HOL : Aside0 (out.length ≤ 16) := ⟨by have := HI.out; have := HN.out; omega⟩
     have e26 : wrap64 (x26 + 1) = x26 + 1 := by have := HI.out; have := HN.out; unfold wrap64; omega
     have HSZ := Aside0.mk HCH.out.size
     have HON : Aside0 (One base p q c wr.heap.size #[.string (⟨#[]⟩ : ByteArray), .int .i64 0, .int .i64 0] 93 si (wr.alloc (.cells #[.string (⟨#[]⟩ : ByteArray), .int .i64 0, .int .i64 0] 93 (0, 0)))) := ⟨⟨HSI.out.below (below_alloc (Below.refl _ _) _), blk_below HCP.out (below_alloc (Below.refl _ _) _), heap_alloc_new wr _, ⟨HLC.out, HSI.out.lt, by have := blk_lt HCP.out; omega⟩⟩⟩
     clear d1; clear hx; clear HT
     go_wp2_with (first | (go_at_call 54; (with_reducible refine (one54' si x sj HX.out _ HON.out).mono ?_); rintro e w2 ⟨rfl, hg2, hs2, hc2⟩; have HC2 := Aside0.mk (HCH.out.trans (Ch.trans (Ch.of_below (S := fun k => k = p ∨ k = q ∨ k = wr.heap.size) (below_alloc (Below.refl wr.heap.size wr) (.cells #[.string (⟨#[]⟩ : ByteArray), .int .i64 0, .int .i64 0] 93 (0, 0)))) hc2 (fun _ _ h => h)) (fun k hk h => by rcases h with h | h | h; (exact Or.inl h); (exact Or.inr h); (exact absurd hk (by have := HCH.out.size; omega)))); have HR2 : Aside0 (Kd.R k93 93 w2 W.heap.size (fun k => W.heap.size ≤ k) u7 out) := ⟨Kd.R_step HR.out (fun k hk hlt => (hc2.block k (by simp; omega) (by have := HSI.out.lt; have := HSI.out.lo; have := HLQ.out; rintro (h | h | h) <;> omega)).trans (Below.heap_alloc wr _ k (by omega)))⟩; have HCP2 := Aside0.mk (hc2.keep (blk_below HCP.out (below_alloc (Below.refl _ _) _)) (by have := HLC.out; have := HSI.out.lo; have := blk_lt HCP.out; rintro (h | h | h) <;> omega)); have HS2 := Aside0.mk hs2; have HG2 := Aside0.mk hg2; have hz0 : World.cell? w2 ⟨wr.heap.size, 0, none⟩ = some (.string x.f0) := (blk_cell hg2 0).trans rfl; have hz1 : World.cell? w2 ⟨wr.heap.size, 1, none⟩ = some (.int .i64 x.f1) := (blk_cell hg2 1).trans rfl; have hz2 : World.cell? w2 ⟨wr.heap.size, 2, none⟩ = some (.int .i64 x.f2) := (blk_cell hg2 2).trans rfl; clear hg2 hs2 hc2 HCH HSI HR HCP HON; have HCH := HC2; clear HC2) | ((with_reducible refine gate_builtin (b := .append) (xs := #[.tmp 30, .tmp 32]) rfl ?_); at_builtin; refine Kd.R_append k93 (w0 := w2) W.heap.size rfl (.tmp 30) (.tmp 32) 62 93 (.agg #[.string (⟨#[]⟩ : ByteArray), .int .i64 0, .int .i64 0]) 32 rfl Try.underlying62 sinfo93 rfl (by decide) (by omega) u7 out x [.string x.f0, .int .i64 x.f1, .int .i64 x.f2] (fun k => W.heap.size ≤ k) (fun _ => False) rfl rfl ?aP (fun _ hk => hk.elim) ?aF ?aO ?aB ?aS ?aL ?_; (case aP => exact k93_mkM _ _ _ x); (case aF => exact (fun k hk => Nat.le_trans HCH.out.size hk)); (case aO => exact HR2.out); (case aB => exact Below.refl _ _); (case aS => exact HCH.out.size); (case aL => have := HOL.out; omega); intro v3 w3 ho hb hg hat; have HR3 := Aside0.mk ho; have HC3 := Aside0.mk (HCH.out.trans (Ch.of_grown (S := fun k => u7.ownBlock = some k) hg (fun _ h => h)) (fun k hk h => absurd (HR2.out.1 k h) (by omega))); have HS3 := Aside0.mk (HS2.out.ch (Ch.of_grown (S := fun k => u7.ownBlock = some k) hg (fun _ h => h)) (fun k h => by have := HR2.out.1 k h; have := HLQ.out; omega)); have HCP3 := Aside0.mk ((Ch.of_grown (S := fun k => u7.ownBlock = some k) hg (fun _ h => h)).keep HCP2.out (fun h => by have := HR2.out.1 c h; have := HLC2.out; omega)); clear ho hb hg hat))
     go_roundg k1
     case measure => omega
     case rel => exact ⟨x26 + 1, out ++ [x], sj, by rw [e26], ⟨by have := HI.out; simp; omega⟩, HT2, HR3, HS3, HC3, HCP3⟩
    ·have d1b : decide (x26 < st.1) = false := decide_eq_false d1
     have hk0 : gk = 0 := by have := HI.out; omega
     subst hk0
     have HT2 : (out, si) = T := HT.out
     clear d1; clear HT
     go_wp2
     go_ret
     refine ⟨_, rfl, ?_, ?_, HCH.out⟩
     ·rw [HOKE.out, ← HT2]; exact Kd.R_mono HR.out (fun _ _ => trivial)
     ·rw [HOKE.out, ← HT2]; exact HSI.out

theorem sinfo95 : (Try.prog.info? 95).map (fun i => (i.zero, i.size, i.bytes)) = some (some (.agg #[.int .i64 0, .int .i64 0, .int .i64 0, .int .i64 0, .int .i64 0, .int .i64 0]), 6, 48) := by kernel_rfl
theorem one56' {base p q c g : Nat} (s : RS) (x : S95) (s' : RS) (hx : dAlloc s = (x, s')) (W : World) (h : One base p q c g #[.int .i64 0, .int .i64 0, .int .i64 0, .int .i64 0, .int .i64 0, .int .i64 0] 95 s W) :
  Calls Try.prog 56 #[.pointer (some ⟨g, 0, none⟩), .pointer (some ⟨c, 0, none⟩)] W fun e W' => e = .returned (.tuple #[]) ∧ W'.heap[g]? = some (.cells #[.int .i64 x.f0, .int .i64 x.f1, .int .i64 x.f2, .int .i64 x.f3, .int .i64 x.f4, .int .i64 x.f5] 95 (0, 0)) ∧ SR base p q s' W' ∧ Ch (fun k => k = p ∨ k = q ∨ k = g) W W' := by
 refine (one56 s W h).mono (fun e W' h => ?_)
 obtain ⟨h1, h2, h3, h4⟩ := h
 have e1 : x = (dAlloc s).1 := by rw [hx]
 have e2 : s' = (dAlloc s).2 := by rw [hx]
 subst e1; subst e2
 exact ⟨h1, h2, h3, h4.mono (fun k hk => hk.elim Or.inl (fun h => Or.inr (Or.inr h)))⟩
set_option maxHeartbeats 8000000 in
set_option maxRecDepth 100000 in
theorem list55 {base p q c : Nat} (s : RS) (m : Int) (W : World) (h : SR base p q s W) (hcap : W.heap[c]? = some (.cells #[.pointer (some ⟨q, 0, none⟩)] 104 (0, 0))) (hqc : q < c) (hm : 0 ≤ m ∧ m ≤ 16) :
  Calls Try.prog 55 #[.pointer (some ⟨q, 0, none⟩), .int .i64 m, .func (.func 56) #[] #[.pointer (some ⟨c, 0, none⟩)]] W fun e W' => ∃ v, e = .returned v ∧ Kd.R k95 95 W' W.heap.size (fun _ => True) v (rList dAlloc m s).1 ∧ SR base p q (rList dAlloc m s).2 W' ∧ Ch (fun k => k = p ∨ k = q) W W' := by
 obtain ⟨st, hst⟩ : ∃ st, rInt s.1 = st := ⟨_, rfl⟩
 obtain ⟨L, hL⟩ : ∃ L, rList dAlloc m s = L := ⟨_, rfl⟩
 have HST := Aside0.mk hst
 have HS := Aside0.mk h
 have HLQ := Aside0.mk h.lt
 have hq0 := h.q0
 have HCAP := Aside0.mk hcap
 have HLC := Aside0.mk hqc
 have HLC2 := Aside0.mk (blk_lt hcap)
 have hdef : rList dAlloc m s = if 0 ≤ st.1 ∧ st.1 ≤ m then rLoop dAlloc st.1.toNat (st.2, s.2) [] else ([], (st.2, true)) := by unfold rList; rw [hst]
 rw [hL] at hdef ⊢
 clear h; clear hL; clear hst; clear hcap; clear hqc
 by_cases c0 : st.1 < 0
 ·have c0b : decide (st.1 < 0) = true := decide_eq_true c0
  have HBAD : Aside0 (L = ([], (st.2, true))) := ⟨by rw [hdef, if_neg (by omega)]⟩
  clear hdef; clear c0
  go_enter Try.func55, Try.ntmps55
  go_wp2_with (first | (go_at_call 25; (with_reducible refine (int_s HST.out _ HS.out.rd).mono ?_); rintro e w1 ⟨rfl, hr, hp⟩; have HS1 := Aside0.mk (HS.out.puts hr hp); have HC1 := Aside0.mk (Ch.of_puts (S := fun k => k = p ∨ k = q) hp (Or.inl rfl)); have HP1 := Aside0.mk (HC1.out.keep HCAP.out (by have := HLC.out; have := HS.out.lo; rintro (h | h) <;> omega)); clear hr hp; have hq1 := HS1.out.q1; have hqf := blk_frozen HS1.out.rq 1))
  go_ret
  refine ⟨_, rfl, ?_, ?_, ?_⟩
  ·rw [HBAD.out]; exact Kd.R_nil _ _ _ _ _
  ·rw [HBAD.out]; exact HS1.out.setq true
  ·exact HC1.out.trans (Ch.set (S := fun k => k = p ∨ k = q) _ 1 _ (Or.inr rfl)) (fun _ _ h => h)
 ·have c0b : decide (st.1 < 0) = false := decide_eq_false c0
  by_cases c1 : m < st.1
  ·have c1b : decide (m < st.1) = true := decide_eq_true c1
   have HBAD : Aside0 (L = ([], (st.2, true))) := ⟨by rw [hdef, if_neg (by omega)]⟩
   clear hdef; clear c0; clear c1
   go_enter Try.func55, Try.ntmps55
   go_wp2_with (first | (go_at_call 25; (with_reducible refine (int_s HST.out _ HS.out.rd).mono ?_); rintro e w1 ⟨rfl, hr, hp⟩; have HS1 := Aside0.mk (HS.out.puts hr hp); have HC1 := Aside0.mk (Ch.of_puts (S := fun k => k = p ∨ k = q) hp (Or.inl rfl)); have HP1 := Aside0.mk (HC1.out.keep HCAP.out (by have := HLC.out; have := HS.out.lo; rintro (h | h) <;> omega)); clear hr hp; have hq1 := HS1.out.q1; have hqf := blk_frozen HS1.out.rq 1))
   go_ret
   refine ⟨_, rfl, ?_, ?_, ?_⟩
   ·rw [HBAD.out]; exact Kd.R_nil _ _ _ _ _
   ·rw [HBAD.out]; exact HS1.out.setq true
   ·exact HC1.out.trans (Ch.set (S := fun k => k = p ∨ k = q) _ 1 _ (Or.inr rfl)) (fun _ _ h => h)
  ·have c1b : decide (m < st.1) = false := decide_eq_false c1
   have HN : Aside0 (0 ≤ st.1 ∧ st.1 ≤ 16) := ⟨by omega⟩
   obtain ⟨T, hT⟩ : ∃ T, rLoop dAlloc st.1.toNat (st.2, s.2) [] = T := ⟨_, rfl⟩
   have HT := Aside0.mk hT
   have HOKE : Aside0 (L = T) := ⟨by rw [hdef, if_pos (by omega), hT]⟩
   clear hdef; clear c0; clear c1; clear hT
   go_enter Try.func55, Try.ntmps55
   go_wp2_with (first | (go_at_call 25; (with_reducible refine (int_s HST.out _ HS.out.rd).mono ?_); rintro e w1 ⟨rfl, hr, hp⟩; have HS1 := Aside0.mk (HS.out.puts hr hp); have HC1 := Aside0.mk (Ch.of_puts (S := fun k => k = p ∨ k = q) hp (Or.inl rfl)); have HP1 := Aside0.mk (HC1.out.keep HCAP.out (by have := HLC.out; have := HS.out.lo; rintro (h | h) <;> omega)); clear hr hp))
   go_loopg [26, 7] st.1.toNat (fun kq v26 v7 w' => ∃ (x26 : Int) (out : List S95) (si : RS), v26 = .int .i64 x26 ∧ Aside0 (x26 + kq = st.1 ∧ 0 ≤ x26 ∧ (out.length : Int) = x26) ∧ Aside0 (rLoop dAlloc kq si out = T) ∧ Aside0 (Kd.R k95 95 w' W.heap.size (fun k => W.heap.size ≤ k) v7 out) ∧ Aside0 (SR base p q si w') ∧ Aside0 (Ch (fun k => k = p ∨ k = q) W w') ∧ Aside0 (w'.heap[c]? = some (.cells #[.pointer (some ⟨q, 0, none⟩)] 104 (0, 0))))
   case atStart => exact ⟨0, [], (st.2, s.2), rfl, ⟨by have := HN.out; simp; omega⟩, HT, ⟨Kd.R_nil _ _ _ _ _⟩, HS1, HC1, HP1⟩
   case round =>
    clear HS1; clear HC1; clear HT; clear HP1
    obtain ⟨x26, out, si, rfl, HI, HT, HR, HSI, HCH, HCP⟩ := hrel
    by_cases d1 : x26 < st.1
    ·have d1b : decide (x26 < st.1) = true := decide_eq_true d1
     obtain ⟨k1, rfl⟩ : ∃ k1, gk = k1 + 1 := ⟨gk - 1, by have := HI.out; omega⟩
     obtain ⟨⟨x, sj⟩, hx⟩ : ∃ y, dAlloc si = y := ⟨_, rfl⟩
     have HX := Aside0.mk hx
     have HT2 : Aside0 (rLoop dAlloc k1 sj (out ++ [x]) = T) := ⟨by have := HT.out; rw [rLoop, hx] at this; exact this⟩
     have HOL : Aside0 (out.length ≤ 16) := ⟨by have := HI.out; have := HN.out; omega⟩
     have e26 : wrap64 (x26 + 1) = x26 + 1 := by have := HI.out; have := HN.out; unfold wrap64; omega
     have HSZ := Aside0.mk HCH.out.size
     have HON : Aside0 (One base p q c wr.heap.size #[.int .i64 0, .int .i64 0, .int .i64 0, .int .i64 0, .int .i64 0, .int .i64 0] 95 si (wr.alloc (.cells #[.int .i64 0, .int .i64 0, .int .i64 0, .int .i64 0, .int .i64 0, .int .i64 0] 95 (0, 0)))) := ⟨⟨HSI.out.below (below_alloc (Below.refl _ _) _), blk_below HCP.out (below_alloc (Below.refl _ _) _), heap_alloc_new wr _, ⟨HLC.out, HSI.out.lt, by have := blk_lt HCP.out; omega⟩⟩⟩
     clear d1; clear hx; clear HT
     go_wp2_with (first | (go_at_call 56; (with_reducible refine (one56' si x sj HX.out _ HON.out).mono ?_); rintro e w2 ⟨rfl, hg2, hs2, hc2⟩; have HC2 := Aside0.mk (HCH.out.trans (Ch.trans (Ch.of_below (S := fun k => k = p ∨ k = q ∨ k = wr.heap.size) (below_alloc (Below.refl wr.heap.size wr) (.cells #[.int .i64 0, .int .i64 0, .int .i64 0, .int .i64 0, .int .i64 0, .int .i64 0] 95 (0, 0)))) hc2 (fun _ _ h => h)) (fun k hk h => by rcases h with h | h | h; (exact Or.inl h); (exact Or.inr h); (exact absurd hk (by have := HCH.out.size; omega)))); have HR2 : Aside0 (Kd.R k95 95 w2 W.heap.size (fun k => W.heap.size ≤ k) u7 out) := ⟨Kd.R_step HR.out (fun k hk hlt => (hc2.block k (by simp; omega) (by have := HSI.out.lt; have := HSI.out.lo; have := HLQ.out; rintro (h | h | h) <;> omega)).trans (Below.heap_alloc wr _ k (by omega)))⟩; have HCP2 := Aside0.mk (hc2.keep (blk_below HCP.out (below_alloc (Below.refl _ _) _)) (by have := HLC.out; have := HSI.out.lo; have := blk_lt HCP.out; rintro (h | h | h) <;> omega)); have HS2 := Aside0.mk hs2; have HG2 := Aside0.mk hg2; have hz0 : World.cell? w2 ⟨wr.heap.size, 0, none⟩ = some (.int .i64 x.f0) := (blk_cell hg2 0).trans rfl; have hz1 : World.cell? w2 ⟨wr.heap.size, 1, none⟩ = some (.int .i64 x.f1) := (blk_cell hg2 1).trans rfl; have hz2 : World.cell? w2 ⟨wr.heap.size, 2, none⟩ = some (.int .i64 x.f2) := (blk_cell hg2 2).trans rfl; have hz3 : World.cell? w2 ⟨wr.heap.size, 3, none⟩ = some (.int .i64 x.f3) := (blk_cell hg2 3).trans rfl; have hz4 : World.cell? w2 ⟨wr.heap.size, 4, none⟩ = some (.int .i64 x.f4) := (blk_cell hg2 4).trans rfl; have hz5 : World.cell? w2 ⟨wr.heap.size, 5, none⟩ = some (.int .i64 x.f5) := (blk_cell hg2 5).trans rfl; clear hg2 hs2 hc2 HCH HSI HR HCP HON; have HCH := HC2; clear HC2) | ((with_reducible refine gate_builtin (b := .append) (xs := #[.tmp 30, .tmp 32]) rfl ?_); at_builtin; refine Kd.R_append k95 (w0 := w2) W.heap.size rfl (.tmp 30) (.tmp 32) 63 95 (.agg #[.int .i64 0, .int .i64 0, .int .i64 0, .int .i64 0, .int .i64 0, .int .i64 0]) 48 rfl Try.underlying63 sinfo95 rfl (by decide) (by omega) u7 out x [.int .i64 x.f0, .int .i64 x.f1, .int .i64 x.f2, .int .i64 x.f3, .int .i64 x.f4, .int .i64 x.f5] (fun k => W.heap.size ≤ k) (fun _ => False) rfl rfl ?aP (fun _ hk => hk.elim) ?aF ?aO ?aB ?aS ?aL ?_; (case aP => exact k95_mkM _ _ _ x); (case aF => exact (fun k hk => Nat.le_trans HCH.out.size hk)); (case aO => exact HR2.out); (case aB => exact Below.refl _ _); (case aS => exact HCH.out.size); (case aL => have := HOL.out; omega); intro v3 w3 ho hb hg hat; have HR3 := Aside0.mk ho; have HC3 := Aside0.mk (HCH.out.trans (Ch.of_grown (S := fun k => u7.ownBlock = some k) hg (fun _ h => h)) (fun k hk h => absurd (HR2.out.1 k h) (by omega))); have HS3 := Aside0.mk (HS2.out.ch (Ch.of_grown (S := fun k => u7.ownBlock = some k) hg (fun _ h => h)) (fun k h => by have := HR2.out.1 k h; have := HLQ.out; omega)); have HCP3 := Aside0.mk ((Ch.of_grown (S := fun k => u7.ownBlock = some k) hg (fun _ h => h)).keep HCP2.out (fun h => by have := HR2.out.1 c h; have := HLC2.out; omega)); clear ho hb hg hat))
     go_roundg k1
     case measure => omega
     case rel => exact ⟨x26 + 1, out ++ [x], sj, by rw [e26], ⟨by have := HI.out; simp; omega⟩, HT2, HR3, HS3, HC3, HCP3⟩
    ·have d1b : decide (x26 < st.1) = false := decide_eq_false d1
     have hk0 : gk = 0 := by have := HI.out; omega
     subst hk0
     have HT2 : (out, si) = T := HT.out
     clear d1; clear HT
     go_wp2
     go_ret
     refine ⟨_, rfl, ?_, ?_, HCH.out⟩
     ·rw [HOKE.out, ← HT2]; exact Kd.R_mono HR.out (fun _ _ => trivial)
     ·rw [HOKE.out, ← HT2]; exact HSI.out

theorem sinfo97 : (Try.prog.info? 97).map (fun i => (i.zero, i.size, i.bytes)) = some (some (.agg #[.int .i64 0, .int .i64 0, .int .i64 0]), 3, 24) := by kernel_rfl
theorem one58' {base p q c g : Nat} (s : RS) (x : S97) (s' : RS) (hx : dRate s = (x, s')) (W : World) (h : One base p q c g #[.int .i64 0, .int .i64 0, .int .i64 0] 97 s W) :
  Calls Try.prog 58 #[.pointer (some ⟨g, 0, none⟩), .pointer (some ⟨c, 0, none⟩)] W fun e W' => e = .returned (.tuple #[]) ∧ W'.heap[g]? = some (.cells #[.int .i64 x.f0, .int .i64 x.f1, .int .i64 x.f2] 97 (0, 0)) ∧ SR base p q s' W' ∧ Ch (fun k => k = p ∨ k = q ∨ k = g) W W' := by
 refine (one58 s W h).mono (fun e W' h => ?_)
 obtain ⟨h1, h2, h3, h4⟩ := h
 have e1 : x = (dRate s).1 := by rw [hx]
 have e2 : s' = (dRate s).2 := by rw [hx]
 subst e1; subst e2
 exact ⟨h1, h2, h3, h4.mono (fun k hk => hk.elim Or.inl (fun h => Or.inr (Or.inr h)))⟩
set_option maxHeartbeats 8000000 in
set_option maxRecDepth 100000 in
theorem list57 {base p q c : Nat} (s : RS) (m : Int) (W : World) (h : SR base p q s W) (hcap : W.heap[c]? = some (.cells #[.pointer (some ⟨q, 0, none⟩)] 104 (0, 0))) (hqc : q < c) (hm : 0 ≤ m ∧ m ≤ 16) :
  Calls Try.prog 57 #[.pointer (some ⟨q, 0, none⟩), .int .i64 m, .func (.func 58) #[] #[.pointer (some ⟨c, 0, none⟩)]] W fun e W' => ∃ v, e = .returned v ∧ Kd.R k97 97 W' W.heap.size (fun _ => True) v (rList dRate m s).1 ∧ SR base p q (rList dRate m s).2 W' ∧ Ch (fun k => k = p ∨ k = q) W W' := by
 obtain ⟨st, hst⟩ : ∃ st, rInt s.1 = st := ⟨_, rfl⟩
 obtain ⟨L, hL⟩ : ∃ L, rList dRate m s = L := ⟨_, rfl⟩
 have HST := Aside0.mk hst
 have HS := Aside0.mk h
 have HLQ := Aside0.mk h.lt
 have hq0 := h.q0
 have HCAP := Aside0.mk hcap
 have HLC := Aside0.mk hqc
 have HLC2 := Aside0.mk (blk_lt hcap)
 have hdef : rList dRate m s = if 0 ≤ st.1 ∧ st.1 ≤ m then rLoop dRate st.1.toNat (st.2, s.2) [] else ([], (st.2, true)) := by unfold rList; rw [hst]
 rw [hL] at hdef ⊢
 clear h; clear hL; clear hst; clear hcap; clear hqc
 by_cases c0 : st.1 < 0
 ·have c0b : decide (st.1 < 0) = true := decide_eq_true c0
  have HBAD : Aside0 (L = ([], (st.2, true))) := ⟨by rw [hdef, if_neg (by omega)]⟩
  clear hdef; clear c0
  go_enter Try.func57, Try.ntmps57
  go_wp2_with (first | (go_at_call 25; (with_reducible refine (int_s HST.out _ HS.out.rd).mono ?_); rintro e w1 ⟨rfl, hr, hp⟩; have HS1 := Aside0.mk (HS.out.puts hr hp); have HC1 := Aside0.mk (Ch.of_puts (S := fun k => k = p ∨ k = q) hp (Or.inl rfl)); have HP1 := Aside0.mk (HC1.out.keep HCAP.out (by have := HLC.out; have := HS.out.lo; rintro (h | h) <;> omega)); clear hr hp; have hq1 := HS1.out.q1; have hqf := blk_frozen HS1.out.rq 1))
  go_ret
  refine ⟨_, rfl, ?_, ?_, ?_⟩
  ·rw [HBAD.out]; exact Kd.R_nil _ _ _ _ _
  ·rw [HBAD.out]; exact HS1.out.setq true
  ·exact HC1.out.trans (Ch.set (S := fun k => k = p ∨ k = q) _ 1 _ (Or.inr rfl)) (fun _ _ h => h)
 ·have c0b : decide (st.1 < 0) = false := decide_eq_false c0
  by_cases c1 : m < st.1
  ·have c1b : decide (m < st.1) = true := decide_eq_true c1
   have HBAD : Aside0 (L = ([], (st.2, true))) := ⟨by rw [hdef, if_neg (by omega)]⟩
   clear hdef; clear c0; clear c1
   go_enter Try.func57, Try.ntmps57
   go_wp2_with (first | (go_at_call 25; (with_reducible refine (int_s HST.out _ HS.out.rd).mono ?_); rintro e w1 ⟨rfl, hr, hp⟩; have HS1 := Aside0.mk (HS.out.puts hr hp); have HC1 := Aside0.mk (Ch.of_puts (S := fun k => k = p ∨ k = q) hp (Or.inl rfl)); have HP1 := Aside0.mk (HC1.out.keep HCAP.out (by have := HLC.out; have := HS.out.lo; rintro (h | h) <;> omega)); clear hr hp; have hq1 := HS1.out.q1; have hqf := blk_frozen HS1.out.rq 1))
   go_ret
   refine ⟨_, rfl, ?_, ?_, ?_⟩
   ·rw [HBAD.out]; exact Kd.R_nil _ _ _ _ _
   ·rw [HBAD.out]; exact HS1.out.setq true
   ·exact HC1.out.trans (Ch.set (S := fun k => k = p ∨ k = q) _ 1 _ (Or.inr rfl)) (fun _ _ h => h)
  ·have c1b : decide (m < st.1) = false := decide_eq_false c1
   have HN : Aside0 (0 ≤ st.1 ∧ st.1 ≤ 16) := ⟨by omega⟩
   obtain ⟨T, hT⟩ : ∃ T, rLoop dRate st.1.toNat (st.2, s.2) [] = T := ⟨_, rfl⟩
   have HT := Aside0.mk hT
   have HOKE : Aside0 (L = T) := ⟨by rw [hdef, if_pos (by omega), hT]⟩
   clear hdef; clear c0; clear c1; clear hT
   go_enter Try.func57, Try.ntmps57
   go_wp2_with (first | (go_at_call 25; (with_reducible refine (int_s HST.out _ HS.out.rd).mono ?_); rintro e w1 ⟨rfl, hr, hp⟩; have HS1 := Aside0.mk (HS.out.puts hr hp); have HC1 := Aside0.mk (Ch.of_puts (S := fun k => k = p ∨ k = q) hp (Or.inl rfl)); have HP1 := Aside0.mk (HC1.out.keep HCAP.out (by have := HLC.out; have := HS.out.lo; rintro (h | h) <;> omega)); clear hr hp))
   go_loopg [26, 7] st.1.toNat (fun kq v26 v7 w' => ∃ (x26 : Int) (out : List S97) (si : RS), v26 = .int .i64 x26 ∧ Aside0 (x26 + kq = st.1 ∧ 0 ≤ x26 ∧ (out.length : Int) = x26) ∧ Aside0 (rLoop dRate kq si out = T) ∧ Aside0 (Kd.R k97 97 w' W.heap.size (fun k => W.heap.size ≤ k) v7 out) ∧ Aside0 (SR base p q si w') ∧ Aside0 (Ch (fun k => k = p ∨ k = q) W w') ∧ Aside0 (w'.heap[c]? = some (.cells #[.pointer (some ⟨q, 0, none⟩)] 104 (0, 0))))
   case atStart => exact ⟨0, [], (st.2, s.2), rfl, ⟨by have := HN.out; simp; omega⟩, HT, ⟨Kd.R_nil _ _ _ _ _⟩, HS1, HC1, HP1⟩
   case round =>
    clear HS1; clear HC1; clear HT; clear HP1
    obtain ⟨x26, out, si, rfl, HI, HT, HR, HSI, HCH, HCP⟩ := hrel
    by_cases d1 : x26 < st.1
    ·have d1b : decide (x26 < st.1) = true := decide_eq_true d1
     obtain ⟨k1, rfl⟩ : ∃ k1, gk = k1 + 1 := ⟨gk - 1, by have := HI.out; omega⟩
     obtain ⟨⟨x, sj⟩, hx⟩ : ∃ y, dRate si = y := ⟨_, rfl⟩
     have HX := Aside0.mk hx
     have HT2 : Aside0 (rLoop dRate k1 sj (out ++ [x]) = T) := ⟨by have := HT.out; rw [rLoop, hx] at this; exact this⟩
     have HOL : Aside0 (out.length ≤ 16) := ⟨by have := HI.out; have := HN.out; omega⟩
     have e26 : wrap64 (x26 + 1) = x26 + 1 := by have := HI.out; have := HN.out; unfold wrap64; omega
     have HSZ := Aside0.mk HCH.out.size
     have HON : Aside0 (One base p q c wr.heap.size #[.int .i64 0, .int .i64 0, .int .i64 0] 97 si (wr.alloc (.cells #[.int .i64 0, .int .i64 0, .int .i64 0] 97 (0, 0)))) := ⟨⟨HSI.out.below (below_alloc (Below.refl _ _) _), blk_below HCP.out (below_alloc (Below.refl _ _) _), heap_alloc_new wr _, ⟨HLC.out, HSI.out.lt, by have := blk_lt HCP.out; omega⟩⟩⟩
     clear d1; clear hx; clear HT
     go_wp2_with (first | (go_at_call 58; (with_reducible refine (one58' si x sj HX.out _ HON.out).mono ?_); rintro e w2 ⟨rfl, hg2, hs2, hc2⟩; have HC2 := Aside0.mk (HCH.out.trans (Ch.trans (Ch.of_below (S := fun k => k = p ∨ k = q ∨ k = wr.heap.size) (below_alloc (Below.refl wr.heap.size wr) (.cells #[.int .i64 0, .int .i64 0, .int .i64 0] 97 (0, 0)))) hc2 (fun _ _ h => h)) (fun k hk h => by rcases h with h | h | h; (exact Or.inl h); (exact Or.inr h); (exact absurd hk (by have := HCH.out.size; omega)))); have HR2 : Aside0 (Kd.R k97 97 w2 W.heap.size (fun k => W.heap.size ≤ k) u7 out) := ⟨Kd.R_step HR.out (fun k hk hlt => (hc2.block k (by simp; omega) (by have := HSI.out.lt; have := HSI.out.lo; have := HLQ.out; rintro (h | h | h) <;> omega)).trans (Below.heap_alloc wr _ k (by omega)))⟩; have HCP2 := Aside0.mk (hc2.keep (blk_below HCP.out (below_alloc (Below.refl _ _) _)) (by have := HLC.out; have := HSI.out.lo; have := blk_lt HCP.out; rintro (h | h | h) <;> omega)); have HS2 := Aside0.mk hs2; have HG2 := Aside0.mk hg2; have hz0 : World.cell? w2 ⟨wr.heap.size, 0, none⟩ = some (.int .i64 x.f0) := (blk_cell hg2 0).trans rfl; have hz1 : World.cell? w2 ⟨wr.heap.size, 1, none⟩ = some (.int .i64 x.f1) := (blk_cell hg2 1).trans rfl; have hz2 : World.cell? w2 ⟨wr.heap.size, 2, none⟩ = some (.int .i64 x.f2) := (blk_cell hg2 2).trans rfl; clear hg2 hs2 hc2 HCH HSI HR HCP HON; have HCH := HC2; clear HC2) | ((with_reducible refine gate_builtin (b := .append) (xs := #[.tmp 30, .tmp 32]) rfl ?_); at_builtin; refine Kd.R_append k97 (w0 := w2) W.heap.size rfl (.tmp 30) (.tmp 32) 64 97 (.agg #[.int .i64 0, .int .i64 0, .int .i64 0]) 24 rfl Try.underlying64 sinfo97 rfl (by decide) (by omega) u7 out x [.int .i64 x.f0, .int .i64 x.f1, .int .i64 x.f2] (fun k => W.heap.size ≤ k) (fun _ => False) rfl rfl ?aP (fun _ hk => hk.elim) ?aF ?aO ?aB ?aS ?aL ?_; (case aP => exact k97_mkM _ _ _ x); (case aF => exact (fun k hk => Nat.le_trans HCH.out.size hk)); (case aO => exact HR2.out); (case aB => exact Below.refl _ _); (case aS => exact HCH.out.size); (case aL => have := HOL.out; omega); intro v3 w3 ho hb hg hat; have HR3 := Aside0.mk ho; have HC3 := Aside0.mk (HCH.out.trans (Ch.of_grown (S := fun k => u7.ownBlock = some k) hg (fun _ h => h)) (fun k hk h => absurd (HR2.out.1 k h) (by omega))); have HS3 := Aside0.mk (HS2.out.ch (Ch.of_grown (S := fun k => u7.ownBlock = some k) hg (fun _ h => h)) (fun k h => by have := HR2.out.1 k h; have := HLQ.out; omega)); have HCP3 := Aside0.mk ((Ch.of_grown (S := fun k => u7.ownBlock = some k) hg (fun _ h => h)).keep HCP2.out (fun h => by have := HR2.out.1 c h; have := HLC2.out; omega)); clear ho hb hg hat))
     go_roundg k1
     case measure => omega
     case rel => exact ⟨x26 + 1, out ++ [x], sj, by rw [e26], ⟨by have := HI.out; simp; omega⟩, HT2, HR3, HS3, HC3, HCP3⟩
    ·have d1b : decide (x26 < st.1) = false := decide_eq_false d1
     have hk0 : gk = 0 := by have := HI.out; omega
     subst hk0
     have HT2 : (out, si) = T := HT.out
     clear d1; clear HT
     go_wp2
     go_ret
     refine ⟨_, rfl, ?_, ?_, HCH.out⟩
     ·rw [HOKE.out, ← HT2]; exact Kd.R_mono HR.out (fun _ _ => trivial)
     ·rw [HOKE.out, ← HT2]; exact HSI.out

theorem sinfo102 : (Try.prog.info? 102).map (fun i => (i.zero, i.size, i.bytes)) = some (some (.agg #[.int .i64 0, .int .i64 0]), 2, 16) := by kernel_rfl
theorem one75' {base p q c g : Nat} (s : RS) (x : S102) (s' : RS) (hx : dDraw s = (x, s')) (W : World) (h : One base p q c g #[.int .i64 0, .int .i64 0] 102 s W) :
  Calls Try.prog 75 #[.pointer (some ⟨g, 0, none⟩), .pointer (some ⟨c, 0, none⟩)] W fun e W' => e = .returned (.tuple #[]) ∧ W'.heap[g]? = some (.cells #[.int .i64 x.f0, .int .i64 x.f1] 102 (0, 0)) ∧ SR base p q s' W' ∧ Ch (fun k => k = p ∨ k = q ∨ k = g) W W' := by
 refine (one75 s W h).mono (fun e W' h => ?_)
 obtain ⟨h1, h2, h3, h4⟩ := h
 have e1 : x = (dDraw s).1 := by rw [hx]
 have e2 : s' = (dDraw s).2 := by rw [hx]
 subst e1; subst e2
 exact ⟨h1, h2, h3, h4.mono (fun k hk => hk.elim Or.inl (fun h => Or.inr (Or.inr h)))⟩
set_option maxHeartbeats 8000000 in
set_option maxRecDepth 100000 in
theorem list74 {base p q c : Nat} (s : RS) (m : Int) (W : World) (h : SR base p q s W) (hcap : W.heap[c]? = some (.cells #[.pointer (some ⟨q, 0, none⟩)] 104 (0, 0))) (hqc : q < c) (hm : 0 ≤ m ∧ m ≤ 16) :
  Calls Try.prog 74 #[.pointer (some ⟨q, 0, none⟩), .int .i64 m, .func (.func 75) #[] #[.pointer (some ⟨c, 0, none⟩)]] W fun e W' => ∃ v, e = .returned v ∧ Kd.R k102 102 W' W.heap.size (fun _ => True) v (rList dDraw m s).1 ∧ SR base p q (rList dDraw m s).2 W' ∧ Ch (fun k => k = p ∨ k = q) W W' := by
 obtain ⟨st, hst⟩ : ∃ st, rInt s.1 = st := ⟨_, rfl⟩
 obtain ⟨L, hL⟩ : ∃ L, rList dDraw m s = L := ⟨_, rfl⟩
 have HST := Aside0.mk hst
 have HS := Aside0.mk h
 have HLQ := Aside0.mk h.lt
 have hq0 := h.q0
 have HCAP := Aside0.mk hcap
 have HLC := Aside0.mk hqc
 have HLC2 := Aside0.mk (blk_lt hcap)
 have hdef : rList dDraw m s = if 0 ≤ st.1 ∧ st.1 ≤ m then rLoop dDraw st.1.toNat (st.2, s.2) [] else ([], (st.2, true)) := by unfold rList; rw [hst]
 rw [hL] at hdef ⊢
 clear h; clear hL; clear hst; clear hcap; clear hqc
 by_cases c0 : st.1 < 0
 ·have c0b : decide (st.1 < 0) = true := decide_eq_true c0
  have HBAD : Aside0 (L = ([], (st.2, true))) := ⟨by rw [hdef, if_neg (by omega)]⟩
  clear hdef; clear c0
  go_enter Try.func74, Try.ntmps74
  go_wp2_with (first | (go_at_call 25; (with_reducible refine (int_s HST.out _ HS.out.rd).mono ?_); rintro e w1 ⟨rfl, hr, hp⟩; have HS1 := Aside0.mk (HS.out.puts hr hp); have HC1 := Aside0.mk (Ch.of_puts (S := fun k => k = p ∨ k = q) hp (Or.inl rfl)); have HP1 := Aside0.mk (HC1.out.keep HCAP.out (by have := HLC.out; have := HS.out.lo; rintro (h | h) <;> omega)); clear hr hp; have hq1 := HS1.out.q1; have hqf := blk_frozen HS1.out.rq 1))
  go_ret
  refine ⟨_, rfl, ?_, ?_, ?_⟩
  ·rw [HBAD.out]; exact Kd.R_nil _ _ _ _ _
  ·rw [HBAD.out]; exact HS1.out.setq true
  ·exact HC1.out.trans (Ch.set (S := fun k => k = p ∨ k = q) _ 1 _ (Or.inr rfl)) (fun _ _ h => h)
 ·have c0b : decide (st.1 < 0) = false := decide_eq_false c0
  by_cases c1 : m < st.1
  ·have c1b : decide (m < st.1) = true := decide_eq_true c1
   have HBAD : Aside0 (L = ([], (st.2, true))) := ⟨by rw [hdef, if_neg (by omega)]⟩
   clear hdef; clear c0; clear c1
   go_enter Try.func74, Try.ntmps74
   go_wp2_with (first | (go_at_call 25; (with_reducible refine (int_s HST.out _ HS.out.rd).mono ?_); rintro e w1 ⟨rfl, hr, hp⟩; have HS1 := Aside0.mk (HS.out.puts hr hp); have HC1 := Aside0.mk (Ch.of_puts (S := fun k => k = p ∨ k = q) hp (Or.inl rfl)); have HP1 := Aside0.mk (HC1.out.keep HCAP.out (by have := HLC.out; have := HS.out.lo; rintro (h | h) <;> omega)); clear hr hp; have hq1 := HS1.out.q1; have hqf := blk_frozen HS1.out.rq 1))
   go_ret
   refine ⟨_, rfl, ?_, ?_, ?_⟩
   ·rw [HBAD.out]; exact Kd.R_nil _ _ _ _ _
   ·rw [HBAD.out]; exact HS1.out.setq true
   ·exact HC1.out.trans (Ch.set (S := fun k => k = p ∨ k = q) _ 1 _ (Or.inr rfl)) (fun _ _ h => h)
  ·have c1b : decide (m < st.1) = false := decide_eq_false c1
   have HN : Aside0 (0 ≤ st.1 ∧ st.1 ≤ 16) := ⟨by omega⟩
   obtain ⟨T, hT⟩ : ∃ T, rLoop dDraw st.1.toNat (st.2, s.2) [] = T := ⟨_, rfl⟩
   have HT := Aside0.mk hT
   have HOKE : Aside0 (L = T) := ⟨by rw [hdef, if_pos (by omega), hT]⟩
   clear hdef; clear c0; clear c1; clear hT
   go_enter Try.func74, Try.ntmps74
   go_wp2_with (first | (go_at_call 25; (with_reducible refine (int_s HST.out _ HS.out.rd).mono ?_); rintro e w1 ⟨rfl, hr, hp⟩; have HS1 := Aside0.mk (HS.out.puts hr hp); have HC1 := Aside0.mk (Ch.of_puts (S := fun k => k = p ∨ k = q) hp (Or.inl rfl)); have HP1 := Aside0.mk (HC1.out.keep HCAP.out (by have := HLC.out; have := HS.out.lo; rintro (h | h) <;> omega)); clear hr hp))
   go_loopg [26, 7] st.1.toNat (fun kq v26 v7 w' => ∃ (x26 : Int) (out : List S102) (si : RS), v26 = .int .i64 x26 ∧ Aside0 (x26 + kq = st.1 ∧ 0 ≤ x26 ∧ (out.length : Int) = x26) ∧ Aside0 (rLoop dDraw kq si out = T) ∧ Aside0 (Kd.R k102 102 w' W.heap.size (fun k => W.heap.size ≤ k) v7 out) ∧ Aside0 (SR base p q si w') ∧ Aside0 (Ch (fun k => k = p ∨ k = q) W w') ∧ Aside0 (w'.heap[c]? = some (.cells #[.pointer (some ⟨q, 0, none⟩)] 104 (0, 0))))
   case atStart => exact ⟨0, [], (st.2, s.2), rfl, ⟨by have := HN.out; simp; omega⟩, HT, ⟨Kd.R_nil _ _ _ _ _⟩, HS1, HC1, HP1⟩
   case round =>
    clear HS1; clear HC1; clear HT; clear HP1
    obtain ⟨x26, out, si, rfl, HI, HT, HR, HSI, HCH, HCP⟩ := hrel
    by_cases d1 : x26 < st.1
    ·have d1b : decide (x26 < st.1) = true := decide_eq_true d1
     obtain ⟨k1, rfl⟩ : ∃ k1, gk = k1 + 1 := ⟨gk - 1, by have := HI.out; omega⟩
     obtain ⟨⟨x, sj⟩, hx⟩ : ∃ y, dDraw si = y := ⟨_, rfl⟩
     have HX := Aside0.mk hx
     have HT2 : Aside0 (rLoop dDraw k1 sj (out ++ [x]) = T) := ⟨by have := HT.out; rw [rLoop, hx] at this; exact this⟩
     have HOL : Aside0 (out.length ≤ 16) := ⟨by have := HI.out; have := HN.out; omega⟩
     have e26 : wrap64 (x26 + 1) = x26 + 1 := by have := HI.out; have := HN.out; unfold wrap64; omega
     have HSZ := Aside0.mk HCH.out.size
     have HON : Aside0 (One base p q c wr.heap.size #[.int .i64 0, .int .i64 0] 102 si (wr.alloc (.cells #[.int .i64 0, .int .i64 0] 102 (0, 0)))) := ⟨⟨HSI.out.below (below_alloc (Below.refl _ _) _), blk_below HCP.out (below_alloc (Below.refl _ _) _), heap_alloc_new wr _, ⟨HLC.out, HSI.out.lt, by have := blk_lt HCP.out; omega⟩⟩⟩
     clear d1; clear hx; clear HT
     go_wp2_with (first | (go_at_call 75; (with_reducible refine (one75' si x sj HX.out _ HON.out).mono ?_); rintro e w2 ⟨rfl, hg2, hs2, hc2⟩; have HC2 := Aside0.mk (HCH.out.trans (Ch.trans (Ch.of_below (S := fun k => k = p ∨ k = q ∨ k = wr.heap.size) (below_alloc (Below.refl wr.heap.size wr) (.cells #[.int .i64 0, .int .i64 0] 102 (0, 0)))) hc2 (fun _ _ h => h)) (fun k hk h => by rcases h with h | h | h; (exact Or.inl h); (exact Or.inr h); (exact absurd hk (by have := HCH.out.size; omega)))); have HR2 : Aside0 (Kd.R k102 102 w2 W.heap.size (fun k => W.heap.size ≤ k) u7 out) := ⟨Kd.R_step HR.out (fun k hk hlt => (hc2.block k (by simp; omega) (by have := HSI.out.lt; have := HSI.out.lo; have := HLQ.out; rintro (h | h | h) <;> omega)).trans (Below.heap_alloc wr _ k (by omega)))⟩; have HCP2 := Aside0.mk (hc2.keep (blk_below HCP.out (below_alloc (Below.refl _ _) _)) (by have := HLC.out; have := HSI.out.lo; have := blk_lt HCP.out; rintro (h | h | h) <;> omega)); have HS2 := Aside0.mk hs2; have HG2 := Aside0.mk hg2; have hz0 : World.cell? w2 ⟨wr.heap.size, 0, none⟩ = some (.int .i64 x.f0) := (blk_cell hg2 0).trans rfl; have hz1 : World.cell? w2 ⟨wr.heap.size, 1, none⟩ = some (.int .i64 x.f1) := (blk_cell hg2 1).trans rfl; clear hg2 hs2 hc2 HCH HSI HR HCP HON; have HCH := HC2; clear HC2) | ((with_reducible refine gate_builtin (b := .append) (xs := #[.tmp 30, .tmp 32]) rfl ?_); at_builtin; refine Kd.R_append k102 (w0 := w2) W.heap.size rfl (.tmp 30) (.tmp 32) 98 102 (.agg #[.int .i64 0, .int .i64 0]) 16 rfl Try.underlying98 sinfo102 rfl (by decide) (by omega) u7 out x [.int .i64 x.f0, .int .i64 x.f1] (fun k => W.heap.size ≤ k) (fun _ => False) rfl rfl ?aP (fun _ hk => hk.elim) ?aF ?aO ?aB ?aS ?aL ?_; (case aP => exact k102_mkM _ _ _ x); (case aF => exact (fun k hk => Nat.le_trans HCH.out.size hk)); (case aO => exact HR2.out); (case aB => exact Below.refl _ _); (case aS => exact HCH.out.size); (case aL => have := HOL.out; omega); intro v3 w3 ho hb hg hat; have HR3 := Aside0.mk ho; have HC3 := Aside0.mk (HCH.out.trans (Ch.of_grown (S := fun k => u7.ownBlock = some k) hg (fun _ h => h)) (fun k hk h => absurd (HR2.out.1 k h) (by omega))); have HS3 := Aside0.mk (HS2.out.ch (Ch.of_grown (S := fun k => u7.ownBlock = some k) hg (fun _ h => h)) (fun k h => by have := HR2.out.1 k h; have := HLQ.out; omega)); have HCP3 := Aside0.mk ((Ch.of_grown (S := fun k => u7.ownBlock = some k) hg (fun _ h => h)).keep HCP2.out (fun h => by have := HR2.out.1 c h; have := HLC2.out; omega)); clear ho hb hg hat))
     go_roundg k1
     case measure => omega
     case rel => exact ⟨x26 + 1, out ++ [x], sj, by rw [e26], ⟨by have := HI.out; simp; omega⟩, HT2, HR3, HS3, HC3, HCP3⟩
    ·have d1b : decide (x26 < st.1) = false := decide_eq_false d1
     have hk0 : gk = 0 := by have := HI.out; omega
     subst hk0
     have HT2 : (out, si) = T := HT.out
     clear d1; clear HT
     go_wp2
     go_ret
     refine ⟨_, rfl, ?_, ?_, HCH.out⟩
     ·rw [HOKE.out, ← HT2]; exact Kd.R_mono HR.out (fun _ _ => trivial)
     ·rw [HOKE.out, ← HT2]; exact HSI.out

theorem sinfo9 : (Try.prog.info? 9).map (fun i => (i.zero, i.size, i.bytes)) = some (some (.string (⟨#[]⟩ : ByteArray)), 1, 16) := by kernel_rfl
theorem one62' {base p q c g : Nat} (s : RS) (x : ByteArray) (s' : RS) (hx : dKey s = (x, s')) (W : World) (h : One base p q c g #[.string (⟨#[]⟩ : ByteArray)] 9 s W) :
  Calls Try.prog 62 #[.pointer (some ⟨g, 0, none⟩), .pointer (some ⟨c, 0, none⟩)] W fun e W' => e = .returned (.tuple #[]) ∧ W'.heap[g]? = some (.cells #[.string x] 9 (0, 0)) ∧ SR base p q s' W' ∧ Ch (fun k => k = p ∨ k = q ∨ k = g) W W' := by
 refine (one62 s W h).mono (fun e W' h => ?_)
 obtain ⟨h1, h2, h3, h4⟩ := h
 have e1 : x = (dKey s).1 := by rw [hx]
 have e2 : s' = (dKey s).2 := by rw [hx]
 subst e1; subst e2
 exact ⟨h1, h2, h3, h4.mono (fun k hk => hk.elim Or.inl (fun h => Or.inr (Or.inr h)))⟩
set_option maxHeartbeats 8000000 in
set_option maxRecDepth 100000 in
theorem list61 {base p q c : Nat} (s : RS) (m : Int) (W : World) (h : SR base p q s W) (hcap : W.heap[c]? = some (.cells #[.pointer (some ⟨q, 0, none⟩)] 104 (0, 0))) (hqc : q < c) (hm : 0 ≤ m ∧ m ≤ 16) :
  Calls Try.prog 61 #[.pointer (some ⟨q, 0, none⟩), .int .i64 m, .func (.func 62) #[] #[.pointer (some ⟨c, 0, none⟩)]] W fun e W' => ∃ v, e = .returned v ∧ Kd.R Kd.string 9 W' W.heap.size (fun _ => True) v (rList dKey m s).1 ∧ SR base p q (rList dKey m s).2 W' ∧ Ch (fun k => k = p ∨ k = q) W W' := by
 obtain ⟨st, hst⟩ : ∃ st, rInt s.1 = st := ⟨_, rfl⟩
 obtain ⟨L, hL⟩ : ∃ L, rList dKey m s = L := ⟨_, rfl⟩
 have HST := Aside0.mk hst
 have HS := Aside0.mk h
 have HLQ := Aside0.mk h.lt
 have hq0 := h.q0
 have HCAP := Aside0.mk hcap
 have HLC := Aside0.mk hqc
 have HLC2 := Aside0.mk (blk_lt hcap)
 have hdef : rList dKey m s = if 0 ≤ st.1 ∧ st.1 ≤ m then rLoop dKey st.1.toNat (st.2, s.2) [] else ([], (st.2, true)) := by unfold rList; rw [hst]
 rw [hL] at hdef ⊢
 clear h; clear hL; clear hst; clear hcap; clear hqc
 by_cases c0 : st.1 < 0
 ·have c0b : decide (st.1 < 0) = true := decide_eq_true c0
  have HBAD : Aside0 (L = ([], (st.2, true))) := ⟨by rw [hdef, if_neg (by omega)]⟩
  clear hdef; clear c0
  go_enter Try.func61, Try.ntmps61
  go_wp2_with (first | (go_at_call 25; (with_reducible refine (int_s HST.out _ HS.out.rd).mono ?_); rintro e w1 ⟨rfl, hr, hp⟩; have HS1 := Aside0.mk (HS.out.puts hr hp); have HC1 := Aside0.mk (Ch.of_puts (S := fun k => k = p ∨ k = q) hp (Or.inl rfl)); have HP1 := Aside0.mk (HC1.out.keep HCAP.out (by have := HLC.out; have := HS.out.lo; rintro (h | h) <;> omega)); clear hr hp; have hq1 := HS1.out.q1; have hqf := blk_frozen HS1.out.rq 1))
  go_ret
  refine ⟨_, rfl, ?_, ?_, ?_⟩
  ·rw [HBAD.out]; exact Kd.R_nil _ _ _ _ _
  ·rw [HBAD.out]; exact HS1.out.setq true
  ·exact HC1.out.trans (Ch.set (S := fun k => k = p ∨ k = q) _ 1 _ (Or.inr rfl)) (fun _ _ h => h)
 ·have c0b : decide (st.1 < 0) = false := decide_eq_false c0
  by_cases c1 : m < st.1
  ·have c1b : decide (m < st.1) = true := decide_eq_true c1
   have HBAD : Aside0 (L = ([], (st.2, true))) := ⟨by rw [hdef, if_neg (by omega)]⟩
   clear hdef; clear c0; clear c1
   go_enter Try.func61, Try.ntmps61
   go_wp2_with (first | (go_at_call 25; (with_reducible refine (int_s HST.out _ HS.out.rd).mono ?_); rintro e w1 ⟨rfl, hr, hp⟩; have HS1 := Aside0.mk (HS.out.puts hr hp); have HC1 := Aside0.mk (Ch.of_puts (S := fun k => k = p ∨ k = q) hp (Or.inl rfl)); have HP1 := Aside0.mk (HC1.out.keep HCAP.out (by have := HLC.out; have := HS.out.lo; rintro (h | h) <;> omega)); clear hr hp; have hq1 := HS1.out.q1; have hqf := blk_frozen HS1.out.rq 1))
   go_ret
   refine ⟨_, rfl, ?_, ?_, ?_⟩
   ·rw [HBAD.out]; exact Kd.R_nil _ _ _ _ _
   ·rw [HBAD.out]; exact HS1.out.setq true
   ·exact HC1.out.trans (Ch.set (S := fun k => k = p ∨ k = q) _ 1 _ (Or.inr rfl)) (fun _ _ h => h)
  ·have c1b : decide (m < st.1) = false := decide_eq_false c1
   have HN : Aside0 (0 ≤ st.1 ∧ st.1 ≤ 16) := ⟨by omega⟩
   obtain ⟨T, hT⟩ : ∃ T, rLoop dKey st.1.toNat (st.2, s.2) [] = T := ⟨_, rfl⟩
   have HT := Aside0.mk hT
   have HOKE : Aside0 (L = T) := ⟨by rw [hdef, if_pos (by omega), hT]⟩
   clear hdef; clear c0; clear c1; clear hT
   go_enter Try.func61, Try.ntmps61
   go_wp2_with (first | (go_at_call 25; (with_reducible refine (int_s HST.out _ HS.out.rd).mono ?_); rintro e w1 ⟨rfl, hr, hp⟩; have HS1 := Aside0.mk (HS.out.puts hr hp); have HC1 := Aside0.mk (Ch.of_puts (S := fun k => k = p ∨ k = q) hp (Or.inl rfl)); have HP1 := Aside0.mk (HC1.out.keep HCAP.out (by have := HLC.out; have := HS.out.lo; rintro (h | h) <;> omega)); clear hr hp))
   go_loopg [26, 7] st.1.toNat (fun kq v26 v7 w' => ∃ (x26 : Int) (out : List ByteArray) (si : RS), v26 = .int .i64 x26 ∧ Aside0 (x26 + kq = st.1 ∧ 0 ≤ x26 ∧ (out.length : Int) = x26) ∧ Aside0 (rLoop dKey kq si out = T) ∧ Aside0 (Kd.R Kd.string 9 w' W.heap.size (fun k => W.heap.size ≤ k) v7 out) ∧ Aside0 (SR base p q si w') ∧ Aside0 (Ch (fun k => k = p ∨ k = q) W w') ∧ Aside0 (w'.heap[c]? = some (.cells #[.pointer (some ⟨q, 0, none⟩)] 104 (0, 0))))
   case atStart => exact ⟨0, [], (st.2, s.2), rfl, ⟨by have := HN.out; simp; omega⟩, HT, ⟨Kd.R_nil _ _ _ _ _⟩, HS1, HC1, HP1⟩
   case round =>
    clear HS1; clear HC1; clear HT; clear HP1
    obtain ⟨x26, out, si, rfl, HI, HT, HR, HSI, HCH, HCP⟩ := hrel
    by_cases d1 : x26 < st.1
    ·have d1b : decide (x26 < st.1) = true := decide_eq_true d1
     obtain ⟨k1, rfl⟩ : ∃ k1, gk = k1 + 1 := ⟨gk - 1, by have := HI.out; omega⟩
     obtain ⟨⟨x, sj⟩, hx⟩ : ∃ y, dKey si = y := ⟨_, rfl⟩
     have HX := Aside0.mk hx
     have HT2 : Aside0 (rLoop dKey k1 sj (out ++ [x]) = T) := ⟨by have := HT.out; rw [rLoop, hx] at this; exact this⟩
     have HOL : Aside0 (out.length ≤ 16) := ⟨by have := HI.out; have := HN.out; omega⟩
     have e26 : wrap64 (x26 + 1) = x26 + 1 := by have := HI.out; have := HN.out; unfold wrap64; omega
     have HSZ := Aside0.mk HCH.out.size
     have HON : Aside0 (One base p q c wr.heap.size #[.string (⟨#[]⟩ : ByteArray)] 9 si (wr.alloc (.cells #[.string (⟨#[]⟩ : ByteArray)] 9 (0, 0)))) := ⟨⟨HSI.out.below (below_alloc (Below.refl _ _) _), blk_below HCP.out (below_alloc (Below.refl _ _) _), heap_alloc_new wr _, ⟨HLC.out, HSI.out.lt, by have := blk_lt HCP.out; omega⟩⟩⟩
     clear d1; clear hx; clear HT
     go_wp2_with (first | (go_at_call 62; (with_reducible refine (one62' si x sj HX.out _ HON.out).mono ?_); rintro e w2 ⟨rfl, hg2, hs2, hc2⟩; have HC2 := Aside0.mk (HCH.out.trans (Ch.trans (Ch.of_below (S := fun k => k = p ∨ k = q ∨ k = wr.heap.size) (below_alloc (Below.refl wr.heap.size wr) (.cells #[.string (⟨#[]⟩ : ByteArray)] 9 (0, 0)))) hc2 (fun _ _ h => h)) (fun k hk h => by rcases h with h | h | h; (exact Or.inl h); (exact Or.inr h); (exact absurd hk (by have := HCH.out.size; omega)))); have HR2 : Aside0 (Kd.R Kd.string 9 w2 W.heap.size (fun k => W.heap.size ≤ k) u7 out) := ⟨Kd.R_step HR.out (fun k hk hlt => (hc2.block k (by simp; omega) (by have := HSI.out.lt; have := HSI.out.lo; have := HLQ.out; rintro (h | h | h) <;> omega)).trans (Below.heap_alloc wr _ k (by omega)))⟩; have HCP2 := Aside0.mk (hc2.keep (blk_below HCP.out (below_alloc (Below.refl _ _) _)) (by have := HLC.out; have := HSI.out.lo; have := blk_lt HCP.out; rintro (h | h | h) <;> omega)); have HS2 := Aside0.mk hs2; have HG2 := Aside0.mk hg2; have hz0 : World.cell? w2 ⟨wr.heap.size, 0, none⟩ = some (.string x) := (blk_cell hg2 0).trans rfl; clear hg2 hs2 hc2 HCH HSI HR HCP HON; have HCH := HC2; clear HC2) | ((with_reducible refine gate_builtin (b := .append) (xs := #[.tmp 30, .tmp 32]) rfl ?_); at_builtin; refine Kd.R_append Kd.string (w0 := w2) W.heap.size rfl (.tmp 30) (.tmp 32) 43 9 (.string (⟨#[]⟩ : ByteArray)) 16 rfl Try.underlying43 sinfo9 rfl (by decide) (by omega) u7 out x [.string x] (fun k => W.heap.size ≤ k) (fun _ => False) rfl rfl ?aP (fun _ hk => hk.elim) ?aF ?aO ?aB ?aS ?aL ?_; (case aP => exact rfl); (case aF => exact (fun k hk => Nat.le_trans HCH.out.size hk)); (case aO => exact HR2.out); (case aB => exact Below.refl _ _); (case aS => exact HCH.out.size); (case aL => have := HOL.out; omega); intro v3 w3 ho hb hg hat; have HR3 := Aside0.mk ho; have HC3 := Aside0.mk (HCH.out.trans (Ch.of_grown (S := fun k => u7.ownBlock = some k) hg (fun _ h => h)) (fun k hk h => absurd (HR2.out.1 k h) (by omega))); have HS3 := Aside0.mk (HS2.out.ch (Ch.of_grown (S := fun k => u7.ownBlock = some k) hg (fun _ h => h)) (fun k h => by have := HR2.out.1 k h; have := HLQ.out; omega)); have HCP3 := Aside0.mk ((Ch.of_grown (S := fun k => u7.ownBlock = some k) hg (fun _ h => h)).keep HCP2.out (fun h => by have := HR2.out.1 c h; have := HLC2.out; omega)); clear ho hb hg hat))
     go_roundg k1
     case measure => omega
     case rel => exact ⟨x26 + 1, out ++ [x], sj, by rw [e26], ⟨by have := HI.out; simp; omega⟩, HT2, HR3, HS3, HC3, HCP3⟩
    ·have d1b : decide (x26 < st.1) = false := decide_eq_false d1
     have hk0 : gk = 0 := by have := HI.out; omega
     subst hk0
     have HT2 : (out, si) = T := HT.out
     clear d1; clear HT
     go_wp2
     go_ret
     refine ⟨_, rfl, ?_, ?_, HCH.out⟩
     ·rw [HOKE.out, ← HT2]; exact Kd.R_mono HR.out (fun _ _ => trivial)
     ·rw [HOKE.out, ← HT2]; exact HSI.out
def dJob (s : RS) : S100 × RS := (⟨(rInts 11 s.1).1.getD 0 0, (rInts 11 s.1).1.getD 1 0, (rInts 11 s.1).1.getD 2 0, (rInts 11 s.1).1.getD 3 0, (rInts 11 s.1).1.getD 4 0, (rInts 11 s.1).1.getD 5 0, (rInts 11 s.1).1.getD 6 0, (rInts 11 s.1).1.getD 7 0, (rInts 11 s.1).1.getD 8 0, (rInts 11 s.1).1.getD 9 0, (rInts 11 s.1).1.getD 10 0, (rList dDraw 16 ((rInts 11 s.1).2, s.2)).1⟩, (rList dDraw 16 ((rInts 11 s.1).2, s.2)).2)
theorem rInts_len : ∀ (n : Nat) (s : List Int × Bool), (rInts n s).1.length = n
 | 0, s => rfl
 | n + 1, s => by rw [rInts, List.length_cons, rInts_len n]
theorem eleven (l : List Int) (h : l.length = 11) : ∃ y0 y1 y2 y3 y4 y5 y6 y7 y8 y9 y10, l = [y0, y1, y2, y3, y4, y5, y6, y7, y8, y9, y10] := by
 match l, h with
 | [y0, y1, y2, y3, y4, y5, y6, y7, y8, y9, y10], _ => exact ⟨_, _, _, _, _, _, _, _, _, _, _, rfl⟩
theorem put11 (y0 y1 y2 y3 y4 y5 y6 y7 y8 y9 y10 : Int) (v : Value) : putN #[.int .i64 0, .int .i64 0, .int .i64 0, .int .i64 0, .int .i64 0, .int .i64 0, .int .i64 0, .int .i64 0, .int .i64 0, .int .i64 0, .int .i64 0, v] 0 [y0, y1, y2, y3, y4, y5, y6, y7, y8, y9, y10] = #[.int .i64 y0, .int .i64 y1, .int .i64 y2, .int .i64 y3, .int .i64 y4, .int .i64 y5, .int .i64 y6, .int .i64 y7, .int .i64 y8, .int .i64 y9, .int .i64 y10, v] := by simp [putN]
def One60.T1 : Bool × List (List Nat × List Nat) := (true, [([], []), ([], []), ([1], [1]), ([2], [2]), ([], []), ([4], [4]), ([5], [5]), ([], []), ([7], [7]), ([8], [8]), ([], []), ([10], [10]), ([11], [11]), ([], []), ([13], [13]), ([14], [14]), ([], []), ([16], [16]), ([17], [17]), ([], []), ([19], [19]), ([20], [20]), ([], []), ([22], [22]), ([23], [23]), ([], []), ([25], [25]), ([26], [26]), ([], []), ([28], [28]), ([29], [29]), ([], []), ([31], [31]), ([32], [32]), ([3, 6, 9, 12, 15, 18, 21, 24, 27, 30, 33], [3, 6, 9, 12, 15, 18, 21, 24, 27, 30, 33]), ([0, 34], [0, 34])])
def One60.B1 : List Nat := [0, 0, 2, 6, 0, 16, 48, 0, 128, 384, 0, 1024, 3072, 0, 8192, 24576, 0, 65536, 196608, 0, 524288, 1572864, 0, 4194304, 12582912, 0, 33554432, 100663296, 0, 268435456, 805306368, 0, 2147483648, 6442450944, 17179869182, 34359738367]
theorem One60.tab1 : rtab .any (opsOf Try.f60 1) = One60.T1 := by kernel_rfl
theorem One60.bits1 : waitsOk One60.T1.2 One60.B1 = true := by kernel_rfl

set_option maxHeartbeats 2000000 in
set_option maxRecDepth 100000 in
theorem one60 {base p q : Nat} (s : RS) (x : S100) (s' : RS) (hx : dJob s = (x, s')) (g : Nat) (W : World) (h : SR base p q s W) (hqg : q < g) (hg : W.heap[g]? = some (.cells #[.int .i64 0, .int .i64 0, .int .i64 0, .int .i64 0, .int .i64 0, .int .i64 0, .int .i64 0, .int .i64 0, .int .i64 0, .int .i64 0, .int .i64 0, .slice none 0 0] 100 (0, 0))) :
  Calls Try.prog 60 #[.pointer (some ⟨q, 0, none⟩), .pointer (some ⟨g, 0, none⟩)] W fun e W' => ∃ v11, e = .returned (.tuple #[]) ∧ W'.heap[g]? = some (.cells #[.int .i64 x.f0, .int .i64 x.f1, .int .i64 x.f2, .int .i64 x.f3, .int .i64 x.f4, .int .i64 x.f5, .int .i64 x.f6, .int .i64 x.f7, .int .i64 x.f8, .int .i64 x.f9, .int .i64 x.f10, v11] 100 (0, 0)) ∧ Kd.R k102 102 W' W.heap.size (fun _ => True) v11 x.f11 ∧ SR base p q s' W' ∧ Ch (fun k => k = p ∨ k = q ∨ k = g) W W' := by
 obtain ⟨y0, y1, y2, y3, y4, y5, y6, y7, y8, y9, y10, hy⟩ := eleven _ (rInts_len 11 s.1)
 obtain ⟨tl, htl⟩ : ∃ tl, (rInts 11 s.1).2 = tl := ⟨_, rfl⟩
 have e1 : (x, s') = ((⟨y0, y1, y2, y3, y4, y5, y6, y7, y8, y9, y10, (rList dDraw 16 (tl, s.2)).1⟩ : S100), (rList dDraw 16 (tl, s.2)).2) := by
  rw [← hx]; unfold dJob; rw [hy, htl]; rfl
 have HY := Aside0.mk hy
 have HTT := Aside0.mk htl
 injection e1 with e1 e2
 subst e1; subst e2
 clear hx; clear hy; clear htl
 have HD : Aside0 (One base p q W.heap.size g #[.int .i64 0, .int .i64 0, .int .i64 0, .int .i64 0, .int .i64 0, .int .i64 0, .int .i64 0, .int .i64 0, .int .i64 0, .int .i64 0, .int .i64 0, .slice none 0 0] 100 s (W.alloc (.cells #[.pointer (some ⟨q, 0, none⟩)] 104 (0, 0)))) := ⟨⟨h.below (below_alloc (Below.refl _ _) _), heap_alloc_new W _, blk_below hg (below_alloc (Below.refl _ _) _), ⟨h.lt, hqg, by have := blk_lt hg; omega⟩⟩⟩
 have HCH : Aside0 (Ch (fun k => k = p ∨ k = q ∨ k = g) W (W.alloc (.cells #[.pointer (some ⟨q, 0, none⟩)] 104 (0, 0)))) := ⟨Ch.of_below (below_alloc (Below.refl _ _) _)⟩
 have HGW := Aside0.mk (blk_lt hg)
 clear h; clear hg
 go_enter Try.func60, Try.ntmps60
 go_upto_region 1 with (fail)
 refine start_ (n := 36) (S := fun w' => w'.cell? ⟨W.heap.size, 0, none⟩ = some (.pointer (some ⟨q, 0, none⟩))) (ds := [35]) #[false, false, false, false, false, false, false, false, false, false, false, false, false, false, false, false, false, false, false, false, false, false, false, false, false, false, false, false, false, false, false, false, false, false, false, false] (by kernel_rfl) rfl rfl ((blk_cell (HD.out.go (below_drew (Below.refl _ _))).cap 0).trans rfl) (fun hHeld => ?_); refine with_tabW One60.tab1 One60.bits1 (fun HT_ HW_ => ?_)
 have n_ := Aside0.mk (HD.out.go (below_drew (Below.refl _ _)))
 have m_ := Aside0.mk (HCH.out.trans (Ch.of_below (S := fun _ => False) (below_drew (Below.refl _ _))) (fun _ _ h => h.elim))
 clear HD; clear HCH
 have HD := n_
 have HCH := m_
 clear n_; clear m_
 generalize World.drew _ = wz at HD HCH hHeld ⊢
 refine plan_ [(0, 4)] ?_
 refine planT_ (v := ?_) (a' := ?_) rfl rfl (take_ofW HT_.out HW_.out (by kernel_rfl)) (fun _ _ _ h => h) (Or.inl ⟨by rfl, ?_⟩) hHeld ?_ ?_; rotate_left; (rintro w' hs_; go_simp; with_reducible rfl); rotate_left; (simp only [Act.put, List.setIfInBounds_toArray, List.set_cons_zero, List.set_cons_succ, i64_w, i32_w]; rfl)
 refine planEnd_ ?_
 refine plan_ [(1, 5), (2, 6), (3, 7), (4, 8), (5, 9), (6, 10), (7, 11), (8, 12), (9, 13), (10, 14), (11, 15), (12, 16), (13, 17), (14, 18), (15, 19), (16, 20), (17, 21), (18, 22), (19, 23), (20, 24), (21, 25), (22, 26), (23, 27), (24, 28), (25, 29), (26, 30), (27, 31), (28, 32), (29, 33), (30, 34), (31, 35), (32, 36), (33, 37)] ?_
 iterate 33 (refine planP_ (v := ?_) (a' := ?_) rfl rfl (any_of HT_.out (by kernel_rfl)) (fun _ _ _ h => h) (Or.inl ⟨by rfl, ?_⟩) ?_ ?_; rotate_left; (intro w'; go_simp; with_reducible rfl); rotate_left; (simp only [Act.put, List.setIfInBounds_toArray, List.set_cons_zero, List.set_cons_succ, i64_w, i32_w]; rfl))
 refine planEnd_ ?_
 refine one_ (i := 34) (N := some 38) #[true, true, true, true, true, true, true, true, true, true, true, true, true, true, true, true, true, true, true, true, true, true, true, true, true, true, true, true, true, true, true, true, true, true, true, false] rfl rfl (one_of HT_.out (by kernel_rfl)) (by decide) (fun K hK => ?_)
 refine ptrs_step ?hg (N := 38) ?hd (cells := #[.pointer (some ⟨g, 0, none⟩), .pointer (some ⟨g, 1, none⟩), .pointer (some ⟨g, 2, none⟩), .pointer (some ⟨g, 3, none⟩), .pointer (some ⟨g, 4, none⟩), .pointer (some ⟨g, 5, none⟩), .pointer (some ⟨g, 6, none⟩), .pointer (some ⟨g, 7, none⟩), .pointer (some ⟨g, 8, none⟩), .pointer (some ⟨g, 9, none⟩), .pointer (some ⟨g, 10, none⟩)]) (n := 11) ?hr ?_; (case hd => rfl); (case hg => rfl); (case hr => first | (go_simp; done) | (go_simp; rfl))
 intro t ht w2 ht2 hb2
 have HTQ : Aside0 (q < t ∧ g ≠ t) := ⟨by subst ht; exact ⟨HD.out.sr.lt, Nat.ne_of_lt (blk_lt HD.out.blk)⟩⟩
 have HPT : Aside0 (∀ i, i < 11 → (#[.pointer (some ⟨g, 0, none⟩), .pointer (some ⟨g, 1, none⟩), .pointer (some ⟨g, 2, none⟩), .pointer (some ⟨g, 3, none⟩), .pointer (some ⟨g, 4, none⟩), .pointer (some ⟨g, 5, none⟩), .pointer (some ⟨g, 6, none⟩), .pointer (some ⟨g, 7, none⟩), .pointer (some ⟨g, 8, none⟩), .pointer (some ⟨g, 9, none⟩), .pointer (some ⟨g, 10, none⟩)] : Array Value)[i]? = some (.pointer (some ⟨g, 0 + i, none⟩))) := ⟨by intro i hi; (have hi_ : i = 0 ∨ i = 1 ∨ i = 2 ∨ i = 3 ∨ i = 4 ∨ i = 5 ∨ i = 6 ∨ i = 7 ∨ i = 8 ∨ i = 9 ∨ i = 10 := by omega); rcases hi_ with rfl | rfl | rfl | rfl | rfl | rfl | rfl | rfl | rfl | rfl | rfl <;> rfl⟩
 have HSZ : Aside0 (0 + 11 ≤ (#[.int .i64 0, .int .i64 0, .int .i64 0, .int .i64 0, .int .i64 0, .int .i64 0, .int .i64 0, .int .i64 0, .int .i64 0, .int .i64 0, .int .i64 0, .slice none 0 0] : Array Value).size ∧ 11 ≤ 100) := ⟨by simp, by decide⟩
 have HT2 := Aside0.mk ht2
 have n_ := Aside0.mk (HD.out.go hb2)
 have m_ := Aside0.mk (HCH.out.trans (Ch.of_below (S := fun _ => False) hb2) (fun _ _ h => h.elim))
 clear HD; clear HCH; clear ht; clear ht2; clear hb2
 have HD := n_
 have HCH := m_
 clear n_; clear m_
 refine hK.out _ _ ((blk_cell HD.out.cap 0).trans rfl) (fun hHeld => ?_)
 clear hK; clear K
 refine norm_ (a' := ?_) ?_ ?_
 rotate_left
 ·show Act.put _ (some 38) _ = _
  simp only [Act.put, List.setIfInBounds_toArray, List.set_cons_zero, List.set_cons_succ, i64_w, i32_w]
  rfl
 refine last_ (i := 35) (N := some 39) #[true, true, true, true, true, true, true, true, true, true, true, true, true, true, true, true, true, true, true, true, true, true, true, true, true, true, true, true, true, true, true, true, true, true, true, true] rfl rfl (one_of HT_.out (by kernel_rfl)) (by decide) (fun K hK => ?_)
 refine goes_ Try.func52 (by kernel_rfl) rfl #[.pointer (some ⟨q, 0, none⟩), .slice (some ⟨t, 0, none⟩) 11 11] (by rfl) rfl rfl mt ?_
 with_reducible refine (get_f (g := g) (t := t) (n := 11) (o := 0) (ty := 100) (arr := #[.int .i64 0, .int .i64 0, .int .i64 0, .int .i64 0, .int .i64 0, .int .i64 0, .int .i64 0, .int .i64 0, .int .i64 0, .int .i64 0, .int .i64 0, .slice none 0 0]) (tarr := #[.pointer (some ⟨g, 0, none⟩), .pointer (some ⟨g, 1, none⟩), .pointer (some ⟨g, 2, none⟩), .pointer (some ⟨g, 3, none⟩), .pointer (some ⟨g, 4, none⟩), .pointer (some ⟨g, 5, none⟩), .pointer (some ⟨g, 6, none⟩), .pointer (some ⟨g, 7, none⟩), .pointer (some ⟨g, 8, none⟩), .pointer (some ⟨g, 9, none⟩), .pointer (some ⟨g, 10, none⟩)]) s _ HD.out.sr HD.out.lo.2.1 HTQ.out.2 HTQ.out.1 HD.out.blk HT2.out HPT.out HSZ.out.1 HSZ.out.2).mono ?_
 rintro e w3 ⟨rfl, hg3, hs3, hc3⟩; rw [HY.out, put11] at hg3; rw [HTT.out] at hs3; have G3 := Aside0.mk hg3; have S3 := Aside0.mk hs3; have K3 := Aside0.mk (HD.out.lo.1); have LL := Aside0.mk HD.out.lo; have C3 := Aside0.mk (hc3.keep HD.out.cap (by rintro (h | h) <;> (have := HD.out.lo; have := HD.out.sr.lo; omega))); have m_ := Aside0.mk (HCH.out.trans hc3 (fun _ _ h => h.elim Or.inl (fun h => Or.inr (Or.inr h)))); clear HCH HD hg3 hs3 hc3; have HCH := m_; clear m_
 refine ⟨_, rfl, ?_⟩
 refine hK.out _ _ ?_
 clear hK; clear K
 refine norm_ (a' := ?_) ?_ ?_
 rotate_left
 ·show Act.put _ (some 39) _ = _
  simp only [Act.put, List.setIfInBounds_toArray, List.set_cons_zero, List.set_cons_succ, i64_w, i32_w]
  rfl
 refine done_ (done_of HT_.out (by kernel_rfl)) ?_
 have hc0 : World.cell? w3 ⟨W.heap.size, 0, none⟩ = some (.pointer (some ⟨q, 0, none⟩)) := (blk_cell C3.out 0).trans rfl
 have HG3 : Aside0 (w3.heap[g]? = some (.cells #[.int .i64 y0, .int .i64 y1, .int .i64 y2, .int .i64 y3, .int .i64 y4, .int .i64 y5, .int .i64 y6, .int .i64 y7, .int .i64 y8, .int .i64 y9, .int .i64 y10, .slice none 0 0] 100 (0, 0))) := ⟨G3.out⟩
 clear G3
 go_wp2_with (first | (go_at_call 74; (with_reducible refine (list74 (tl, s.2) 16 _ S3.out C3.out K3.out (by decide)).mono ?_); rintro e w4 ⟨v11, rfl, hv, hs4, hc4⟩; obtain ⟨Av, cv, ev⟩ := Kd.R_slice hv; subst ev; have G4 := Aside0.mk (hc4.keep HG3.out (by have := LL.out; have := S3.out.lo; rintro (h | h) <;> omega)); have hgz : World.cell? w4 ⟨g, 11, none⟩ = some (.slice none 0 0) := (blk_cell G4.out 11).trans rfl; have hgf := blk_frozen G4.out 11; have HV := Aside0.mk hv; have HS4 := Aside0.mk hs4; have HC4 := Aside0.mk (HCH.out.trans hc4 (fun _ _ h => h.elim Or.inl (fun h => Or.inr (Or.inl h)))); have HZ3 := Aside0.mk HCH.out.size; clear hv hs4 hc4 HCH))
 go_end0
 refine ⟨_, rfl, blk_put G4.out 11 _ rfl, ?_, HS4.out.ch (Ch.set (S := fun k => k = g) _ _ _ rfl) (fun k hk => by have := LL.out; omega), HC4.out.trans (Ch.set (S := fun k => k = g) _ _ _ rfl) (fun _ _ h => Or.inr (Or.inr h))⟩
 exact Kd.R_mono (Kd.R_far (Kd.R_lower (Kd.R_mono (Kd.R_bound HV.out) (ok' := fun k => w3.heap.size ≤ k) (fun k hk => hk.2.1)) HZ3.out) (fun k hk => by have := HGW.out; have := HZ3.out; show k ≠ g; omega) _) (fun _ _ => trivial)

theorem sinfo100 : (Try.prog.info? 100).map (fun i => (i.zero, i.size, i.bytes)) = some (some (.agg #[(.int .i64 0), (.int .i64 0), (.int .i64 0), (.int .i64 0), (.int .i64 0), (.int .i64 0), (.int .i64 0), (.int .i64 0), (.int .i64 0), (.int .i64 0), (.int .i64 0), (.slice none 0 0)]), 12, 112) := by kernel_rfl
set_option maxHeartbeats 8000000 in
set_option maxRecDepth 100000 in
theorem list59 {base p q : Nat} (s : RS) (m : Int) (W : World) (h : SR base p q s W) (hm : 0 ≤ m ∧ m ≤ 16) :
  Calls Try.prog 59 #[.pointer (some ⟨q, 0, none⟩), .int .i64 m, .func (.func 60) #[.pointer (some ⟨q, 0, none⟩)] #[]] W fun e W' => ∃ v, e = .returned v ∧ Kd.R k100 100 W' W.heap.size (fun _ => True) v (rList dJob m s).1 ∧ SR base p q (rList dJob m s).2 W' ∧ Ch (fun k => k = p ∨ k = q) W W' := by
 obtain ⟨st, hst⟩ : ∃ st, rInt s.1 = st := ⟨_, rfl⟩
 obtain ⟨L, hL⟩ : ∃ L, rList dJob m s = L := ⟨_, rfl⟩
 have HST := Aside0.mk hst
 have HS := Aside0.mk h
 have HLQ := Aside0.mk h.lt
 have hq0 := h.q0
 have hdef : rList dJob m s = if 0 ≤ st.1 ∧ st.1 ≤ m then rLoop dJob st.1.toNat (st.2, s.2) [] else ([], (st.2, true)) := by unfold rList; rw [hst]
 rw [hL] at hdef ⊢
 clear h; clear hL; clear hst
 by_cases c0 : st.1 < 0
 ·have c0b : decide (st.1 < 0) = true := decide_eq_true c0
  have HBAD : Aside0 (L = ([], (st.2, true))) := ⟨by rw [hdef, if_neg (by omega)]⟩
  clear hdef; clear c0
  go_enter Try.func59, Try.ntmps59
  go_wp2_with (first | (go_at_call 25; (with_reducible refine (int_s HST.out _ HS.out.rd).mono ?_); rintro e w1 ⟨rfl, hr, hp⟩; have HS1 := Aside0.mk (HS.out.puts hr hp); have HC1 := Aside0.mk (Ch.of_puts (S := fun k => k = p ∨ k = q) hp (Or.inl rfl)); clear hr hp; have hq1 := HS1.out.q1; have hqf := blk_frozen HS1.out.rq 1))
  go_ret
  refine ⟨_, rfl, ?_, ?_, ?_⟩
  ·rw [HBAD.out]; exact Kd.R_nil _ _ _ _ _
  ·rw [HBAD.out]; exact HS1.out.setq true
  ·exact HC1.out.trans (Ch.set (S := fun k => k = p ∨ k = q) _ 1 _ (Or.inr rfl)) (fun _ _ h => h)
 ·have c0b : decide (st.1 < 0) = false := decide_eq_false c0
  by_cases c1 : m < st.1
  ·have c1b : decide (m < st.1) = true := decide_eq_true c1
   have HBAD : Aside0 (L = ([], (st.2, true))) := ⟨by rw [hdef, if_neg (by omega)]⟩
   clear hdef; clear c0; clear c1
   go_enter Try.func59, Try.ntmps59
   go_wp2_with (first | (go_at_call 25; (with_reducible refine (int_s HST.out _ HS.out.rd).mono ?_); rintro e w1 ⟨rfl, hr, hp⟩; have HS1 := Aside0.mk (HS.out.puts hr hp); have HC1 := Aside0.mk (Ch.of_puts (S := fun k => k = p ∨ k = q) hp (Or.inl rfl)); clear hr hp; have hq1 := HS1.out.q1; have hqf := blk_frozen HS1.out.rq 1))
   go_ret
   refine ⟨_, rfl, ?_, ?_, ?_⟩
   ·rw [HBAD.out]; exact Kd.R_nil _ _ _ _ _
   ·rw [HBAD.out]; exact HS1.out.setq true
   ·exact HC1.out.trans (Ch.set (S := fun k => k = p ∨ k = q) _ 1 _ (Or.inr rfl)) (fun _ _ h => h)
  ·have c1b : decide (m < st.1) = false := decide_eq_false c1
   have HN : Aside0 (0 ≤ st.1 ∧ st.1 ≤ 16) := ⟨by omega⟩
   obtain ⟨T, hT⟩ : ∃ T, rLoop dJob st.1.toNat (st.2, s.2) [] = T := ⟨_, rfl⟩
   have HT := Aside0.mk hT
   have HOKE : Aside0 (L = T) := ⟨by rw [hdef, if_pos (by omega), hT]⟩
   clear hdef; clear c0; clear c1; clear hT
   go_enter Try.func59, Try.ntmps59
   go_wp2_with (first | (go_at_call 25; (with_reducible refine (int_s HST.out _ HS.out.rd).mono ?_); rintro e w1 ⟨rfl, hr, hp⟩; have HS1 := Aside0.mk (HS.out.puts hr hp); have HC1 := Aside0.mk (Ch.of_puts (S := fun k => k = p ∨ k = q) hp (Or.inl rfl)); clear hr hp))
   go_loopg [26, 7] st.1.toNat (fun kq v26 v7 w' => ∃ (x26 : Int) (out : List S100) (si : RS), v26 = .int .i64 x26 ∧ Aside0 (x26 + kq = st.1 ∧ 0 ≤ x26 ∧ (out.length : Int) = x26) ∧ Aside0 (rLoop dJob kq si out = T) ∧ Aside0 (Kd.R k100 100 w' W.heap.size (fun k => W.heap.size ≤ k) v7 out) ∧ Aside0 (SR base p q si w') ∧ Aside0 (Ch (fun k => k = p ∨ k = q) W w'))
   case atStart => exact ⟨0, [], (st.2, s.2), rfl, ⟨by have := HN.out; simp; omega⟩, HT, ⟨Kd.R_nil _ _ _ _ _⟩, HS1, HC1⟩
   case round =>
    clear HS1; clear HC1; clear HT
    obtain ⟨x26, out, si, rfl, HI, HT, HR, HSI, HCH⟩ := hrel
    by_cases d1 : x26 < st.1
    ·have d1b : decide (x26 < st.1) = true := decide_eq_true d1
     obtain ⟨k1, rfl⟩ : ∃ k1, gk = k1 + 1 := ⟨gk - 1, by have := HI.out; omega⟩
     obtain ⟨⟨x, sj⟩, hx⟩ : ∃ y, dJob si = y := ⟨_, rfl⟩
     have HX := Aside0.mk hx
     have HT2 : Aside0 (rLoop dJob k1 sj (out ++ [x]) = T) := ⟨by have := HT.out; rw [rLoop, hx] at this; exact this⟩
     have HOL : Aside0 (out.length ≤ 16) := ⟨by have := HI.out; have := HN.out; omega⟩
     have e26 : wrap64 (x26 + 1) = x26 + 1 := by have := HI.out; have := HN.out; unfold wrap64; omega
     have HSZ := Aside0.mk HCH.out.size
     have HRW := HR
     clear d1; clear hx; clear HT
     go_wp2_with (first | (go_at_call 60; (with_reducible refine (one60 si x sj HX.out wr.heap.size _ (HSI.out.below (below_alloc (Below.refl _ _) _)) (by have := HSI.out.lt; omega) (heap_alloc_new wr _)).mono ?_); rintro e w2 ⟨v11, rfl, hg2, hv11, hs2, hc2⟩; have HC2 := Aside0.mk (HCH.out.trans (Ch.trans (Ch.of_below (S := fun k => k = p ∨ k = q ∨ k = wr.heap.size) (below_alloc (Below.refl wr.heap.size wr) (.cells #[.int .i64 0, .int .i64 0, .int .i64 0, .int .i64 0, .int .i64 0, .int .i64 0, .int .i64 0, .int .i64 0, .int .i64 0, .int .i64 0, .int .i64 0, .slice none 0 0] 100 (0, 0)))) hc2 (fun _ _ h => h)) (fun k hk h => by rcases h with h | h | h; (exact Or.inl h); (exact Or.inr h); (exact absurd hk (by have := HCH.out.size; omega)))); have HR2 : Aside0 (Kd.R k100 100 w2 W.heap.size (fun k => W.heap.size ≤ k) u7 out) := ⟨Kd.R_step HR.out (fun k hk hlt => (hc2.block k (by simp; omega) (by have := HSI.out.lt; have := HSI.out.lo; have := HLQ.out; rintro (h | h | h) <;> omega)).trans (Below.heap_alloc wr _ k (by omega)))⟩; have HV11 := Aside0.mk hv11; have HS2 := Aside0.mk hs2; have HG2 := Aside0.mk hg2; have hz0 : World.cell? w2 ⟨wr.heap.size, 0, none⟩ = some (.int .i64 x.f0) := (blk_cell hg2 0).trans rfl; have hz1 : World.cell? w2 ⟨wr.heap.size, 1, none⟩ = some (.int .i64 x.f1) := (blk_cell hg2 1).trans rfl; have hz2 : World.cell? w2 ⟨wr.heap.size, 2, none⟩ = some (.int .i64 x.f2) := (blk_cell hg2 2).trans rfl; have hz3 : World.cell? w2 ⟨wr.heap.size, 3, none⟩ = some (.int .i64 x.f3) := (blk_cell hg2 3).trans rfl; have hz4 : World.cell? w2 ⟨wr.heap.size, 4, none⟩ = some (.int .i64 x.f4) := (blk_cell hg2 4).trans rfl; have hz5 : World.cell? w2 ⟨wr.heap.size, 5, none⟩ = some (.int .i64 x.f5) := (blk_cell hg2 5).trans rfl; have hz6 : World.cell? w2 ⟨wr.heap.size, 6, none⟩ = some (.int .i64 x.f6) := (blk_cell hg2 6).trans rfl; have hz7 : World.cell? w2 ⟨wr.heap.size, 7, none⟩ = some (.int .i64 x.f7) := (blk_cell hg2 7).trans rfl; have hz8 : World.cell? w2 ⟨wr.heap.size, 8, none⟩ = some (.int .i64 x.f8) := (blk_cell hg2 8).trans rfl; have hz9 : World.cell? w2 ⟨wr.heap.size, 9, none⟩ = some (.int .i64 x.f9) := (blk_cell hg2 9).trans rfl; have hz10 : World.cell? w2 ⟨wr.heap.size, 10, none⟩ = some (.int .i64 x.f10) := (blk_cell hg2 10).trans rfl; have hz11 : World.cell? w2 ⟨wr.heap.size, 11, none⟩ = some (v11) := (blk_cell hg2 11).trans rfl; clear hg2 hs2 hc2 hv11 HCH HSI HR; have HCH := HC2; clear HC2) | ((with_reducible refine gate_builtin (b := .append) (xs := #[.tmp 30, .tmp 32]) rfl ?_); at_builtin; refine Kd.R_append k100 (w0 := w2) W.heap.size rfl (.tmp 30) (.tmp 32) 65 100 (.agg #[(.int .i64 0), (.int .i64 0), (.int .i64 0), (.int .i64 0), (.int .i64 0), (.int .i64 0), (.int .i64 0), (.int .i64 0), (.int .i64 0), (.int .i64 0), (.int .i64 0), (.slice none 0 0)]) 112 rfl Try.underlying65 sinfo100 rfl (by decide) (by omega) u7 out x [.int .i64 x.f0, .int .i64 x.f1, .int .i64 x.f2, .int .i64 x.f3, .int .i64 x.f4, .int .i64 x.f5, .int .i64 x.f6, .int .i64 x.f7, .int .i64 x.f8, .int .i64 x.f9, .int .i64 x.f10, v11] (fun k => W.heap.size ≤ k) (fun k => (wr.alloc (.cells #[.int .i64 0, .int .i64 0, .int .i64 0, .int .i64 0, .int .i64 0, .int .i64 0, .int .i64 0, .int .i64 0, .int .i64 0, .int .i64 0, .int .i64 0, .slice none 0 0] 100 (0, 0))).heap.size ≤ k) rfl rfl ?aP (fun k hk => ⟨by have := HSZ.out; simp at hk; omega, fun he => by have := Kd.R_lt HRW.out k he.symm; simp at hk; omega⟩) ?aF ?aO ?aB ?aS ?aL ?_; (case aP => exact k100_mkM _ _ _ x (Kd.R_lower (Kd.R_mono (Kd.R_bound HV11.out) (fun k hk => hk.2.1)) (by have := HSZ.out; simp; omega))); (case aF => exact (fun k hk => Nat.le_trans HCH.out.size hk)); (case aO => exact HR2.out); (case aB => exact Below.refl _ _); (case aS => exact HCH.out.size); (case aL => have := HOL.out; omega); intro v3 w3 ho hb hg hat; have HR3 := Aside0.mk ho; have HC3 := Aside0.mk (HCH.out.trans (Ch.of_grown (S := fun k => u7.ownBlock = some k) hg (fun _ h => h)) (fun k hk h => absurd (HR2.out.1 k h) (by omega))); have HS3 := Aside0.mk (HS2.out.ch (Ch.of_grown (S := fun k => u7.ownBlock = some k) hg (fun _ h => h)) (fun k h => by have := HR2.out.1 k h; have := HLQ.out; omega)); clear ho hb hg hat))
     go_roundg k1
     case measure => omega
     case rel => exact ⟨x26 + 1, out ++ [x], sj, by rw [e26], ⟨by have := HI.out; simp; omega⟩, HT2, HR3, HS3, HC3⟩
    ·have d1b : decide (x26 < st.1) = false := decide_eq_false d1
     have hk0 : gk = 0 := by have := HI.out; omega
     subst hk0
     have HT2 : (out, si) = T := HT.out
     clear d1; clear HT
     go_wp2
     go_ret
     refine ⟨_, rfl, ?_, ?_, HCH.out⟩
     ·rw [HOKE.out, ← HT2]; exact Kd.R_mono HR.out (fun _ _ => trivial)
     ·rw [HOKE.out, ← HT2]; exact HSI.out

structure DecT (w : World) (gr gb base p q c : Nat) (s : RS) (a0 a1 a2 : Int) (v3 v4 v5 v6 v7 : Value) (x3 : List S93) (x4 : List S95) (x5 : List S97) (x6 : List S100) (x7 : List ByteArray) (W : World) : Prop where
 res : W.heap[gr]? = some (.cells #[.int .i64 0, .int .i64 0, .int .i64 0, .slice none 0 0, .slice none 0 0, .slice none 0 0, .slice none 0 0, .slice none 0 0] 67 (0, 0))
 blk : W.heap[gb]? = some (.cells #[.int .i64 a0, .int .i64 a1, .int .i64 a2, v3, v4, v5, v6, v7] 67 (0, 0))
 sr : SR base p q s W
 cap : W.heap[c]? = some (.cells #[.pointer (some ⟨q, 0, none⟩)] 104 (0, 0))
 o3 : Kd.R k93 93 W w.heap.size (fun k => gb < k) v3 x3
 o4 : Kd.R k95 95 W w.heap.size (fun k => gb < k) v4 x4
 o5 : Kd.R k97 97 W w.heap.size (fun k => gb < k) v5 x5
 o6 : Kd.R k100 100 W w.heap.size (fun k => gb < k) v6 x6
 o7 : Kd.R Kd.string 9 W w.heap.size (fun k => gb < k) v7 x7
 below : Below w.heap.size w W
 lo : w.heap.size ≤ gr ∧ gr < base ∧ q < c ∧ c < gb
section
variable {w : World} {gr gb base p q c : Nat} {s s' : RS} {a0 a1 a2 : Int} {v3 v4 v5 v6 v7 v : Value} {x3 : List S93} {x4 : List S95} {x5 : List S97} {x6 : List S100} {x7 : List ByteArray} {W W1 W2 : World} {S : Nat → Prop}
theorem DecT.ch (h : DecT w gr gb base p q c s a0 a1 a2 v3 v4 v5 v6 v7 x3 x4 x5 x6 x7 W) (hc : Ch S W W1) (hS : ∀ k, S k → k = p ∨ k = q) (hs : SR base p q s' W1) : DecT w gr gb base p q c s' a0 a1 a2 v3 v4 v5 v6 v7 x3 x4 x5 x6 x7 W1 := by
 have hlo := h.lo
 have hl2 := h.sr.lo
 exact ⟨hc.keep h.res (fun hk => by have := hS _ hk; omega), hc.keep h.blk (fun hk => by have := hS _ hk; omega), hs, hc.keep h.cap (fun hk => by have := hS _ hk; omega), Kd.R_step h.o3 (fun k ho hlt => hc.block k hlt (fun hk => by have := hS k hk; omega)), Kd.R_step h.o4 (fun k ho hlt => hc.block k hlt (fun hk => by have := hS k hk; omega)), Kd.R_step h.o5 (fun k ho hlt => hc.block k hlt (fun hk => by have := hS k hk; omega)), Kd.R_step h.o6 (fun k ho hlt => hc.block k hlt (fun hk => by have := hS k hk; omega)), Kd.R_step h.o7 (fun k ho hlt => hc.block k hlt (fun hk => by have := hS k hk; omega)), hc.below h.below (fun k hk => by have := hS k hk; omega), h.lo⟩
theorem DecT.set3 {x : List S93} {ok : Nat → Prop} {b : Nat} (h : DecT w gr gb base p q c s a0 a1 a2 v3 v4 v5 v6 v7 x3 x4 x5 x6 x7 W) (ho : Kd.R k93 93 W b ok v x) (hb : gb < b) (hw : w.heap.size ≤ b) : DecT w gr gb base p q c s a0 a1 a2 v v4 v5 v6 v7 x x4 x5 x6 x7 (W.setCell ⟨gb, 3, none⟩ v) := by
 have hlo := h.lo
 have hl2 := h.sr.lo
 have hk : ∀ k, k ≠ gb → (W.setCell ⟨gb, 3, none⟩ v).heap[k]? = W.heap[k]? := fun k hk => Below.heap_setCell W _ v k hk
 exact ⟨(hk gr (by omega)).trans h.res, blk_put h.blk 3 v rfl, h.sr.ch (Ch.set (S := fun k => k = gb) W _ _ rfl) (fun k hk => by omega), (hk c (by omega)).trans h.cap, Kd.R_far (Kd.R_lower (Kd.R_mono (Kd.R_bound ho) (fun k hk => Nat.lt_of_lt_of_le hb hk.2.1)) hw) (fun k hk => by show k ≠ gb; omega) _, Kd.R_far h.o4 (fun k hk => by show k ≠ gb; omega) _, Kd.R_far h.o5 (fun k hk => by show k ≠ gb; omega) _, Kd.R_far h.o6 (fun k hk => by show k ≠ gb; omega) _, Kd.R_far h.o7 (fun k hk => by show k ≠ gb; omega) _, below_set h.below (by omega), h.lo⟩
theorem DecT.set4 {x : List S95} {ok : Nat → Prop} {b : Nat} (h : DecT w gr gb base p q c s a0 a1 a2 v3 v4 v5 v6 v7 x3 x4 x5 x6 x7 W) (ho : Kd.R k95 95 W b ok v x) (hb : gb < b) (hw : w.heap.size ≤ b) : DecT w gr gb base p q c s a0 a1 a2 v3 v v5 v6 v7 x3 x x5 x6 x7 (W.setCell ⟨gb, 4, none⟩ v) := by
 have hlo := h.lo
 have hl2 := h.sr.lo
 have hk : ∀ k, k ≠ gb → (W.setCell ⟨gb, 4, none⟩ v).heap[k]? = W.heap[k]? := fun k hk => Below.heap_setCell W _ v k hk
 exact ⟨(hk gr (by omega)).trans h.res, blk_put h.blk 4 v rfl, h.sr.ch (Ch.set (S := fun k => k = gb) W _ _ rfl) (fun k hk => by omega), (hk c (by omega)).trans h.cap, Kd.R_far h.o3 (fun k hk => by show k ≠ gb; omega) _, Kd.R_far (Kd.R_lower (Kd.R_mono (Kd.R_bound ho) (fun k hk => Nat.lt_of_lt_of_le hb hk.2.1)) hw) (fun k hk => by show k ≠ gb; omega) _, Kd.R_far h.o5 (fun k hk => by show k ≠ gb; omega) _, Kd.R_far h.o6 (fun k hk => by show k ≠ gb; omega) _, Kd.R_far h.o7 (fun k hk => by show k ≠ gb; omega) _, below_set h.below (by omega), h.lo⟩
theorem DecT.set5 {x : List S97} {ok : Nat → Prop} {b : Nat} (h : DecT w gr gb base p q c s a0 a1 a2 v3 v4 v5 v6 v7 x3 x4 x5 x6 x7 W) (ho : Kd.R k97 97 W b ok v x) (hb : gb < b) (hw : w.heap.size ≤ b) : DecT w gr gb base p q c s a0 a1 a2 v3 v4 v v6 v7 x3 x4 x x6 x7 (W.setCell ⟨gb, 5, none⟩ v) := by
 have hlo := h.lo
 have hl2 := h.sr.lo
 have hk : ∀ k, k ≠ gb → (W.setCell ⟨gb, 5, none⟩ v).heap[k]? = W.heap[k]? := fun k hk => Below.heap_setCell W _ v k hk
 exact ⟨(hk gr (by omega)).trans h.res, blk_put h.blk 5 v rfl, h.sr.ch (Ch.set (S := fun k => k = gb) W _ _ rfl) (fun k hk => by omega), (hk c (by omega)).trans h.cap, Kd.R_far h.o3 (fun k hk => by show k ≠ gb; omega) _, Kd.R_far h.o4 (fun k hk => by show k ≠ gb; omega) _, Kd.R_far (Kd.R_lower (Kd.R_mono (Kd.R_bound ho) (fun k hk => Nat.lt_of_lt_of_le hb hk.2.1)) hw) (fun k hk => by show k ≠ gb; omega) _, Kd.R_far h.o6 (fun k hk => by show k ≠ gb; omega) _, Kd.R_far h.o7 (fun k hk => by show k ≠ gb; omega) _, below_set h.below (by omega), h.lo⟩
theorem DecT.set6 {x : List S100} {ok : Nat → Prop} {b : Nat} (h : DecT w gr gb base p q c s a0 a1 a2 v3 v4 v5 v6 v7 x3 x4 x5 x6 x7 W) (ho : Kd.R k100 100 W b ok v x) (hb : gb < b) (hw : w.heap.size ≤ b) : DecT w gr gb base p q c s a0 a1 a2 v3 v4 v5 v v7 x3 x4 x5 x x7 (W.setCell ⟨gb, 6, none⟩ v) := by
 have hlo := h.lo
 have hl2 := h.sr.lo
 have hk : ∀ k, k ≠ gb → (W.setCell ⟨gb, 6, none⟩ v).heap[k]? = W.heap[k]? := fun k hk => Below.heap_setCell W _ v k hk
 exact ⟨(hk gr (by omega)).trans h.res, blk_put h.blk 6 v rfl, h.sr.ch (Ch.set (S := fun k => k = gb) W _ _ rfl) (fun k hk => by omega), (hk c (by omega)).trans h.cap, Kd.R_far h.o3 (fun k hk => by show k ≠ gb; omega) _, Kd.R_far h.o4 (fun k hk => by show k ≠ gb; omega) _, Kd.R_far h.o5 (fun k hk => by show k ≠ gb; omega) _, Kd.R_far (Kd.R_lower (Kd.R_mono (Kd.R_bound ho) (fun k hk => Nat.lt_of_lt_of_le hb hk.2.1)) hw) (fun k hk => by show k ≠ gb; omega) _, Kd.R_far h.o7 (fun k hk => by show k ≠ gb; omega) _, below_set h.below (by omega), h.lo⟩
theorem DecT.set7 {x : List ByteArray} {ok : Nat → Prop} {b : Nat} (h : DecT w gr gb base p q c s a0 a1 a2 v3 v4 v5 v6 v7 x3 x4 x5 x6 x7 W) (ho : Kd.R Kd.string 9 W b ok v x) (hb : gb < b) (hw : w.heap.size ≤ b) : DecT w gr gb base p q c s a0 a1 a2 v3 v4 v5 v6 v x3 x4 x5 x6 x (W.setCell ⟨gb, 7, none⟩ v) := by
 have hlo := h.lo
 have hl2 := h.sr.lo
 have hk : ∀ k, k ≠ gb → (W.setCell ⟨gb, 7, none⟩ v).heap[k]? = W.heap[k]? := fun k hk => Below.heap_setCell W _ v k hk
 exact ⟨(hk gr (by omega)).trans h.res, blk_put h.blk 7 v rfl, h.sr.ch (Ch.set (S := fun k => k = gb) W _ _ rfl) (fun k hk => by omega), (hk c (by omega)).trans h.cap, Kd.R_far h.o3 (fun k hk => by show k ≠ gb; omega) _, Kd.R_far h.o4 (fun k hk => by show k ≠ gb; omega) _, Kd.R_far h.o5 (fun k hk => by show k ≠ gb; omega) _, Kd.R_far h.o6 (fun k hk => by show k ≠ gb; omega) _, Kd.R_far (Kd.R_lower (Kd.R_mono (Kd.R_bound ho) (fun k hk => Nat.lt_of_lt_of_le hb hk.2.1)) hw) (fun k hk => by show k ≠ gb; omega) _, below_set h.below (by omega), h.lo⟩
end
theorem put8 {W : World} {g : Nat} {x0 x1 x2 x3 x4 x5 x6 x7 : Value} (h : W.heap[g]? = some (.cells #[x0, x1, x2, x3, x4, x5, x6, x7] 67 (0, 0))) (v0 v1 v2 v3 v4 v5 v6 v7 : Value) :
  ((((((((W.setCell ⟨g, 0, none⟩ v0).setCell ⟨g, 1, none⟩ v1).setCell ⟨g, 2, none⟩ v2).setCell ⟨g, 3, none⟩ v3).setCell ⟨g, 4, none⟩ v4).setCell ⟨g, 5, none⟩ v5).setCell ⟨g, 6, none⟩ v6).setCell ⟨g, 7, none⟩ v7).heap[g]? = some (.cells #[v0, v1, v2, v3, v4, v5, v6, v7] 67 (0, 0)) := by
 have h0 : (W.setCell ⟨g, 0, none⟩ v0).heap[g]? = some (.cells #[v0, x1, x2, x3, x4, x5, x6, x7] 67 (0, 0)) := blk_put h 0 v0 (by simp)
 generalize W.setCell ⟨g, 0, none⟩ v0 = W0 at h0 ⊢
 have h1 : (W0.setCell ⟨g, 1, none⟩ v1).heap[g]? = some (.cells #[v0, v1, x2, x3, x4, x5, x6, x7] 67 (0, 0)) := blk_put h0 1 v1 (by simp)
 generalize W0.setCell ⟨g, 1, none⟩ v1 = W1 at h1 ⊢
 have h2 : (W1.setCell ⟨g, 2, none⟩ v2).heap[g]? = some (.cells #[v0, v1, v2, x3, x4, x5, x6, x7] 67 (0, 0)) := blk_put h1 2 v2 (by simp)
 generalize W1.setCell ⟨g, 2, none⟩ v2 = W2 at h2 ⊢
 have h3 : (W2.setCell ⟨g, 3, none⟩ v3).heap[g]? = some (.cells #[v0, v1, v2, v3, x4, x5, x6, x7] 67 (0, 0)) := blk_put h2 3 v3 (by simp)
 generalize W2.setCell ⟨g, 3, none⟩ v3 = W3 at h3 ⊢
 have h4 : (W3.setCell ⟨g, 4, none⟩ v4).heap[g]? = some (.cells #[v0, v1, v2, v3, v4, x5, x6, x7] 67 (0, 0)) := blk_put h3 4 v4 (by simp)
 generalize W3.setCell ⟨g, 4, none⟩ v4 = W4 at h4 ⊢
 have h5 : (W4.setCell ⟨g, 5, none⟩ v5).heap[g]? = some (.cells #[v0, v1, v2, v3, v4, v5, x6, x7] 67 (0, 0)) := blk_put h4 5 v5 (by simp)
 generalize W4.setCell ⟨g, 5, none⟩ v5 = W5 at h5 ⊢
 have h6 : (W5.setCell ⟨g, 6, none⟩ v6).heap[g]? = some (.cells #[v0, v1, v2, v3, v4, v5, v6, x7] 67 (0, 0)) := blk_put h5 6 v6 (by simp)
 generalize W5.setCell ⟨g, 6, none⟩ v6 = W6 at h6 ⊢
 exact blk_put h6 7 v7 (by simp)
theorem puts8 (W : World) (g : Nat) (v0 v1 v2 v3 v4 v5 v6 v7 : Value) :
  Puts g W ((((((((W.setCell ⟨g, 0, none⟩ v0).setCell ⟨g, 1, none⟩ v1).setCell ⟨g, 2, none⟩ v2).setCell ⟨g, 3, none⟩ v3).setCell ⟨g, 4, none⟩ v4).setCell ⟨g, 5, none⟩ v5).setCell ⟨g, 6, none⟩ v6).setCell ⟨g, 7, none⟩ v7) := by
 have h := (Puts.refl g W).set 0 v0
 generalize W.setCell ⟨g, 0, none⟩ v0 = W0 at h ⊢
 replace h := h.set 1 v1
 generalize W0.setCell ⟨g, 1, none⟩ v1 = W1 at h ⊢
 replace h := h.set 2 v2
 generalize W1.setCell ⟨g, 2, none⟩ v2 = W2 at h ⊢
 replace h := h.set 3 v3
 generalize W2.setCell ⟨g, 3, none⟩ v3 = W3 at h ⊢
 replace h := h.set 4 v4
 generalize W3.setCell ⟨g, 4, none⟩ v4 = W4 at h ⊢
 replace h := h.set 5 v5
 generalize W4.setCell ⟨g, 5, none⟩ v5 = W5 at h ⊢
 replace h := h.set 6 v6
 generalize W5.setCell ⟨g, 6, none⟩ v6 = W6 at h ⊢
 exact h.set 7 v7
theorem DecT.start {w w1 : World} {p : Nat} {l : List Int} (hb : Below (w.alloc (.cells #[.int .i64 0, .int .i64 0, .int .i64 0, .slice none 0 0, .slice none 0 0, .slice none 0 0, .slice none 0 0, .slice none 0 0] 67 (0, 0))).heap.size (w.alloc (.cells #[.int .i64 0, .int .i64 0, .int .i64 0, .slice none 0 0, .slice none 0 0, .slice none 0 0, .slice none 0 0, .slice none 0 0] 67 (0, 0))) w1) (hp : w.heap.size + 1 ≤ p) (hr : Rdr (w.heap.size + 1) p l false w1) :
  DecT w w.heap.size (w1.heap.size + 1 + 1) (w.heap.size + 1) p w1.heap.size (w1.heap.size + 1) ((l, false), false) 0 0 0 (.slice none 0 0) (.slice none 0 0) (.slice none 0 0) (.slice none 0 0) (.slice none 0 0) [] [] [] [] [] (((w1.alloc (.cells #[.pointer (some ⟨p, 0, none⟩), .bool false] 106 (0, 0))).alloc (.cells #[.pointer (some ⟨w1.heap.size, 0, none⟩)] 104 (0, 0))).alloc (.cells #[.int .i64 0, .int .i64 0, .int .i64 0, .slice none 0 0, .slice none 0 0, .slice none 0 0, .slice none 0 0, .slice none 0 0] 67 (0, 0))) := by
 obtain ⟨A, cc, h1, h2, h3, h4, h5⟩ := hr.ex
 have hpl := blk_lt h1
 have r0 : w1.heap[w.heap.size]? = _ := blk_below (heap_alloc_new w _) hb
 have rl := blk_lt r0
 have hbw : Below w.heap.size w w1 := below_step (below_alloc (Below.refl _ _) _) hb
 obtain ⟨Wa, ha⟩ : ∃ Wa, w1.alloc (.cells #[.pointer (some ⟨p, 0, none⟩), .bool false] 106 (0, 0)) = Wa := ⟨_, rfl⟩
 have ba : Below w1.heap.size w1 Wa := by rw [← ha]; exact below_alloc (Below.refl _ _) _
 have na : Wa.heap[w1.heap.size]? = some (.cells #[.pointer (some ⟨p, 0, none⟩), .bool false] 106 (0, 0)) := by rw [← ha]; exact heap_alloc_new w1 _
 have sa : Wa.heap.size = w1.heap.size + 1 := by rw [← ha]; simp
 rw [ha]
 obtain ⟨Wb, hbb⟩ : ∃ Wb, Wa.alloc (.cells #[.pointer (some ⟨w1.heap.size, 0, none⟩)] 104 (0, 0)) = Wb := ⟨_, rfl⟩
 have bb : Below Wa.heap.size Wa Wb := by rw [← hbb]; exact below_alloc (Below.refl _ _) _
 have nb : Wb.heap[w1.heap.size + 1]? = some (.cells #[.pointer (some ⟨w1.heap.size, 0, none⟩)] 104 (0, 0)) := by rw [← hbb, ← sa]; exact heap_alloc_new Wa _
 have sb : Wb.heap.size = w1.heap.size + 1 + 1 := by rw [← hbb]; simp; omega
 rw [hbb]
 have SRb : SR (w.heap.size + 1) p w1.heap.size ((l, false), false) Wb := ⟨(hr.below ba).below bb, blk_below na bb, ⟨hp, hpl⟩⟩
 have Rb : Wb.heap[w.heap.size]? = _ := blk_below (blk_below r0 ba) bb
 have Bb : Below w.heap.size w Wb := below_step (below_step hbw ba) bb
 have Ac : Below Wb.heap.size Wb (Wb.alloc (.cells #[.int .i64 0, .int .i64 0, .int .i64 0, .slice none 0 0, .slice none 0 0, .slice none 0 0, .slice none 0 0, .slice none 0 0] 67 (0, 0))) := below_alloc (Below.refl _ _) _
 exact ⟨blk_below Rb Ac, by rw [← sb]; exact heap_alloc_new Wb _, SRb.below Ac, blk_below nb Ac, Kd.R_nil _ _ _ _ _, Kd.R_nil _ _ _ _ _, Kd.R_nil _ _ _ _ _, Kd.R_nil _ _ _ _ _, Kd.R_nil _ _ _ _ _, below_step Bb Ac, ⟨Nat.le_refl _, Nat.lt_succ_self _, Nat.lt_succ_self _, Nat.lt_succ_self _⟩⟩
theorem DecT.got {w : World} {gr gb base p q c : Nat} {s s' : RS} {a0 a1 a2 b0 b1 b2 : Int} {v3 v4 v5 v6 v7 : Value} {x3 : List S93} {x4 : List S95} {x5 : List S97} {x6 : List S100} {x7 : List ByteArray} {W W1 : World} (h : DecT w gr gb base p q c s a0 a1 a2 v3 v4 v5 v6 v7 x3 x4 x5 x6 x7 W) (hc : Ch (fun k => k = p ∨ k = gb) W W1) (hs : SR base p q s' W1) (hg : W1.heap[gb]? = some (.cells #[.int .i64 b0, .int .i64 b1, .int .i64 b2, v3, v4, v5, v6, v7] 67 (0, 0))) : DecT w gr gb base p q c s' b0 b1 b2 v3 v4 v5 v6 v7 x3 x4 x5 x6 x7 W1 := by
 have hlo := h.lo
 have hl2 := h.sr.lo
 exact ⟨hc.keep h.res (by rintro (h | h) <;> omega), hg, hs, hc.keep h.cap (by rintro (h | h) <;> omega), Kd.R_step h.o3 (fun k ho hlt => hc.block k hlt (by rintro (h | h) <;> omega)), Kd.R_step h.o4 (fun k ho hlt => hc.block k hlt (by rintro (h | h) <;> omega)), Kd.R_step h.o5 (fun k ho hlt => hc.block k hlt (by rintro (h | h) <;> omega)), Kd.R_step h.o6 (fun k ho hlt => hc.block k hlt (by rintro (h | h) <;> omega)), Kd.R_step h.o7 (fun k ho hlt => hc.block k hlt (by rintro (h | h) <;> omega)), hc.below h.below (by rintro k (h | h) <;> omega), h.lo⟩
def sF (l : List Int) : List S93 × RS := rList dFund 8 ((rInts 3 (l, false)).2, false)
def sA (l : List Int) : List S95 × RS := rList dAlloc 16 (sF l).2
def sR (l : List Int) : List S97 × RS := rList dRate 16 (sA l).2
def sJ (l : List Int) : List S100 × RS := rList dJob 16 (sR l).2
def sK (l : List Int) : List ByteArray × RS := rList dKey 8 (sJ l).2
abbrev SnapT := Int × Int × Int × List S93 × List S95 × List S97 × List S100 × List ByteArray × Int
def snapBad : SnapT := (0, 0, 0, [], [], [], [], [], 3)
def snapF (l : List Int) : SnapT := if (sK l).2.2 = false ∧ rEnd (sK l).2.1 = true then ((rInts 3 (l, false)).1.getD 0 0, (rInts 3 (l, false)).1.getD 1 0, (rInts 3 (l, false)).1.getD 2 0, (sF l).1, (sA l).1, (sR l).1, (sJ l).1, (sK l).1, 0) else snapBad
theorem three (l : List Int) (h : l.length = 3) : ∃ a b c, l = [a, b, c] := by
 match l, h with
 | [a, b, c], _ => exact ⟨a, b, c, rfl⟩
theorem put3 (a b c : Int) (v3 v4 v5 v6 v7 : Value) : putN #[.int .i64 0, .int .i64 0, .int .i64 0, v3, v4, v5, v6, v7] 0 [a, b, c] = #[.int .i64 a, .int .i64 b, .int .i64 c, v3, v4, v5, v6, v7] := by simp [putN]
set_option maxHeartbeats 4000000 in
set_option maxRecDepth 100000 in
theorem snap_Decode.at_ (A0 : Option Addr) (c0 : Nat) (l0 : List Int) (w : World) (hr0 : Kd.C (Kd.int .u8) w A0 l0.length l0) (hc0 : l0.length ≤ c0) (hb : ∀ x ∈ l0, 0 ≤ x ∧ x ≤ 255) (hl : l0.length < 140737488355328) (r1 r2 r3 : Int) (r4 : List S93) (r5 : List S95) (r6 : List S97) (r7 : List S100) (r8 : List ByteArray) (r9 : Int) (h : snapF l0 = (r1, r2, r3, r4, r5, r6, r7, r8, r9)) :
  Calls Try.prog 36 #[.slice A0 l0.length c0] w fun e w' => ∃ v3_ v4_ v5_ v6_ v7_ : Value, e = .returned (.tuple #[.agg #[.int .i64 r1, .int .i64 r2, .int .i64 r3, v3_, v4_, v5_, v6_, v7_], .int .i64 r9]) ∧ Kd.R k93 93 w' w.heap.size (fun _ => True) v3_ r4 ∧ Kd.R k95 95 w' w.heap.size (fun _ => True) v4_ r5 ∧ Kd.R k97 97 w' w.heap.size (fun _ => True) v5_ r6 ∧ Kd.R k100 100 w' w.heap.size (fun _ => True) v6_ r7 ∧ Kd.R Kd.string 9 w' w.heap.size (fun _ => True) v7_ r8 ∧ Below w.heap.size w w' := by
 have HR := Aside0.mk hr0
 have HC := Aside0.mk hc0
 have HBB := Aside0.mk hb
 have HL := Aside0.mk hl
 clear hr0; clear hc0; clear hb; clear hl
 obtain ⟨a0, a1, a2, hy⟩ := three _ (rInts_len 3 (l0, false))
 obtain ⟨t0, ht0⟩ : ∃ t, (rInts 3 (l0, false)).2 = t := ⟨_, rfl⟩
 obtain ⟨yF, hF⟩ : ∃ y, rList dFund 8 (t0, false) = y := ⟨_, rfl⟩
 obtain ⟨yA, hA⟩ : ∃ y, rList dAlloc 16 yF.2 = y := ⟨_, rfl⟩
 obtain ⟨yR, hR⟩ : ∃ y, rList dRate 16 yA.2 = y := ⟨_, rfl⟩
 obtain ⟨yJ, hJ⟩ : ∃ y, rList dJob 16 yR.2 = y := ⟨_, rfl⟩
 obtain ⟨yK, hK⟩ : ∃ y, rList dKey 8 yJ.2 = y := ⟨_, rfl⟩
 have eF : sF l0 = yF := by unfold sF; rw [ht0, hF]
 have eA : sA l0 = yA := by unfold sA; rw [eF, hA]
 have eR : sR l0 = yR := by unfold sR; rw [eA, hR]
 have eJ : sJ l0 = yJ := by unfold sJ; rw [eR, hJ]
 have eK : sK l0 = yK := by unfold sK; rw [eJ, hK]
 obtain ⟨eb, heb⟩ : ∃ eb, rEnd yK.2.1 = eb := ⟨_, rfl⟩
 have HHd : snapF l0 = (if yK.2.2 = false ∧ eb = true then (a0, a1, a2, yF.1, yA.1, yR.1, yJ.1, yK.1, 0) else snapBad) := by unfold snapF; rw [eK, heb, hy, eF, eA, eR, eJ]; rfl
 rw [HHd] at h
 have HH := Aside0.mk h
 have HY := Aside0.mk hy
 have HT0 := Aside0.mk ht0
 have HF := Aside0.mk hF
 have HA := Aside0.mk hA
 have HRR := Aside0.mk hR
 have HJ := Aside0.mk hJ
 have HK := Aside0.mk hK
 have HEB := Aside0.mk heb
 clear hy; clear ht0; clear hF; clear hA; clear hR; clear hJ; clear hK; clear eF; clear eA; clear eR; clear eJ; clear eK; clear heb; clear HHd; clear h
 go_enter Try.func36, Try.ntmps36
 go_upto_region 3 with (first | (go_at_call 21; (with_reducible refine (new_f A0 c0 l0 _ (Kd.C_below HR.out (below_alloc (Below.refl _ _) _)) HC.out HBB.out HL.out).mono ?_); rintro e w1 ⟨p, rfl, hp, hr, hb⟩; have sz0 : ((w.alloc (.cells #[.int .i64 0, .int .i64 0, .int .i64 0, .slice none 0 0, .slice none 0 0, .slice none 0 0, .slice none 0 0, .slice none 0 0] 67 (0, 0)))).heap.size = w.heap.size + 1 := (by simp); rw [sz0] at hp hr; have HD0 := Aside0.mk (DecT.start hb hp hr); clear hp hr hb sz0))

 obtain ⟨W0, hW0⟩ : ∃ W, (((w1.alloc (.cells #[.pointer (some ⟨p, 0, none⟩), .bool false] 106 (0, 0))).alloc (.cells #[.pointer (some ⟨w1.heap.size, 0, none⟩)] 104 (0, 0))).alloc (.cells #[.int .i64 0, .int .i64 0, .int .i64 0, .slice none 0 0, .slice none 0 0, .slice none 0 0, .slice none 0 0, .slice none 0 0] 67 (0, 0))) = W := ⟨_, rfl⟩
 rw [hW0] at HD0 ⊢
 generalize w1.heap.size + 1 + 1 = gb at HD0 ⊢
 generalize w1.heap.size + 1 = c at HD0 ⊢
 generalize w1.heap.size = q at HD0 ⊢
 clear hW0
 have hc0 : World.cell? W0 ⟨c, 0, none⟩ = some (.pointer (some ⟨q, 0, none⟩)) := (blk_cell HD0.out.cap 0).trans rfl
 have G0 := Aside0.mk (HD0.out.sr.below (below_alloc (Below.refl W0.heap.size W0) (.cells #[.pointer (some ⟨gb, 0, none⟩), .pointer (some ⟨gb, 1, none⟩), .pointer (some ⟨gb, 2, none⟩)] 108 (0, 0))))
 have G1 := Aside0.mk (blk_below HD0.out.blk (below_alloc (Below.refl W0.heap.size W0) (.cells #[.pointer (some ⟨gb, 0, none⟩), .pointer (some ⟨gb, 1, none⟩), .pointer (some ⟨gb, 2, none⟩)] 108 (0, 0))))
 have G2 : Aside0 (q < gb ∧ gb ≠ W0.heap.size ∧ q < W0.heap.size) := ⟨by have := HD0.out.lo; have := blk_lt HD0.out.blk; omega⟩
 have G3 : Aside0 (∀ i, i < 3 → (#[.pointer (some ⟨gb, 0, none⟩), .pointer (some ⟨gb, 1, none⟩), .pointer (some ⟨gb, 2, none⟩)] : Array Value)[i]? = some (.pointer (some ⟨gb, 0 + i, none⟩))) := ⟨by intro i hi; (have hi_ : i = 0 ∨ i = 1 ∨ i = 2 := by omega); rcases hi_ with rfl | rfl | rfl <;> rfl⟩
 have G4 : Aside0 (0 + 3 ≤ (#[.int .i64 0, .int .i64 0, .int .i64 0, .slice none 0 0, .slice none 0 0, .slice none 0 0, .slice none 0 0, .slice none 0 0] : Array Value).size ∧ 3 ≤ 100) := ⟨by simp, by decide⟩
 go_upto_region 4 with (first | (go_at_call 52; (with_reducible refine (get_f (g := gb) (t := W0.heap.size) (n := 3) (o := 0) (ty := 67) (arr := #[.int .i64 0, .int .i64 0, .int .i64 0, .slice none 0 0, .slice none 0 0, .slice none 0 0, .slice none 0 0, .slice none 0 0]) (tarr := #[.pointer (some ⟨gb, 0, none⟩), .pointer (some ⟨gb, 1, none⟩), .pointer (some ⟨gb, 2, none⟩)]) ((l0, false), false) _ G0.out G2.out.1 G2.out.2.1 G2.out.2.2 G1.out (heap_alloc_new W0 _) G3.out G4.out.1 G4.out.2).mono ?_); rintro e w2 ⟨rfl, hg, hs, hc⟩; rw [HY.out, put3] at hg; rw [HT0.out] at hs; have HD := Aside0.mk (HD0.out.got (Ch.trans (Ch.of_below (S := fun k => k = p ∨ k = gb) (below_alloc (Below.refl _ _) _)) hc (fun _ _ h => h)) hs hg); clear hg hs hc HD0 G0 G1 G2 G3 G4))

 have hc0 : World.cell? w2 ⟨c, 0, none⟩ = some (.pointer (some ⟨q, 0, none⟩)) := (blk_cell HD.out.cap 0).trans rfl
 go_upto_region 5 with (first | (go_at_call 53; (with_reducible refine (list53 (t0, false) 8 w2 HD.out.sr HD.out.cap HD.out.lo.2.2.1 (by decide)).mono ?_); rintro e wx3 ⟨v, rfl, hv, hs, hc⟩; rw [HF.out] at hv hs; obtain ⟨Av3, cv3, ev⟩ := Kd.R_slice hv; subst ev; have HSZ := Aside0.mk (Nat.lt_of_lt_of_le (blk_lt HD.out.blk) (Nat.le_refl _)); have HSY := Aside0.mk (below_size HD.out.below); have n_ := Aside0.mk (HD.out.ch hc (fun _ h => h) hs); have hgz : World.cell? wx3 ⟨gb, 3, none⟩ = some (.slice none 0 0) := (blk_cell n_.out.blk 3).trans rfl; have hgf := blk_frozen n_.out.blk 3; have m_ := Aside0.mk (n_.out.set3 hv HSZ.out HSY.out); clear HD hv hs hc n_ HSZ HSY; have HD := m_; clear m_))
 clear hc0; clear hgz; clear hgf
 generalize World.setCell wx3 _ _ = W3 at HD ⊢

 have hc0 : World.cell? W3 ⟨c, 0, none⟩ = some (.pointer (some ⟨q, 0, none⟩)) := (blk_cell HD.out.cap 0).trans rfl
 go_upto_region 6 with (first | (go_at_call 55; (with_reducible refine (list55 yF.2 16 W3 HD.out.sr HD.out.cap HD.out.lo.2.2.1 (by decide)).mono ?_); rintro e wx4 ⟨v, rfl, hv, hs, hc⟩; rw [HA.out] at hv hs; obtain ⟨Av4, cv4, ev⟩ := Kd.R_slice hv; subst ev; have HSZ := Aside0.mk (Nat.lt_of_lt_of_le (blk_lt HD.out.blk) (Nat.le_refl _)); have HSY := Aside0.mk (below_size HD.out.below); have n_ := Aside0.mk (HD.out.ch hc (fun _ h => h) hs); have hgz : World.cell? wx4 ⟨gb, 4, none⟩ = some (.slice none 0 0) := (blk_cell n_.out.blk 4).trans rfl; have hgf := blk_frozen n_.out.blk 4; have m_ := Aside0.mk (n_.out.set4 hv HSZ.out HSY.out); clear HD hv hs hc n_ HSZ HSY; have HD := m_; clear m_))
 clear hc0; clear hgz; clear hgf
 generalize World.setCell wx4 _ _ = W4 at HD ⊢

 have hc0 : World.cell? W4 ⟨c, 0, none⟩ = some (.pointer (some ⟨q, 0, none⟩)) := (blk_cell HD.out.cap 0).trans rfl
 go_upto_region 7 with (first | (go_at_call 57; (with_reducible refine (list57 yA.2 16 W4 HD.out.sr HD.out.cap HD.out.lo.2.2.1 (by decide)).mono ?_); rintro e wx5 ⟨v, rfl, hv, hs, hc⟩; rw [HRR.out] at hv hs; obtain ⟨Av5, cv5, ev⟩ := Kd.R_slice hv; subst ev; have HSZ := Aside0.mk (Nat.lt_of_lt_of_le (blk_lt HD.out.blk) (Nat.le_refl _)); have HSY := Aside0.mk (below_size HD.out.below); have n_ := Aside0.mk (HD.out.ch hc (fun _ h => h) hs); have hgz : World.cell? wx5 ⟨gb, 5, none⟩ = some (.slice none 0 0) := (blk_cell n_.out.blk 5).trans rfl; have hgf := blk_frozen n_.out.blk 5; have m_ := Aside0.mk (n_.out.set5 hv HSZ.out HSY.out); clear HD hv hs hc n_ HSZ HSY; have HD := m_; clear m_))
 clear hc0; clear hgz; clear hgf
 generalize World.setCell wx5 _ _ = W5 at HD ⊢

 have hc0 : World.cell? W5 ⟨c, 0, none⟩ = some (.pointer (some ⟨q, 0, none⟩)) := (blk_cell HD.out.cap 0).trans rfl
 go_upto_region 8 with (first | (go_at_call 59; (with_reducible refine (list59 yR.2 16 W5 HD.out.sr (by decide)).mono ?_); rintro e wx6 ⟨v, rfl, hv, hs, hc⟩; rw [HJ.out] at hv hs; obtain ⟨Av6, cv6, ev⟩ := Kd.R_slice hv; subst ev; have HSZ := Aside0.mk (Nat.lt_of_lt_of_le (blk_lt HD.out.blk) (Nat.le_refl _)); have HSY := Aside0.mk (below_size HD.out.below); have n_ := Aside0.mk (HD.out.ch hc (fun _ h => h) hs); have hgz : World.cell? wx6 ⟨gb, 6, none⟩ = some (.slice none 0 0) := (blk_cell n_.out.blk 6).trans rfl; have hgf := blk_frozen n_.out.blk 6; have m_ := Aside0.mk (n_.out.set6 hv HSZ.out HSY.out); clear HD hv hs hc n_ HSZ HSY; have HD := m_; clear m_))
 clear hc0; clear hgz; clear hgf
 generalize World.setCell wx6 _ _ = W6 at HD ⊢

 have hc0 : World.cell? W6 ⟨c, 0, none⟩ = some (.pointer (some ⟨q, 0, none⟩)) := (blk_cell HD.out.cap 0).trans rfl
 go_upto_region 9 with (first | (go_at_call 61; (with_reducible refine (list61 yJ.2 8 W6 HD.out.sr HD.out.cap HD.out.lo.2.2.1 (by decide)).mono ?_); rintro e wx7 ⟨v, rfl, hv, hs, hc⟩; rw [HK.out] at hv hs; obtain ⟨Av7, cv7, ev⟩ := Kd.R_slice hv; subst ev; have HSZ := Aside0.mk (Nat.lt_of_lt_of_le (blk_lt HD.out.blk) (Nat.le_refl _)); have HSY := Aside0.mk (below_size HD.out.below); have n_ := Aside0.mk (HD.out.ch hc (fun _ h => h) hs); have hgz : World.cell? wx7 ⟨gb, 7, none⟩ = some (.slice none 0 0) := (blk_cell n_.out.blk 7).trans rfl; have hgf := blk_frozen n_.out.blk 7; have m_ := Aside0.mk (n_.out.set7 hv HSZ.out HSY.out); clear HD hv hs hc n_ HSZ HSY; have HD := m_; clear m_))
 clear hc0; clear hgz; clear hgf
 generalize World.setCell wx7 _ _ = W7 at HD ⊢

 have hc0 : World.cell? W7 ⟨c, 0, none⟩ = some (.pointer (some ⟨q, 0, none⟩)) := (blk_cell HD.out.cap 0).trans rfl
 have hq0 := HD.out.sr.q0
 obtain ⟨bk, hbk⟩ : ∃ b, yK.2.2 = b := ⟨_, rfl⟩
 have hq1 : World.cell? W7 ⟨q, 1, none⟩ = some (.bool bk) := by rw [← hbk]; exact HD.out.sr.q1
 cases bk with
 | true =>
  have HX : snapBad = (r1, r2, r3, r4, r5, r6, r7, r8, r9) := by have := HH.out; rw [if_neg (by rw [hbk]; simp)] at this; exact this
  simp only [snapBad, Prod.mk.injEq] at HX
  obtain ⟨rfl, rfl, rfl, rfl, rfl, rfl, rfl, rfl, rfl⟩ := HX
  clear HH
  have hz0 : World.cell? W7 ⟨w.heap.size, 0, none⟩ = some (.int .i64 0) := (blk_cell HD.out.res 0).trans rfl
  have hf0 := blk_frozen HD.out.res 0
  have hz1 : World.cell? W7 ⟨w.heap.size, 1, none⟩ = some (.int .i64 0) := (blk_cell HD.out.res 1).trans rfl
  have hf1 := blk_frozen HD.out.res 1
  have hz2 : World.cell? W7 ⟨w.heap.size, 2, none⟩ = some (.int .i64 0) := (blk_cell HD.out.res 2).trans rfl
  have hf2 := blk_frozen HD.out.res 2
  have hz3 : World.cell? W7 ⟨w.heap.size, 3, none⟩ = some (.slice none 0 0) := (blk_cell HD.out.res 3).trans rfl
  have hf3 := blk_frozen HD.out.res 3
  have hz4 : World.cell? W7 ⟨w.heap.size, 4, none⟩ = some (.slice none 0 0) := (blk_cell HD.out.res 4).trans rfl
  have hf4 := blk_frozen HD.out.res 4
  have hz5 : World.cell? W7 ⟨w.heap.size, 5, none⟩ = some (.slice none 0 0) := (blk_cell HD.out.res 5).trans rfl
  have hf5 := blk_frozen HD.out.res 5
  have hz6 : World.cell? W7 ⟨w.heap.size, 6, none⟩ = some (.slice none 0 0) := (blk_cell HD.out.res 6).trans rfl
  have hf6 := blk_frozen HD.out.res 6
  have hz7 : World.cell? W7 ⟨w.heap.size, 7, none⟩ = some (.slice none 0 0) := (blk_cell HD.out.res 7).trans rfl
  have hf7 := blk_frozen HD.out.res 7
  go_wp2_with fail
  refine bodyPost_ret (results_ct rfl _ _ w.heap.size 67 #[.int .i64 0, .int .i64 0, .int .i64 0, .slice none 0 0, .slice none 0 0, .slice none 0 0, .slice none 0 0, .slice none 0 0] (0, 0) _ rfl (put8 HD.out.res _ _ _ _ _ _ _ _) Try.underlying67 rfl (by kernel_rfl)) rfl ?_
  exact ⟨_, _, _, _, _, rfl, Kd.R_nil _ _ _ _ _, Kd.R_nil _ _ _ _ _, Kd.R_nil _ _ _ _ _, Kd.R_nil _ _ _ _ _, Kd.R_nil _ _ _ _ _, (puts8 _ _ _ _ _ _ _ _ _ _).below (Nat.le_refl _) HD.out.below⟩

 | false =>
  cases eb with
  | false =>
   have HX : snapBad = (r1, r2, r3, r4, r5, r6, r7, r8, r9) := by have := HH.out; rw [if_neg (by rw [hbk]; simp)] at this; exact this
   simp only [snapBad, Prod.mk.injEq] at HX
   obtain ⟨rfl, rfl, rfl, rfl, rfl, rfl, rfl, rfl, rfl⟩ := HX
   clear HH
   have hz0 : World.cell? W7 ⟨w.heap.size, 0, none⟩ = some (.int .i64 0) := (blk_cell HD.out.res 0).trans rfl
   have hf0 := blk_frozen HD.out.res 0
   have hz1 : World.cell? W7 ⟨w.heap.size, 1, none⟩ = some (.int .i64 0) := (blk_cell HD.out.res 1).trans rfl
   have hf1 := blk_frozen HD.out.res 1
   have hz2 : World.cell? W7 ⟨w.heap.size, 2, none⟩ = some (.int .i64 0) := (blk_cell HD.out.res 2).trans rfl
   have hf2 := blk_frozen HD.out.res 2
   have hz3 : World.cell? W7 ⟨w.heap.size, 3, none⟩ = some (.slice none 0 0) := (blk_cell HD.out.res 3).trans rfl
   have hf3 := blk_frozen HD.out.res 3
   have hz4 : World.cell? W7 ⟨w.heap.size, 4, none⟩ = some (.slice none 0 0) := (blk_cell HD.out.res 4).trans rfl
   have hf4 := blk_frozen HD.out.res 4
   have hz5 : World.cell? W7 ⟨w.heap.size, 5, none⟩ = some (.slice none 0 0) := (blk_cell HD.out.res 5).trans rfl
   have hf5 := blk_frozen HD.out.res 5
   have hz6 : World.cell? W7 ⟨w.heap.size, 6, none⟩ = some (.slice none 0 0) := (blk_cell HD.out.res 6).trans rfl
   have hf6 := blk_frozen HD.out.res 6
   have hz7 : World.cell? W7 ⟨w.heap.size, 7, none⟩ = some (.slice none 0 0) := (blk_cell HD.out.res 7).trans rfl
   have hf7 := blk_frozen HD.out.res 7
   go_wp2_with (first | (go_at_call 26; (with_reducible refine (end_s HEB.out _ HD.out.sr.rd).mono ?_); rintro e w9 ⟨rfl, rfl⟩))
   refine bodyPost_ret (results_ct rfl _ _ w.heap.size 67 #[.int .i64 0, .int .i64 0, .int .i64 0, .slice none 0 0, .slice none 0 0, .slice none 0 0, .slice none 0 0, .slice none 0 0] (0, 0) _ rfl (put8 HD.out.res _ _ _ _ _ _ _ _) Try.underlying67 rfl (by kernel_rfl)) rfl ?_
   exact ⟨_, _, _, _, _, rfl, Kd.R_nil _ _ _ _ _, Kd.R_nil _ _ _ _ _, Kd.R_nil _ _ _ _ _, Kd.R_nil _ _ _ _ _, Kd.R_nil _ _ _ _ _, (puts8 _ _ _ _ _ _ _ _ _ _).below (Nat.le_refl _) HD.out.below⟩

  | true =>
   have HX : ((a0, a1, a2, yF.1, yA.1, yR.1, yJ.1, yK.1, 0) : SnapT) = (r1, r2, r3, r4, r5, r6, r7, r8, r9) := by have := HH.out; rw [if_pos ⟨hbk, rfl⟩] at this; exact this
   simp only [Prod.mk.injEq] at HX
   obtain ⟨rfl, rfl, rfl, rfl, rfl, rfl, rfl, rfl, rfl⟩ := HX
   clear HH
   have hz0 : World.cell? W7 ⟨w.heap.size, 0, none⟩ = some (.int .i64 0) := (blk_cell HD.out.res 0).trans rfl
   have hf0 := blk_frozen HD.out.res 0
   have hz1 : World.cell? W7 ⟨w.heap.size, 1, none⟩ = some (.int .i64 0) := (blk_cell HD.out.res 1).trans rfl
   have hf1 := blk_frozen HD.out.res 1
   have hz2 : World.cell? W7 ⟨w.heap.size, 2, none⟩ = some (.int .i64 0) := (blk_cell HD.out.res 2).trans rfl
   have hf2 := blk_frozen HD.out.res 2
   have hz3 : World.cell? W7 ⟨w.heap.size, 3, none⟩ = some (.slice none 0 0) := (blk_cell HD.out.res 3).trans rfl
   have hf3 := blk_frozen HD.out.res 3
   have hz4 : World.cell? W7 ⟨w.heap.size, 4, none⟩ = some (.slice none 0 0) := (blk_cell HD.out.res 4).trans rfl
   have hf4 := blk_frozen HD.out.res 4
   have hz5 : World.cell? W7 ⟨w.heap.size, 5, none⟩ = some (.slice none 0 0) := (blk_cell HD.out.res 5).trans rfl
   have hf5 := blk_frozen HD.out.res 5
   have hz6 : World.cell? W7 ⟨w.heap.size, 6, none⟩ = some (.slice none 0 0) := (blk_cell HD.out.res 6).trans rfl
   have hf6 := blk_frozen HD.out.res 6
   have hz7 : World.cell? W7 ⟨w.heap.size, 7, none⟩ = some (.slice none 0 0) := (blk_cell HD.out.res 7).trans rfl
   have hf7 := blk_frozen HD.out.res 7
   have hy0 : World.cell? W7 ⟨gb, 0, none⟩ = some (.int .i64 a0) := (blk_cell HD.out.blk 0).trans rfl
   have hv0 := blk_frozen HD.out.blk 0
   have hy1 : World.cell? W7 ⟨gb, 1, none⟩ = some (.int .i64 a1) := (blk_cell HD.out.blk 1).trans rfl
   have hv1 := blk_frozen HD.out.blk 1
   have hy2 : World.cell? W7 ⟨gb, 2, none⟩ = some (.int .i64 a2) := (blk_cell HD.out.blk 2).trans rfl
   have hv2 := blk_frozen HD.out.blk 2
   have hy3 : World.cell? W7 ⟨gb, 3, none⟩ = some (.slice Av3 yF.1.length cv3) := (blk_cell HD.out.blk 3).trans rfl
   have hv3 := blk_frozen HD.out.blk 3
   have hy4 : World.cell? W7 ⟨gb, 4, none⟩ = some (.slice Av4 yA.1.length cv4) := (blk_cell HD.out.blk 4).trans rfl
   have hv4 := blk_frozen HD.out.blk 4
   have hy5 : World.cell? W7 ⟨gb, 5, none⟩ = some (.slice Av5 yR.1.length cv5) := (blk_cell HD.out.blk 5).trans rfl
   have hv5 := blk_frozen HD.out.blk 5
   have hy6 : World.cell? W7 ⟨gb, 6, none⟩ = some (.slice Av6 yJ.1.length cv6) := (blk_cell HD.out.blk 6).trans rfl
   have hv6 := blk_frozen HD.out.blk 6
   have hy7 : World.cell? W7 ⟨gb, 7, none⟩ = some (.slice Av7 yK.1.length cv7) := (blk_cell HD.out.blk 7).trans rfl
   have hv7 := blk_frozen HD.out.blk 7
   go_wp2_with (first | (go_at_call 26; (with_reducible refine (end_s HEB.out _ HD.out.sr.rd).mono ?_); rintro e w9 ⟨rfl, rfl⟩))
   have hput := put8 HD.out.res (.int .i64 a0) (.int .i64 a1) (.int .i64 a2) (.slice Av3 yF.1.length cv3) (.slice Av4 yA.1.length cv4) (.slice Av5 yR.1.length cv5) (.slice Av6 yJ.1.length cv6) (.slice Av7 yK.1.length cv7)
   have hpu := puts8 w9 w.heap.size (.int .i64 a0) (.int .i64 a1) (.int .i64 a2) (.slice Av3 yF.1.length cv3) (.slice Av4 yA.1.length cv4) (.slice Av5 yR.1.length cv5) (.slice Av6 yJ.1.length cv6) (.slice Av7 yK.1.length cv7)
   generalize ((((((((w9.setCell ⟨w.heap.size, 0, none⟩ (.int .i64 a0)).setCell ⟨w.heap.size, 1, none⟩ (.int .i64 a1)).setCell ⟨w.heap.size, 2, none⟩ (.int .i64 a2)).setCell ⟨w.heap.size, 3, none⟩ (.slice Av3 yF.1.length cv3)).setCell ⟨w.heap.size, 4, none⟩ (.slice Av4 yA.1.length cv4)).setCell ⟨w.heap.size, 5, none⟩ (.slice Av5 yR.1.length cv5)).setCell ⟨w.heap.size, 6, none⟩ (.slice Av6 yJ.1.length cv6)).setCell ⟨w.heap.size, 7, none⟩ (.slice Av7 yK.1.length cv7)) = wz at hput hpu ⊢
   refine bodyPost_ret (results_ct rfl _ wz w.heap.size 67 #[.int .i64 a0, .int .i64 a1, .int .i64 a2, .slice Av3 yF.1.length cv3, .slice Av4 yA.1.length cv4, .slice Av5 yR.1.length cv5, .slice Av6 yJ.1.length cv6, .slice Av7 yK.1.length cv7] (0, 0) _ rfl hput Try.underlying67 rfl (by kernel_rfl)) rfl ?_
   have hlo := HD.out.lo
   have hl2 := HD.out.sr.lo
   have hk := (hpu 0 (Nat.zero_le _)).2.2
   exact ⟨_, _, _, _, _, rfl, Kd.R_mono (Kd.R_step HD.out.o3 (fun k ho _ => hk k (by omega))) (fun _ _ => trivial), Kd.R_mono (Kd.R_step HD.out.o4 (fun k ho _ => hk k (by omega))) (fun _ _ => trivial), Kd.R_mono (Kd.R_step HD.out.o5 (fun k ho _ => hk k (by omega))) (fun _ _ => trivial), Kd.R_mono (Kd.R_step HD.out.o6 (fun k ho _ => hk k (by omega))) (fun _ _ => trivial), Kd.R_mono (Kd.R_step HD.out.o7 (fun k ho _ => hk k (by omega))) (fun _ _ => trivial), hpu.below (Nat.le_refl _) HD.out.below⟩

def snap_Decode.f (l0 : List Int) : Option (Int × Int × Int × List (S93) × List (S95) × List (S97) × List (S100) × List (ByteArray) × Int) := if l0.length < 140737488355328 ∧ ∀ x ∈ l0, 0 ≤ x ∧ x ≤ 255 then some (snapF l0) else none
theorem snap_Decode.calls (A0 : Option Addr) (c0 : Nat) (l0 : List Int) (r1 : Int) (r2 : Int) (r3 : Int) (r4 : List (S93)) (r5 : List (S95)) (r6 : List (S97)) (r7 : List (S100)) (r8 : List (ByteArray)) (r9 : Int) (w : World) (hr0 : Kd.C (Kd.int .u8) w A0 l0.length l0) (hc0 : l0.length ≤ c0) (h : snap_Decode.f l0 = some (r1, r2, r3, r4, r5, r6, r7, r8, r9)) :
  Calls Try.prog 36 #[.slice A0 l0.length c0] w fun e w' => ∃ v3_ v4_ v5_ v6_ v7_ : Value, e = .returned (.tuple #[.agg #[.int .i64 r1, .int .i64 r2, .int .i64 r3, v3_, v4_, v5_, v6_, v7_], .int .i64 r9]) ∧ Kd.R k93 93 w' w.heap.size (fun _ => True) v3_ r4 ∧ Kd.R k95 95 w' w.heap.size (fun _ => True) v4_ r5 ∧ Kd.R k97 97 w' w.heap.size (fun _ => True) v5_ r6 ∧ Kd.V k100 100 w' w.heap.size (fun k_ => (w.heap.size ≤ k_) ∧ some k_ ≠ v3_.ownBlock ∧ some k_ ≠ v4_.ownBlock ∧ some k_ ≠ v5_.ownBlock ∧ some k_ ≠ v7_.ownBlock) v6_ r7 ∧ Kd.R Kd.string 9 w' w.heap.size (fun _ => True) v7_ r8 ∧ Below w.heap.size w w' := by
 unfold snap_Decode.f at h
 have hc : l0.length < 140737488355328 ∧ ∀ x ∈ l0, 0 ≤ x ∧ x ≤ 255 := Decidable.byContradiction fun c => by rw [if_neg c] at h; simp at h
 rw [if_pos hc] at h
 refine (snap_Decode.at_ A0 c0 l0 w hr0 hc0 hc.2 hc.1 r1 r2 r3 r4 r5 r6 r7 r8 r9 (Option.some.inj h)).mono (fun e w' hx => ?_)
 obtain ⟨v3_, v4_, v5_, v6_, v7_, he, h3, h4, h5, h6, h7, hb⟩ := hx
 exact ⟨v3_, v4_, v5_, v6_, v7_, he, h3, h4, h5, Kd.R_V (Kd.R_mono (Kd.R_bound h6) (fun k hk => by
  obtain ⟨_, hb_, _, q, hq, cells, hc_⟩ := hk
  have hq2 : q = 100 ∨ q = 102 := by
   have hq3 : q ∈ [100, 102] := hq
   simpa using hq3
  exact ⟨hb_, Kd.R_ne h3 hc_ (by omega), Kd.R_ne h4 hc_ (by omega), Kd.R_ne h5 hc_ (by omega), Kd.R_ne h7 hc_ (by omega)⟩)), h7, hb⟩
end Go.Proofs.Ytjmkpcnekghmhaa.PAll
end
section
namespace Go.Proofs.Ytjmkpcnekghmhaa.PAll
open Go.RowKit Go.Proofs.YtjmkpcnekghmhaaW.PrintWords Go.Proofs.YtjmkpcnekghmhaaW.PrintLast Go.Proofs.YtjmkpcnekghmhaaW.PrintMore
attribute [local go_sem] max2_int min2_int max_two min_two max_three min_three max_four min_four   -- for this text's walks alone
set_option linter.unusedVariables false
set_option linter.unusedSimpArgs false

theorem eqA93 (d : Nat) (w : World) (x0 y0 : ByteArray) (x1 y1 : Int) (x2 y2 : Int) :
    (Op.equalIn (d + 2) 93 (.agg #[.string x0, .int .i64 x1, .int .i64 x2]) (.agg #[.string y0, .int .i64 y1, .int .i64 y2])).run Try.prog w = .ok (x0.toList == y0.toList && (x1 == y1 && (x2 == y2))) w := by
  refine eqA_of Try.underlying93 (by kernel_rfl) ?_
  refine eqf_cons (by rfl) (by go_simp; rfl) (by go_simp; rfl) (by go_simp) ?_
  refine eqf_cons (by rfl) (by go_simp; rfl) (by go_simp; rfl) (by go_simp) ?_
  exact eqf_last (by rfl) (by go_simp; rfl) (by go_simp; rfl) (by go_simp)
end Go.Proofs.Ytjmkpcnekghmhaa.PAll
end
section
namespace Go.Proofs.Ytjmkpcnekghmhaa.PAll
open Go.RowKit Go.Proofs.YtjmkpcnekghmhaaW.PrintWords Go.Proofs.YtjmkpcnekghmhaaW.PrintLast Go.Proofs.YtjmkpcnekghmhaaW.PrintMore
attribute [local go_sem] max2_int min2_int max_two min_two max_three min_three max_four min_four   -- for this text's walks alone
set_option linter.unusedVariables false
set_option linter.unusedSimpArgs false

theorem eqA95 (d : Nat) (w : World) (x0 y0 : Int) (x1 y1 : Int) (x2 y2 : Int) (x3 y3 : Int) (x4 y4 : Int) (x5 y5 : Int) :
    (Op.equalIn (d + 2) 95 (.agg #[.int .i64 x0, .int .i64 x1, .int .i64 x2, .int .i64 x3, .int .i64 x4, .int .i64 x5]) (.agg #[.int .i64 y0, .int .i64 y1, .int .i64 y2, .int .i64 y3, .int .i64 y4, .int .i64 y5])).run Try.prog w = .ok (x0 == y0 && (x1 == y1 && (x2 == y2 && (x3 == y3 && (x4 == y4 && (x5 == y5)))))) w := by
  refine eqA_of Try.underlying95 (by kernel_rfl) ?_
  refine eqf_cons (by rfl) (by go_simp; rfl) (by go_simp; rfl) (by go_simp) ?_
  refine eqf_cons (by rfl) (by go_simp; rfl) (by go_simp; rfl) (by go_simp) ?_
  refine eqf_cons (by rfl) (by go_simp; rfl) (by go_simp; rfl) (by go_simp) ?_
  refine eqf_cons (by rfl) (by go_simp; rfl) (by go_simp; rfl) (by go_simp) ?_
  refine eqf_cons (by rfl) (by go_simp; rfl) (by go_simp; rfl) (by go_simp) ?_
  exact eqf_last (by rfl) (by go_simp; rfl) (by go_simp; rfl) (by go_simp)
end Go.Proofs.Ytjmkpcnekghmhaa.PAll
end
section
namespace Go.Proofs.Ytjmkpcnekghmhaa.PAll
open Go.RowKit Go.Proofs.YtjmkpcnekghmhaaW.PrintWords Go.Proofs.YtjmkpcnekghmhaaW.PrintLast Go.Proofs.YtjmkpcnekghmhaaW.PrintMore
attribute [local go_sem] max2_int min2_int max_two min_two max_three min_three max_four min_four   -- for this text's walks alone
set_option linter.unusedVariables false
set_option linter.unusedSimpArgs false

theorem eqA97 (d : Nat) (w : World) (x0 y0 : Int) (x1 y1 : Int) (x2 y2 : Int) :
    (Op.equalIn (d + 2) 97 (.agg #[.int .i64 x0, .int .i64 x1, .int .i64 x2]) (.agg #[.int .i64 y0, .int .i64 y1, .int .i64 y2])).run Try.prog w = .ok (x0 == y0 && (x1 == y1 && (x2 == y2))) w := by
  refine eqA_of Try.underlying97 (by kernel_rfl) ?_
  refine eqf_cons (by rfl) (by go_simp; rfl) (by go_simp; rfl) (by go_simp) ?_
  refine eqf_cons (by rfl) (by go_simp; rfl) (by go_simp; rfl) (by go_simp) ?_
  exact eqf_last (by rfl) (by go_simp; rfl) (by go_simp; rfl) (by go_simp)
end Go.Proofs.Ytjmkpcnekghmhaa.PAll
end
section
namespace Go.Proofs.Ytjmkpcnekghmhaa.PAll
open Go.RowKit Go.Proofs.YtjmkpcnekghmhaaW.PrintWords Go.Proofs.YtjmkpcnekghmhaaW.PrintLast Go.Proofs.YtjmkpcnekghmhaaW.PrintMore
attribute [local go_sem] max2_int min2_int max_two min_two max_three min_three max_four min_four   -- for this text's walks alone
set_option linter.unusedVariables false
set_option linter.unusedSimpArgs false

theorem eqA102 (d : Nat) (w : World) (x0 y0 : Int) (x1 y1 : Int) :
    (Op.equalIn (d + 2) 102 (.agg #[.int .i64 x0, .int .i64 x1]) (.agg #[.int .i64 y0, .int .i64 y1])).run Try.prog w = .ok (x0 == y0 && (x1 == y1)) w := by
  refine eqA_of Try.underlying102 (by kernel_rfl) ?_
  refine eqf_cons (by rfl) (by go_simp; rfl) (by go_simp; rfl) (by go_simp) ?_
  exact eqf_last (by rfl) (by go_simp; rfl) (by go_simp; rfl) (by go_simp)
end Go.Proofs.Ytjmkpcnekghmhaa.PAll
end
