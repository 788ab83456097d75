/- Words, plain functions and contracts of the functions that the law of this claim reaches; no conditions. -/
import Derived.Test.YtjmkpcnekghmhaaBSnapEncodes0
import Derived.Test.YtjmkpcnekghmhaaProg
import Derived.Lib.SliceRun
import Derived.Lib.AppendZerosOnto
import Derived.Deep.DeepAppendWide
import Derived.ScopeJumps
import Derived.WalkMore
section
namespace Go.Proofs.Ytjmkpcnekghmhaa.PAll
open Go.RowKit Go.Proofs.YtjmkpcnekghmhaaW.PrintWords Go.Proofs.YtjmkpcnekghmhaaW.PrintLast Go.Proofs.YtjmkpcnekghmhaaW.PrintMore
attribute [local go_sem] max2_int min2_int max_two min_two max_three min_three max_four min_four   -- for this text's walks alone
set_option linter.unusedVariables false
set_option linter.unusedSimpArgs false



def errW : Option Int → Value
  | none => .nilIface
  | some c => .iface 0 (.int .i64 c)
theorem errW_none : errW none = .nilIface := rfl
theorem errW_some (c : Int) : errW (some c) = .iface 0 (.int .i64 c) := rfl

theorem info5 : (Try.prog.info? 5).map (fun i => (i.zero, i.size, i.bytes)) = some (some (.int .u8 0), 1, 1) := by kernel_rfl
def rd_L1 (xs : List (List Int)) (i : Int) : (List Int) := xs.getD i.toNat ([] : List Int)
structure S34 where
  f0 : Bool
  f1 : Int
def z34 : S34 := ⟨false, (0 : Int)⟩
def k34 : Kd S34 := Kd.iso (Kd.pair Kd.bool (Kd.int .i64)) (fun x : S34 => (x.f0, x.f1))
def rd_T34 (xs : List S34) (i : Int) : S34 := xs.getD i.toNat z34
def rd_L6 (xs : List (List S34)) (i : Int) : (List S34) := xs.getD i.toNat ([] : List S34)
def rd_L7 (xs : List (List Int)) (i : Int) : (List Int) := xs.getD i.toNat ([] : List Int)
def rd_L8 (xs : List (List ByteArray)) (i : Int) : (List ByteArray) := xs.getD i.toNat ([] : List ByteArray)
structure S87 where
  f0 : Int
  f1 : Int
def z87 : S87 := ⟨(0 : Int), (0 : Int)⟩
def k87 : Kd S87 := Kd.iso (Kd.pair (Kd.int .i64) (Kd.int .i64)) (fun x : S87 => (x.f0, x.f1))
def rd_T87 (xs : List S87) (i : Int) : S87 := xs.getD i.toNat z87
def rd_L11 (xs : List (List S87)) (i : Int) : (List S87) := xs.getD i.toNat ([] : List S87)
structure S50 where
  f0 : Int
  f1 : Int
  f2 : Int
  f3 : ByteArray
  f4 : ByteArray
  f5 : (List Int)
  f6 : (List S87)
def z50 : S50 := ⟨(0 : Int), (0 : Int), (0 : Int), (⟨#[]⟩ : ByteArray), (⟨#[]⟩ : ByteArray), ([] : List Int), ([] : List S87)⟩
def k50 : Kd S50 := Kd.iso (Kd.pair (Kd.int .i64) (Kd.pair (Kd.int .i64) (Kd.pair (Kd.int .i64) (Kd.pair Kd.string (Kd.pair Kd.string (Kd.pair (Kd.slice 3 (Kd.int .i64)) (Kd.slice 87 k87))))))) (fun x : S50 => (x.f0, x.f1, x.f2, x.f3, x.f4, x.f5, x.f6))
def rd_T50 (xs : List S50) (i : Int) : S50 := xs.getD i.toNat z50
structure S102 where
  f0 : Int
  f1 : Int
def z102 : S102 := ⟨(0 : Int), (0 : Int)⟩
def k102 : Kd S102 := Kd.iso (Kd.pair (Kd.int .i64) (Kd.int .i64)) (fun x : S102 => (x.f0, x.f1))
theorem k102_open {w : World} {x : S102} {cs : List Value} (h : k102.K w x cs) : cs = [.int .i64 x.f0, .int .i64 x.f1] := by
  obtain ⟨_, _, rfl, rfl, rfl⟩ := h
  exact rfl
theorem k102_mkM (w : World) (base : Nat) (ok : Nat → Prop) (x : S102)  : k102.M w base ok x [.int .i64 x.f0, .int .i64 x.f1] := ⟨[.int .i64 x.f0], [.int .i64 x.f1], rfl, rfl, rfl⟩
def rd_T102 (xs : List S102) (i : Int) : S102 := xs.getD i.toNat z102
theorem at_T102 {w : World} {A : Option Addr} {n : Nat} {xs : List S102} (h : Kd.C k102 w A n xs) (i : Int) (h0 : 0 ≤ i) (h1 : i < n) : ∃ ad , A = some ad ∧ w.cell? (ad.add (i.toNat * 2)) = some (.int .i64 (rd_T102 xs i).f0) ∧ w.cell? ⟨(ad.add (i.toNat * 2)).block, (ad.add (i.toNat * 2)).off + 1, none⟩ = some (.int .i64 (rd_T102 xs i).f1) := by
  obtain ⟨ad, c, e, _, hK, hc0⟩ := Kd.C_get h z102 i h0 h1
  have hc : ∀ j u, c[j]? = some u → w.cell? (ad.add (i.toNat * 2 + j)) = some u := hc0
  obtain rfl := k102_open hK
  exact ⟨ad, e, hc 0 _ rfl, by rw [← add_field _ _ 1 (by omega)]; exact hc 1 _ rfl⟩

structure S93 where
  f0 : ByteArray
  f1 : Int
  f2 : Int
def z93 : S93 := ⟨(⟨#[]⟩ : ByteArray), (0 : Int), (0 : Int)⟩
def k93 : Kd S93 := Kd.iso (Kd.pair Kd.string (Kd.pair (Kd.int .i64) (Kd.int .i64))) (fun x : S93 => (x.f0, x.f1, x.f2))
theorem k93_open {w : World} {x : S93} {cs : List Value} (h : k93.K w x cs) : cs = [.string x.f0, .int .i64 x.f1, .int .i64 x.f2] := by
  obtain ⟨_, _, rfl, rfl, ⟨_, _, rfl, rfl, rfl⟩⟩ := h
  exact rfl
theorem k93_mkM (w : World) (base : Nat) (ok : Nat → Prop) (x : S93)  : k93.M w base ok x [.string x.f0, .int .i64 x.f1, .int .i64 x.f2] := ⟨[.string x.f0], [.int .i64 x.f1, .int .i64 x.f2], rfl, rfl, ⟨[.int .i64 x.f1], [.int .i64 x.f2], rfl, rfl, rfl⟩⟩
def rd_T93 (xs : List S93) (i : Int) : S93 := xs.getD i.toNat z93
theorem at_T93 {w : World} {A : Option Addr} {n : Nat} {xs : List S93} (h : Kd.C k93 w A n xs) (i : Int) (h0 : 0 ≤ i) (h1 : i < n) : ∃ ad , A = some ad ∧ w.cell? (ad.add (i.toNat * 3)) = some (.string (rd_T93 xs i).f0) ∧ w.cell? ⟨(ad.add (i.toNat * 3)).block, (ad.add (i.toNat * 3)).off + 1, none⟩ = some (.int .i64 (rd_T93 xs i).f1) ∧ w.cell? ⟨(ad.add (i.toNat * 3)).block, (ad.add (i.toNat * 3)).off + 2, none⟩ = some (.int .i64 (rd_T93 xs i).f2) := by
  obtain ⟨ad, c, e, _, hK, hc0⟩ := Kd.C_get h z93 i h0 h1
  have hc : ∀ j u, c[j]? = some u → w.cell? (ad.add (i.toNat * 3 + j)) = some u := hc0
  obtain rfl := k93_open hK
  exact ⟨ad, e, hc 0 _ rfl, by rw [← add_field _ _ 1 (by omega)]; exact hc 1 _ rfl, by rw [← add_field _ _ 2 (by omega)]; exact hc 2 _ rfl⟩

def rd_L15 (xs : List (List S102)) (i : Int) : (List S102) := xs.getD i.toNat ([] : List S102)
structure S100 where
  f0 : Int
  f1 : Int
  f2 : Int
  f3 : Int
  f4 : Int
  f5 : Int
  f6 : Int
  f7 : Int
  f8 : Int
  f9 : Int
  f10 : Int
  f11 : (List S102)
def z100 : S100 := ⟨(0 : Int), (0 : Int), (0 : Int), (0 : Int), (0 : Int), (0 : Int), (0 : Int), (0 : Int), (0 : Int), (0 : Int), (0 : Int), ([] : List S102)⟩
def k100 : Kd S100 := Kd.iso (Kd.pair (Kd.int .i64) (Kd.pair (Kd.int .i64) (Kd.pair (Kd.int .i64) (Kd.pair (Kd.int .i64) (Kd.pair (Kd.int .i64) (Kd.pair (Kd.int .i64) (Kd.pair (Kd.int .i64) (Kd.pair (Kd.int .i64) (Kd.pair (Kd.int .i64) (Kd.pair (Kd.int .i64) (Kd.pair (Kd.int .i64) (Kd.slice 102 k102)))))))))))) (fun x : S100 => (x.f0, x.f1, x.f2, x.f3, x.f4, x.f5, x.f6, x.f7, x.f8, x.f9, x.f10, x.f11))
theorem k100_open {w : World} {x : S100} {cs : List Value} (h : k100.K w x cs) : ∃ A11 c11, cs = [.int .i64 x.f0, .int .i64 x.f1, .int .i64 x.f2, .int .i64 x.f3, .int .i64 x.f4, .int .i64 x.f5, .int .i64 x.f6, .int .i64 x.f7, .int .i64 x.f8, .int .i64 x.f9, .int .i64 x.f10, .slice A11 x.f11.length c11] ∧ x.f11.length ≤ c11 ∧ k102.C w A11 x.f11.length x.f11 := by
  obtain ⟨_, _, rfl, rfl, ⟨_, _, rfl, rfl, ⟨_, _, rfl, rfl, ⟨_, _, rfl, rfl, ⟨_, _, rfl, rfl, ⟨_, _, rfl, rfl, ⟨_, _, rfl, rfl, ⟨_, _, rfl, rfl, ⟨_, _, rfl, rfl, ⟨_, _, rfl, rfl, ⟨_, _, rfl, rfl, ⟨A11, c11, rfl, l11, g11⟩⟩⟩⟩⟩⟩⟩⟩⟩⟩⟩⟩ := h
  exact ⟨A11, c11, rfl, l11, g11⟩
theorem k100_mk (w : World) (x : S100) {A11 : Option Addr} {c11 : Nat} (l11 : x.f11.length ≤ c11) (g11 : k102.C w A11 x.f11.length x.f11) : k100.K w x [.int .i64 x.f0, .int .i64 x.f1, .int .i64 x.f2, .int .i64 x.f3, .int .i64 x.f4, .int .i64 x.f5, .int .i64 x.f6, .int .i64 x.f7, .int .i64 x.f8, .int .i64 x.f9, .int .i64 x.f10, .slice A11 x.f11.length c11] := ⟨[.int .i64 x.f0], [.int .i64 x.f1, .int .i64 x.f2, .int .i64 x.f3, .int .i64 x.f4, .int .i64 x.f5, .int .i64 x.f6, .int .i64 x.f7, .int .i64 x.f8, .int .i64 x.f9, .int .i64 x.f10, .slice A11 x.f11.length c11], rfl, rfl, ⟨[.int .i64 x.f1], [.int .i64 x.f2, .int .i64 x.f3, .int .i64 x.f4, .int .i64 x.f5, .int .i64 x.f6, .int .i64 x.f7, .int .i64 x.f8, .int .i64 x.f9, .int .i64 x.f10, .slice A11 x.f11.length c11], rfl, rfl, ⟨[.int .i64 x.f2], [.int .i64 x.f3, .int .i64 x.f4, .int .i64 x.f5, .int .i64 x.f6, .int .i64 x.f7, .int .i64 x.f8, .int .i64 x.f9, .int .i64 x.f10, .slice A11 x.f11.length c11], rfl, rfl, ⟨[.int .i64 x.f3], [.int .i64 x.f4, .int .i64 x.f5, .int .i64 x.f6, .int .i64 x.f7, .int .i64 x.f8, .int .i64 x.f9, .int .i64 x.f10, .slice A11 x.f11.length c11], rfl, rfl, ⟨[.int .i64 x.f4], [.int .i64 x.f5, .int .i64 x.f6, .int .i64 x.f7, .int .i64 x.f8, .int .i64 x.f9, .int .i64 x.f10, .slice A11 x.f11.length c11], rfl, rfl, ⟨[.int .i64 x.f5], [.int .i64 x.f6, .int .i64 x.f7, .int .i64 x.f8, .int .i64 x.f9, .int .i64 x.f10, .slice A11 x.f11.length c11], rfl, rfl, ⟨[.int .i64 x.f6], [.int .i64 x.f7, .int .i64 x.f8, .int .i64 x.f9, .int .i64 x.f10, .slice A11 x.f11.length c11], rfl, rfl, ⟨[.int .i64 x.f7], [.int .i64 x.f8, .int .i64 x.f9, .int .i64 x.f10, .slice A11 x.f11.length c11], rfl, rfl, ⟨[.int .i64 x.f8], [.int .i64 x.f9, .int .i64 x.f10, .slice A11 x.f11.length c11], rfl, rfl, ⟨[.int .i64 x.f9], [.int .i64 x.f10, .slice A11 x.f11.length c11], rfl, rfl, ⟨[.int .i64 x.f10], [.slice A11 x.f11.length c11], rfl, rfl, ⟨A11, c11, rfl, l11, g11⟩⟩⟩⟩⟩⟩⟩⟩⟩⟩⟩⟩
theorem k100_mkM (w : World) (base : Nat) (ok : Nat → Prop) (x : S100) {v11 : Value} (g11 : k102.R 102 w base ok v11 x.f11) : k100.M w base ok x [.int .i64 x.f0, .int .i64 x.f1, .int .i64 x.f2, .int .i64 x.f3, .int .i64 x.f4, .int .i64 x.f5, .int .i64 x.f6, .int .i64 x.f7, .int .i64 x.f8, .int .i64 x.f9, .int .i64 x.f10, v11] := ⟨[.int .i64 x.f0], [.int .i64 x.f1, .int .i64 x.f2, .int .i64 x.f3, .int .i64 x.f4, .int .i64 x.f5, .int .i64 x.f6, .int .i64 x.f7, .int .i64 x.f8, .int .i64 x.f9, .int .i64 x.f10, v11], rfl, rfl, ⟨[.int .i64 x.f1], [.int .i64 x.f2, .int .i64 x.f3, .int .i64 x.f4, .int .i64 x.f5, .int .i64 x.f6, .int .i64 x.f7, .int .i64 x.f8, .int .i64 x.f9, .int .i64 x.f10, v11], rfl, rfl, ⟨[.int .i64 x.f2], [.int .i64 x.f3, .int .i64 x.f4, .int .i64 x.f5, .int .i64 x.f6, .int .i64 x.f7, .int .i64 x.f8, .int .i64 x.f9, .int .i64 x.f10, v11], rfl, rfl, ⟨[.int .i64 x.f3], [.int .i64 x.f4, .int .i64 x.f5, .int .i64 x.f6, .int .i64 x.f7, .int .i64 x.f8, .int .i64 x.f9, .int .i64 x.f10, v11], rfl, rfl, ⟨[.int .i64 x.f4], [.int .i64 x.f5, .int .i64 x.f6, .int .i64 x.f7, .int .i64 x.f8, .int .i64 x.f9, .int .i64 x.f10, v11], rfl, rfl, ⟨[.int .i64 x.f5], [.int .i64 x.f6, .int .i64 x.f7, .int .i64 x.f8, .int .i64 x.f9, .int .i64 x.f10, v11], rfl, rfl, ⟨[.int .i64 x.f6], [.int .i64 x.f7, .int .i64 x.f8, .int .i64 x.f9, .int .i64 x.f10, v11], rfl, rfl, ⟨[.int .i64 x.f7], [.int .i64 x.f8, .int .i64 x.f9, .int .i64 x.f10, v11], rfl, rfl, ⟨[.int .i64 x.f8], [.int .i64 x.f9, .int .i64 x.f10, v11], rfl, rfl, ⟨[.int .i64 x.f9], [.int .i64 x.f10, v11], rfl, rfl, ⟨[.int .i64 x.f10], [v11], rfl, rfl, ⟨v11, rfl, g11⟩⟩⟩⟩⟩⟩⟩⟩⟩⟩⟩⟩
theorem k100_mkF (W : World) (ok : Nat → Prop) (x : S100) {A11 : Option Addr} {c11 : Nat} (l11 : x.f11.length ≤ c11) (g11 : Kd.F k102 W ok A11 x.f11.length x.f11) : Kd.FK k100 W ok x [.int .i64 x.f0, .int .i64 x.f1, .int .i64 x.f2, .int .i64 x.f3, .int .i64 x.f4, .int .i64 x.f5, .int .i64 x.f6, .int .i64 x.f7, .int .i64 x.f8, .int .i64 x.f9, .int .i64 x.f10, .slice A11 x.f11.length c11] := fun W2 hW => k100_mk W2 x l11 (g11 W2 hW)
def rd_T100 (xs : List S100) (i : Int) : S100 := xs.getD i.toNat z100
theorem at_T100 {w : World} {A : Option Addr} {n : Nat} {xs : List S100} (h : Kd.C k100 w A n xs) (i : Int) (h0 : 0 ≤ i) (h1 : i < n) : ∃ ad A11 c11, A = some ad ∧ w.cell? (ad.add (i.toNat * 12)) = some (.int .i64 (rd_T100 xs i).f0) ∧ w.cell? ⟨(ad.add (i.toNat * 12)).block, (ad.add (i.toNat * 12)).off + 1, none⟩ = some (.int .i64 (rd_T100 xs i).f1) ∧ w.cell? ⟨(ad.add (i.toNat * 12)).block, (ad.add (i.toNat * 12)).off + 2, none⟩ = some (.int .i64 (rd_T100 xs i).f2) ∧ w.cell? ⟨(ad.add (i.toNat * 12)).block, (ad.add (i.toNat * 12)).off + 3, none⟩ = some (.int .i64 (rd_T100 xs i).f3) ∧ w.cell? ⟨(ad.add (i.toNat * 12)).block, (ad.add (i.toNat * 12)).off + 4, none⟩ = some (.int .i64 (rd_T100 xs i).f4) ∧ w.cell? ⟨(ad.add (i.toNat * 12)).block, (ad.add (i.toNat * 12)).off + 5, none⟩ = some (.int .i64 (rd_T100 xs i).f5) ∧ w.cell? ⟨(ad.add (i.toNat * 12)).block, (ad.add (i.toNat * 12)).off + 6, none⟩ = some (.int .i64 (rd_T100 xs i).f6) ∧ w.cell? ⟨(ad.add (i.toNat * 12)).block, (ad.add (i.toNat * 12)).off + 7, none⟩ = some (.int .i64 (rd_T100 xs i).f7) ∧ w.cell? ⟨(ad.add (i.toNat * 12)).block, (ad.add (i.toNat * 12)).off + 8, none⟩ = some (.int .i64 (rd_T100 xs i).f8) ∧ w.cell? ⟨(ad.add (i.toNat * 12)).block, (ad.add (i.toNat * 12)).off + 9, none⟩ = some (.int .i64 (rd_T100 xs i).f9) ∧ w.cell? ⟨(ad.add (i.toNat * 12)).block, (ad.add (i.toNat * 12)).off + 10, none⟩ = some (.int .i64 (rd_T100 xs i).f10) ∧ w.cell? ⟨(ad.add (i.toNat * 12)).block, (ad.add (i.toNat * 12)).off + 11, none⟩ = some (.slice A11 (rd_T100 xs i).f11.length c11) ∧ (rd_T100 xs i).f11.length ≤ c11 ∧ k102.C w A11 (rd_T100 xs i).f11.length (rd_T100 xs i).f11 := by
  obtain ⟨ad, c, e, _, hK, hc0⟩ := Kd.C_get h z100 i h0 h1
  have hc : ∀ j u, c[j]? = some u → w.cell? (ad.add (i.toNat * 12 + j)) = some u := hc0
  obtain ⟨A11, c11, rfl, l11, g11⟩ := k100_open hK
  exact ⟨ad, A11, c11, e, hc 0 _ rfl, by rw [← add_field _ _ 1 (by omega)]; exact hc 1 _ rfl, by rw [← add_field _ _ 2 (by omega)]; exact hc 2 _ rfl, by rw [← add_field _ _ 3 (by omega)]; exact hc 3 _ rfl, by rw [← add_field _ _ 4 (by omega)]; exact hc 4 _ rfl, by rw [← add_field _ _ 5 (by omega)]; exact hc 5 _ rfl, by rw [← add_field _ _ 6 (by omega)]; exact hc 6 _ rfl, by rw [← add_field _ _ 7 (by omega)]; exact hc 7 _ rfl, by rw [← add_field _ _ 8 (by omega)]; exact hc 8 _ rfl, by rw [← add_field _ _ 9 (by omega)]; exact hc 9 _ rfl, by rw [← add_field _ _ 10 (by omega)]; exact hc 10 _ rfl, by rw [← add_field _ _ 11 (by omega)]; exact hc 11 _ rfl, l11, g11⟩

structure S95 where
  f0 : Int
  f1 : Int
  f2 : Int
  f3 : Int
  f4 : Int
  f5 : Int
def z95 : S95 := ⟨(0 : Int), (0 : Int), (0 : Int), (0 : Int), (0 : Int), (0 : Int)⟩
def k95 : Kd S95 := Kd.iso (Kd.pair (Kd.int .i64) (Kd.pair (Kd.int .i64) (Kd.pair (Kd.int .i64) (Kd.pair (Kd.int .i64) (Kd.pair (Kd.int .i64) (Kd.int .i64)))))) (fun x : S95 => (x.f0, x.f1, x.f2, x.f3, x.f4, x.f5))
theorem k95_open {w : World} {x : S95} {cs : List Value} (h : k95.K w x cs) : cs = [.int .i64 x.f0, .int .i64 x.f1, .int .i64 x.f2, .int .i64 x.f3, .int .i64 x.f4, .int .i64 x.f5] := by
  obtain ⟨_, _, rfl, rfl, ⟨_, _, rfl, rfl, ⟨_, _, rfl, rfl, ⟨_, _, rfl, rfl, ⟨_, _, rfl, rfl, rfl⟩⟩⟩⟩⟩ := h
  exact rfl
theorem k95_mkM (w : World) (base : Nat) (ok : Nat → Prop) (x : S95)  : k95.M w base ok x [.int .i64 x.f0, .int .i64 x.f1, .int .i64 x.f2, .int .i64 x.f3, .int .i64 x.f4, .int .i64 x.f5] := ⟨[.int .i64 x.f0], [.int .i64 x.f1, .int .i64 x.f2, .int .i64 x.f3, .int .i64 x.f4, .int .i64 x.f5], rfl, rfl, ⟨[.int .i64 x.f1], [.int .i64 x.f2, .int .i64 x.f3, .int .i64 x.f4, .int .i64 x.f5], rfl, rfl, ⟨[.int .i64 x.f2], [.int .i64 x.f3, .int .i64 x.f4, .int .i64 x.f5], rfl, rfl, ⟨[.int .i64 x.f3], [.int .i64 x.f4, .int .i64 x.f5], rfl, rfl, ⟨[.int .i64 x.f4], [.int .i64 x.f5], rfl, rfl, rfl⟩⟩⟩⟩⟩
def rd_T95 (xs : List S95) (i : Int) : S95 := xs.getD i.toNat z95
theorem at_T95 {w : World} {A : Option Addr} {n : Nat} {xs : List S95} (h : Kd.C k95 w A n xs) (i : Int) (h0 : 0 ≤ i) (h1 : i < n) : ∃ ad , A = some ad ∧ w.cell? (ad.add (i.toNat * 6)) = some (.int .i64 (rd_T95 xs i).f0) ∧ w.cell? ⟨(ad.add (i.toNat * 6)).block, (ad.add (i.toNat * 6)).off + 1, none⟩ = some (.int .i64 (rd_T95 xs i).f1) ∧ w.cell? ⟨(ad.add (i.toNat * 6)).block, (ad.add (i.toNat * 6)).off + 2, none⟩ = some (.int .i64 (rd_T95 xs i).f2) ∧ w.cell? ⟨(ad.add (i.toNat * 6)).block, (ad.add (i.toNat * 6)).off + 3, none⟩ = some (.int .i64 (rd_T95 xs i).f3) ∧ w.cell? ⟨(ad.add (i.toNat * 6)).block, (ad.add (i.toNat * 6)).off + 4, none⟩ = some (.int .i64 (rd_T95 xs i).f4) ∧ w.cell? ⟨(ad.add (i.toNat * 6)).block, (ad.add (i.toNat * 6)).off + 5, none⟩ = some (.int .i64 (rd_T95 xs i).f5) := by
  obtain ⟨ad, c, e, _, hK, hc0⟩ := Kd.C_get h z95 i h0 h1
  have hc : ∀ j u, c[j]? = some u → w.cell? (ad.add (i.toNat * 6 + j)) = some u := hc0
  obtain rfl := k95_open hK
  exact ⟨ad, e, hc 0 _ rfl, by rw [← add_field _ _ 1 (by omega)]; exact hc 1 _ rfl, by rw [← add_field _ _ 2 (by omega)]; exact hc 2 _ rfl, by rw [← add_field _ _ 3 (by omega)]; exact hc 3 _ rfl, by rw [← add_field _ _ 4 (by omega)]; exact hc 4 _ rfl, by rw [← add_field _ _ 5 (by omega)]; exact hc 5 _ rfl⟩

structure S97 where
  f0 : Int
  f1 : Int
  f2 : Int
def z97 : S97 := ⟨(0 : Int), (0 : Int), (0 : Int)⟩
def k97 : Kd S97 := Kd.iso (Kd.pair (Kd.int .i64) (Kd.pair (Kd.int .i64) (Kd.int .i64))) (fun x : S97 => (x.f0, x.f1, x.f2))
theorem k97_open {w : World} {x : S97} {cs : List Value} (h : k97.K w x cs) : cs = [.int .i64 x.f0, .int .i64 x.f1, .int .i64 x.f2] := by
  obtain ⟨_, _, rfl, rfl, ⟨_, _, rfl, rfl, rfl⟩⟩ := h
  exact rfl
theorem k97_mkM (w : World) (base : Nat) (ok : Nat → Prop) (x : S97)  : k97.M w base ok x [.int .i64 x.f0, .int .i64 x.f1, .int .i64 x.f2] := ⟨[.int .i64 x.f0], [.int .i64 x.f1, .int .i64 x.f2], rfl, rfl, ⟨[.int .i64 x.f1], [.int .i64 x.f2], rfl, rfl, rfl⟩⟩
def rd_T97 (xs : List S97) (i : Int) : S97 := xs.getD i.toNat z97
theorem at_T97 {w : World} {A : Option Addr} {n : Nat} {xs : List S97} (h : Kd.C k97 w A n xs) (i : Int) (h0 : 0 ≤ i) (h1 : i < n) : ∃ ad , A = some ad ∧ w.cell? (ad.add (i.toNat * 3)) = some (.int .i64 (rd_T97 xs i).f0) ∧ w.cell? ⟨(ad.add (i.toNat * 3)).block, (ad.add (i.toNat * 3)).off + 1, none⟩ = some (.int .i64 (rd_T97 xs i).f1) ∧ w.cell? ⟨(ad.add (i.toNat * 3)).block, (ad.add (i.toNat * 3)).off + 2, none⟩ = some (.int .i64 (rd_T97 xs i).f2) := by
  obtain ⟨ad, c, e, _, hK, hc0⟩ := Kd.C_get h z97 i h0 h1
  have hc : ∀ j u, c[j]? = some u → w.cell? (ad.add (i.toNat * 3 + j)) = some u := hc0
  obtain rfl := k97_open hK
  exact ⟨ad, e, hc 0 _ rfl, by rw [← add_field _ _ 1 (by omega)]; exact hc 1 _ rfl, by rw [← add_field _ _ 2 (by omega)]; exact hc 2 _ rfl⟩

def rd_L19 (xs : List (List S93)) (i : Int) : (List S93) := xs.getD i.toNat ([] : List S93)
def rd_L20 (xs : List (List S95)) (i : Int) : (List S95) := xs.getD i.toNat ([] : List S95)
def rd_L21 (xs : List (List S97)) (i : Int) : (List S97) := xs.getD i.toNat ([] : List S97)
def rd_L22 (xs : List (List S100)) (i : Int) : (List S100) := xs.getD i.toNat ([] : List S100)
structure S67 where
  f0 : Int
  f1 : Int
  f2 : Int
  f3 : (List S93)
  f4 : (List S95)
  f5 : (List S97)
  f6 : (List S100)
  f7 : (List ByteArray)
def z67 : S67 := ⟨(0 : Int), (0 : Int), (0 : Int), ([] : List S93), ([] : List S95), ([] : List S97), ([] : List S100), ([] : List ByteArray)⟩
def k67 : Kd S67 := Kd.iso (Kd.pair (Kd.int .i64) (Kd.pair (Kd.int .i64) (Kd.pair (Kd.int .i64) (Kd.pair (Kd.slice 93 k93) (Kd.pair (Kd.slice 95 k95) (Kd.pair (Kd.slice 97 k97) (Kd.pair (Kd.slice 100 k100) (Kd.slice 9 Kd.string)))))))) (fun x : S67 => (x.f0, x.f1, x.f2, x.f3, x.f4, x.f5, x.f6, x.f7))
theorem k67_open {w : World} {x : S67} {cs : List Value} (h : k67.K w x cs) : ∃ A3 c3 A4 c4 A5 c5 A6 c6 A7 c7, cs = [.int .i64 x.f0, .int .i64 x.f1, .int .i64 x.f2, .slice A3 x.f3.length c3, .slice A4 x.f4.length c4, .slice A5 x.f5.length c5, .slice A6 x.f6.length c6, .slice A7 x.f7.length c7] ∧ x.f3.length ≤ c3 ∧ k93.C w A3 x.f3.length x.f3 ∧ x.f4.length ≤ c4 ∧ k95.C w A4 x.f4.length x.f4 ∧ x.f5.length ≤ c5 ∧ k97.C w A5 x.f5.length x.f5 ∧ x.f6.length ≤ c6 ∧ k100.C w A6 x.f6.length x.f6 ∧ x.f7.length ≤ c7 ∧ Kd.string.C w A7 x.f7.length x.f7 := by
  obtain ⟨_, _, rfl, rfl, ⟨_, _, rfl, rfl, ⟨_, _, rfl, rfl, ⟨_, _, rfl, ⟨A3, c3, rfl, l3, g3⟩, ⟨_, _, rfl, ⟨A4, c4, rfl, l4, g4⟩, ⟨_, _, rfl, ⟨A5, c5, rfl, l5, g5⟩, ⟨_, _, rfl, ⟨A6, c6, rfl, l6, g6⟩, ⟨A7, c7, rfl, l7, g7⟩⟩⟩⟩⟩⟩⟩⟩ := h
  exact ⟨A3, c3, A4, c4, A5, c5, A6, c6, A7, c7, rfl, l3, g3, l4, g4, l5, g5, l6, g6, l7, g7⟩
def rd_T67 (xs : List S67) (i : Int) : S67 := xs.getD i.toNat z67
def g34 (x : S34) : Prop := (True) ∧ ((Lit.int .i64 x.f1).wf = true)
def g87 (x : S87) : Prop := ((Lit.int .i64 x.f0).wf = true) ∧ ((Lit.int .i64 x.f1).wf = true)
def g50 (x : S50) : Prop := ((Lit.int .i64 x.f0).wf = true) ∧ ((Lit.int .i64 x.f1).wf = true) ∧ ((Lit.int .i64 x.f2).wf = true) ∧ (x.f3.size ≤ maxLen) ∧ (x.f4.size ≤ maxLen) ∧ ((x.f5.length ≤ maxLen ∧ ∀ y ∈ x.f5, (Lit.int .i64 y).wf = true)) ∧ ((x.f6.length ≤ maxLen ∧ ∀ y ∈ x.f6, g87 y))
def g93 (x : S93) : Prop := (x.f0.size ≤ maxLen) ∧ ((Lit.int .i64 x.f1).wf = true) ∧ ((Lit.int .i64 x.f2).wf = true)
def g95 (x : S95) : Prop := ((Lit.int .i64 x.f0).wf = true) ∧ ((Lit.int .i64 x.f1).wf = true) ∧ ((Lit.int .i64 x.f2).wf = true) ∧ ((Lit.int .i64 x.f3).wf = true) ∧ ((Lit.int .i64 x.f4).wf = true) ∧ ((Lit.int .i64 x.f5).wf = true)
def g97 (x : S97) : Prop := ((Lit.int .i64 x.f0).wf = true) ∧ ((Lit.int .i64 x.f1).wf = true) ∧ ((Lit.int .i64 x.f2).wf = true)
def g102 (x : S102) : Prop := ((Lit.int .i64 x.f0).wf = true) ∧ ((Lit.int .i64 x.f1).wf = true)
def g100 (x : S100) : Prop := ((Lit.int .i64 x.f0).wf = true) ∧ ((Lit.int .i64 x.f1).wf = true) ∧ ((Lit.int .i64 x.f2).wf = true) ∧ ((Lit.int .i64 x.f3).wf = true) ∧ ((Lit.int .i64 x.f4).wf = true) ∧ ((Lit.int .i64 x.f5).wf = true) ∧ ((Lit.int .i64 x.f6).wf = true) ∧ ((Lit.int .i64 x.f7).wf = true) ∧ ((Lit.int .i64 x.f8).wf = true) ∧ ((Lit.int .i64 x.f9).wf = true) ∧ ((Lit.int .i64 x.f10).wf = true) ∧ ((x.f11.length ≤ maxLen ∧ ∀ y ∈ x.f11, g102 y))
def g67 (x : S67) : Prop := ((Lit.int .i64 x.f0).wf = true) ∧ ((Lit.int .i64 x.f1).wf = true) ∧ ((Lit.int .i64 x.f2).wf = true) ∧ ((x.f3.length ≤ maxLen ∧ ∀ y ∈ x.f3, g93 y)) ∧ ((x.f4.length ≤ maxLen ∧ ∀ y ∈ x.f4, g95 y)) ∧ ((x.f5.length ≤ maxLen ∧ ∀ y ∈ x.f5, g97 y)) ∧ ((x.f6.length ≤ maxLen ∧ ∀ y ∈ x.f6, g100 y)) ∧ ((x.f7.length ≤ maxLen ∧ ∀ y ∈ x.f7, y.size ≤ maxLen))
end Go.Proofs.Ytjmkpcnekghmhaa.PAll
end
section
namespace Go.Proofs.Ytjmkpcnekghmhaa.PAll
open Go.RowKit Go.Proofs.YtjmkpcnekghmhaaW.PrintWords Go.Proofs.YtjmkpcnekghmhaaW.PrintLast Go.Proofs.YtjmkpcnekghmhaaW.PrintMore
attribute [local go_sem] max2_int min2_int max_two min_two max_three min_three max_four min_four   -- for this text's walks alone
set_option linter.unusedVariables false
set_option linter.unusedSimpArgs false

def Plan (is : List (Nat × Nat)) (p : Prop) : Prop := p
theorem plan_ (is : List (Nat × Nat)) {p : Prop} (h : Plan is p) : p := h
theorem planEnd_ {p : Prop} (h : p) : Plan [] p := h
section
variable {P : Program} {ops : Array Oper} {Q : Exit → Act → World → Prop} {md : Region.Mode} {S : World → Prop} {ds : List Nat} {i N : Nat} {is : List (Nat × Nat)} {oi : Oper} {v : Value} {fuel : Nat} {l : Array Bool} {a : Act} {w : World}
theorem planP_ (hi : ops[i]? = some oi) (hN : oi.dst = some N) (hc : anyB md ops l (l.setIfInBounds i true) i = true) (hQ : ∀ c a w, Q (.panic c) (a.put oi.dst v) w → Q (.panic c) a w) (hy : Yields P ops oi v a) {a' : Act} (ha : a.put (some N) v = a')
    (h : Plan is (wpAnyLast P md ops Q S ds fuel (l.setIfInBounds i true) a' w)) : Plan ((i, N) :: is) (wpAnyLast P md ops Q S ds (fuel + 1) l a w) := pure_ _ hi hN hc hQ hy ha h
theorem planT_ (hi : ops[i]? = some oi) (hN : oi.dst = some N) (hc : takeB md ops ds l (l.setIfInBounds i true) i = true) (hQ : ∀ c a w, Q (.panic c) (a.put oi.dst v) w → Q (.panic c) a w) (hy : YieldsIf P ops S oi v a) (hS : S w) {a' : Act} (ha : a.put (some N) v = a')
    (h : Plan is (wpAnyLast P md ops Q S ds fuel (l.setIfInBounds i true) a' w)) : Plan ((i, N) :: is) (wpAnyLast P md ops Q S ds (fuel + 1) l a w) := take_ _ hi hN hc hQ hy hS ha h
end

theorem mB {p q : Prop} (h : p) (f : p → q := by intro h; repeat (first | (with_reducible first | exact h | apply below_alloc | apply pw_below_drewN | apply below_drew1) | exact h)) : q := f h
theorem mR {p q : Prop} (h : p) (f : p → q := by intro h; (with_reducible repeat (first | apply Kd.R_alloc | apply Kd.R_drewN | apply Kd.R_drew)); exact h) : q := f h
theorem mV {p q : Prop} (h : p) (f : p → q := by intro h; (with_reducible repeat (first | apply Kd.V_alloc | apply Kd.V_drewN | apply Kd.V_drew)); exact h) : q := f h
theorem oda {p : Prop} [Decidable p] (h : decide p = true := by first | (with_reducible assumption) | assumption) : p := of_decide_eq_true h
theorem ez {p : Prop} (h : p := by first | rfl | (simp; done) | (simp [*]; done)) : p := h
theorem mBs {p q : Prop} (h : p) (f : p → q := by intro h; repeat (first | (with_reducible first | exact h | apply below_alloc | apply pw_below_drewN | apply below_drew1 | refine below_set ?_ (Aside0.out (by assumption))) | exact h)) : q := f h
theorem mBK {p q : Prop} (h : p) (f : p → q := by intro h; (with_reducible repeat first | apply blk_drewN | apply blk_drew | apply blk_alloc); exact h) : q := f h
theorem mC {p q : Prop} (h : p) (f : p → q := by intro h; repeat (first | exact h | (with_reducible refine Kd.C_alloc ?_ _) | (with_reducible refine Kd.C_drewN ?_ _) | (with_reducible refine Kd.C_drew ?_))) : q := f h
theorem mt {p : Prop} (h : p := by (try simp only [List.map_toArray, List.map_cons, List.map_nil]); first | done | rfl | (simp only [List.length_drop, List.length_take]; rfl)) : p := h
theorem mH {r p q : Prop} (hy : r) (H : p) (f : r → p → q := by intro hy H; first | (rw [hy]; with_reducible exact H) | (have H2_ := (Option.bind_some _ _).symm.trans H; rw [hy]; with_reducible exact H2_) | (have H2_ := (Option.bind_some _ _).symm.trans H; with_reducible exact H2_) | with_reducible exact H | (rw [hy]; exact H) | exact H) : q := f hy H
end Go.Proofs.Ytjmkpcnekghmhaa.PAll
end
section
namespace Go.Proofs.Ytjmkpcnekghmhaa.PAll
open Go.RowKit Go.Proofs.YtjmkpcnekghmhaaW.PrintWords Go.Proofs.YtjmkpcnekghmhaaW.PrintLast Go.Proofs.YtjmkpcnekghmhaaW.PrintMore
attribute [local go_sem] max2_int min2_int max_two min_two max_three min_three max_four min_four   -- for this text's walks alone
set_option linter.unusedVariables false
set_option linter.unusedSimpArgs false

def slices_Clip_byte.f (l0 : List Int) : Option (List Int) := some l0
theorem slices_Clip_byte.cut (A : Option Addr) (n c : Nat) (hm : n ≤ c) : ∀ W : World, (Instr.slice 22 (.slice A n c) none (some (.int .i64 (n : Int))) (some (.int .i64 (n : Int)))).run Try.prog W = .ok (.slice A n n) W := by
  intro W
  obtain ⟨i0, hi, _, hsz, _⟩ := info_parts info5
  have ha : (A.map fun x => x.add 0) = A := by cases A <;> simp [Addr.add]
  have hn : (n : Int) ≤ (c : Int) := by omega
  simp [Instr.slice, run_underlying Try.underlying22, Instr.sliceBounds, run_sliceBound, sizeOf, typeInfo, hi, Result.andThen, ha, hn]
set_option maxHeartbeats 8000000 in
set_option maxRecDepth 100000 in
theorem slices_Clip_byte.calls (P0_ : Nat → Prop) (A0 : Option Addr) (c0 : Nat) (l0 : List Int) (r : List Int) (w : World) (hs0 : Kd.V (Kd.int .u8) 5 w w.heap.size (fun k_ => P0_ k_) (.slice A0 l0.length c0) l0) (h : slices_Clip_byte.f l0 = some r) :
    Calls Try.prog 39 #[.slice A0 l0.length c0] w fun e w' => ∃ v0_ : Value, e = .returned (v0_) ∧ Kd.V (Kd.int .u8) 5 w' w.heap.size (fun k_ => (P0_ k_ ∨ w.heap.size ≤ k_)) v0_ r ∧ Below w.heap.size w w' := by
  obtain rfl := Option.some.inj h
  have HO0 := Aside0.mk (show Kd.V (Kd.int .u8) 5 w w.heap.size (fun k_ => (P0_ k_ ∨ w.heap.size ≤ k_)) (.slice A0 l0.length l0.length) l0 from Kd.V_mk (Nat.le_refl _) (Kd.F_mono (Kd.V_F hs0) (fun k_ hk => .inl hk)))
  have hc := (Kd.V_reads' hs0).2.1
  have hcut := slices_Clip_byte.cut A0 l0.length c0 hc
  clear hs0 hc
  go_enter Try.func39, Try.ntmps39
  go_wp2
  go_ret
  exact ⟨_, rfl, HO0.out, Below.refl _ _⟩
end Go.Proofs.Ytjmkpcnekghmhaa.PAll
end
section
namespace Go.Proofs.Ytjmkpcnekghmhaa.PAll
open Go.RowKit Go.Proofs.YtjmkpcnekghmhaaW.PrintWords Go.Proofs.YtjmkpcnekghmhaaW.PrintLast Go.Proofs.YtjmkpcnekghmhaaW.PrintMore
attribute [local go_sem] max2_int min2_int max_two min_two max_three min_three max_four min_four   -- for this text's walks alone
set_option linter.unusedVariables false
set_option linter.unusedSimpArgs false

def snap_fits_1.f (a0_0 : ByteArray) (a0_1 : Int) (a0_2 : Int) : Option (Bool) := some (decide ((a0_0.size : Int) > 16))
set_option maxHeartbeats 8000000 in
set_option maxRecDepth 100000 in
theorem snap_fits_1.calls (a0_0 : ByteArray) (a0_1 : Int) (a0_2 : Int) (r : Bool) (w : World) (h : snap_fits_1.f a0_0 a0_1 a0_2 = some r) :
    Calls Try.prog 69 #[.agg #[.string a0_0, .int .i64 a0_1, .int .i64 a0_2]] w fun e w' => e = .returned (.bool r) ∧ Below w.heap.size w w' := by
  have hu93 := Try.underlying93
  have HB := Aside0.mk (Below.refl w.heap.size w)
  have H : (some (decide ((a0_0.size : Int) > 16))) = some r := h
  clear h
  obtain rfl := Option.some.inj H
  go_enter Try.func69, Try.ntmps69
  go_wp2_with (first | ((with_reducible refine gate_dst (N := 1) rfl ?_); refine box_event ?hg (N := 1) ?hd (cs := #[.string a0_0, .int .i64 a0_1, .int .i64 a0_2]) (t := 93) ?hr ?_; (case hd => rfl); (case hg => rfl); (case hr => first | (go_simp; done) | (go_simp; rfl)); intro gb438 hg w2 hbox hb; have n0_ := Aside0.mk (below_step (by repeat (first | (with_reducible first | exact HB.out | apply below_alloc | apply pw_below_drewN | apply below_drew1) | exact HB.out)) hb); have n1_ := Aside0.mk (hbox); have n2_ := Aside0.mk ((by rw [hg]; exact (below_size (by repeat (first | (with_reducible first | exact HB.out | apply below_alloc | apply pw_below_drewN | apply below_drew1) | exact HB.out))) : w.heap.size ≤ gb438)); have n3_ := Aside0.mk ((by rw [hg]; exact (below_size (by repeat (first | (with_reducible first | exact HB.out | apply below_alloc | apply pw_below_drewN | apply below_drew1) | exact HB.out))) : w.heap.size ≤ gb438)); clear HB; have HB := n0_; have BK438 := n1_; have GW438 := n2_; have GE438 := n3_; clear n0_ n1_ n2_ n3_; clear hb hbox hg; have hcz3_0 : w2.cell? ⟨gb438, 0, none⟩ = some (.string a0_0) := (blk_cell BK438.out 0).trans rfl; have hcz3_1 : w2.cell? ⟨gb438, 1, none⟩ = some (.int .i64 a0_1) := (blk_cell BK438.out 1).trans rfl; have hcz3_2 : w2.cell? ⟨gb438, 2, none⟩ = some (.int .i64 a0_2) := (blk_cell BK438.out 2).trans rfl; have hfz3_0 := blk_frozen BK438.out 0; have hfz3_1 := blk_frozen BK438.out 1; have hfz3_2 := blk_frozen BK438.out 2))
  go_ret
  exact ⟨by first | rfl | (simp [errW_none, errW_some] <;> rfl) | (simp [*, errW_none, errW_some] <;> rfl), by repeat (first | (with_reducible first | exact HB.out | apply below_alloc | apply pw_below_drewN | apply below_drew1 | refine below_set ?_ GE438.out) | exact HB.out)⟩

end Go.Proofs.Ytjmkpcnekghmhaa.PAll
end
section
namespace Go.Proofs.Ytjmkpcnekghmhaa.PAll
open Go.RowKit Go.Proofs.YtjmkpcnekghmhaaW.PrintWords Go.Proofs.YtjmkpcnekghmhaaW.PrintLast Go.Proofs.YtjmkpcnekghmhaaW.PrintMore
attribute [local go_sem] max2_int min2_int max_two min_two max_three min_three max_four min_four   -- for this text's walks alone
set_option linter.unusedVariables false
set_option linter.unusedSimpArgs false

def slices_IndexFunc_Fund__snap_fits_1.l0 : Nat → List (S93) → Int → Int → Option (Int)
  | 0, _, _, _ => none
  | k + 1, x0, x7, x8 => if x8 < x7 then (if 0 ≤ x8 then (if x8 < (x0.length : Int) then ((snap_fits_1.f ((rd_T93 x0 x8).f0) ((rd_T93 x0 x8).f1) ((rd_T93 x0 x8).f2)).bind fun t441 => (if t441 = true then (some x8) else (slices_IndexFunc_Fund__snap_fits_1.l0 k x0 x7 (wrap64 (x8 + 1))))) else (none)) else (none)) else (some (-1))
def slices_IndexFunc_Fund__snap_fits_1.f (k : Nat) (l0 : List (S93))  : Option (Int) := slices_IndexFunc_Fund__snap_fits_1.l0 k l0 (l0.length : Int) 0
theorem slices_IndexFunc_Fund__snap_fits_1.mono_l : ∀ k, (∀ y0 y1 y2, LeO (slices_IndexFunc_Fund__snap_fits_1.l0 k y0 y1 y2) (slices_IndexFunc_Fund__snap_fits_1.l0 (k + 1) y0 y1 y2))
  | 0 => fun _ _ _ r h => by simp [slices_IndexFunc_Fund__snap_fits_1.l0] at h
  | k + 1 => by
    have ih0 := slices_IndexFunc_Fund__snap_fits_1.mono_l k
    · intro y0 y1 y2
      unfold slices_IndexFunc_Fund__snap_fits_1.l0
      repeat' first
      | (with_reducible exact ih0 _ _ _)
      | (with_reducible exact LeO.refl _)
      | (with_reducible exact LeO.none _)
      | (with_reducible refine LeO.ite ?_ ?_)
      | (with_reducible refine LeO.bind ?_ (fun _ => ?_))
      | exact ih0 _ _ _
      | exact LeO.none _
      | refine LeO.ite ?_ ?_
      | refine LeO.bind ?_ (fun _ => ?_)
theorem slices_IndexFunc_Fund__snap_fits_1.mono : ∀ a0 k, LeO (slices_IndexFunc_Fund__snap_fits_1.f k a0) (slices_IndexFunc_Fund__snap_fits_1.f (k + 1) a0) := by
  intro a0 k
  have ih0 := slices_IndexFunc_Fund__snap_fits_1.mono_l k
  unfold slices_IndexFunc_Fund__snap_fits_1.f
  repeat' first
      | (with_reducible exact ih0 _ _ _)
      | (with_reducible exact LeO.refl _)
      | (with_reducible exact LeO.none _)
      | (with_reducible refine LeO.ite ?_ ?_)
      | (with_reducible refine LeO.bind ?_ (fun _ => ?_))
      | exact ih0 _ _ _
      | exact LeO.none _
      | refine LeO.ite ?_ ?_
      | refine LeO.bind ?_ (fun _ => ?_)
set_option maxHeartbeats 8000000 in
set_option maxRecDepth 100000 in
theorem slices_IndexFunc_Fund__snap_fits_1.calls (k : Nat) (A0 : Option Addr) (c0 : Nat) (l0 : List (S93))  (r : Int) (w : World) (hr0 : Kd.C k93 w A0 l0.length l0) (hc0 : l0.length ≤ c0) (h : slices_IndexFunc_Fund__snap_fits_1.f k l0 = some r) :
    Calls Try.prog 76 #[.slice A0 l0.length c0, .func (.func 69) #[] #[]] w fun e w' => e = .returned (.int .i64 r) ∧ Below w.heap.size w w' := by
  have hu93 := Try.underlying93
  have HR0 := Aside0.mk hr0
  have HC0 := Aside0.mk hc0
  clear hr0 hc0
  have HB := Aside0.mk (Below.refl w.heap.size w)
  have H : (slices_IndexFunc_Fund__snap_fits_1.l0 k l0 (l0.length : Int) 0) = some r := h
  clear h
  have H' := Aside0.mk H
  clear H
  go_enter Try.func76, Try.ntmps76
  go_wp2
  go_loopg [8] k (fun kq v8 w' => ∃ (x8_1 : Int), v8 = .int .i64 x8_1 ∧ Aside0 (slices_IndexFunc_Fund__snap_fits_1.l0 kq l0 (l0.length : Int) x8_1 = some r) ∧ Aside0 (kq ≤ k) ∧ Aside0 (Below w.heap.size w w'))
  case atStart => exact ⟨(0), (by first | rfl | (simp; done) | (simp [*]; done)), H', ⟨Nat.le_refl _⟩, ⟨by repeat (first | (with_reducible first | exact HB.out | apply below_alloc | apply pw_below_drewN | apply below_drew1) | exact HB.out)⟩⟩
  case round =>
    clear H'
    try clear p2
    obtain ⟨x8_1, rfl, HA, HK1, HB⟩ := hrel
    cases gk with
    | zero => exact absurd HA.out (by simp [slices_IndexFunc_Fund__snap_fits_1.l0])
    | succ k1 =>
      have H := HA.out
      clear HA
      simp only [slices_IndexFunc_Fund__snap_fits_1.l0] at H
      by_cases c3 : x8_1 < (l0.length : Int)
      · rw [if_pos c3] at H
        have c3b0 : decide (x8_1 < (l0.length : Int)) = true := decide_eq_true c3
        clear c3
        by_cases c4 : 0 ≤ x8_1
        · rw [if_pos c4] at H
          have c4b0 : decide (0 ≤ x8_1) = true := decide_eq_true c4
          clear c4
          by_cases c5 : x8_1 < (l0.length : Int)
          · rw [if_pos c5] at H
            have c5b0 : decide (x8_1 < (l0.length : Int)) = true := decide_eq_true c5
            clear c5
            replace H := Option.bind_eq_some_iff.mp H
            obtain ⟨t441, A60, H⟩ := H
            replace H : (if t441 = true then (some x8_1) else (slices_IndexFunc_Fund__snap_fits_1.l0 k1 l0 (l0.length : Int) (wrap64 (x8_1 + 1)))) = some r := H
            have A6 := Aside0.mk A60
            clear A60
            by_cases c7 : t441 = true
            · subst c7
              have H1 : (some x8_1) = some r := by rw [if_pos rfl] at H; exact H
              clear H
              have H := H1
              clear H1
              obtain rfl := Option.some.inj H
              have p440 : 0 ≤ (x8_1 : Int) := of_decide_eq_true (by first | (with_reducible assumption) | assumption)
              have q440 : x8_1 < (l0.length : Int) := of_decide_eq_true (by first | (with_reducible assumption) | assumption)
              obtain ⟨ad440, e440, hx440_0, hx440_1, hx440_2⟩ := at_T93 HR0.out x8_1 p440 q440
              cases e440
              replace hx440_0 := (HB.out.cell (World.block_lt_of_cell? w _ hx440_0)).trans hx440_0
              replace hx440_1 := (HB.out.cell (World.block_lt_of_cell? w _ hx440_1)).trans hx440_1
              replace hx440_2 := (HB.out.cell (World.block_lt_of_cell? w _ hx440_2)).trans hx440_2
              replace p440 := eq_true p440
              replace q440 := eq_true q440
              go_wp2_with (first | (go_at_call 69; (with_reducible refine (snap_fits_1.calls ((rd_T93 l0 x8_1).f0) ((rd_T93 l0 x8_1).f1) ((rd_T93 l0 x8_1).f2) true _ A6.out).mono ?_); rintro e w8 ⟨rfl, hb⟩; have n0_ := Aside0.mk (below_step (by repeat (first | (with_reducible first | exact HB.out | apply below_alloc | apply pw_below_drewN | apply below_drew1) | exact HB.out)) hb); clear HB; have HB := n0_; clear n0_; (try clear hb); (try clear hb2); (try clear hk); (try clear hi)))
              go_ret
              exact ⟨by first | rfl | (simp [errW_none, errW_some] <;> rfl) | (simp [*, errW_none, errW_some] <;> rfl), by repeat (first | (with_reducible first | exact HB.out | apply below_alloc | apply pw_below_drewN | apply below_drew1) | exact HB.out)⟩
            · replace c7 := Bool.eq_false_iff.mpr c7
              subst c7
              have H1 : (slices_IndexFunc_Fund__snap_fits_1.l0 k1 l0 (l0.length : Int) (wrap64 (x8_1 + 1))) = some r := by rw [if_neg (show ¬ (false = true) by decide)] at H; exact H
              clear H
              have H := H1
              clear H1
              have H' := Aside0.mk H
              clear H
              have p440 : 0 ≤ (x8_1 : Int) := of_decide_eq_true (by first | (with_reducible assumption) | assumption)
              have q440 : x8_1 < (l0.length : Int) := of_decide_eq_true (by first | (with_reducible assumption) | assumption)
              obtain ⟨ad440, e440, hx440_0, hx440_1, hx440_2⟩ := at_T93 HR0.out x8_1 p440 q440
              cases e440
              replace hx440_0 := (HB.out.cell (World.block_lt_of_cell? w _ hx440_0)).trans hx440_0
              replace hx440_1 := (HB.out.cell (World.block_lt_of_cell? w _ hx440_1)).trans hx440_1
              replace hx440_2 := (HB.out.cell (World.block_lt_of_cell? w _ hx440_2)).trans hx440_2
              replace p440 := eq_true p440
              replace q440 := eq_true q440
              go_wp2_with (first | (go_at_call 69; (with_reducible refine (snap_fits_1.calls ((rd_T93 l0 x8_1).f0) ((rd_T93 l0 x8_1).f1) ((rd_T93 l0 x8_1).f2) false _ A6.out).mono ?_); rintro e w9 ⟨rfl, hb⟩; have n0_ := Aside0.mk (below_step (by repeat (first | (with_reducible first | exact HB.out | apply below_alloc | apply pw_below_drewN | apply below_drew1) | exact HB.out)) hb); clear HB; have HB := n0_; clear n0_; (try clear hb); (try clear hb2); (try clear hk); (try clear hi)))
              go_roundg k1
              case measure => have := HK1.out; omega
              case rel => exact ⟨(wrap64 (x8_1 + 1)), (by first | rfl | (simp; done) | (simp [*]; done)), H', ⟨by have := HK1.out; omega⟩, ⟨by repeat (first | (with_reducible first | exact HB.out | apply below_alloc | apply pw_below_drewN | apply below_drew1) | exact HB.out)⟩⟩
          · rw [if_neg c5] at H
            exact absurd H (by simp)
        · rw [if_neg c4] at H
          exact absurd H (by simp)
      · rw [if_neg c3] at H
        have c3b0 : decide (x8_1 < (l0.length : Int)) = false := decide_eq_false c3
        clear c3
        obtain rfl := Option.some.inj H
        go_wp2
        go_ret
        exact ⟨by first | rfl | (simp [errW_none, errW_some] <;> rfl) | (simp [*, errW_none, errW_some] <;> rfl), by repeat (first | (with_reducible first | exact HB.out | apply below_alloc | apply pw_below_drewN | apply below_drew1) | exact HB.out)⟩

end Go.Proofs.Ytjmkpcnekghmhaa.PAll
end
section
namespace Go.Proofs.Ytjmkpcnekghmhaa.PAll
open Go.RowKit Go.Proofs.YtjmkpcnekghmhaaW.PrintWords Go.Proofs.YtjmkpcnekghmhaaW.PrintLast Go.Proofs.YtjmkpcnekghmhaaW.PrintMore
attribute [local go_sem] max2_int min2_int max_two min_two max_three min_three max_four min_four   -- for this text's walks alone
set_option linter.unusedVariables false
set_option linter.unusedSimpArgs false

def slices_ContainsFunc_Fund__snap_fits_1.f (k : Nat) (l0 : List (S93))  : Option (Bool) := (slices_IndexFunc_Fund__snap_fits_1.f k l0).bind fun t442 => (some (decide (t442 ≥ 0)))
theorem slices_ContainsFunc_Fund__snap_fits_1.mono : ∀ a0 k, LeO (slices_ContainsFunc_Fund__snap_fits_1.f k a0) (slices_ContainsFunc_Fund__snap_fits_1.f (k + 1) a0) := by
  intro a0 k
  unfold slices_ContainsFunc_Fund__snap_fits_1.f
  repeat' first
      | (with_reducible exact slices_IndexFunc_Fund__snap_fits_1.mono _ _)
      | (with_reducible exact LeO.refl _)
      | (with_reducible exact LeO.none _)
      | (with_reducible refine LeO.ite ?_ ?_)
      | (with_reducible refine LeO.bind ?_ (fun _ => ?_))
      | exact slices_IndexFunc_Fund__snap_fits_1.mono _ _
      | exact LeO.none _
      | refine LeO.ite ?_ ?_
      | refine LeO.bind ?_ (fun _ => ?_)
set_option maxHeartbeats 8000000 in
set_option maxRecDepth 100000 in
theorem slices_ContainsFunc_Fund__snap_fits_1.calls (k : Nat) (A0 : Option Addr) (c0 : Nat) (l0 : List (S93))  (r : Bool) (w : World) (hr0 : Kd.C k93 w A0 l0.length l0) (hc0 : l0.length ≤ c0) (h : slices_ContainsFunc_Fund__snap_fits_1.f k l0 = some r) :
    Calls Try.prog 68 #[.slice A0 l0.length c0, .func (.func 69) #[] #[]] w fun e w' => e = .returned (.bool r) ∧ Below w.heap.size w w' := by
  have HR0 := Aside0.mk hr0
  have HC0 := Aside0.mk hc0
  clear hr0 hc0
  have HB := Aside0.mk (Below.refl w.heap.size w)
  have H : ((slices_IndexFunc_Fund__snap_fits_1.f k l0).bind fun t442 => (some (decide (t442 ≥ 0)))) = some r := h
  clear h
  replace H := Option.bind_eq_some_iff.mp H
  obtain ⟨t442, A30, H⟩ := H
  replace H : (some (decide (t442 ≥ 0))) = some r := H
  have A3 := Aside0.mk A30
  clear A30
  obtain rfl := Option.some.inj H
  go_enter Try.func68, Try.ntmps68
  go_wp2_with (first | ((with_reducible refine gate_callee (f := 76) rfl ?_); refine goesL_ (some 7) rfl rfl Try.func76 (by kernel_rfl) rfl #[.slice A0 l0.length c0, .func (.func 69) #[] #[]] rfl (by (try simp only [List.map_toArray, List.map_cons, List.map_nil]); first | done | rfl | (simp only [List.length_drop, List.length_take]; rfl)) ?_; (with_reducible refine (slices_IndexFunc_Fund__snap_fits_1.calls k _ _ l0  t442 _ ?side1 ?side2 A3.out).mono ?_); (case side1 => repeat (first | exact HR0.out | (with_reducible refine Kd.C_alloc ?_ _) | (with_reducible refine Kd.C_drewN ?_ _) | (with_reducible refine Kd.C_drew ?_))); (case side2 => exact HC0.out); rintro e w4 ⟨rfl, hb⟩; refine ⟨_, rfl, ?_⟩; have n0_ := Aside0.mk (below_step (by repeat (first | (with_reducible first | exact HB.out | apply below_alloc | apply pw_below_drewN | apply below_drew1) | exact HB.out)) hb); clear HB; have HB := n0_; clear n0_; (try clear hb); (try clear hb2); (try clear hk); (try clear hi)))
  go_ret
  exact ⟨by first | rfl | (simp [errW_none, errW_some] <;> rfl) | (simp [*, errW_none, errW_some] <;> rfl), by repeat (first | (with_reducible first | exact HB.out | apply below_alloc | apply pw_below_drewN | apply below_drew1) | exact HB.out)⟩

end Go.Proofs.Ytjmkpcnekghmhaa.PAll
end
section
namespace Go.Proofs.Ytjmkpcnekghmhaa.PAll
open Go.RowKit Go.Proofs.YtjmkpcnekghmhaaW.PrintWords Go.Proofs.YtjmkpcnekghmhaaW.PrintLast Go.Proofs.YtjmkpcnekghmhaaW.PrintMore
attribute [local go_sem] max2_int min2_int max_two min_two max_three min_three max_four min_four   -- for this text's walks alone
set_option linter.unusedVariables false
set_option linter.unusedSimpArgs false

def snap_fits_2.f (a0_0 : Int) (a0_1 : Int) (a0_2 : Int) (a0_3 : Int) (a0_4 : Int) (a0_5 : Int) (a0_6 : Int) (a0_7 : Int) (a0_8 : Int) (a0_9 : Int) (a0_10 : Int) (l0_11 : List (S102)) : Option (Bool) := some (decide ((l0_11.length : Int) > 16))
set_option maxHeartbeats 8000000 in
set_option maxRecDepth 100000 in
theorem snap_fits_2.calls (a0_0 : Int) (a0_1 : Int) (a0_2 : Int) (a0_3 : Int) (a0_4 : Int) (a0_5 : Int) (a0_6 : Int) (a0_7 : Int) (a0_8 : Int) (a0_9 : Int) (a0_10 : Int) (A0_11 : Option Addr) (c0_11 : Nat) (l0_11 : List (S102)) (r : Bool) (w : World) (hr0_11 : Kd.C k102 w A0_11 l0_11.length l0_11) (hc0_11 : l0_11.length ≤ c0_11) (h : snap_fits_2.f a0_0 a0_1 a0_2 a0_3 a0_4 a0_5 a0_6 a0_7 a0_8 a0_9 a0_10 l0_11 = some r) :
    Calls Try.prog 71 #[.agg #[.int .i64 a0_0, .int .i64 a0_1, .int .i64 a0_2, .int .i64 a0_3, .int .i64 a0_4, .int .i64 a0_5, .int .i64 a0_6, .int .i64 a0_7, .int .i64 a0_8, .int .i64 a0_9, .int .i64 a0_10, .slice A0_11 l0_11.length c0_11]] w fun e w' => e = .returned (.bool r) ∧ Below w.heap.size w w' := by
  have hu100 := Try.underlying100
  have HR0_11 := Aside0.mk hr0_11
  have HC0_11 := Aside0.mk hc0_11
  clear hr0_11 hc0_11
  have HB := Aside0.mk (Below.refl w.heap.size w)
  have H : (some (decide ((l0_11.length : Int) > 16))) = some r := h
  clear h
  obtain rfl := Option.some.inj H
  go_enter Try.func71, Try.ntmps71
  go_wp2_with (first | ((with_reducible refine gate_dst (N := 1) rfl ?_); refine box_event ?hg (N := 1) ?hd (cs := #[.int .i64 a0_0, .int .i64 a0_1, .int .i64 a0_2, .int .i64 a0_3, .int .i64 a0_4, .int .i64 a0_5, .int .i64 a0_6, .int .i64 a0_7, .int .i64 a0_8, .int .i64 a0_9, .int .i64 a0_10, .slice A0_11 l0_11.length c0_11]) (t := 100) ?hr ?_; (case hd => rfl); (case hg => rfl); (case hr => first | (go_simp; done) | (go_simp; rfl)); intro gb439 hg w2 hbox hb; have n0_ := Aside0.mk (below_step (by repeat (first | (with_reducible first | exact HB.out | apply below_alloc | apply pw_below_drewN | apply below_drew1) | exact HB.out)) hb); have n1_ := Aside0.mk (hbox); have n2_ := Aside0.mk ((by rw [hg]; exact (below_size (by repeat (first | (with_reducible first | exact HB.out | apply below_alloc | apply pw_below_drewN | apply below_drew1) | exact HB.out))) : w.heap.size ≤ gb439)); have n3_ := Aside0.mk ((by rw [hg]; exact (below_size (by repeat (first | (with_reducible first | exact HB.out | apply below_alloc | apply pw_below_drewN | apply below_drew1) | exact HB.out))) : w.heap.size ≤ gb439)); clear HB; have HB := n0_; have BK439 := n1_; have GW439 := n2_; have GE439 := n3_; clear n0_ n1_ n2_ n3_; clear hb hbox hg; have hcz3_0 : w2.cell? ⟨gb439, 0, none⟩ = some (.int .i64 a0_0) := (blk_cell BK439.out 0).trans rfl; have hcz3_1 : w2.cell? ⟨gb439, 1, none⟩ = some (.int .i64 a0_1) := (blk_cell BK439.out 1).trans rfl; have hcz3_2 : w2.cell? ⟨gb439, 2, none⟩ = some (.int .i64 a0_2) := (blk_cell BK439.out 2).trans rfl; have hcz3_3 : w2.cell? ⟨gb439, 3, none⟩ = some (.int .i64 a0_3) := (blk_cell BK439.out 3).trans rfl; have hcz3_4 : w2.cell? ⟨gb439, 4, none⟩ = some (.int .i64 a0_4) := (blk_cell BK439.out 4).trans rfl; have hcz3_5 : w2.cell? ⟨gb439, 5, none⟩ = some (.int .i64 a0_5) := (blk_cell BK439.out 5).trans rfl; have hcz3_6 : w2.cell? ⟨gb439, 6, none⟩ = some (.int .i64 a0_6) := (blk_cell BK439.out 6).trans rfl; have hcz3_7 : w2.cell? ⟨gb439, 7, none⟩ = some (.int .i64 a0_7) := (blk_cell BK439.out 7).trans rfl; have hcz3_8 : w2.cell? ⟨gb439, 8, none⟩ = some (.int .i64 a0_8) := (blk_cell BK439.out 8).trans rfl; have hcz3_9 : w2.cell? ⟨gb439, 9, none⟩ = some (.int .i64 a0_9) := (blk_cell BK439.out 9).trans rfl; have hcz3_10 : w2.cell? ⟨gb439, 10, none⟩ = some (.int .i64 a0_10) := (blk_cell BK439.out 10).trans rfl; have hcz3_11 : w2.cell? ⟨gb439, 11, none⟩ = some (.slice A0_11 l0_11.length c0_11) := (blk_cell BK439.out 11).trans rfl; have hfz3_0 := blk_frozen BK439.out 0; have hfz3_1 := blk_frozen BK439.out 1; have hfz3_2 := blk_frozen BK439.out 2; have hfz3_3 := blk_frozen BK439.out 3; have hfz3_4 := blk_frozen BK439.out 4; have hfz3_5 := blk_frozen BK439.out 5; have hfz3_6 := blk_frozen BK439.out 6; have hfz3_7 := blk_frozen BK439.out 7; have hfz3_8 := blk_frozen BK439.out 8; have hfz3_9 := blk_frozen BK439.out 9; have hfz3_10 := blk_frozen BK439.out 10; have hfz3_11 := blk_frozen BK439.out 11))
  go_ret
  exact ⟨by first | rfl | (simp [errW_none, errW_some] <;> rfl) | (simp [*, errW_none, errW_some] <;> rfl), by repeat (first | (with_reducible first | exact HB.out | apply below_alloc | apply pw_below_drewN | apply below_drew1 | refine below_set ?_ GE439.out) | exact HB.out)⟩

end Go.Proofs.Ytjmkpcnekghmhaa.PAll
end
section
namespace Go.Proofs.Ytjmkpcnekghmhaa.PAll
open Go.RowKit Go.Proofs.YtjmkpcnekghmhaaW.PrintWords Go.Proofs.YtjmkpcnekghmhaaW.PrintLast Go.Proofs.YtjmkpcnekghmhaaW.PrintMore
attribute [local go_sem] max2_int min2_int max_two min_two max_three min_three max_four min_four   -- for this text's walks alone
set_option linter.unusedVariables false
set_option linter.unusedSimpArgs false

def slices_IndexFunc_Job__snap_fits_2.l0 : Nat → List (S100) → Int → Int → Option (Int)
  | 0, _, _, _ => none
  | k + 1, x0, x7, x8 => if x8 < x7 then (if 0 ≤ x8 then (if x8 < (x0.length : Int) then ((snap_fits_2.f ((rd_T100 x0 x8).f0) ((rd_T100 x0 x8).f1) ((rd_T100 x0 x8).f2) ((rd_T100 x0 x8).f3) ((rd_T100 x0 x8).f4) ((rd_T100 x0 x8).f5) ((rd_T100 x0 x8).f6) ((rd_T100 x0 x8).f7) ((rd_T100 x0 x8).f8) ((rd_T100 x0 x8).f9) ((rd_T100 x0 x8).f10) ((rd_T100 x0 x8).f11)).bind fun t441 => (if t441 = true then (some x8) else (slices_IndexFunc_Job__snap_fits_2.l0 k x0 x7 (wrap64 (x8 + 1))))) else (none)) else (none)) else (some (-1))
def slices_IndexFunc_Job__snap_fits_2.f (k : Nat) (l0 : List (S100))  : Option (Int) := slices_IndexFunc_Job__snap_fits_2.l0 k l0 (l0.length : Int) 0
theorem slices_IndexFunc_Job__snap_fits_2.mono_l : ∀ k, (∀ y0 y1 y2, LeO (slices_IndexFunc_Job__snap_fits_2.l0 k y0 y1 y2) (slices_IndexFunc_Job__snap_fits_2.l0 (k + 1) y0 y1 y2))
  | 0 => fun _ _ _ r h => by simp [slices_IndexFunc_Job__snap_fits_2.l0] at h
  | k + 1 => by
    have ih0 := slices_IndexFunc_Job__snap_fits_2.mono_l k
    · intro y0 y1 y2
      unfold slices_IndexFunc_Job__snap_fits_2.l0
      repeat' first
      | (with_reducible exact ih0 _ _ _)
      | (with_reducible exact LeO.refl _)
      | (with_reducible exact LeO.none _)
      | (with_reducible refine LeO.ite ?_ ?_)
      | (with_reducible refine LeO.bind ?_ (fun _ => ?_))
      | exact ih0 _ _ _
      | exact LeO.none _
      | refine LeO.ite ?_ ?_
      | refine LeO.bind ?_ (fun _ => ?_)
theorem slices_IndexFunc_Job__snap_fits_2.mono : ∀ a0 k, LeO (slices_IndexFunc_Job__snap_fits_2.f k a0) (slices_IndexFunc_Job__snap_fits_2.f (k + 1) a0) := by
  intro a0 k
  have ih0 := slices_IndexFunc_Job__snap_fits_2.mono_l k
  unfold slices_IndexFunc_Job__snap_fits_2.f
  repeat' first
      | (with_reducible exact ih0 _ _ _)
      | (with_reducible exact LeO.refl _)
      | (with_reducible exact LeO.none _)
      | (with_reducible refine LeO.ite ?_ ?_)
      | (with_reducible refine LeO.bind ?_ (fun _ => ?_))
      | exact ih0 _ _ _
      | exact LeO.none _
      | refine LeO.ite ?_ ?_
      | refine LeO.bind ?_ (fun _ => ?_)
set_option maxHeartbeats 8000000 in
set_option maxRecDepth 100000 in
theorem slices_IndexFunc_Job__snap_fits_2.calls (k : Nat) (A0 : Option Addr) (c0 : Nat) (l0 : List (S100))  (r : Int) (w : World) (hr0 : Kd.C k100 w A0 l0.length l0) (hc0 : l0.length ≤ c0) (h : slices_IndexFunc_Job__snap_fits_2.f k l0 = some r) :
    Calls Try.prog 77 #[.slice A0 l0.length c0, .func (.func 71) #[] #[]] w fun e w' => e = .returned (.int .i64 r) ∧ Below w.heap.size w w' := by
  have hu100 := Try.underlying100
  have HR0 := Aside0.mk hr0
  have HC0 := Aside0.mk hc0
  clear hr0 hc0
  have HB := Aside0.mk (Below.refl w.heap.size w)
  have H : (slices_IndexFunc_Job__snap_fits_2.l0 k l0 (l0.length : Int) 0) = some r := h
  clear h
  have H' := Aside0.mk H
  clear H
  go_enter Try.func77, Try.ntmps77
  go_wp2
  go_loopg [8] k (fun kq v8 w' => ∃ (x8_1 : Int), v8 = .int .i64 x8_1 ∧ Aside0 (slices_IndexFunc_Job__snap_fits_2.l0 kq l0 (l0.length : Int) x8_1 = some r) ∧ Aside0 (kq ≤ k) ∧ Aside0 (Below w.heap.size w w'))
  case atStart => exact ⟨(0), (by first | rfl | (simp; done) | (simp [*]; done)), H', ⟨Nat.le_refl _⟩, ⟨by repeat (first | (with_reducible first | exact HB.out | apply below_alloc | apply pw_below_drewN | apply below_drew1) | exact HB.out)⟩⟩
  case round =>
    clear H'
    try clear p2
    obtain ⟨x8_1, rfl, HA, HK1, HB⟩ := hrel
    cases gk with
    | zero => exact absurd HA.out (by simp [slices_IndexFunc_Job__snap_fits_2.l0])
    | succ k1 =>
      have H := HA.out
      clear HA
      simp only [slices_IndexFunc_Job__snap_fits_2.l0] at H
      by_cases c3 : x8_1 < (l0.length : Int)
      · rw [if_pos c3] at H
        have c3b0 : decide (x8_1 < (l0.length : Int)) = true := decide_eq_true c3
        clear c3
        by_cases c4 : 0 ≤ x8_1
        · rw [if_pos c4] at H
          have c4b0 : decide (0 ≤ x8_1) = true := decide_eq_true c4
          clear c4
          by_cases c5 : x8_1 < (l0.length : Int)
          · rw [if_pos c5] at H
            have c5b0 : decide (x8_1 < (l0.length : Int)) = true := decide_eq_true c5
            clear c5
            replace H := Option.bind_eq_some_iff.mp H
            obtain ⟨t441, A60, H⟩ := H
            replace H : (if t441 = true then (some x8_1) else (slices_IndexFunc_Job__snap_fits_2.l0 k1 l0 (l0.length : Int) (wrap64 (x8_1 + 1)))) = some r := H
            have A6 := Aside0.mk A60
            clear A60
            by_cases c7 : t441 = true
            · subst c7
              have H1 : (some x8_1) = some r := by rw [if_pos rfl] at H; exact H
              clear H
              have H := H1
              clear H1
              obtain rfl := Option.some.inj H
              have p440 : 0 ≤ (x8_1 : Int) := of_decide_eq_true (by first | (with_reducible assumption) | assumption)
              have q440 : x8_1 < (l0.length : Int) := of_decide_eq_true (by first | (with_reducible assumption) | assumption)
              obtain ⟨ad440, A440_11, c440_11, e440, hx440_0, hx440_1, hx440_2, hx440_3, hx440_4, hx440_5, hx440_6, hx440_7, hx440_8, hx440_9, hx440_10, hx440_11, hl440_11, hi440_11⟩ := at_T100 HR0.out x8_1 p440 q440
              cases e440
              replace hx440_0 := (HB.out.cell (World.block_lt_of_cell? w _ hx440_0)).trans hx440_0
              replace hx440_1 := (HB.out.cell (World.block_lt_of_cell? w _ hx440_1)).trans hx440_1
              replace hx440_2 := (HB.out.cell (World.block_lt_of_cell? w _ hx440_2)).trans hx440_2
              replace hx440_3 := (HB.out.cell (World.block_lt_of_cell? w _ hx440_3)).trans hx440_3
              replace hx440_4 := (HB.out.cell (World.block_lt_of_cell? w _ hx440_4)).trans hx440_4
              replace hx440_5 := (HB.out.cell (World.block_lt_of_cell? w _ hx440_5)).trans hx440_5
              replace hx440_6 := (HB.out.cell (World.block_lt_of_cell? w _ hx440_6)).trans hx440_6
              replace hx440_7 := (HB.out.cell (World.block_lt_of_cell? w _ hx440_7)).trans hx440_7
              replace hx440_8 := (HB.out.cell (World.block_lt_of_cell? w _ hx440_8)).trans hx440_8
              replace hx440_9 := (HB.out.cell (World.block_lt_of_cell? w _ hx440_9)).trans hx440_9
              replace hx440_10 := (HB.out.cell (World.block_lt_of_cell? w _ hx440_10)).trans hx440_10
              replace hx440_11 := (HB.out.cell (World.block_lt_of_cell? w _ hx440_11)).trans hx440_11
              have HR440_11 := Aside0.mk hi440_11
              have HC440_11 := Aside0.mk hl440_11
              clear hi440_11 hl440_11
              replace p440 := eq_true p440
              replace q440 := eq_true q440
              go_wp2_with (first | (go_at_call 71; (with_reducible refine (snap_fits_2.calls ((rd_T100 l0 x8_1).f0) ((rd_T100 l0 x8_1).f1) ((rd_T100 l0 x8_1).f2) ((rd_T100 l0 x8_1).f3) ((rd_T100 l0 x8_1).f4) ((rd_T100 l0 x8_1).f5) ((rd_T100 l0 x8_1).f6) ((rd_T100 l0 x8_1).f7) ((rd_T100 l0 x8_1).f8) ((rd_T100 l0 x8_1).f9) ((rd_T100 l0 x8_1).f10) _ _ ((rd_T100 l0 x8_1).f11) true _ ?side1 ?side2 A6.out).mono ?_); (case side1 => repeat (first | exact (Kd.C_below HR440_11.out HB.out) | (with_reducible refine Kd.C_alloc ?_ _) | (with_reducible refine Kd.C_drewN ?_ _) | (with_reducible refine Kd.C_drew ?_))); (case side2 => exact HC440_11.out); rintro e w8 ⟨rfl, hb⟩; have n0_ := Aside0.mk (below_step (by repeat (first | (with_reducible first | exact HB.out | apply below_alloc | apply pw_below_drewN | apply below_drew1) | exact HB.out)) hb); clear HB; have HB := n0_; clear n0_; (try clear hb); (try clear hb2); (try clear hk); (try clear hi)))
              go_ret
              exact ⟨by first | rfl | (simp [errW_none, errW_some] <;> rfl) | (simp [*, errW_none, errW_some] <;> rfl), by repeat (first | (with_reducible first | exact HB.out | apply below_alloc | apply pw_below_drewN | apply below_drew1) | exact HB.out)⟩
            · replace c7 := Bool.eq_false_iff.mpr c7
              subst c7
              have H1 : (slices_IndexFunc_Job__snap_fits_2.l0 k1 l0 (l0.length : Int) (wrap64 (x8_1 + 1))) = some r := by rw [if_neg (show ¬ (false = true) by decide)] at H; exact H
              clear H
              have H := H1
              clear H1
              have H' := Aside0.mk H
              clear H
              have p440 : 0 ≤ (x8_1 : Int) := of_decide_eq_true (by first | (with_reducible assumption) | assumption)
              have q440 : x8_1 < (l0.length : Int) := of_decide_eq_true (by first | (with_reducible assumption) | assumption)
              obtain ⟨ad440, A440_11, c440_11, e440, hx440_0, hx440_1, hx440_2, hx440_3, hx440_4, hx440_5, hx440_6, hx440_7, hx440_8, hx440_9, hx440_10, hx440_11, hl440_11, hi440_11⟩ := at_T100 HR0.out x8_1 p440 q440
              cases e440
              replace hx440_0 := (HB.out.cell (World.block_lt_of_cell? w _ hx440_0)).trans hx440_0
              replace hx440_1 := (HB.out.cell (World.block_lt_of_cell? w _ hx440_1)).trans hx440_1
              replace hx440_2 := (HB.out.cell (World.block_lt_of_cell? w _ hx440_2)).trans hx440_2
              replace hx440_3 := (HB.out.cell (World.block_lt_of_cell? w _ hx440_3)).trans hx440_3
              replace hx440_4 := (HB.out.cell (World.block_lt_of_cell? w _ hx440_4)).trans hx440_4
              replace hx440_5 := (HB.out.cell (World.block_lt_of_cell? w _ hx440_5)).trans hx440_5
              replace hx440_6 := (HB.out.cell (World.block_lt_of_cell? w _ hx440_6)).trans hx440_6
              replace hx440_7 := (HB.out.cell (World.block_lt_of_cell? w _ hx440_7)).trans hx440_7
              replace hx440_8 := (HB.out.cell (World.block_lt_of_cell? w _ hx440_8)).trans hx440_8
              replace hx440_9 := (HB.out.cell (World.block_lt_of_cell? w _ hx440_9)).trans hx440_9
              replace hx440_10 := (HB.out.cell (World.block_lt_of_cell? w _ hx440_10)).trans hx440_10
              replace hx440_11 := (HB.out.cell (World.block_lt_of_cell? w _ hx440_11)).trans hx440_11
              have HR440_11 := Aside0.mk hi440_11
              have HC440_11 := Aside0.mk hl440_11
              clear hi440_11 hl440_11
              replace p440 := eq_true p440
              replace q440 := eq_true q440
              go_wp2_with (first | (go_at_call 71; (with_reducible refine (snap_fits_2.calls ((rd_T100 l0 x8_1).f0) ((rd_T100 l0 x8_1).f1) ((rd_T100 l0 x8_1).f2) ((rd_T100 l0 x8_1).f3) ((rd_T100 l0 x8_1).f4) ((rd_T100 l0 x8_1).f5) ((rd_T100 l0 x8_1).f6) ((rd_T100 l0 x8_1).f7) ((rd_T100 l0 x8_1).f8) ((rd_T100 l0 x8_1).f9) ((rd_T100 l0 x8_1).f10) _ _ ((rd_T100 l0 x8_1).f11) false _ ?side1 ?side2 A6.out).mono ?_); (case side1 => repeat (first | exact (Kd.C_below HR440_11.out HB.out) | (with_reducible refine Kd.C_alloc ?_ _) | (with_reducible refine Kd.C_drewN ?_ _) | (with_reducible refine Kd.C_drew ?_))); (case side2 => exact HC440_11.out); rintro e w9 ⟨rfl, hb⟩; have n0_ := Aside0.mk (below_step (by repeat (first | (with_reducible first | exact HB.out | apply below_alloc | apply pw_below_drewN | apply below_drew1) | exact HB.out)) hb); clear HB; have HB := n0_; clear n0_; (try clear hb); (try clear hb2); (try clear hk); (try clear hi)))
              go_roundg k1
              case measure => have := HK1.out; omega
              case rel => exact ⟨(wrap64 (x8_1 + 1)), (by first | rfl | (simp; done) | (simp [*]; done)), H', ⟨by have := HK1.out; omega⟩, ⟨by repeat (first | (with_reducible first | exact HB.out | apply below_alloc | apply pw_below_drewN | apply below_drew1) | exact HB.out)⟩⟩
          · rw [if_neg c5] at H
            exact absurd H (by simp)
        · rw [if_neg c4] at H
          exact absurd H (by simp)
      · rw [if_neg c3] at H
        have c3b0 : decide (x8_1 < (l0.length : Int)) = false := decide_eq_false c3
        clear c3
        obtain rfl := Option.some.inj H
        go_wp2
        go_ret
        exact ⟨by first | rfl | (simp [errW_none, errW_some] <;> rfl) | (simp [*, errW_none, errW_some] <;> rfl), by repeat (first | (with_reducible first | exact HB.out | apply below_alloc | apply pw_below_drewN | apply below_drew1) | exact HB.out)⟩

end Go.Proofs.Ytjmkpcnekghmhaa.PAll
end
section
namespace Go.Proofs.Ytjmkpcnekghmhaa.PAll
open Go.RowKit Go.Proofs.YtjmkpcnekghmhaaW.PrintWords Go.Proofs.YtjmkpcnekghmhaaW.PrintLast Go.Proofs.YtjmkpcnekghmhaaW.PrintMore
attribute [local go_sem] max2_int min2_int max_two min_two max_three min_three max_four min_four   -- for this text's walks alone
set_option linter.unusedVariables false
set_option linter.unusedSimpArgs false

def slices_ContainsFunc_Job__snap_fits_2.f (k : Nat) (l0 : List (S100))  : Option (Bool) := (slices_IndexFunc_Job__snap_fits_2.f k l0).bind fun t442 => (some (decide (t442 ≥ 0)))
theorem slices_ContainsFunc_Job__snap_fits_2.mono : ∀ a0 k, LeO (slices_ContainsFunc_Job__snap_fits_2.f k a0) (slices_ContainsFunc_Job__snap_fits_2.f (k + 1) a0) := by
  intro a0 k
  unfold slices_ContainsFunc_Job__snap_fits_2.f
  repeat' first
      | (with_reducible exact slices_IndexFunc_Job__snap_fits_2.mono _ _)
      | (with_reducible exact LeO.refl _)
      | (with_reducible exact LeO.none _)
      | (with_reducible refine LeO.ite ?_ ?_)
      | (with_reducible refine LeO.bind ?_ (fun _ => ?_))
      | exact slices_IndexFunc_Job__snap_fits_2.mono _ _
      | exact LeO.none _
      | refine LeO.ite ?_ ?_
      | refine LeO.bind ?_ (fun _ => ?_)
set_option maxHeartbeats 8000000 in
set_option maxRecDepth 100000 in
theorem slices_ContainsFunc_Job__snap_fits_2.calls (k : Nat) (A0 : Option Addr) (c0 : Nat) (l0 : List (S100))  (r : Bool) (w : World) (hr0 : Kd.C k100 w A0 l0.length l0) (hc0 : l0.length ≤ c0) (h : slices_ContainsFunc_Job__snap_fits_2.f k l0 = some r) :
    Calls Try.prog 70 #[.slice A0 l0.length c0, .func (.func 71) #[] #[]] w fun e w' => e = .returned (.bool r) ∧ Below w.heap.size w w' := by
  have HR0 := Aside0.mk hr0
  have HC0 := Aside0.mk hc0
  clear hr0 hc0
  have HB := Aside0.mk (Below.refl w.heap.size w)
  have H : ((slices_IndexFunc_Job__snap_fits_2.f k l0).bind fun t442 => (some (decide (t442 ≥ 0)))) = some r := h
  clear h
  replace H := Option.bind_eq_some_iff.mp H
  obtain ⟨t442, A30, H⟩ := H
  replace H : (some (decide (t442 ≥ 0))) = some r := H
  have A3 := Aside0.mk A30
  clear A30
  obtain rfl := Option.some.inj H
  go_enter Try.func70, Try.ntmps70
  go_wp2_with (first | ((with_reducible refine gate_callee (f := 77) rfl ?_); refine goesL_ (some 7) rfl rfl Try.func77 (by kernel_rfl) rfl #[.slice A0 l0.length c0, .func (.func 71) #[] #[]] rfl (by (try simp only [List.map_toArray, List.map_cons, List.map_nil]); first | done | rfl | (simp only [List.length_drop, List.length_take]; rfl)) ?_; (with_reducible refine (slices_IndexFunc_Job__snap_fits_2.calls k _ _ l0  t442 _ ?side1 ?side2 A3.out).mono ?_); (case side1 => repeat (first | exact HR0.out | (with_reducible refine Kd.C_alloc ?_ _) | (with_reducible refine Kd.C_drewN ?_ _) | (with_reducible refine Kd.C_drew ?_))); (case side2 => exact HC0.out); rintro e w4 ⟨rfl, hb⟩; refine ⟨_, rfl, ?_⟩; have n0_ := Aside0.mk (below_step (by repeat (first | (with_reducible first | exact HB.out | apply below_alloc | apply pw_below_drewN | apply below_drew1) | exact HB.out)) hb); clear HB; have HB := n0_; clear n0_; (try clear hb); (try clear hb2); (try clear hk); (try clear hi)))
  go_ret
  exact ⟨by first | rfl | (simp [errW_none, errW_some] <;> rfl) | (simp [*, errW_none, errW_some] <;> rfl), by repeat (first | (with_reducible first | exact HB.out | apply below_alloc | apply pw_below_drewN | apply below_drew1) | exact HB.out)⟩

end Go.Proofs.Ytjmkpcnekghmhaa.PAll
end
section
namespace Go.Proofs.Ytjmkpcnekghmhaa.PAll
open Go.RowKit Go.Proofs.YtjmkpcnekghmhaaW.PrintWords Go.Proofs.YtjmkpcnekghmhaaW.PrintLast Go.Proofs.YtjmkpcnekghmhaaW.PrintMore
attribute [local go_sem] max2_int min2_int max_two min_two max_three min_three max_four min_four   -- for this text's walks alone
set_option linter.unusedVariables false
set_option linter.unusedSimpArgs false

def snap_fits_3.f (a0 : ByteArray) : Option (Bool) := some (decide ((a0.size : Int) > 16))
set_option maxHeartbeats 8000000 in
set_option maxRecDepth 100000 in
theorem snap_fits_3.calls (a0 : ByteArray) (r : Bool) (w : World) (h : snap_fits_3.f a0 = some r) :
    Calls Try.prog 73 #[.string a0] w fun e w' => e = .returned (.bool r) ∧ Drawn0 w w' := by
  have H : (some (decide ((a0.size : Int) > 16))) = some r := h
  clear h
  obtain rfl := Option.some.inj H
  go_enter Try.func73, Try.ntmps73
  go_wp2
  go_ret
  exact ⟨by first | rfl | (simp; done) | (simp [*]; done), by repeat (first | exact Drawn0.refl _ | apply Drawn0.step)⟩

end Go.Proofs.Ytjmkpcnekghmhaa.PAll
end
section
namespace Go.Proofs.Ytjmkpcnekghmhaa.PAll
open Go.RowKit Go.Proofs.YtjmkpcnekghmhaaW.PrintWords Go.Proofs.YtjmkpcnekghmhaaW.PrintLast Go.Proofs.YtjmkpcnekghmhaaW.PrintMore
attribute [local go_sem] max2_int min2_int max_two min_two max_three min_three max_four min_four   -- for this text's walks alone
set_option linter.unusedVariables false
set_option linter.unusedSimpArgs false

def slices_IndexFunc_string__snap_fits_3.l0 : Nat → List ByteArray → Int → Int → Option (Int)
  | 0, _, _, _ => none
  | k + 1, x0, x7, x8 => if x8 < x7 then (if 0 ≤ x8 then (if x8 < (x0.length : Int) then ((snap_fits_3.f (rdOf ByteArray.empty x0 x8)).bind fun t441 => (if t441 = true then (some x8) else (slices_IndexFunc_string__snap_fits_3.l0 k x0 x7 (wrap64 (x8 + 1))))) else (none)) else (none)) else (some (-1))
def slices_IndexFunc_string__snap_fits_3.f (k : Nat) (l0 : List ByteArray)  : Option (Int) := slices_IndexFunc_string__snap_fits_3.l0 k l0 (l0.length : Int) 0
theorem slices_IndexFunc_string__snap_fits_3.mono_l : ∀ k, (∀ y0 y1 y2, LeO (slices_IndexFunc_string__snap_fits_3.l0 k y0 y1 y2) (slices_IndexFunc_string__snap_fits_3.l0 (k + 1) y0 y1 y2))
  | 0 => fun _ _ _ r h => by simp [slices_IndexFunc_string__snap_fits_3.l0] at h
  | k + 1 => by
    have ih0 := slices_IndexFunc_string__snap_fits_3.mono_l k
    · intro y0 y1 y2
      unfold slices_IndexFunc_string__snap_fits_3.l0
      repeat' first
      | (with_reducible exact ih0 _ _ _)
      | (with_reducible exact LeO.refl _)
      | (with_reducible exact LeO.none _)
      | (with_reducible refine LeO.ite ?_ ?_)
      | (with_reducible refine LeO.bind ?_ (fun _ => ?_))
      | exact ih0 _ _ _
      | exact LeO.none _
      | refine LeO.ite ?_ ?_
      | refine LeO.bind ?_ (fun _ => ?_)
theorem slices_IndexFunc_string__snap_fits_3.mono : ∀ a0 k, LeO (slices_IndexFunc_string__snap_fits_3.f k a0) (slices_IndexFunc_string__snap_fits_3.f (k + 1) a0) := by
  intro a0 k
  have ih0 := slices_IndexFunc_string__snap_fits_3.mono_l k
  unfold slices_IndexFunc_string__snap_fits_3.f
  repeat' first
      | (with_reducible exact ih0 _ _ _)
      | (with_reducible exact LeO.refl _)
      | (with_reducible exact LeO.none _)
      | (with_reducible refine LeO.ite ?_ ?_)
      | (with_reducible refine LeO.bind ?_ (fun _ => ?_))
      | exact ih0 _ _ _
      | exact LeO.none _
      | refine LeO.ite ?_ ?_
      | refine LeO.bind ?_ (fun _ => ?_)
set_option maxHeartbeats 8000000 in
set_option maxRecDepth 100000 in
theorem slices_IndexFunc_string__snap_fits_3.calls (k : Nat) (A0 : Option Addr) (c0 : Nat) (l0 : List ByteArray)  (r : Int) (w : World) (hr0 : Kd.C Kd.string w A0 l0.length l0) (hc0 : l0.length ≤ c0) (h : slices_IndexFunc_string__snap_fits_3.f k l0 = some r) :
    Calls Try.prog 78 #[.slice A0 l0.length c0, .func (.func 73) #[] #[]] w fun e w' => e = .returned (.int .i64 r) ∧ Drawn0 w w' := by
  have HR0 := Aside0.mk hr0
  have HC0 := Aside0.mk hc0
  clear hr0 hc0
  have H : (slices_IndexFunc_string__snap_fits_3.l0 k l0 (l0.length : Int) 0) = some r := h
  clear h
  have H' := Aside0.mk H
  clear H
  go_enter Try.func78, Try.ntmps78
  go_wp2
  go_loopg [8] k (fun kq v8 w' => ∃ (x8_1 : Int), v8 = .int .i64 x8_1 ∧ Aside0 (slices_IndexFunc_string__snap_fits_3.l0 kq l0 (l0.length : Int) x8_1 = some r) ∧ Aside0 (kq ≤ k) ∧ Drawn0 w w')
  case atStart => exact ⟨(0), (by first | rfl | (simp; done) | (simp [*]; done)), H', ⟨Nat.le_refl _⟩, by repeat (first | exact Drawn0.refl _ | apply Drawn0.step)⟩
  case round =>
    clear H'
    try clear p2
    obtain ⟨x8_1, rfl, HA, HK1, ⟨m1, rfl⟩⟩ := hrel
    cases gk with
    | zero => exact absurd HA.out (by simp [slices_IndexFunc_string__snap_fits_3.l0])
    | succ k1 =>
      have H := HA.out
      clear HA
      simp only [slices_IndexFunc_string__snap_fits_3.l0] at H
      by_cases c3 : x8_1 < (l0.length : Int)
      · rw [if_pos c3] at H
        have c3b0 : decide (x8_1 < (l0.length : Int)) = true := decide_eq_true c3
        clear c3
        by_cases c4 : 0 ≤ x8_1
        · rw [if_pos c4] at H
          have c4b0 : decide (0 ≤ x8_1) = true := decide_eq_true c4
          clear c4
          by_cases c5 : x8_1 < (l0.length : Int)
          · rw [if_pos c5] at H
            have c5b0 : decide (x8_1 < (l0.length : Int)) = true := decide_eq_true c5
            clear c5
            replace H := Option.bind_eq_some_iff.mp H
            obtain ⟨t441, A60, H⟩ := H
            replace H : (if t441 = true then (some x8_1) else (slices_IndexFunc_string__snap_fits_3.l0 k1 l0 (l0.length : Int) (wrap64 (x8_1 + 1)))) = some r := H
            have A6 := Aside0.mk A60
            clear A60
            by_cases c7 : t441 = true
            · subst c7
              have H1 : (some x8_1) = some r := by rw [if_pos rfl] at H; exact H
              clear H
              have H := H1
              clear H1
              obtain rfl := Option.some.inj H
              have p440 : 0 ≤ (x8_1 : Int) := of_decide_eq_true (by first | (with_reducible assumption) | assumption)
              have q440 : x8_1 < (l0.length : Int) := of_decide_eq_true (by first | (with_reducible assumption) | assumption)
              obtain ⟨ad440, e440, hx440_0⟩ := Kd.at_string HR0.out x8_1 p440 q440
              cases e440
              replace p440 := eq_true p440
              replace q440 := eq_true q440
              go_wp2_with (first | (go_at_call 73; (with_reducible refine (snap_fits_3.calls (rdOf ByteArray.empty l0 x8_1) true _ A6.out).mono ?_); rintro e w' ⟨rfl, ⟨nd, rfl⟩⟩))
              go_ret
              exact ⟨by first | rfl | (simp; done) | (simp [*]; done), by repeat (first | exact Drawn0.refl _ | apply Drawn0.step)⟩
            · replace c7 := Bool.eq_false_iff.mpr c7
              subst c7
              have H1 : (slices_IndexFunc_string__snap_fits_3.l0 k1 l0 (l0.length : Int) (wrap64 (x8_1 + 1))) = some r := by rw [if_neg (show ¬ (false = true) by decide)] at H; exact H
              clear H
              have H := H1
              clear H1
              have H' := Aside0.mk H
              clear H
              have p440 : 0 ≤ (x8_1 : Int) := of_decide_eq_true (by first | (with_reducible assumption) | assumption)
              have q440 : x8_1 < (l0.length : Int) := of_decide_eq_true (by first | (with_reducible assumption) | assumption)
              obtain ⟨ad440, e440, hx440_0⟩ := Kd.at_string HR0.out x8_1 p440 q440
              cases e440
              replace p440 := eq_true p440
              replace q440 := eq_true q440
              go_wp2_with (first | (go_at_call 73; (with_reducible refine (snap_fits_3.calls (rdOf ByteArray.empty l0 x8_1) false _ A6.out).mono ?_); rintro e w' ⟨rfl, ⟨nd, rfl⟩⟩))
              go_roundg k1
              case measure => have := HK1.out; omega
              case rel => exact ⟨(wrap64 (x8_1 + 1)), (by first | rfl | (simp; done) | (simp [*]; done)), H', ⟨by have := HK1.out; omega⟩, by repeat (first | exact Drawn0.refl _ | apply Drawn0.step)⟩
          · rw [if_neg c5] at H
            exact absurd H (by simp)
        · rw [if_neg c4] at H
          exact absurd H (by simp)
      · rw [if_neg c3] at H
        have c3b0 : decide (x8_1 < (l0.length : Int)) = false := decide_eq_false c3
        clear c3
        obtain rfl := Option.some.inj H
        go_wp2
        go_ret
        exact ⟨by first | rfl | (simp; done) | (simp [*]; done), by repeat (first | exact Drawn0.refl _ | apply Drawn0.step)⟩

end Go.Proofs.Ytjmkpcnekghmhaa.PAll
end
section
namespace Go.Proofs.Ytjmkpcnekghmhaa.PAll
open Go.RowKit Go.Proofs.YtjmkpcnekghmhaaW.PrintWords Go.Proofs.YtjmkpcnekghmhaaW.PrintLast Go.Proofs.YtjmkpcnekghmhaaW.PrintMore
attribute [local go_sem] max2_int min2_int max_two min_two max_three min_three max_four min_four   -- for this text's walks alone
set_option linter.unusedVariables false
set_option linter.unusedSimpArgs false

def slices_ContainsFunc_string__snap_fits_3.f (k : Nat) (l0 : List ByteArray)  : Option (Bool) := (slices_IndexFunc_string__snap_fits_3.f k l0).bind fun t442 => (some (decide (t442 ≥ 0)))
theorem slices_ContainsFunc_string__snap_fits_3.mono : ∀ a0 k, LeO (slices_ContainsFunc_string__snap_fits_3.f k a0) (slices_ContainsFunc_string__snap_fits_3.f (k + 1) a0) := by
  intro a0 k
  unfold slices_ContainsFunc_string__snap_fits_3.f
  repeat' first
      | (with_reducible exact slices_IndexFunc_string__snap_fits_3.mono _ _)
      | (with_reducible exact LeO.refl _)
      | (with_reducible exact LeO.none _)
      | (with_reducible refine LeO.ite ?_ ?_)
      | (with_reducible refine LeO.bind ?_ (fun _ => ?_))
      | exact slices_IndexFunc_string__snap_fits_3.mono _ _
      | exact LeO.none _
      | refine LeO.ite ?_ ?_
      | refine LeO.bind ?_ (fun _ => ?_)
set_option maxHeartbeats 8000000 in
set_option maxRecDepth 100000 in
theorem slices_ContainsFunc_string__snap_fits_3.calls (k : Nat) (A0 : Option Addr) (c0 : Nat) (l0 : List ByteArray)  (r : Bool) (w : World) (hr0 : Kd.C Kd.string w A0 l0.length l0) (hc0 : l0.length ≤ c0) (h : slices_ContainsFunc_string__snap_fits_3.f k l0 = some r) :
    Calls Try.prog 72 #[.slice A0 l0.length c0, .func (.func 73) #[] #[]] w fun e w' => e = .returned (.bool r) ∧ Drawn0 w w' := by
  have HR0 := Aside0.mk hr0
  have HC0 := Aside0.mk hc0
  clear hr0 hc0
  have H : ((slices_IndexFunc_string__snap_fits_3.f k l0).bind fun t442 => (some (decide (t442 ≥ 0)))) = some r := h
  clear h
  replace H := Option.bind_eq_some_iff.mp H
  obtain ⟨t442, A30, H⟩ := H
  replace H : (some (decide (t442 ≥ 0))) = some r := H
  have A3 := Aside0.mk A30
  clear A30
  obtain rfl := Option.some.inj H
  go_enter Try.func72, Try.ntmps72
  go_wp2_with (first | ((with_reducible refine gate_callee (f := 78) rfl ?_); refine goesL_ (some 7) rfl rfl Try.func78 (by kernel_rfl) rfl #[.slice A0 l0.length c0, .func (.func 73) #[] #[]] rfl (by (try simp only [List.map_toArray, List.map_cons, List.map_nil]); first | done | rfl | (simp only [List.length_drop, List.length_take]; rfl)) ?_; (with_reducible refine (slices_IndexFunc_string__snap_fits_3.calls k _ _ l0  t442 _ ?side1 ?side2 A3.out).mono ?_); (case side1 => repeat (first | exact HR0.out | (with_reducible refine Kd.C_alloc ?_ _) | (with_reducible refine Kd.C_drewN ?_ _) | (with_reducible refine Kd.C_drew ?_))); (case side2 => exact HC0.out); rintro e w' ⟨rfl, ⟨nd, rfl⟩⟩; refine ⟨_, rfl, ?_⟩))
  go_ret
  exact ⟨by first | rfl | (simp; done) | (simp [*]; done), by repeat (first | exact Drawn0.refl _ | apply Drawn0.step)⟩

end Go.Proofs.Ytjmkpcnekghmhaa.PAll
end
section
namespace Go.Proofs.Ytjmkpcnekghmhaa.PAll
open Go.RowKit Go.Proofs.YtjmkpcnekghmhaaW.PrintWords Go.Proofs.YtjmkpcnekghmhaaW.PrintLast Go.Proofs.YtjmkpcnekghmhaaW.PrintMore
attribute [local go_sem] max2_int min2_int max_two min_two max_three min_three max_four min_four   -- for this text's walks alone
set_option linter.unusedVariables false
set_option linter.unusedSimpArgs false

def snap_fits.j0 : Nat → Bool → Int → Int → Int → List (S93) → List (S95) → List (S97) → List (S100) → List ByteArray → Option (Bool)
  | 0, _, _, _, _, _, _, _, _, _ => none
  | k + 1, x30, x444000, x444001, x444002, x444003, x444004, x444005, x444006, x444007 => if x30 = true then (some false) else ((slices_ContainsFunc_Fund__snap_fits_1.f k x444003).bind fun t444 => (if t444 = true then (some false) else ((slices_ContainsFunc_Job__snap_fits_2.f k x444006).bind fun t445 => (if t445 = true then (some false) else ((slices_ContainsFunc_string__snap_fits_3.f k x444007).bind fun t446 => (some (!t446)))))))
def snap_fits.f (k : Nat) (a0_0 : Int) (a0_1 : Int) (a0_2 : Int) (l0_3 : List (S93)) (l0_4 : List (S95)) (l0_5 : List (S97)) (l0_6 : List (S100)) (l0_7 : List ByteArray) : Option (Bool) := if (l0_3.length : Int) > 8 then (snap_fits.j0 k true a0_0 a0_1 a0_2 l0_3 l0_4 l0_5 l0_6 l0_7) else (if (l0_4.length : Int) > 16 then (snap_fits.j0 k true a0_0 a0_1 a0_2 l0_3 l0_4 l0_5 l0_6 l0_7) else (if (l0_5.length : Int) > 16 then (snap_fits.j0 k true a0_0 a0_1 a0_2 l0_3 l0_4 l0_5 l0_6 l0_7) else (if (l0_6.length : Int) > 16 then (snap_fits.j0 k true a0_0 a0_1 a0_2 l0_3 l0_4 l0_5 l0_6 l0_7) else (snap_fits.j0 k (decide ((l0_7.length : Int) > 8)) a0_0 a0_1 a0_2 l0_3 l0_4 l0_5 l0_6 l0_7))))
theorem snap_fits.mono_l : ∀ k, (∀ y0 y1 y2 y3 y4 y5 y6 y7 y8, LeO (snap_fits.j0 k y0 y1 y2 y3 y4 y5 y6 y7 y8) (snap_fits.j0 (k + 1) y0 y1 y2 y3 y4 y5 y6 y7 y8))
  | 0 => fun _ _ _ _ _ _ _ _ _ r h => by simp [snap_fits.j0] at h
  | k + 1 => by
    have ih0 := snap_fits.mono_l k
    · intro y0 y1 y2 y3 y4 y5 y6 y7 y8
      unfold snap_fits.j0
      repeat' first
      | (with_reducible exact ih0 _ _ _ _ _ _ _ _ _)
      | (with_reducible exact slices_ContainsFunc_Fund__snap_fits_1.mono _ _)
      | (with_reducible exact slices_ContainsFunc_Job__snap_fits_2.mono _ _)
      | (with_reducible exact slices_ContainsFunc_string__snap_fits_3.mono _ _)
      | (with_reducible exact LeO.refl _)
      | (with_reducible exact LeO.none _)
      | (with_reducible refine LeO.ite ?_ ?_)
      | (with_reducible refine LeO.bind ?_ (fun _ => ?_))
      | exact ih0 _ _ _ _ _ _ _ _ _
      | exact slices_ContainsFunc_Fund__snap_fits_1.mono _ _
      | exact slices_ContainsFunc_Job__snap_fits_2.mono _ _
      | exact slices_ContainsFunc_string__snap_fits_3.mono _ _
      | exact LeO.none _
      | refine LeO.ite ?_ ?_
      | refine LeO.bind ?_ (fun _ => ?_)
theorem snap_fits.mono : ∀ a0 a1 a2 a3 a4 a5 a6 a7 k, LeO (snap_fits.f k a0 a1 a2 a3 a4 a5 a6 a7) (snap_fits.f (k + 1) a0 a1 a2 a3 a4 a5 a6 a7) := by
  intro a0 a1 a2 a3 a4 a5 a6 a7 k
  have ih0 := snap_fits.mono_l k
  unfold snap_fits.f
  repeat' first
      | (with_reducible exact ih0 _ _ _ _ _ _ _ _ _)
      | (with_reducible exact slices_ContainsFunc_Fund__snap_fits_1.mono _ _)
      | (with_reducible exact slices_ContainsFunc_Job__snap_fits_2.mono _ _)
      | (with_reducible exact slices_ContainsFunc_string__snap_fits_3.mono _ _)
      | (with_reducible exact LeO.refl _)
      | (with_reducible exact LeO.none _)
      | (with_reducible refine LeO.ite ?_ ?_)
      | (with_reducible refine LeO.bind ?_ (fun _ => ?_))
      | exact ih0 _ _ _ _ _ _ _ _ _
      | exact slices_ContainsFunc_Fund__snap_fits_1.mono _ _
      | exact slices_ContainsFunc_Job__snap_fits_2.mono _ _
      | exact slices_ContainsFunc_string__snap_fits_3.mono _ _
      | exact LeO.none _
      | refine LeO.ite ?_ ?_
      | refine LeO.bind ?_ (fun _ => ?_)
set_option maxHeartbeats 8000000 in
set_option maxRecDepth 100000 in
theorem snap_fits.calls (k : Nat) (a0_0 : Int) (a0_1 : Int) (a0_2 : Int) (A0_3 : Option Addr) (c0_3 : Nat) (l0_3 : List (S93)) (A0_4 : Option Addr) (c0_4 : Nat) (l0_4 : List (S95)) (A0_5 : Option Addr) (c0_5 : Nat) (l0_5 : List (S97)) (A0_6 : Option Addr) (c0_6 : Nat) (l0_6 : List (S100)) (A0_7 : Option Addr) (c0_7 : Nat) (l0_7 : List ByteArray) (r : Bool) (w : World) (hr0_3 : Kd.C k93 w A0_3 l0_3.length l0_3) (hc0_3 : l0_3.length ≤ c0_3) (hr0_4 : Kd.C k95 w A0_4 l0_4.length l0_4) (hc0_4 : l0_4.length ≤ c0_4) (hr0_5 : Kd.C k97 w A0_5 l0_5.length l0_5) (hc0_5 : l0_5.length ≤ c0_5) (hr0_6 : Kd.C k100 w A0_6 l0_6.length l0_6) (hc0_6 : l0_6.length ≤ c0_6) (hr0_7 : Kd.C Kd.string w A0_7 l0_7.length l0_7) (hc0_7 : l0_7.length ≤ c0_7) (h : snap_fits.f k a0_0 a0_1 a0_2 l0_3 l0_4 l0_5 l0_6 l0_7 = some r) :
    Calls Try.prog 48 #[.agg #[.int .i64 a0_0, .int .i64 a0_1, .int .i64 a0_2, .slice A0_3 l0_3.length c0_3, .slice A0_4 l0_4.length c0_4, .slice A0_5 l0_5.length c0_5, .slice A0_6 l0_6.length c0_6, .slice A0_7 l0_7.length c0_7]] w fun e w' => e = .returned (.bool r) ∧ Below w.heap.size w w' := by
  have hu67 := Try.underlying67
  have HR0_3 := Aside0.mk hr0_3
  have HC0_3 := Aside0.mk hc0_3
  clear hr0_3 hc0_3
  have HR0_4 := Aside0.mk hr0_4
  have HC0_4 := Aside0.mk hc0_4
  clear hr0_4 hc0_4
  have HR0_5 := Aside0.mk hr0_5
  have HC0_5 := Aside0.mk hc0_5
  clear hr0_5 hc0_5
  have HR0_6 := Aside0.mk hr0_6
  have HC0_6 := Aside0.mk hc0_6
  clear hr0_6 hc0_6
  have HR0_7 := Aside0.mk hr0_7
  have HC0_7 := Aside0.mk hc0_7
  clear hr0_7 hc0_7
  have HB := Aside0.mk (Below.refl w.heap.size w)
  have H : (if (l0_3.length : Int) > 8 then (snap_fits.j0 k true a0_0 a0_1 a0_2 l0_3 l0_4 l0_5 l0_6 l0_7) else (if (l0_4.length : Int) > 16 then (snap_fits.j0 k true a0_0 a0_1 a0_2 l0_3 l0_4 l0_5 l0_6 l0_7) else (if (l0_5.length : Int) > 16 then (snap_fits.j0 k true a0_0 a0_1 a0_2 l0_3 l0_4 l0_5 l0_6 l0_7) else (if (l0_6.length : Int) > 16 then (snap_fits.j0 k true a0_0 a0_1 a0_2 l0_3 l0_4 l0_5 l0_6 l0_7) else (snap_fits.j0 k (decide ((l0_7.length : Int) > 8)) a0_0 a0_1 a0_2 l0_3 l0_4 l0_5 l0_6 l0_7))))) = some r := h
  clear h
  have HC2 := Aside0.mk H
  clear H
  go_enter Try.func48, Try.ntmps48
  go_upto_region 1 with (first | ((with_reducible refine gate_dst (N := 1) rfl ?_); refine box_event ?hg (N := 1) ?hd (cs := #[.int .i64 a0_0, .int .i64 a0_1, .int .i64 a0_2, .slice A0_3 l0_3.length c0_3, .slice A0_4 l0_4.length c0_4, .slice A0_5 l0_5.length c0_5, .slice A0_6 l0_6.length c0_6, .slice A0_7 l0_7.length c0_7]) (t := 67) ?hr ?_; (case hd => rfl); (case hg => rfl); (case hr => first | (go_simp; done) | (go_simp; rfl)); intro gb443 hg w3 hbox hb; have n0_ := Aside0.mk (below_step (by repeat (first | (with_reducible first | exact HB.out | apply below_alloc | apply pw_below_drewN | apply below_drew1) | exact HB.out)) hb); have n1_ := Aside0.mk (hbox); have n2_ := Aside0.mk ((by rw [hg]; exact (below_size (by repeat (first | (with_reducible first | exact HB.out | apply below_alloc | apply pw_below_drewN | apply below_drew1) | exact HB.out))) : w.heap.size ≤ gb443)); have n3_ := Aside0.mk ((by rw [hg]; exact (below_size (by repeat (first | (with_reducible first | exact HB.out | apply below_alloc | apply pw_below_drewN | apply below_drew1) | exact HB.out))) : w.heap.size ≤ gb443)); clear HB; have HB := n0_; have BK443 := n1_; have GW443 := n2_; have GE443 := n3_; clear n0_ n1_ n2_ n3_; clear hb hbox hg))
  (try simp only [Act.put, List.setIfInBounds_toArray, List.set_cons_zero, List.set_cons_succ])
  go_cut [30] (fun v30 wc => ∃ (kq : Nat) (x30_1 : Bool), v30 = .bool x30_1 ∧ Aside0 (snap_fits.j0 kq x30_1 a0_0 a0_1 a0_2 l0_3 l0_4 l0_5 l0_6 l0_7 = some r) ∧ Aside0 (kq ≤ k) ∧ Aside0 (wc.heap[gb443]? = some (.cells #[.int .i64 a0_0, .int .i64 a0_1, .int .i64 a0_2, (.slice A0_3 l0_3.length c0_3), (.slice A0_4 l0_4.length c0_4), (.slice A0_5 l0_5.length c0_5), (.slice A0_6 l0_6.length c0_6), (.slice A0_7 l0_7.length c0_7)] 67 (0, 0))) ∧ Aside0 (Below w.heap.size w wc))
  case first =>
    have H := HC2.out
    clear HC2
    by_cases c4 : (l0_3.length : Int) > 8
    · rw [if_pos c4] at H
      have c4b0 : decide (8 < (l0_3.length : Int)) = true := decide_eq_true c4
      have c4b1 : decide (8 < l0_3.length) = true := decide_eq_true (by omega)
      clear c4
      (first | rw [c4b0] | (simp only [i64_w, i32_w]; rw [c4b0]) | skip)
      have H' := Aside0.mk H
      clear H
      have hcz5_0 : w3.cell? ⟨gb443, 0, none⟩ = some (.int .i64 a0_0) := (blk_cell BK443.out 0).trans rfl
      have hcz5_1 : w3.cell? ⟨gb443, 1, none⟩ = some (.int .i64 a0_1) := (blk_cell BK443.out 1).trans rfl
      have hcz5_2 : w3.cell? ⟨gb443, 2, none⟩ = some (.int .i64 a0_2) := (blk_cell BK443.out 2).trans rfl
      have hcz5_3 : w3.cell? ⟨gb443, 3, none⟩ = some (.slice A0_3 l0_3.length c0_3) := (blk_cell BK443.out 3).trans rfl
      have hcz5_4 : w3.cell? ⟨gb443, 4, none⟩ = some (.slice A0_4 l0_4.length c0_4) := (blk_cell BK443.out 4).trans rfl
      have hcz5_5 : w3.cell? ⟨gb443, 5, none⟩ = some (.slice A0_5 l0_5.length c0_5) := (blk_cell BK443.out 5).trans rfl
      have hcz5_6 : w3.cell? ⟨gb443, 6, none⟩ = some (.slice A0_6 l0_6.length c0_6) := (blk_cell BK443.out 6).trans rfl
      have hcz5_7 : w3.cell? ⟨gb443, 7, none⟩ = some (.slice A0_7 l0_7.length c0_7) := (blk_cell BK443.out 7).trans rfl
      have hfz5_0 := blk_frozen BK443.out 0
      have hfz5_1 := blk_frozen BK443.out 1
      have hfz5_2 := blk_frozen BK443.out 2
      have hfz5_3 := blk_frozen BK443.out 3
      have hfz5_4 := blk_frozen BK443.out 4
      have hfz5_5 := blk_frozen BK443.out 5
      have hfz5_6 := blk_frozen BK443.out 6
      have hfz5_7 := blk_frozen BK443.out 7
      go_wp2
      go_meet
      case rel => exact ⟨_, (true), (by first | rfl | (simp; done) | (simp [*]; done)), H', ⟨by first | omega | exact Nat.le_refl _⟩, ⟨by (with_reducible repeat first | apply blk_drewN | apply blk_drew | apply blk_alloc); exact BK443.out⟩, ⟨by repeat (first | (with_reducible first | exact HB.out | apply below_alloc | apply pw_below_drewN | apply below_drew1 | refine below_set ?_ GE443.out) | exact HB.out)⟩⟩
    · rw [if_neg c4] at H
      have c4b0 : decide (8 < (l0_3.length : Int)) = false := decide_eq_false c4
      have c4b1 : decide (8 < l0_3.length) = false := decide_eq_false (by omega)
      clear c4
      (first | rw [c4b0] | (simp only [i64_w, i32_w]; rw [c4b0]) | skip)
      by_cases c6 : (l0_4.length : Int) > 16
      · rw [if_pos c6] at H
        have c6b0 : decide (16 < (l0_4.length : Int)) = true := decide_eq_true c6
        have c6b1 : decide (16 < l0_4.length) = true := decide_eq_true (by omega)
        clear c6
        have H' := Aside0.mk H
        clear H
        have hcz7_0 : w3.cell? ⟨gb443, 0, none⟩ = some (.int .i64 a0_0) := (blk_cell BK443.out 0).trans rfl
        have hcz7_1 : w3.cell? ⟨gb443, 1, none⟩ = some (.int .i64 a0_1) := (blk_cell BK443.out 1).trans rfl
        have hcz7_2 : w3.cell? ⟨gb443, 2, none⟩ = some (.int .i64 a0_2) := (blk_cell BK443.out 2).trans rfl
        have hcz7_3 : w3.cell? ⟨gb443, 3, none⟩ = some (.slice A0_3 l0_3.length c0_3) := (blk_cell BK443.out 3).trans rfl
        have hcz7_4 : w3.cell? ⟨gb443, 4, none⟩ = some (.slice A0_4 l0_4.length c0_4) := (blk_cell BK443.out 4).trans rfl
        have hcz7_5 : w3.cell? ⟨gb443, 5, none⟩ = some (.slice A0_5 l0_5.length c0_5) := (blk_cell BK443.out 5).trans rfl
        have hcz7_6 : w3.cell? ⟨gb443, 6, none⟩ = some (.slice A0_6 l0_6.length c0_6) := (blk_cell BK443.out 6).trans rfl
        have hcz7_7 : w3.cell? ⟨gb443, 7, none⟩ = some (.slice A0_7 l0_7.length c0_7) := (blk_cell BK443.out 7).trans rfl
        have hfz7_0 := blk_frozen BK443.out 0
        have hfz7_1 := blk_frozen BK443.out 1
        have hfz7_2 := blk_frozen BK443.out 2
        have hfz7_3 := blk_frozen BK443.out 3
        have hfz7_4 := blk_frozen BK443.out 4
        have hfz7_5 := blk_frozen BK443.out 5
        have hfz7_6 := blk_frozen BK443.out 6
        have hfz7_7 := blk_frozen BK443.out 7
        go_wp2
        go_meet
        case rel => exact ⟨_, (true), (by first | rfl | (simp; done) | (simp [*]; done)), H', ⟨by first | omega | exact Nat.le_refl _⟩, ⟨by (with_reducible repeat first | apply blk_drewN | apply blk_drew | apply blk_alloc); exact BK443.out⟩, ⟨by repeat (first | (with_reducible first | exact HB.out | apply below_alloc | apply pw_below_drewN | apply below_drew1 | refine below_set ?_ GE443.out) | exact HB.out)⟩⟩
      · rw [if_neg c6] at H
        have c6b0 : decide (16 < (l0_4.length : Int)) = false := decide_eq_false c6
        have c6b1 : decide (16 < l0_4.length) = false := decide_eq_false (by omega)
        clear c6
        by_cases c8 : (l0_5.length : Int) > 16
        · rw [if_pos c8] at H
          have c8b0 : decide (16 < (l0_5.length : Int)) = true := decide_eq_true c8
          have c8b1 : decide (16 < l0_5.length) = true := decide_eq_true (by omega)
          clear c8
          have H' := Aside0.mk H
          clear H
          have hcz9_0 : w3.cell? ⟨gb443, 0, none⟩ = some (.int .i64 a0_0) := (blk_cell BK443.out 0).trans rfl
          have hcz9_1 : w3.cell? ⟨gb443, 1, none⟩ = some (.int .i64 a0_1) := (blk_cell BK443.out 1).trans rfl
          have hcz9_2 : w3.cell? ⟨gb443, 2, none⟩ = some (.int .i64 a0_2) := (blk_cell BK443.out 2).trans rfl
          have hcz9_3 : w3.cell? ⟨gb443, 3, none⟩ = some (.slice A0_3 l0_3.length c0_3) := (blk_cell BK443.out 3).trans rfl
          have hcz9_4 : w3.cell? ⟨gb443, 4, none⟩ = some (.slice A0_4 l0_4.length c0_4) := (blk_cell BK443.out 4).trans rfl
          have hcz9_5 : w3.cell? ⟨gb443, 5, none⟩ = some (.slice A0_5 l0_5.length c0_5) := (blk_cell BK443.out 5).trans rfl
          have hcz9_6 : w3.cell? ⟨gb443, 6, none⟩ = some (.slice A0_6 l0_6.length c0_6) := (blk_cell BK443.out 6).trans rfl
          have hcz9_7 : w3.cell? ⟨gb443, 7, none⟩ = some (.slice A0_7 l0_7.length c0_7) := (blk_cell BK443.out 7).trans rfl
          have hfz9_0 := blk_frozen BK443.out 0
          have hfz9_1 := blk_frozen BK443.out 1
          have hfz9_2 := blk_frozen BK443.out 2
          have hfz9_3 := blk_frozen BK443.out 3
          have hfz9_4 := blk_frozen BK443.out 4
          have hfz9_5 := blk_frozen BK443.out 5
          have hfz9_6 := blk_frozen BK443.out 6
          have hfz9_7 := blk_frozen BK443.out 7
          go_wp2
          go_meet
          case rel => exact ⟨_, (true), (by first | rfl | (simp; done) | (simp [*]; done)), H', ⟨by first | omega | exact Nat.le_refl _⟩, ⟨by (with_reducible repeat first | apply blk_drewN | apply blk_drew | apply blk_alloc); exact BK443.out⟩, ⟨by repeat (first | (with_reducible first | exact HB.out | apply below_alloc | apply pw_below_drewN | apply below_drew1 | refine below_set ?_ GE443.out) | exact HB.out)⟩⟩
        · rw [if_neg c8] at H
          have c8b0 : decide (16 < (l0_5.length : Int)) = false := decide_eq_false c8
          have c8b1 : decide (16 < l0_5.length) = false := decide_eq_false (by omega)
          clear c8
          by_cases c10 : (l0_6.length : Int) > 16
          · rw [if_pos c10] at H
            have c10b0 : decide (16 < (l0_6.length : Int)) = true := decide_eq_true c10
            have c10b1 : decide (16 < l0_6.length) = true := decide_eq_true (by omega)
            clear c10
            have H' := Aside0.mk H
            clear H
            have hcz11_0 : w3.cell? ⟨gb443, 0, none⟩ = some (.int .i64 a0_0) := (blk_cell BK443.out 0).trans rfl
            have hcz11_1 : w3.cell? ⟨gb443, 1, none⟩ = some (.int .i64 a0_1) := (blk_cell BK443.out 1).trans rfl
            have hcz11_2 : w3.cell? ⟨gb443, 2, none⟩ = some (.int .i64 a0_2) := (blk_cell BK443.out 2).trans rfl
            have hcz11_3 : w3.cell? ⟨gb443, 3, none⟩ = some (.slice A0_3 l0_3.length c0_3) := (blk_cell BK443.out 3).trans rfl
            have hcz11_4 : w3.cell? ⟨gb443, 4, none⟩ = some (.slice A0_4 l0_4.length c0_4) := (blk_cell BK443.out 4).trans rfl
            have hcz11_5 : w3.cell? ⟨gb443, 5, none⟩ = some (.slice A0_5 l0_5.length c0_5) := (blk_cell BK443.out 5).trans rfl
            have hcz11_6 : w3.cell? ⟨gb443, 6, none⟩ = some (.slice A0_6 l0_6.length c0_6) := (blk_cell BK443.out 6).trans rfl
            have hcz11_7 : w3.cell? ⟨gb443, 7, none⟩ = some (.slice A0_7 l0_7.length c0_7) := (blk_cell BK443.out 7).trans rfl
            have hfz11_0 := blk_frozen BK443.out 0
            have hfz11_1 := blk_frozen BK443.out 1
            have hfz11_2 := blk_frozen BK443.out 2
            have hfz11_3 := blk_frozen BK443.out 3
            have hfz11_4 := blk_frozen BK443.out 4
            have hfz11_5 := blk_frozen BK443.out 5
            have hfz11_6 := blk_frozen BK443.out 6
            have hfz11_7 := blk_frozen BK443.out 7
            go_wp2
            go_meet
            case rel => exact ⟨_, (true), (by first | rfl | (simp; done) | (simp [*]; done)), H', ⟨by first | omega | exact Nat.le_refl _⟩, ⟨by (with_reducible repeat first | apply blk_drewN | apply blk_drew | apply blk_alloc); exact BK443.out⟩, ⟨by repeat (first | (with_reducible first | exact HB.out | apply below_alloc | apply pw_below_drewN | apply below_drew1 | refine below_set ?_ GE443.out) | exact HB.out)⟩⟩
          · rw [if_neg c10] at H
            have c10b0 : decide (16 < (l0_6.length : Int)) = false := decide_eq_false c10
            have c10b1 : decide (16 < l0_6.length) = false := decide_eq_false (by omega)
            clear c10
            have H' := Aside0.mk H
            clear H
            have hcz12_0 : w3.cell? ⟨gb443, 0, none⟩ = some (.int .i64 a0_0) := (blk_cell BK443.out 0).trans rfl
            have hcz12_1 : w3.cell? ⟨gb443, 1, none⟩ = some (.int .i64 a0_1) := (blk_cell BK443.out 1).trans rfl
            have hcz12_2 : w3.cell? ⟨gb443, 2, none⟩ = some (.int .i64 a0_2) := (blk_cell BK443.out 2).trans rfl
            have hcz12_3 : w3.cell? ⟨gb443, 3, none⟩ = some (.slice A0_3 l0_3.length c0_3) := (blk_cell BK443.out 3).trans rfl
            have hcz12_4 : w3.cell? ⟨gb443, 4, none⟩ = some (.slice A0_4 l0_4.length c0_4) := (blk_cell BK443.out 4).trans rfl
            have hcz12_5 : w3.cell? ⟨gb443, 5, none⟩ = some (.slice A0_5 l0_5.length c0_5) := (blk_cell BK443.out 5).trans rfl
            have hcz12_6 : w3.cell? ⟨gb443, 6, none⟩ = some (.slice A0_6 l0_6.length c0_6) := (blk_cell BK443.out 6).trans rfl
            have hcz12_7 : w3.cell? ⟨gb443, 7, none⟩ = some (.slice A0_7 l0_7.length c0_7) := (blk_cell BK443.out 7).trans rfl
            have hfz12_0 := blk_frozen BK443.out 0
            have hfz12_1 := blk_frozen BK443.out 1
            have hfz12_2 := blk_frozen BK443.out 2
            have hfz12_3 := blk_frozen BK443.out 3
            have hfz12_4 := blk_frozen BK443.out 4
            have hfz12_5 := blk_frozen BK443.out 5
            have hfz12_6 := blk_frozen BK443.out 6
            have hfz12_7 := blk_frozen BK443.out 7
            go_wp2
            go_meet
            case rel => exact ⟨_, (decide ((l0_7.length : Int) > 8)), (by first | rfl | (simp; done) | (simp [*]; done)), H', ⟨by first | omega | exact Nat.le_refl _⟩, ⟨by (with_reducible repeat first | apply blk_drewN | apply blk_drew | apply blk_alloc); exact BK443.out⟩, ⟨by repeat (first | (with_reducible first | exact HB.out | apply below_alloc | apply pw_below_drewN | apply below_drew1 | refine below_set ?_ GE443.out) | exact HB.out)⟩⟩
  case rest =>
    clear HC2
    try clear c1
    try clear p2
    try clear c4
    try clear c4b0
    try clear c4b1
    try clear c6
    try clear c6b0
    try clear c6b1
    try clear c8
    try clear c8b0
    try clear c8b1
    try clear c10
    try clear c10b0
    try clear c10b1
    try clear hcz11_0
    try clear hcz11_1
    try clear hcz11_2
    try clear hcz11_3
    try clear hcz11_4
    try clear hcz11_5
    try clear hcz11_6
    try clear hcz11_7
    try clear hcz12_0
    try clear hcz12_1
    try clear hcz12_2
    try clear hcz12_3
    try clear hcz12_4
    try clear hcz12_5
    try clear hcz12_6
    try clear hcz12_7
    try clear hcz5_0
    try clear hcz5_1
    try clear hcz5_2
    try clear hcz5_3
    try clear hcz5_4
    try clear hcz5_5
    try clear hcz5_6
    try clear hcz5_7
    try clear hcz7_0
    try clear hcz7_1
    try clear hcz7_2
    try clear hcz7_3
    try clear hcz7_4
    try clear hcz7_5
    try clear hcz7_6
    try clear hcz7_7
    try clear hcz9_0
    try clear hcz9_1
    try clear hcz9_2
    try clear hcz9_3
    try clear hcz9_4
    try clear hcz9_5
    try clear hcz9_6
    try clear hcz9_7
    try clear hfz11_0
    try clear hfz11_1
    try clear hfz11_2
    try clear hfz11_3
    try clear hfz11_4
    try clear hfz11_5
    try clear hfz11_6
    try clear hfz11_7
    try clear hfz12_0
    try clear hfz12_1
    try clear hfz12_2
    try clear hfz12_3
    try clear hfz12_4
    try clear hfz12_5
    try clear hfz12_6
    try clear hfz12_7
    try clear hfz5_0
    try clear hfz5_1
    try clear hfz5_2
    try clear hfz5_3
    try clear hfz5_4
    try clear hfz5_5
    try clear hfz5_6
    try clear hfz5_7
    try clear hfz7_0
    try clear hfz7_1
    try clear hfz7_2
    try clear hfz7_3
    try clear hfz7_4
    try clear hfz7_5
    try clear hfz7_6
    try clear hfz7_7
    try clear hfz9_0
    try clear hfz9_1
    try clear hfz9_2
    try clear hfz9_3
    try clear hfz9_4
    try clear hfz9_5
    try clear hfz9_6
    try clear hfz9_7
    obtain ⟨kq, x30_1, rfl, HA, HJ1, BK443, HB⟩ := hcut
    cases kq with
    | zero => exact absurd HA.out (by simp [snap_fits.j0])
    | succ kj1 =>
      have H := HA.out
      clear HA
      simp only [snap_fits.j0] at H
      by_cases c13 : x30_1 = true
      · subst c13
        have H1 : (some false) = some r := by rw [if_pos rfl] at H; exact H
        clear H
        have H := H1
        clear H1
        obtain rfl := Option.some.inj H
        go_wp2
        go_ret
        exact ⟨by first | rfl | (simp [errW_none, errW_some] <;> rfl) | (simp [*, errW_none, errW_some] <;> rfl), by repeat (first | (with_reducible first | exact HB.out | apply below_alloc | apply pw_below_drewN | apply below_drew1 | refine below_set ?_ GE443.out) | exact HB.out)⟩
      · replace c13 := Bool.eq_false_iff.mpr c13
        subst c13
        have H1 : ((slices_ContainsFunc_Fund__snap_fits_1.f kj1 l0_3).bind fun t444 => (if t444 = true then (some false) else ((slices_ContainsFunc_Job__snap_fits_2.f kj1 l0_6).bind fun t445 => (if t445 = true then (some false) else ((slices_ContainsFunc_string__snap_fits_3.f kj1 l0_7).bind fun t446 => (some (!t446))))))) = some r := by rw [if_neg (show ¬ (false = true) by decide)] at H; exact H
        clear H
        have H := H1
        clear H1
        replace H := Option.bind_eq_some_iff.mp H
        obtain ⟨t444, A140, H⟩ := H
        replace H : (if t444 = true then (some false) else ((slices_ContainsFunc_Job__snap_fits_2.f kj1 l0_6).bind fun t445 => (if t445 = true then (some false) else ((slices_ContainsFunc_string__snap_fits_3.f kj1 l0_7).bind fun t446 => (some (!t446)))))) = some r := H
        have A14 := Aside0.mk A140
        clear A140
        by_cases c15 : t444 = true
        · subst c15
          have H1 : (some false) = some r := by rw [if_pos rfl] at H; exact H
          clear H
          have H := H1
          clear H1
          obtain rfl := Option.some.inj H
          have hcz16_0 : wc.cell? ⟨gb443, 0, none⟩ = some (.int .i64 a0_0) := (blk_cell BK443.out 0).trans rfl
          have hcz16_1 : wc.cell? ⟨gb443, 1, none⟩ = some (.int .i64 a0_1) := (blk_cell BK443.out 1).trans rfl
          have hcz16_2 : wc.cell? ⟨gb443, 2, none⟩ = some (.int .i64 a0_2) := (blk_cell BK443.out 2).trans rfl
          have hcz16_3 : wc.cell? ⟨gb443, 3, none⟩ = some (.slice A0_3 l0_3.length c0_3) := (blk_cell BK443.out 3).trans rfl
          have hcz16_4 : wc.cell? ⟨gb443, 4, none⟩ = some (.slice A0_4 l0_4.length c0_4) := (blk_cell BK443.out 4).trans rfl
          have hcz16_5 : wc.cell? ⟨gb443, 5, none⟩ = some (.slice A0_5 l0_5.length c0_5) := (blk_cell BK443.out 5).trans rfl
          have hcz16_6 : wc.cell? ⟨gb443, 6, none⟩ = some (.slice A0_6 l0_6.length c0_6) := (blk_cell BK443.out 6).trans rfl
          have hcz16_7 : wc.cell? ⟨gb443, 7, none⟩ = some (.slice A0_7 l0_7.length c0_7) := (blk_cell BK443.out 7).trans rfl
          have hfz16_0 := blk_frozen BK443.out 0
          have hfz16_1 := blk_frozen BK443.out 1
          have hfz16_2 := blk_frozen BK443.out 2
          have hfz16_3 := blk_frozen BK443.out 3
          have hfz16_4 := blk_frozen BK443.out 4
          have hfz16_5 := blk_frozen BK443.out 5
          have hfz16_6 := blk_frozen BK443.out 6
          have hfz16_7 := blk_frozen BK443.out 7
          go_wp2_with (first | ((with_reducible refine gate_callee (f := 68) rfl ?_); refine goesL_ (some 33) rfl rfl Try.func68 (by kernel_rfl) rfl #[.slice A0_3 l0_3.length c0_3, .func (.func 69) #[] #[]] rfl (by (try simp only [List.map_toArray, List.map_cons, List.map_nil]); first | done | rfl | (simp only [List.length_drop, List.length_take]; rfl)) ?_; (with_reducible refine (slices_ContainsFunc_Fund__snap_fits_1.calls kj1 _ _ l0_3  true _ ?side1 ?side2 A14.out).mono ?_); (case side1 => repeat (first | exact (Kd.C_below HR0_3.out HB.out) | (with_reducible refine Kd.C_alloc ?_ _) | (with_reducible refine Kd.C_drewN ?_ _) | (with_reducible refine Kd.C_drew ?_))); (case side2 => exact HC0_3.out); rintro e w17 ⟨rfl, hb⟩; refine ⟨_, rfl, ?_⟩; have n0_ := Aside0.mk (blk_below (g := gb443) (o := .cells #[.int .i64 a0_0, .int .i64 a0_1, .int .i64 a0_2, .slice A0_3 l0_3.length c0_3, .slice A0_4 l0_4.length c0_4, .slice A0_5 l0_5.length c0_5, .slice A0_6 l0_6.length c0_6, .slice A0_7 l0_7.length c0_7] 67 (0, 0)) (by (with_reducible repeat first | apply blk_drewN | apply blk_drew | apply blk_alloc); exact BK443.out) hb); have n1_ := Aside0.mk (below_step (by repeat (first | (with_reducible first | exact HB.out | apply below_alloc | apply pw_below_drewN | apply below_drew1 | refine below_set ?_ GE443.out) | exact HB.out)) hb); clear BK443; clear HB; have BK443 := n0_; have HB := n1_; clear n0_ n1_; (try clear hb); (try clear hb2); (try clear hk); (try clear hi)))
          go_ret
          exact ⟨by first | rfl | (simp [errW_none, errW_some] <;> rfl) | (simp [*, errW_none, errW_some] <;> rfl), by repeat (first | (with_reducible first | exact HB.out | apply below_alloc | apply pw_below_drewN | apply below_drew1 | refine below_set ?_ GE443.out) | exact HB.out)⟩
        · replace c15 := Bool.eq_false_iff.mpr c15
          subst c15
          have H1 : ((slices_ContainsFunc_Job__snap_fits_2.f kj1 l0_6).bind fun t445 => (if t445 = true then (some false) else ((slices_ContainsFunc_string__snap_fits_3.f kj1 l0_7).bind fun t446 => (some (!t446))))) = some r := by rw [if_neg (show ¬ (false = true) by decide)] at H; exact H
          clear H
          have H := H1
          clear H1
          replace H := Option.bind_eq_some_iff.mp H
          obtain ⟨t445, A180, H⟩ := H
          replace H : (if t445 = true then (some false) else ((slices_ContainsFunc_string__snap_fits_3.f kj1 l0_7).bind fun t446 => (some (!t446)))) = some r := H
          have A18 := Aside0.mk A180
          clear A180
          by_cases c19 : t445 = true
          · subst c19
            have H1 : (some false) = some r := by rw [if_pos rfl] at H; exact H
            clear H
            have H := H1
            clear H1
            obtain rfl := Option.some.inj H
            have hcz20_0 : wc.cell? ⟨gb443, 0, none⟩ = some (.int .i64 a0_0) := (blk_cell BK443.out 0).trans rfl
            have hcz20_1 : wc.cell? ⟨gb443, 1, none⟩ = some (.int .i64 a0_1) := (blk_cell BK443.out 1).trans rfl
            have hcz20_2 : wc.cell? ⟨gb443, 2, none⟩ = some (.int .i64 a0_2) := (blk_cell BK443.out 2).trans rfl
            have hcz20_3 : wc.cell? ⟨gb443, 3, none⟩ = some (.slice A0_3 l0_3.length c0_3) := (blk_cell BK443.out 3).trans rfl
            have hcz20_4 : wc.cell? ⟨gb443, 4, none⟩ = some (.slice A0_4 l0_4.length c0_4) := (blk_cell BK443.out 4).trans rfl
            have hcz20_5 : wc.cell? ⟨gb443, 5, none⟩ = some (.slice A0_5 l0_5.length c0_5) := (blk_cell BK443.out 5).trans rfl
            have hcz20_6 : wc.cell? ⟨gb443, 6, none⟩ = some (.slice A0_6 l0_6.length c0_6) := (blk_cell BK443.out 6).trans rfl
            have hcz20_7 : wc.cell? ⟨gb443, 7, none⟩ = some (.slice A0_7 l0_7.length c0_7) := (blk_cell BK443.out 7).trans rfl
            have hfz20_0 := blk_frozen BK443.out 0
            have hfz20_1 := blk_frozen BK443.out 1
            have hfz20_2 := blk_frozen BK443.out 2
            have hfz20_3 := blk_frozen BK443.out 3
            have hfz20_4 := blk_frozen BK443.out 4
            have hfz20_5 := blk_frozen BK443.out 5
            have hfz20_6 := blk_frozen BK443.out 6
            have hfz20_7 := blk_frozen BK443.out 7
            go_wp2_with (first | ((with_reducible refine gate_callee (f := 68) rfl ?_); refine goesL_ (some 33) rfl rfl Try.func68 (by kernel_rfl) rfl #[.slice A0_3 l0_3.length c0_3, .func (.func 69) #[] #[]] rfl (by (try simp only [List.map_toArray, List.map_cons, List.map_nil]); first | done | rfl | (simp only [List.length_drop, List.length_take]; rfl)) ?_; (with_reducible refine (slices_ContainsFunc_Fund__snap_fits_1.calls kj1 _ _ l0_3  false _ ?side1 ?side2 A14.out).mono ?_); (case side1 => repeat (first | exact (Kd.C_below HR0_3.out HB.out) | (with_reducible refine Kd.C_alloc ?_ _) | (with_reducible refine Kd.C_drewN ?_ _) | (with_reducible refine Kd.C_drew ?_))); (case side2 => exact HC0_3.out); rintro e w21 ⟨rfl, hb⟩; refine ⟨_, rfl, ?_⟩; have n0_ := Aside0.mk (blk_below (g := gb443) (o := .cells #[.int .i64 a0_0, .int .i64 a0_1, .int .i64 a0_2, .slice A0_3 l0_3.length c0_3, .slice A0_4 l0_4.length c0_4, .slice A0_5 l0_5.length c0_5, .slice A0_6 l0_6.length c0_6, .slice A0_7 l0_7.length c0_7] 67 (0, 0)) (by (with_reducible repeat first | apply blk_drewN | apply blk_drew | apply blk_alloc); exact BK443.out) hb); have n1_ := Aside0.mk (below_step (by repeat (first | (with_reducible first | exact HB.out | apply below_alloc | apply pw_below_drewN | apply below_drew1 | refine below_set ?_ GE443.out) | exact HB.out)) hb); clear BK443; clear HB; have BK443 := n0_; have HB := n1_; clear n0_ n1_; (try clear hb); (try clear hb2); (try clear hk); (try clear hi); have hcz22_0 : w21.cell? ⟨gb443, 0, none⟩ = some (.int .i64 a0_0) := (blk_cell BK443.out 0).trans rfl; have hcz22_1 : w21.cell? ⟨gb443, 1, none⟩ = some (.int .i64 a0_1) := (blk_cell BK443.out 1).trans rfl; have hcz22_2 : w21.cell? ⟨gb443, 2, none⟩ = some (.int .i64 a0_2) := (blk_cell BK443.out 2).trans rfl; have hcz22_3 : w21.cell? ⟨gb443, 3, none⟩ = some (.slice A0_3 l0_3.length c0_3) := (blk_cell BK443.out 3).trans rfl; have hcz22_4 : w21.cell? ⟨gb443, 4, none⟩ = some (.slice A0_4 l0_4.length c0_4) := (blk_cell BK443.out 4).trans rfl; have hcz22_5 : w21.cell? ⟨gb443, 5, none⟩ = some (.slice A0_5 l0_5.length c0_5) := (blk_cell BK443.out 5).trans rfl; have hcz22_6 : w21.cell? ⟨gb443, 6, none⟩ = some (.slice A0_6 l0_6.length c0_6) := (blk_cell BK443.out 6).trans rfl; have hcz22_7 : w21.cell? ⟨gb443, 7, none⟩ = some (.slice A0_7 l0_7.length c0_7) := (blk_cell BK443.out 7).trans rfl; have hfz22_0 := blk_frozen BK443.out 0; have hfz22_1 := blk_frozen BK443.out 1; have hfz22_2 := blk_frozen BK443.out 2; have hfz22_3 := blk_frozen BK443.out 3; have hfz22_4 := blk_frozen BK443.out 4; have hfz22_5 := blk_frozen BK443.out 5; have hfz22_6 := blk_frozen BK443.out 6; have hfz22_7 := blk_frozen BK443.out 7) | (go_at_call 70; (with_reducible refine (slices_ContainsFunc_Job__snap_fits_2.calls kj1 _ _ l0_6  true _ ?side1 ?side2 A18.out).mono ?_); (case side1 => repeat (first | exact (Kd.C_below HR0_6.out HB.out) | (with_reducible refine Kd.C_alloc ?_ _) | (with_reducible refine Kd.C_drewN ?_ _) | (with_reducible refine Kd.C_drew ?_))); (case side2 => exact HC0_6.out); rintro e w23 ⟨rfl, hb⟩; have n0_ := Aside0.mk (blk_below (g := gb443) (o := .cells #[.int .i64 a0_0, .int .i64 a0_1, .int .i64 a0_2, .slice A0_3 l0_3.length c0_3, .slice A0_4 l0_4.length c0_4, .slice A0_5 l0_5.length c0_5, .slice A0_6 l0_6.length c0_6, .slice A0_7 l0_7.length c0_7] 67 (0, 0)) (by (with_reducible repeat first | apply blk_drewN | apply blk_drew | apply blk_alloc); exact BK443.out) hb); have n1_ := Aside0.mk (below_step (by repeat (first | (with_reducible first | exact HB.out | apply below_alloc | apply pw_below_drewN | apply below_drew1 | refine below_set ?_ GE443.out) | exact HB.out)) hb); clear BK443; clear HB; have BK443 := n0_; have HB := n1_; clear n0_ n1_; (try clear hb); (try clear hb2); (try clear hk); (try clear hi)))
            go_ret
            exact ⟨by first | rfl | (simp [errW_none, errW_some] <;> rfl) | (simp [*, errW_none, errW_some] <;> rfl), by repeat (first | (with_reducible first | exact HB.out | apply below_alloc | apply pw_below_drewN | apply below_drew1 | refine below_set ?_ GE443.out) | exact HB.out)⟩
          · replace c19 := Bool.eq_false_iff.mpr c19
            subst c19
            have H1 : ((slices_ContainsFunc_string__snap_fits_3.f kj1 l0_7).bind fun t446 => (some (!t446))) = some r := by rw [if_neg (show ¬ (false = true) by decide)] at H; exact H
            clear H
            have H := H1
            clear H1
            replace H := Option.bind_eq_some_iff.mp H
            obtain ⟨t446, A240, H⟩ := H
            replace H : (some (!t446)) = some r := H
            have A24 := Aside0.mk A240
            clear A240
            obtain rfl := Option.some.inj H
            have hcz25_0 : wc.cell? ⟨gb443, 0, none⟩ = some (.int .i64 a0_0) := (blk_cell BK443.out 0).trans rfl
            have hcz25_1 : wc.cell? ⟨gb443, 1, none⟩ = some (.int .i64 a0_1) := (blk_cell BK443.out 1).trans rfl
            have hcz25_2 : wc.cell? ⟨gb443, 2, none⟩ = some (.int .i64 a0_2) := (blk_cell BK443.out 2).trans rfl
            have hcz25_3 : wc.cell? ⟨gb443, 3, none⟩ = some (.slice A0_3 l0_3.length c0_3) := (blk_cell BK443.out 3).trans rfl
            have hcz25_4 : wc.cell? ⟨gb443, 4, none⟩ = some (.slice A0_4 l0_4.length c0_4) := (blk_cell BK443.out 4).trans rfl
            have hcz25_5 : wc.cell? ⟨gb443, 5, none⟩ = some (.slice A0_5 l0_5.length c0_5) := (blk_cell BK443.out 5).trans rfl
            have hcz25_6 : wc.cell? ⟨gb443, 6, none⟩ = some (.slice A0_6 l0_6.length c0_6) := (blk_cell BK443.out 6).trans rfl
            have hcz25_7 : wc.cell? ⟨gb443, 7, none⟩ = some (.slice A0_7 l0_7.length c0_7) := (blk_cell BK443.out 7).trans rfl
            have hfz25_0 := blk_frozen BK443.out 0
            have hfz25_1 := blk_frozen BK443.out 1
            have hfz25_2 := blk_frozen BK443.out 2
            have hfz25_3 := blk_frozen BK443.out 3
            have hfz25_4 := blk_frozen BK443.out 4
            have hfz25_5 := blk_frozen BK443.out 5
            have hfz25_6 := blk_frozen BK443.out 6
            have hfz25_7 := blk_frozen BK443.out 7
            go_wp2_with (first | ((with_reducible refine gate_callee (f := 68) rfl ?_); refine goesL_ (some 33) rfl rfl Try.func68 (by kernel_rfl) rfl #[.slice A0_3 l0_3.length c0_3, .func (.func 69) #[] #[]] rfl (by (try simp only [List.map_toArray, List.map_cons, List.map_nil]); first | done | rfl | (simp only [List.length_drop, List.length_take]; rfl)) ?_; (with_reducible refine (slices_ContainsFunc_Fund__snap_fits_1.calls kj1 _ _ l0_3  false _ ?side1 ?side2 A14.out).mono ?_); (case side1 => repeat (first | exact (Kd.C_below HR0_3.out HB.out) | (with_reducible refine Kd.C_alloc ?_ _) | (with_reducible refine Kd.C_drewN ?_ _) | (with_reducible refine Kd.C_drew ?_))); (case side2 => exact HC0_3.out); rintro e w26 ⟨rfl, hb⟩; refine ⟨_, rfl, ?_⟩; have n0_ := Aside0.mk (blk_below (g := gb443) (o := .cells #[.int .i64 a0_0, .int .i64 a0_1, .int .i64 a0_2, .slice A0_3 l0_3.length c0_3, .slice A0_4 l0_4.length c0_4, .slice A0_5 l0_5.length c0_5, .slice A0_6 l0_6.length c0_6, .slice A0_7 l0_7.length c0_7] 67 (0, 0)) (by (with_reducible repeat first | apply blk_drewN | apply blk_drew | apply blk_alloc); exact BK443.out) hb); have n1_ := Aside0.mk (below_step (by repeat (first | (with_reducible first | exact HB.out | apply below_alloc | apply pw_below_drewN | apply below_drew1 | refine below_set ?_ GE443.out) | exact HB.out)) hb); clear BK443; clear HB; have BK443 := n0_; have HB := n1_; clear n0_ n1_; (try clear hb); (try clear hb2); (try clear hk); (try clear hi); have hcz27_0 : w26.cell? ⟨gb443, 0, none⟩ = some (.int .i64 a0_0) := (blk_cell BK443.out 0).trans rfl; have hcz27_1 : w26.cell? ⟨gb443, 1, none⟩ = some (.int .i64 a0_1) := (blk_cell BK443.out 1).trans rfl; have hcz27_2 : w26.cell? ⟨gb443, 2, none⟩ = some (.int .i64 a0_2) := (blk_cell BK443.out 2).trans rfl; have hcz27_3 : w26.cell? ⟨gb443, 3, none⟩ = some (.slice A0_3 l0_3.length c0_3) := (blk_cell BK443.out 3).trans rfl; have hcz27_4 : w26.cell? ⟨gb443, 4, none⟩ = some (.slice A0_4 l0_4.length c0_4) := (blk_cell BK443.out 4).trans rfl; have hcz27_5 : w26.cell? ⟨gb443, 5, none⟩ = some (.slice A0_5 l0_5.length c0_5) := (blk_cell BK443.out 5).trans rfl; have hcz27_6 : w26.cell? ⟨gb443, 6, none⟩ = some (.slice A0_6 l0_6.length c0_6) := (blk_cell BK443.out 6).trans rfl; have hcz27_7 : w26.cell? ⟨gb443, 7, none⟩ = some (.slice A0_7 l0_7.length c0_7) := (blk_cell BK443.out 7).trans rfl; have hfz27_0 := blk_frozen BK443.out 0; have hfz27_1 := blk_frozen BK443.out 1; have hfz27_2 := blk_frozen BK443.out 2; have hfz27_3 := blk_frozen BK443.out 3; have hfz27_4 := blk_frozen BK443.out 4; have hfz27_5 := blk_frozen BK443.out 5; have hfz27_6 := blk_frozen BK443.out 6; have hfz27_7 := blk_frozen BK443.out 7) | (go_at_call 70; (with_reducible refine (slices_ContainsFunc_Job__snap_fits_2.calls kj1 _ _ l0_6  false _ ?side1 ?side2 A18.out).mono ?_); (case side1 => repeat (first | exact (Kd.C_below HR0_6.out HB.out) | (with_reducible refine Kd.C_alloc ?_ _) | (with_reducible refine Kd.C_drewN ?_ _) | (with_reducible refine Kd.C_drew ?_))); (case side2 => exact HC0_6.out); rintro e w28 ⟨rfl, hb⟩; have n0_ := Aside0.mk (blk_below (g := gb443) (o := .cells #[.int .i64 a0_0, .int .i64 a0_1, .int .i64 a0_2, .slice A0_3 l0_3.length c0_3, .slice A0_4 l0_4.length c0_4, .slice A0_5 l0_5.length c0_5, .slice A0_6 l0_6.length c0_6, .slice A0_7 l0_7.length c0_7] 67 (0, 0)) (by (with_reducible repeat first | apply blk_drewN | apply blk_drew | apply blk_alloc); exact BK443.out) hb); have n1_ := Aside0.mk (below_step (by repeat (first | (with_reducible first | exact HB.out | apply below_alloc | apply pw_below_drewN | apply below_drew1 | refine below_set ?_ GE443.out) | exact HB.out)) hb); clear BK443; clear HB; have BK443 := n0_; have HB := n1_; clear n0_ n1_; (try clear hb); (try clear hb2); (try clear hk); (try clear hi); have hcz29_0 : w28.cell? ⟨gb443, 0, none⟩ = some (.int .i64 a0_0) := (blk_cell BK443.out 0).trans rfl; have hcz29_1 : w28.cell? ⟨gb443, 1, none⟩ = some (.int .i64 a0_1) := (blk_cell BK443.out 1).trans rfl; have hcz29_2 : w28.cell? ⟨gb443, 2, none⟩ = some (.int .i64 a0_2) := (blk_cell BK443.out 2).trans rfl; have hcz29_3 : w28.cell? ⟨gb443, 3, none⟩ = some (.slice A0_3 l0_3.length c0_3) := (blk_cell BK443.out 3).trans rfl; have hcz29_4 : w28.cell? ⟨gb443, 4, none⟩ = some (.slice A0_4 l0_4.length c0_4) := (blk_cell BK443.out 4).trans rfl; have hcz29_5 : w28.cell? ⟨gb443, 5, none⟩ = some (.slice A0_5 l0_5.length c0_5) := (blk_cell BK443.out 5).trans rfl; have hcz29_6 : w28.cell? ⟨gb443, 6, none⟩ = some (.slice A0_6 l0_6.length c0_6) := (blk_cell BK443.out 6).trans rfl; have hcz29_7 : w28.cell? ⟨gb443, 7, none⟩ = some (.slice A0_7 l0_7.length c0_7) := (blk_cell BK443.out 7).trans rfl; have hfz29_0 := blk_frozen BK443.out 0; have hfz29_1 := blk_frozen BK443.out 1; have hfz29_2 := blk_frozen BK443.out 2; have hfz29_3 := blk_frozen BK443.out 3; have hfz29_4 := blk_frozen BK443.out 4; have hfz29_5 := blk_frozen BK443.out 5; have hfz29_6 := blk_frozen BK443.out 6; have hfz29_7 := blk_frozen BK443.out 7) | (go_at_call 72; (with_reducible refine (slices_ContainsFunc_string__snap_fits_3.calls kj1 _ _ l0_7  t446 _ ?side1 ?side2 A24.out).mono ?_); (case side1 => repeat (first | exact (Kd.C_below HR0_7.out HB.out) | (with_reducible refine Kd.C_alloc ?_ _) | (with_reducible refine Kd.C_drewN ?_ _) | (with_reducible refine Kd.C_drew ?_))); (case side2 => exact HC0_7.out); rintro e w' ⟨rfl, ⟨nd, rfl⟩⟩))
            go_ret
            exact ⟨by first | rfl | (simp [errW_none, errW_some] <;> rfl) | (simp [*, errW_none, errW_some] <;> rfl), by repeat (first | (with_reducible first | exact HB.out | apply below_alloc | apply pw_below_drewN | apply below_drew1 | refine below_set ?_ GE443.out) | exact HB.out)⟩

end Go.Proofs.Ytjmkpcnekghmhaa.PAll
end
section
namespace Go.Proofs.Ytjmkpcnekghmhaa.PAll
open Go.RowKit Go.Proofs.YtjmkpcnekghmhaaW.PrintWords Go.Proofs.YtjmkpcnekghmhaaW.PrintLast Go.Proofs.YtjmkpcnekghmhaaW.PrintMore
attribute [local go_sem] max2_int min2_int max_two min_two max_three min_three max_four min_four   -- for this text's walks alone
set_option linter.unusedVariables false
set_option linter.unusedSimpArgs false

mutual
def snap_put.l0 : Nat → List Int → List Int → Int → Int → Option (List Int)
  | 0, _, _, _, _ => none
  | k + 1, x0, x8, x9, x10 => if x10 < x9 then (if 0 ≤ x10 then (if x10 < (x8.length : Int) then (snap_put.l1 k x0 (rd x8 x10) 7 x8 x9 x10) else (none)) else (none)) else (some x0)
def snap_put.l1 : Nat → List Int → Int → Int → List Int → Int → Int → Option (List Int)
  | 0, _, _, _, _, _, _ => none
  | k + 1, x0, x6, x7, x8, x9, x10 => if x7 ≥ 0 then (if 0 ≤ (wrap64 (8 * x7)) then (if x0.length < 140737488355328 then (snap_put.l1 k (x0 ++ [(shr .i64 x6 (wrap64 (8 * x7))) % 256]) x6 (wrap64 (x7 - 1)) x8 x9 x10) else (none)) else (none)) else (snap_put.l0 k x0 x8 x9 (wrap64 (x10 + 1)))
end
def snap_put.f (k : Nat) (l0 : List Int) (l1 : List Int) : Option (List Int) := snap_put.l0 k l0 l1 (l1.length : Int) 0
theorem snap_put.mono_l : ∀ k, (∀ y0 y1 y2 y3, LeO (snap_put.l0 k y0 y1 y2 y3) (snap_put.l0 (k + 1) y0 y1 y2 y3)) ∧ (∀ y0 y1 y2 y3 y4 y5, LeO (snap_put.l1 k y0 y1 y2 y3 y4 y5) (snap_put.l1 (k + 1) y0 y1 y2 y3 y4 y5))
  | 0 => ⟨fun _ _ _ _ r h => by simp [snap_put.l0] at h, fun _ _ _ _ _ _ r h => by simp [snap_put.l1] at h⟩
  | k + 1 => by
    obtain ⟨ih0, ih1⟩ := snap_put.mono_l k
    refine ⟨?_, ?_⟩
    · intro y0 y1 y2 y3
      unfold snap_put.l0
      repeat' first
      | (with_reducible exact ih0 _ _ _ _)
      | (with_reducible exact ih1 _ _ _ _ _ _)
      | (with_reducible exact LeO.refl _)
      | (with_reducible exact LeO.none _)
      | (with_reducible refine LeO.ite ?_ ?_)
      | (with_reducible refine LeO.bind ?_ (fun _ => ?_))
      | exact ih0 _ _ _ _
      | exact ih1 _ _ _ _ _ _
      | exact LeO.none _
      | refine LeO.ite ?_ ?_
      | refine LeO.bind ?_ (fun _ => ?_)
    · intro y0 y1 y2 y3 y4 y5
      unfold snap_put.l1
      repeat' first
      | (with_reducible exact ih0 _ _ _ _)
      | (with_reducible exact ih1 _ _ _ _ _ _)
      | (with_reducible exact LeO.refl _)
      | (with_reducible exact LeO.none _)
      | (with_reducible refine LeO.ite ?_ ?_)
      | (with_reducible refine LeO.bind ?_ (fun _ => ?_))
      | exact ih0 _ _ _ _
      | exact ih1 _ _ _ _ _ _
      | exact LeO.none _
      | refine LeO.ite ?_ ?_
      | refine LeO.bind ?_ (fun _ => ?_)
theorem snap_put.mono : ∀ a0 a1 k, LeO (snap_put.f k a0 a1) (snap_put.f (k + 1) a0 a1) := by
  intro a0 a1 k
  obtain ⟨ih0, ih1⟩ := snap_put.mono_l k
  unfold snap_put.f
  repeat' first
      | (with_reducible exact ih0 _ _ _ _)
      | (with_reducible exact ih1 _ _ _ _ _ _)
      | (with_reducible exact LeO.refl _)
      | (with_reducible exact LeO.none _)
      | (with_reducible refine LeO.ite ?_ ?_)
      | (with_reducible refine LeO.bind ?_ (fun _ => ?_))
      | exact ih0 _ _ _ _
      | exact ih1 _ _ _ _ _ _
      | exact LeO.none _
      | refine LeO.ite ?_ ?_
      | refine LeO.bind ?_ (fun _ => ?_)
set_option maxHeartbeats 8000000 in
set_option maxRecDepth 100000 in
theorem snap_put.calls (k : Nat) (P0_ : Nat → Prop) (u9000_ : Value) (l0 : List Int) (A1 : Option Addr) (c1 : Nat) (l1 : List Int) (r : List Int) (w0 w : World) (hB : Below w0.heap.size w0 w) (ho0 : Kd.R (Kd.int .u8) 5 w w0.heap.size P0_ u9000_ l0) (hr1 : ∀ W_, Kept w W_ (fun k_ => P0_ k_) → Kd.C (Kd.int .i64) W_ A1 l1.length l1) (hc1 : l1.length ≤ c1) (h : snap_put.f k l0 l1 = some r) :
    Calls Try.prog 49 #[u9000_, .slice A1 l1.length c1] w fun e w' => ∃ v0_ : Value, e = .returned (v0_) ∧ Kd.R (Kd.int .u8) 5 w' w0.heap.size (fun k_ => (P0_ k_ ∨ w.heap.size ≤ k_)) v0_ r ∧ Below w0.heap.size w0 w' ∧ Kept w w' (fun k_ => P0_ k_) := by
  have HO0 := Aside0.mk (show Kd.R (Kd.int .u8) 5 w w0.heap.size (fun k_ => (P0_ k_ ∨ w.heap.size ≤ k_)) u9000_ l0 from Kd.R_mono ho0 (fun k_ hk => (.inl hk)))
  have HR1 := Aside0.mk hr1
  have HC1 := Aside0.mk hc1
  clear hr1 hc1
  have HK := Aside0.mk (Kept.refl w (fun k_ => P0_ k_))
  have HW0 := Aside0.mk hB.size
  have HB := Aside0.mk hB
  clear hB
  have H : (snap_put.l0 k l0 l1 (l1.length : Int) 0) = some r := h
  clear h
  have H' := Aside0.mk H
  clear H
  go_enter Try.func49, Try.ntmps49
  go_wp2
  go_loopg [0, 10] k (fun kq v0 v10 w' => ∃ (x0_1 : List Int) (x10_1 : Int), v10 = .int .i64 x10_1 ∧ Aside0 (snap_put.l0 kq x0_1 l1 (l1.length : Int) x10_1 = some r) ∧ Aside0 (kq ≤ k) ∧ Aside0 (Kd.R (Kd.int .u8) 5 w' w0.heap.size (fun k_ => (P0_ k_ ∨ w.heap.size ≤ k_)) v0 x0_1) ∧ Aside0 (Kept w w' (fun k_ => P0_ k_)) ∧ Aside0 (Below w0.heap.size w0 w'))
  case atStart => exact ⟨(l0), (0), (by first | rfl | (simp; done) | (simp [*]; done)), H', ⟨Nat.le_refl _⟩, ⟨by (with_reducible repeat (first | apply Kd.R_alloc | apply Kd.R_drewN | apply Kd.R_drew)); exact HO0.out⟩, ⟨by repeat (first | (with_reducible first | exact HK.out | apply Kept.alloc | apply Kept.drewN | apply Kept.drew) | exact HK.out)⟩, ⟨by repeat (first | (with_reducible first | exact HB.out | apply below_alloc | apply pw_below_drewN | apply below_drew1) | exact HB.out)⟩⟩
  case round =>
    clear H'
    try clear c1
    try clear p2
    obtain ⟨x0_1, x10_1, rfl, HA, HK1, HO_0, HK, HB⟩ := hrel
    cases gk with
    | zero => exact absurd HA.out (by simp [snap_put.l0])
    | succ k1 =>
      have H := HA.out
      clear HA
      simp only [snap_put.l0] at H
      by_cases c3 : x10_1 < (l1.length : Int)
      · rw [if_pos c3] at H
        have c3b0 : decide (x10_1 < (l1.length : Int)) = true := decide_eq_true c3
        clear c3
        by_cases c4 : 0 ≤ x10_1
        · rw [if_pos c4] at H
          have c4b0 : decide (0 ≤ x10_1) = true := decide_eq_true c4
          clear c4
          by_cases c5 : x10_1 < (l1.length : Int)
          · rw [if_pos c5] at H
            have c5b0 : decide (x10_1 < (l1.length : Int)) = true := decide_eq_true c5
            clear c5
            have H' := Aside0.mk H
            clear H
            have p447 : 0 ≤ (x10_1 : Int) := of_decide_eq_true (by first | (with_reducible assumption) | assumption)
            have q447 : x10_1 < (l1.length : Int) := of_decide_eq_true (by first | (with_reducible assumption) | assumption)
            obtain ⟨ad447, e447, hx447_0⟩ := Kd.at_int (Kd.C_kept_now HR1.out HK.out) x10_1 p447 q447
            cases e447
            replace p447 := eq_true p447
            replace q447 := eq_true q447
            go_wp2
            go_loopg [0, 7] k1 (fun kq v0 v7 w' => ∃ (x0_2 : List Int) (x7_2 : Int), v7 = .int .i64 x7_2 ∧ Aside0 (snap_put.l1 kq x0_2 (rd l1 x10_1) x7_2 l1 (l1.length : Int) x10_1 = some r) ∧ Aside0 (kq ≤ k1) ∧ Aside0 (Kd.R (Kd.int .u8) 5 w' w0.heap.size (fun k_ => (P0_ k_ ∨ w.heap.size ≤ k_)) v0 x0_2) ∧ Aside0 (Kept w w' (fun k_ => P0_ k_)) ∧ Aside0 (Below w0.heap.size w0 w'))
            case atStart => exact ⟨(x0_1), (7), (by first | rfl | (simp; done) | (simp [*]; done)), H', ⟨Nat.le_refl _⟩, ⟨by (with_reducible repeat (first | apply Kd.R_alloc | apply Kd.R_drewN | apply Kd.R_drew)); exact HO_0.out⟩, ⟨by repeat (first | (with_reducible first | exact HK.out | apply Kept.alloc | apply Kept.drewN | apply Kept.drew) | exact HK.out)⟩, ⟨by repeat (first | (with_reducible first | exact HB.out | apply below_alloc | apply pw_below_drewN | apply below_drew1) | exact HB.out)⟩⟩
            case round =>
              clear H'
              try clear c1
              try clear p2
              try clear c3
              try clear c3b0
              try clear c4
              try clear c4b0
              try clear p4
              try clear q4
              try clear hx4
              try clear c5
              try clear c5b0
              try clear hx447_0
              try clear p2
              try clear p447
              try clear q447
              obtain ⟨x0_2, x7_2, rfl, HA, HK2, HO_0, HK, HB⟩ := hrel
              cases gk with
              | zero => exact absurd HA.out (by simp [snap_put.l1])
              | succ k2 =>
                have H := HA.out
                clear HA
                simp only [snap_put.l1] at H
                by_cases c6 : x7_2 ≥ 0
                · rw [if_pos c6] at H
                  have c6b0 : decide (0 ≤ x7_2) = true := decide_eq_true c6
                  clear c6
                  obtain ⟨ji7, hji7⟩ : ∃ j_ : Int, (wrap64 (8 * x7_2)) = j_ := ⟨_, rfl⟩
                  replace H : (if 0 ≤ (ji7) then (if x0_2.length < 140737488355328 then (snap_put.l1 k2 (x0_2 ++ [(shr .i64 (rd l1 x10_1) (ji7)) % 256]) (rd l1 x10_1) (wrap64 (x7_2 - 1)) l1 (l1.length : Int) x10_1) else (none)) else (none)) = some r := by first | (rw [hji7] at H; exact H) | (simp only [hji7] at H ⊢; exact H)
                  have hji7w : (IntKind.i64.wrap (8 * x7_2)) = ji7 := (i64_w _).trans hji7
                  by_cases c8 : 0 ≤ (ji7)
                  · rw [if_pos c8] at H
                    have c8b0 := eq_true c8
                    have c8b1 : decide (0 ≤ (ji7)) = true := decide_eq_true c8
                    clear c8
                    obtain ⟨ji9, hji9⟩ : ∃ j_ : Int, (shr .i64 (rd l1 x10_1) (ji7)) = j_ := ⟨_, rfl⟩
                    replace H : (if x0_2.length < 140737488355328 then (snap_put.l1 k2 (x0_2 ++ [(ji9) % 256]) (rd l1 x10_1) (wrap64 (x7_2 - 1)) l1 (l1.length : Int) x10_1) else (none)) = some r := by first | (rw [hji9] at H; exact H) | (simp only [hji9] at H ⊢; exact H)
                    have hji9_ : ((rd l1 x10_1) / 2 ^ min (ji7).toNat 64) = ji9 := hji9
                    have hji9z : (ji7) ≤ 64 → ((rd l1 x10_1) / 2 ^ (ji7).toNat) = ji9 := shr_small hji9
                    by_cases c10 : x0_2.length < 140737488355328
                    · rw [if_pos c10] at H
                      have LMc10 := Aside0.mk c10
                      clear c10
                      obtain ⟨y448, hy448⟩ : ∃ y_ : List Int, y_ = (x0_2 ++ [(ji9) % 256]) := ⟨_, rfl⟩
                      replace H : (snap_put.l1 k2 y448 (rd l1 x10_1) (wrap64 (x7_2 - 1)) l1 (l1.length : Int) x10_1) = some r := by first | (rw [hy448]; with_reducible exact H) | (have H2_ := (Option.bind_some _ _).symm.trans H; rw [hy448]; with_reducible exact H2_) | (have H2_ := (Option.bind_some _ _).symm.trans H; with_reducible exact H2_) | with_reducible exact H | (rw [hy448]; exact H) | exact H
                      have Ny448 := Aside0.mk hy448
                      clear hy448
                      have H' := Aside0.mk H
                      clear H
                      go_wp2_with (first | ((with_reducible refine gate_builtin (b := .append) (xs := #[.tmp 18, .tmp 24]) rfl ?_); at_builtin; refine Kd.R_append (Kd.int .u8) (w0 := w0) w0.heap.size rfl (.tmp 18) (.tmp 24) 22 5 (.int .u8 0) 1 rfl Try.underlying22 info5 rfl (by decide) (by omega) u0 x0_2 ((ji9) % 256) [.int .u8 ((ji9) % 256)] (fun k_ => (P0_ k_ ∨ w.heap.size ≤ k_)) (fun _ => False) rfl rfl ?aP (fun _ hk => hk.elim) ?aF ?aO ?aB ?aS ?aL ?_; (case aP => exact rfl); (case aB => exact (by repeat (first | (with_reducible first | exact HB.out | apply below_alloc | apply pw_below_drewN | apply below_drew1) | exact HB.out))); (case aF => exact (fun k_ hk => (.inr (Nat.le_trans (by first | exact HK.out.1 | exact (show Kept w _ (fun k_ => P0_ k_) from by repeat (first | (with_reducible first | exact HK.out | apply Kept.alloc | apply Kept.drewN | apply Kept.drew) | exact HK.out)).1) hk)))); (case aO => exact (by (with_reducible repeat (first | apply Kd.R_alloc | apply Kd.R_drewN | apply Kd.R_drew)); exact HO_0.out)); (case aS => exact (below_size (by repeat (first | (with_reducible first | exact HB.out | apply below_alloc | apply pw_below_drewN | apply below_drew1) | exact HB.out)))); (case aL => have := LMc10.out; omega); intro v449 w11 ho hb hg hat; rw [← Ny448.out] at ho; have n0_ := Aside0.mk (hb); have n1_ := Aside0.mk (Kept.of_grown (S := (fun k_ => P0_ k_)) hg (by repeat (first | (with_reducible first | exact HK.out | apply Kept.alloc | apply Kept.drewN | apply Kept.drew) | exact HK.out)) (fun k_ e_ => (HO_0.out.1 k_ e_))); have n2_ := Aside0.mk (ho); clear HB; clear HK; clear HO_0; have HB := n0_; have HK := n1_; have HO450 := n2_; clear n0_ n1_ n2_; clear ho hb hg hat))
                      go_roundg k2
                      case measure => have := HK1.out; have := HK2.out; omega
                      case rel => exact ⟨(y448), (wrap64 (x7_2 - 1)), (by first | rfl | (simp; done) | (simp [*]; done)), H', ⟨by have := HK1.out; have := HK2.out; omega⟩, ⟨by (with_reducible repeat (first | apply Kd.R_alloc | apply Kd.R_drewN | apply Kd.R_drew)); exact HO450.out⟩, ⟨by repeat (first | (with_reducible first | exact HK.out | apply Kept.alloc | apply Kept.drewN | apply Kept.drew) | exact HK.out)⟩, ⟨by repeat (first | (with_reducible first | exact HB.out | apply below_alloc | apply pw_below_drewN | apply below_drew1) | exact HB.out)⟩⟩
                    · rw [if_neg c10] at H
                      exact absurd H (by simp)
                  · rw [if_neg c8] at H
                    exact absurd H (by simp)
                · rw [if_neg c6] at H
                  have c6b0 : decide (0 ≤ x7_2) = false := decide_eq_false c6
                  clear c6
                  have H' := Aside0.mk H
                  clear H
                  go_wp2
                  go_roundg k2
                  case measure => have := HK1.out; have := HK2.out; omega
                  case rel => exact ⟨(x0_2), (wrap64 (x10_1 + 1)), (by first | rfl | (simp; done) | (simp [*]; done)), H', ⟨by have := HK1.out; have := HK2.out; omega⟩, ⟨by (with_reducible repeat (first | apply Kd.R_alloc | apply Kd.R_drewN | apply Kd.R_drew)); exact HO_0.out⟩, ⟨by repeat (first | (with_reducible first | exact HK.out | apply Kept.alloc | apply Kept.drewN | apply Kept.drew) | exact HK.out)⟩, ⟨by repeat (first | (with_reducible first | exact HB.out | apply below_alloc | apply pw_below_drewN | apply below_drew1) | exact HB.out)⟩⟩
          · rw [if_neg c5] at H
            exact absurd H (by simp)
        · rw [if_neg c4] at H
          exact absurd H (by simp)
      · rw [if_neg c3] at H
        have c3b0 : decide (x10_1 < (l1.length : Int)) = false := decide_eq_false c3
        clear c3
        obtain rfl := Option.some.inj H
        go_wp2
        go_ret
        exact ⟨_, by first | rfl | (simp [errW_none, errW_some] <;> rfl) | (simp [*, errW_none, errW_some] <;> rfl), by (with_reducible repeat (first | apply Kd.R_alloc | apply Kd.R_drewN | apply Kd.R_drew)); exact HO_0.out, by repeat (first | (with_reducible first | exact HB.out | apply below_alloc | apply pw_below_drewN | apply below_drew1) | exact HB.out), by repeat (first | (with_reducible first | exact HK.out | apply Kept.alloc | apply Kept.drewN | apply Kept.drew) | exact HK.out)⟩

end Go.Proofs.Ytjmkpcnekghmhaa.PAll
end
section
namespace Go.Proofs.Ytjmkpcnekghmhaa.PAll
open Go.RowKit Go.Proofs.YtjmkpcnekghmhaaW.PrintWords Go.Proofs.YtjmkpcnekghmhaaW.PrintLast Go.Proofs.YtjmkpcnekghmhaaW.PrintMore
attribute [local go_sem] max2_int min2_int max_two min_two max_three min_three max_four min_four   -- for this text's walks alone
set_option linter.unusedVariables false
set_option linter.unusedSimpArgs false

theorem snap_word.run_str_at {P : Program} (w : World) (base : Nat) (t u ty e : TypeId) (i : TypeInfo) (ht : P.underlying t = some (.slice e)) (hu : P.underlying u = some .string) (hi : P.info? e = some i) (hz : i.zero = some (.int .u8 0))
    (hsize : i.size = 1) (hby : i.bytes = 1) (g n cap : Nat) (cur : Array Value) (xs : List Value) (hxl : xs.length = n) (hbg : base ≤ g) (hg : w.heap[g]? = some (.cells cur e (0, 0))) (hnc : n ≤ cap) (hcm : cap ≤ maxLen) (hcs : cur.size = cap) (htk : cur.toList.take n = xs)
    (s : ByteArray) (hb : n + s.size ≤ 200000000000000) (hbase : base ≤ w.heap.size) :
    ∃ v' w', (Builtin.append_ #[t, u] ty #[.slice (some ⟨g, 0, none⟩) n cap, .string s]).run P w = .ok v' w' ∧ w'.ownsRow base e 1 v' (n + s.size) (xs ++ Lib.strCells s) ∧ w.grownBy w' (some g) ∧ (v'.ownBlock = some g ∨ ∃ b, v'.ownBlock = some b ∧ w.heap.size ≤ b) := by
  have hL : (xs ++ Lib.strCells s).length = n + s.size := by rw [List.length_append, hxl, Lib.strCells_length]
  by_cases hroom : n + s.size ≤ cap
  · refine ⟨_, _, Lib.run_append_room_string (P := P) w t u ty e i ht hu hi hsize g n cap cur hg s hroom (by omega), ⟨by omega, .inr ⟨g, cap, _, rfl, hbg, setRow_heap w g cur _ e _ hg, hroom, hcm, ?_, ?_⟩⟩, ⟨rfl, rfl, rfl, by simp, fun k _ hk => setRow_other w g k _ (fun e => hk (by rw [e]))⟩, .inl rfl⟩
    · simp only [List.size_toArray, List.length_append, List.length_take, List.length_drop, Array.length_toList, Lib.strCells_length]; omega
    · rw [htk, Nat.mul_one, ← hL]; exact List.take_left
  · have holds : ∀ j v, xs[j]? = some v → w.cell? ((⟨g, 0, none⟩ : Addr).add j) = some v := by
      intro j v hj
      have hjl : j < n := by have := (List.getElem?_eq_some_iff.1 hj).1; omega
      rw [add_plain, blk_cell hg]
      rw [← htk, List.getElem?_take, if_pos hjl] at hj
      simpa using hj
    refine ⟨_, _, Lib.run_append_grow_string (P := P) w t u ty e i (.int .u8 0) ht hu hi hz ⟨g, 0, none⟩ n cap xs (by rw [hsize, hxl, Nat.mul_one]) holds s (by omega) (by omega) (growslice_fits_wide (by omega) (by rw [hby]; omega)), ⟨by omega, .inr ⟨w.heap.size, _, _, rfl, hbase, heap_alloc_new w.drew _, grownCap_ge w (n + s.size) cap e, grownCap_le_maxLen w (n + s.size) cap e (by unfold maxLen; omega), ?_, ?_⟩⟩, ⟨rfl, rfl, rfl, by simp, fun k hk _ => heap_alloc_old w.drew _ hk⟩, .inr ⟨_, rfl, Nat.le_refl _⟩⟩
    · have hge := grownCap_ge w (n + s.size) cap e
      have hz1 : (Value.int IntKind.u8 0).cells.size = 1 := rfl
      simp only [Array.size_append, List.size_toArray, size_zeroCells, hz1, hxl, Lib.strCells_length]; omega
    · simp only [Array.toList_append, List.append_assoc]
      rw [← List.append_assoc, Nat.mul_one, ← hL]
      exact List.take_left
section
variable {P : Program} {ops : Array Oper} {rest : List Oper} {o : Oper} {a : Act} {Q : Exit → Act → World → Prop}
theorem snap_word.append_str_at {w0 W : World} (base : Nat) (hgd : o.guard = none) (s x : Operand) (t u e : TypeId)
    (ho : o.op = .call { callee := .builtin .append, args := #[s, x], argTypes := #[t, u] })
    (ht : P.underlying t = some (.slice e)) (hu : P.underlying u = some .string) (hinfo : (P.info? e).map (fun i => (i.zero, i.size, i.bytes)) = some (some (.int .u8 0), 1, 1))
    (v : Value) (xs : List Int) (y : ByteArray) (ok : Nat → Prop) (hs : a.eval s = v) (hx : a.eval x = .string y) (h0 : 0 < xs.length)
    (HO : Kd.R (Kd.int .u8) e W base ok v xs) (hfresh : ∀ k, W.heap.size ≤ k → ok k) (HB : Below base w0 W) (hbase : base ≤ W.heap.size) (hl : xs.length + y.size ≤ 200000000000000)
    (h : ∀ v1 w1, Kd.R (Kd.int .u8) e w1 base ok v1 (xs ++ bytesOf y) → Below base w0 w1 → W.grownBy w1 v.ownBlock → wpList P ops Q rest (a.put o.dst v1) w1) :
    wpList P ops Q (o :: rest) a W := by
  obtain ⟨i0, hi, hzz⟩ := Option.map_eq_some_iff.1 hinfo
  simp only [Prod.mk.injEq] at hzz
  obtain ⟨hz0, hz1, hz2⟩ := hzz
  have hl2 : (xs ++ bytesOf y).length = xs.length + y.size := by rw [List.length_append, bytesOf_length]
  have hown := Kd.own_of_R HO
  have hc : encs (Value.int .u8) (xs ++ bytesOf y) = encs (Value.int .u8) xs ++ Lib.strCells y := by simp [encs, bytesOf, Lib.strCells]
  obtain ⟨E, hE⟩ : ∃ E, encs (Value.int .u8) xs = E := ⟨_, rfl⟩
  rw [hE] at hown hc
  have hEl : E.length = xs.length := by have := hown.1; omega
  rcases hown.2 with ⟨rfl, hn⟩ | ⟨g, cap, cur, rfl, hbg, hg, hnc, hcm, hcs, htake⟩
  · omega
  · obtain ⟨v1, w1, hr, h2, h3, h4⟩ := snap_word.run_str_at (P := P) W base t u o.type e i0 ht hu hi hz0 hz1 hz2 g xs.length cap cur E hEl hbg hg hnc hcm (by omega) (by rw [Nat.mul_one] at htake; exact htake) y hl hbase
    refine wpList_plain hgd fun K hK => ?_
    unfold Oper.wp execOp
    simp only [ho, resolve, invoke, builtin, Sem.run_bind, Sem.run_pure, Result.andThen_ok, List.map_toArray, List.map_cons, List.map_nil, hs, hx, hr]
    refine hK _ _ (h v1 w1 (Kd.R_of_own (h1 := fun _ => rfl) (by rw [hl2, hc]; exact h2) (fun k hk => ?_)) (HB.grown h3 hbase (fun k hk => by cases hk; exact hbg)) h3)
    rcases h4 with h4 | ⟨b, h4, h5⟩
    · exact HO.1 k (by rw [← hk, h4]; rfl)
    · rw [h4] at hk; cases hk; exact hfresh _ h5
end
def snap_word.f (l0 : List Int) (a1 : ByteArray) : Option (List Int) := if l0.length < 1000000000000 ∧ a1.size < 1000000000000 then some (l0 ++ [0, (a1.size : Int) % 256] ++ bytesOf a1) else none
set_option maxHeartbeats 8000000 in
set_option maxRecDepth 100000 in
theorem snap_word.calls (P0_ : Nat → Prop) (u9000_ : Value) (l0 : List Int) (a1 : ByteArray) (r : List Int) (w0 w : World) (hB : Below w0.heap.size w0 w) (ho0 : Kd.R (Kd.int .u8) 5 w w0.heap.size P0_ u9000_ l0) (h : snap_word.f l0 a1 = some r) :
    Calls Try.prog 50 #[u9000_, .string a1] w fun e w' => ∃ v0_ : Value, e = .returned (v0_) ∧ Kd.R (Kd.int .u8) 5 w' w0.heap.size (fun k_ => (P0_ k_ ∨ w.heap.size ≤ k_)) v0_ r ∧ Below w0.heap.size w0 w' ∧ Kept w w' (fun k_ => P0_ k_) := by
  unfold snap_word.f at h
  have hc : l0.length < 1000000000000 ∧ a1.size < 1000000000000 := Decidable.byContradiction fun c => by rw [if_neg c] at h; simp at h
  rw [if_pos hc] at h
  obtain rfl := Option.some.inj h
  have HL := Aside0.mk hc
  have HO := Aside0.mk (show Kd.R (Kd.int .u8) 5 w w0.heap.size (fun k_ => (P0_ k_ ∨ w.heap.size ≤ k_)) u9000_ l0 from Kd.R_mono ho0 (fun k_ hk => (.inl hk)))
  have HB := Aside0.mk hB
  have HK := Aside0.mk (Kept.refl w (fun k_ => P0_ k_))
  have HP0 := Aside0.mk (fun k_ e_ => ho0.1 k_ e_)
  clear h hc ho0 hB
  go_enter Try.func50, Try.ntmps50
  go_wp2_with (first | ((with_reducible refine gate_dst (N := 9) rfl ?_); refine Kd.R_lit (Kd.int .u8) _ 5 ?hg (N := 9) ?hd (xs := ([0, (a1.size : Int) % 256] : List Int)) (inner := [.int .u8 0, .int .u8 ((a1.size : Int) % 256)]) (ok := fun _ => True) (okp := fun _ => True) ?hr ?hp (fun _ hk => hk) trivial (Below.refl _ _) (Nat.le_refl _) (by simp) ?_; (case hd => rfl); (case hg => rfl); (case hr => first | (go_simp; done) | (go_simp; rfl)); (case hp => exact (Reps.snoc (p := (a1.size : Int) % 256) (c := [.int .u8 ((a1.size : Int) % 256)]) (Reps.snoc (p := (0 : Int)) (c := [.int .u8 0]) (Reps.none _ _) rfl rfl) rfl rfl)); intro v3 w3 ho hb hg_ hnew_; clear hg_ hnew_; have HO2 := Aside0.mk (Kd.R_reads ho); have n1_ := Aside0.mk (Kd.R_below HO.out hb); have n2_ := Aside0.mk (below_step HB.out hb); have n3_ := Aside0.mk (Kept.below HK.out hb); clear HO HB HK; have HO := n1_; have HB := n2_; have HK := n3_; clear n1_ n2_ n3_ ho hb; obtain ⟨A3, c3, e3, hc3, hC3⟩ := HO2.out; subst e3; have HC3 := Aside0.mk hC3; clear HO2 hc3 hC3) | ((with_reducible refine gate_builtin (b := .append) (xs := #[.tmp 5, .tmp 9]) rfl ?_); at_builtin; refine Kd.R_append_rows (Kd.int .u8) (w0 := w0) w0.heap.size rfl (.tmp 5) (.tmp 9) 22 5 (.int .u8 0) 1 rfl Try.underlying22 info5 rfl (by decide) (by omega) u9000_ l0 [0, (a1.size : Int) % 256] _ _ _ (fun k_ => (P0_ k_ ∨ w.heap.size ≤ k_)) (fun _ => False) rfl rfl ?aO ?aR (fun _ _ h => h) (fun _ h => h.elim) ?aF ?aB ?aS ?aL ?_; (case aR => exact HC3.out); (case aB => exact HB.out); (case aF => exact (fun k_ hk => .inr (Nat.le_trans HK.out.1 hk))); (case aO => exact HO.out); (case aS => exact (below_size HB.out)); (case aL => have := HL.out; simp; omega); intro v4 w4 ho hb hg hat; have n3_ := Aside0.mk (Kept.of_grown (S := (fun k_ => P0_ k_)) hg HK.out (fun k_ e_ => (HO.out.1 k_ e_))); clear HO HB HK; have HO := Aside0.mk ho; have HB := Aside0.mk hb; have HK := n3_; clear n3_ ho hb hg hat) | ((with_reducible refine gate_builtin (b := .append) (xs := #[.tmp 10, .tmp 11]) rfl ?_); at_builtin; refine snap_word.append_str_at (w0 := w0) w0.heap.size rfl (.tmp 10) (.tmp 11) 22 9 5 rfl Try.underlying22 Try.underlying9 info5 v4 (l0 ++ [0, (a1.size : Int) % 256]) a1 (fun k_ => (P0_ k_ ∨ w.heap.size ≤ k_)) rfl rfl (by simp) HO.out (fun k_ hk => .inr (Nat.le_trans HK.out.1 hk)) HB.out (below_size HB.out) (by have := HL.out; simp; omega) ?_; intro v5 w5 ho hb hg; have n3_ := Aside0.mk (Kept.of_grown (S := (fun k_ => P0_ k_)) hg HK.out (fun k_ e_ => (HO.out.1 k_ e_))); clear HO HB HK; have HO := Aside0.mk ho; have HB := Aside0.mk hb; have HK := n3_; clear n3_ ho hb hg))
  go_ret
  exact ⟨_, rfl, HO.out, HB.out, HK.out⟩
end Go.Proofs.Ytjmkpcnekghmhaa.PAll
end
