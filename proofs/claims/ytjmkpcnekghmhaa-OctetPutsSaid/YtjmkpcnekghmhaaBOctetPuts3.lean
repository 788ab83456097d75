/- The plain law of OctetPuts: nothing is left to say. -/
import Derived.Test.YtjmkpcnekghmhaaBOctetPuts2
import Derived.Deep.Slices
import Derived.Deep.Fields
import Derived.ChangeSame
import Derived.ChangeArms
import Derived.OpenShut
import Derived.Test.YtjmkpcnekghmhaaRows
import Derived.ProofKit
import Derived.ShutString
import Derived.ChangeOld
import Derived.Carry
section
set_option linter.unusedVariables false
set_option linter.unusedSimpArgs false
namespace Go.Proofs.Ytjmkpcnekghmhaa.Pure
open Go Go.RowKit Go.Proofs.Ytjmkpcnekghmhaa.PAll Go.Proofs.YtjmkpcnekghmhaaW.PrintWords Go.Proofs.YtjmkpcnekghmhaaW.PrintLast

theorem OctetPuts : prebendlaw03_OctetPuts.Pure := fun _ _ _ _ => trivial

end Go.Proofs.Ytjmkpcnekghmhaa.Pure
end
section
namespace Go.Proofs.Ytjmkpcnekghmhaa.Rd
open Go.ChangeShapes Go.WideShapes Go.Deep Go.RowKit Go.Proofs.YtjmkpcnekghmhaaW.PrintWords
set_option linter.unusedVariables false
/-- Cells that are read as a value of type T stand for a plain value x of kind d, of which 'good' holds. -/
def Rds {α : Type} (P : Program) (d : Kd α) (T : TypeId) (good : α → Prop) : Prop :=
  ∀ (H : Type) (enc : TypeId × Value → H) (w : World) (base : Nat) (spare : Nat → Bool) (held : Bool) (n : Nat) (cs : List Value) (y : DataW H × List MemPlace),
    DataW.trod enc P w base spare held n T cs = some y → ∃ x, d.K w x cs ∧ good x
theorem rds_int {P : Program} {T : TypeId} {k : IntKind} (ht : P.underlying T = some (.int k)) : Rds P (Kd.int k) T (fun x => (Lit.int k x).wf = true) := by
  intro H enc w base spare held n cs y h
  obtain ⟨m, rfl, _, hw⟩ := DataW.trod_int ht h
  exact ⟨m, rfl, hw⟩
theorem rds_bool {P : Program} {T : TypeId} (ht : P.underlying T = some .bool) : Rds P Kd.bool T (fun _ => True) := by
  intro H enc w base spare held n cs y h
  obtain ⟨m, rfl, _⟩ := DataW.trod_bool ht h
  exact ⟨m, rfl, trivial⟩
theorem rds_string {P : Program} {T : TypeId} (ht : P.underlying T = some .string) : Rds P Kd.string T (fun s => s.size ≤ maxLen) := by
  intro H enc w base spare held n cs y h
  obtain ⟨m, rfl, _, hw⟩ := DataW.trod_string ht h
  exact ⟨m, rfl, hw⟩
theorem rds_slice {α : Type} {P : Program} {d : Kd α} {T e : TypeId} {good : α → Prop} (ht : P.underlying T = some (.slice e)) (hc : P.cellsOf e = d.sz) (hr : Rds P d e good) :
    Rds P (Kd.slice e d) T (fun xs => xs.length ≤ maxLen ∧ ∀ x ∈ xs, good x) := by
  intro H enc w base spare held n cs y h
  rcases open_slice ht h with ⟨rfl, _⟩ | ⟨a, len, cap, m, n', D, Pl, rfl, hb, hl, hm, hmm, _, hi⟩
  · exact ⟨[], ⟨none, 0, rfl, Nat.le_refl _, rfl, by simp, fun h0 => absurd h0 (by simp)⟩, by simp, by simp⟩
  · have hlm : len ≤ m := by rw [hmm]; split <;> omega
    have step : ∀ l, l ≤ len → ∃ xs : List α, xs.length = l ∧ (∀ x ∈ xs, good x) ∧ ∀ j p, xs[j]? = some p → ∃ c, w.cells? base (a.add (j * d.sz)) d.sz = some c ∧ d.K w p c := by
      intro l
      induction l with
      | zero => intro _; exact ⟨[], rfl, by simp, by simp⟩
      | succ l ih =>
        intro hl1
        obtain ⟨xs, hx, hg, hj⟩ := ih (by omega)
        obtain ⟨c, h1, h2⟩ := hi l (by omega)
        obtain ⟨x, k, g⟩ := hr _ _ _ _ _ _ _ _ _ h2
        rw [hc] at h1
        refine ⟨xs ++ [x], by simp [hx], ?_, ?_⟩
        · intro z hz
          rcases List.mem_append.1 hz with hz | hz
          · exact hg z hz
          · rw [List.mem_singleton.1 hz]; exact g
        · intro j p hp
          rcases Nat.lt_or_ge j xs.length with hlt | hge
          · rw [List.getElem?_append_left hlt] at hp; exact hj j p hp
          · have hjl : j = l := by
              have := (List.getElem?_eq_some_iff.1 hp).1
              rw [List.length_append, List.length_singleton] at this
              omega
            subst hjl
            rw [List.getElem?_append_right hge, hx, Nat.sub_self] at hp
            simp at hp
            subst hp
            exact ⟨c, h1, k⟩
    obtain ⟨xs, hx, hg, hj⟩ := step len (Nat.le_refl _)
    refine ⟨xs, ⟨some a, cap, by rw [hx], by omega, rfl, by rw [hx]; unfold maxLen at hm; omega, fun _ => ⟨a, rfl, fun j p hp => ?_⟩⟩, by rw [hx]; omega, hg⟩
    obtain ⟨c, h1, k⟩ := hj j p hp
    refine ⟨c, d.K_len k, k, fun i u hu => ?_⟩
    obtain ⟨_, hcl, hat⟩ := World.cells?_some h1
    have hil : i < d.sz := by have := (List.getElem?_eq_some_iff.1 hu).1; omega
    rw [← Go.Deep.add_add, hat i hil, hu]
/-- Two kinds in line. -/
theorem pair_mk {α β : Type} {a : Kd α} {b : Kd β} {w : World} {x : α} {y : β} {cs : List Value} {o : Nat} (h1 : a.K w x ((cs.drop o).take a.sz)) (h2 : b.K w y (cs.drop (o + a.sz))) : (Kd.pair a b).K w (x, y) (cs.drop o) :=
  ⟨_, _, by rw [← List.drop_drop]; exact (List.take_append_drop a.sz (cs.drop o)).symm, h1, h2⟩
theorem last_mk {α : Type} {a : Kd α} {w : World} {x : α} {cs : List Value} {o : Nat} (hl : cs.length = o + a.sz) (h1 : a.K w x ((cs.drop o).take a.sz)) : a.K w x (cs.drop o) := by
  rwa [List.take_of_length_le (by rw [List.length_drop]; omega)] at h1
/-- A struct's field. -/
theorem field {H : Type} {enc : TypeId × Value → H} {P : Program} {w : World} {base : Nat} {spare : Nat → Bool} {held : Bool} {n : Nat} {cs : List Value} {fs : Array Field} {xs : List (DataW H × List MemPlace)} (hx : xs.length = fs.size)
    (hf : ∀ (i : Nat) (f : Field), fs[i]? = some f → DataW.trod enc P w base spare held n f.type ((cs.drop f.offset).take (P.cellsOf f.type)) = xs[i]?)
    (i : Nat) (f : Field) (hi : fs[i]? = some f) {α : Type} {d : Kd α} {good : α → Prop} {o T : Nat} (ho : f.offset = o) (hT : f.type = T) (hc : P.cellsOf T = d.sz) (hr : Rds P d T good) : ∃ x, d.K w x ((cs.drop o).take d.sz) ∧ good x := by
  have h := hf i f hi
  have hlt : i < xs.length := by rw [hx]; exact (Array.getElem?_eq_some_iff.1 hi).1
  rw [List.getElem?_eq_getElem hlt, ho, hT, hc] at h
  exact hr _ _ _ _ _ _ _ _ _ h
end Go.Proofs.Ytjmkpcnekghmhaa.Rd
end
section
namespace Go.Proofs.Ytjmkpcnekghmhaa.octetPuts
open Go.ChangeShapes Go.WideShapes Go.ChangeAt Go.RowKit Go.Proofs.YtjmkpcnekghmhaaW.PrintWords Go.Proofs.Ytjmkpcnekghmhaa.PAll
open Go.ChangeMaps (open_string shut_string)
set_option linter.unusedVariables false
theorem own : ownKnob Try.prog.godebug = none := by kernel_rfl
theorem laidOut : laidOutB Try.prog = true := by kernel_rfl
set_option maxRecDepth 100000 in
theorem lifted (os : Os) (started : os.Started) (H : Type) (enc : TypeId × Value → H) :
    ReturnsInHanded {} Try.checked os 3 .any (Rows.octetPutsSpec.pre6 enc Try.prog Try.f3 Rows.octetPutsRow.domain false) (Rows.octetPutsSpec.post enc Try.prog Try.f3 false true false false) := by
  refine returnsInHanded_of_change_sized (C := Try.checked) own started (by kernel_rfl) Try.func3
    (ChangeSpec.witness6 (enc := enc) (C := Try.checked) false ⟨#[], #[.slice none 0 0, .int .i64 0, .string ByteArray.empty], []⟩ 8 (by kernel_rfl) (by kernel_rfl) (by kernel_rfl) (by kernel_rfl)) ?_
  intro W base args ds gs before hval0 hW hcnd hsz0 _
  have hval : ∀ (j : Nat) t v, Try.f3.params[j]? = some t → args[j]? = some v → Value.okWide Try.prog W .any base t v := hval0
  have hW' := hW
  obtain ⟨p, q, hA0, hV, rfl, hfz, hnd⟩ := hW
  have hA : DataW.TrodAll enc Try.prog W 0 (fun _ => true) true Try.f3.params.toList args.toList ds p := hA0
  have hsz : (DataW.weightsEach Try.prog (Try.f3.params.toList ++ Rows.octetPutsSpec.plain.varTypes Try.prog) (ds ++ gs)).all (· ≤ reachBytes) = true := hsz0
  rw [Try.params3] at hA hval hsz
  obtain ⟨v0, vs0, d0, ds0, p0, q0, hargs, rfl, rfl, h0, r0⟩ := trodAll_cons hA
  obtain ⟨v1, vs1, d1, ds1, p1, q1, rfl, rfl, rfl, h1, r1⟩ := trodAll_cons r0
  obtain ⟨v2, vs2, d2, ds2, p2, q2, rfl, rfl, rfl, h2, r2⟩ := trodAll_cons r1
  obtain ⟨rfl, rfl, rfl⟩ := trodAll_nil r2
  obtain rfl : args = #[v0, v1, v2] := by cases args; simp_all
  obtain ⟨rfl, rfl⟩ := trodVars_none hV
  obtain ⟨a0, len0, cap0, rfl⟩ := okWide_slice Try.underlying22 (hval 0 22 v0 rfl rfl)
  have k0 := h0
  have lt0 : ∀ x ∈ p0, x.block < W.heap.size := by obtain ⟨m, hm⟩ := k0; exact DataW.trod_lt m _ _ _ hm
  obtain ⟨l0, ⟨A0, c0, he0, hl0, hC0⟩, g0_⟩ : ∃ xs, ((Kd.slice 5 (Kd.int .u8))).K W xs [.slice a0 len0 cap0] ∧ (fun x => (x.length ≤ maxLen ∧ ∀ y ∈ x, (Lit.int .u8 y).wf = true)) xs := by
    obtain ⟨fuel, hf⟩ := h0
    exact (Rd.rds_slice (P := Try.prog) (T := 22) Try.underlying22 (by kernel_rfl) (Rd.rds_int Try.underlying5)) _ _ _ _ _ _ _ _ _ hf
  obtain ⟨rfl, rfl, rfl⟩ : a0 = A0 ∧ len0 = l0.length ∧ cap0 = c0 := by simpa using he0
  have y0 : l0.length * 1 ≤ 140737488351232 := sized_ints hsz (j := 0) (t := 22) rfl rfl Try.underlying22 Try.underlying5 (by kernel_rfl) (by kernel_rfl) h0
  obtain ⟨a1, rfl, rfl, rfl, w1⟩ := open_int Try.underlying3 (hval 1 3 v1 rfl rfl) h1
  obtain ⟨a2, rfl, rfl, rfl, y2⟩ := open_string Try.underlying9 (hval 2 9 v2 rfl rfl) h2
  have w2 : a2.size ≤ 140737488351232 := by
    have z := sized_string hsz (j := 2) (t := 9) rfl rfl
    rw [Array.length_toList] at z
    exact z
  clear hA0 hval0 hsz0 hsz
  refine (PAll.prebendlaw03_OctetPuts.walk Pure.OctetPuts _ _ l0 a1 a2 W hC0 hl0 g0_ y0 w1 w2).mono fun e W' ⟨he, bel⟩ => ?_
  subst he
  exact ⟨_, rfl, _, _, _, [], _, [], hW', trodAll_mk1 (shut_bool Try.underlying4 _), (trodAll_cons_mk (Below.trod laidOut (by kernel_rfl) (of_decide_eq_true (by kernel_rfl)) k0 bel lt0) (trodAll_cons_mk (shut_int Try.underlying3 w1) (trodAll_cons_mk (shut_string Try.underlying9 y2) trodAll_mk0))), rfl, bel.frame _, fun h => by cases h⟩
theorem over : Rows.octetPutsRow.holds Try.pinned (OpenSpec.ofChange Rows.octetPutsSpec) :=
  OpenClaim.holds_of_wide 3 Try.f3 rfl rfl rfl rfl rfl rfl rfl ⟨rfl, rfl, rfl, rfl, rfl⟩ rfl rfl rfl rfl rfl (by kernel_rfl) Try.func3 (by kernel_rfl)
    (of_decide_eq_true (by kernel_rfl)) (by unfold Func.isWrapper; first | (rw [if_pos (by decide +kernel)]; kernel_rfl) | (rw [if_neg (by decide +kernel)]; exact ⟨rfl, rfl⟩))
    (fun os started H enc _ => lifted os started H enc)
theorem proved : Rows.OctetPutsSaid := over
#print axioms proved
end Go.Proofs.Ytjmkpcnekghmhaa.octetPuts
namespace Go.Proofs.Ytjmkpcnekghmhaa
/-- The row, under a short name, for the claim. -/
theorem octetPuts_holds : Rows.OctetPutsSaid := octetPuts.proved
end Go.Proofs.Ytjmkpcnekghmhaa
end
