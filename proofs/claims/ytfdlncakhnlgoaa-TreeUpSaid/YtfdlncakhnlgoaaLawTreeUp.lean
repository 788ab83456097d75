/- Contracts of functions of the program, each with a plain function of the same answers; written by a program of this workplace. -/
import Derived.Test.YtfdlncakhnlgoaaRows
import Derived.Test.YtfdlncakhnlgoaaPAllx25
import Derived.Test.YtfdlncakhnlgoaaPureTreeUp
import Derived.Test.YtfdlncakhnlgoaaReads
import Derived.WalkKit
import Derived.ProofKit
import Derived.OpenShut
import Derived.ShutString
import Derived.ChangeOld
import Derived.Below
import Derived.SizedLaws
import Derived.Carry
namespace Go.Proofs.Ytfdlncakhnlgoaa.treeUp
open Go.ChangeShapes Go.WideShapes Go.ChangeAt Go.RowKit Go.Proofs.YtfdlncakhnlgoaaW.PrintWords Go.Proofs.Ytfdlncakhnlgoaa.PAll
open Go.ChangeMaps (open_string shut_string)
set_option linter.unusedVariables false
theorem own : ownKnob Try.prog.godebug = none := by kernel_rfl
theorem laidOut : laidOutB Try.prog = true := by kernel_rfl
theorem rds40 : Rd.Rds Try.prog k40 40 g40 := by
  intro H enc w base spare held n cs y h
  obtain ⟨xs, m, _, _, hlen, hxl, hf⟩ := DataW.trod_struct Try.underlying40 h
  have hl : cs.length = 3 := hlen.trans (by kernel_rfl)
  obtain ⟨x0, h0, g0_⟩ := Rd.field hxl hf 0 _ rfl (d := Kd.string) (good := (fun x => x.size ≤ maxLen)) (o := 0) (T := 9) rfl rfl (by kernel_rfl) (Rd.rds_string Try.underlying9)
  obtain ⟨x1, h1, g1_⟩ := Rd.field hxl hf 1 _ rfl (d := (Kd.int .i64)) (good := (fun x => (Lit.int .i64 x).wf = true)) (o := 1) (T := 3) rfl rfl (by kernel_rfl) (Rd.rds_int Try.underlying3)
  obtain ⟨x2, h2, g2_⟩ := Rd.field hxl hf 2 _ rfl (d := (Kd.int .i64)) (good := (fun x => (Lit.int .i64 x).wf = true)) (o := 2) (T := 3) rfl rfl (by kernel_rfl) (Rd.rds_int Try.underlying3)
  have hK := (Rd.pair_mk (o := 0) h0 (Rd.pair_mk (o := 1) h1 (Rd.last_mk (a := (Kd.int .i64)) (o := 2) hl h2)))
  exact ⟨⟨x0, x1, x2⟩, (by rw [List.drop_zero] at hK; exact hK), ⟨g0_, g1_, g2_⟩⟩
set_option maxRecDepth 100000 in
theorem lifted (os : Os) (started : os.Started) (H : Type) (enc : TypeId × Value → H) :
    ReturnsInHanded {} Try.checked os 5 .any (Rows.treeUpSpec.pre6 enc Try.prog Try.f5 Rows.treeUpRow.domain false) (Rows.treeUpSpec.post enc Try.prog Try.f5 false true false false) := by
  refine returnsInHanded_of_change_sized (C := Try.checked) own started (by kernel_rfl) Try.func5
    (ChangeSpec.witness6 (enc := enc) (C := Try.checked) false ⟨#[], #[.slice none 0 0, .int .i64 0], []⟩ 8 (by kernel_rfl) (by kernel_rfl) (by kernel_rfl) (by kernel_rfl)) ?_
  intro W base args ds gs before hval0 hW hcnd hsz0 _
  have hval : ∀ (j : Nat) t v, Try.f5.params[j]? = some t → args[j]? = some v → Value.okWide Try.prog W .any base t v := hval0
  have hW' := hW
  obtain ⟨p, q, hA0, hV, rfl, hfz, hnd⟩ := hW
  have hA : DataW.TrodAll enc Try.prog W 0 (fun _ => true) true Try.f5.params.toList args.toList ds p := hA0
  rw [Try.params5] at hA hval
  obtain ⟨v0, vs0, d0, ds0, p0, q0, hargs, rfl, rfl, h0, r0⟩ := trodAll_cons hA
  obtain ⟨v1, vs1, d1, ds1, p1, q1, rfl, rfl, rfl, h1, r1⟩ := trodAll_cons r0
  obtain ⟨rfl, rfl, rfl⟩ := trodAll_nil r1
  obtain rfl : args = #[v0, v1] := by cases args; simp_all
  obtain ⟨rfl, rfl⟩ := trodVars_none hV
  obtain ⟨a0, len0, cap0, rfl⟩ := okWide_slice Try.underlying22 (hval 0 22 v0 rfl rfl)
  have k0 := h0
  have lt0 : ∀ x ∈ p0, x.block < W.heap.size := by obtain ⟨m, hm⟩ := k0; exact DataW.trod_lt m _ _ _ hm
  obtain ⟨l0, ⟨A0, c0, he0, hl0, hC0⟩, g0_⟩ : ∃ xs, ((Kd.slice 40 k40)).K W xs [.slice a0 len0 cap0] ∧ (fun x => (x.length ≤ maxLen ∧ ∀ y ∈ x, g40 y)) xs := by
    obtain ⟨fuel, hf⟩ := h0
    exact (Rd.rds_slice (P := Try.prog) (T := 22) Try.underlying22 (by kernel_rfl) rds40) _ _ _ _ _ _ _ _ _ hf
  obtain ⟨rfl, rfl, rfl⟩ : a0 = A0 ∧ len0 = l0.length ∧ cap0 = c0 := by simpa using he0
  obtain ⟨a1, rfl, rfl, rfl, w1⟩ := open_int Try.underlying3 (hval 1 3 v1 rfl rfl) h1
  clear hA0 hval0 hsz0
  refine (PAll.prebendlaw08_TreeUp.walk Pure.TreeUp _ _ l0 a1 W hC0 hl0 g0_ w1).mono fun e W' ⟨he, bel⟩ => ?_
  subst he
  exact ⟨_, rfl, _, _, _, [], _, [], hW', trodAll_mk1 (shut_bool Try.underlying4 _), (trodAll_cons_mk (Below.trod laidOut (by kernel_rfl) (of_decide_eq_true (by kernel_rfl)) k0 bel lt0) (trodAll_cons_mk (shut_int Try.underlying3 w1) trodAll_mk0)), rfl, bel.frame _, fun h => by cases h⟩
theorem over : Rows.treeUpRow.holds Try.pinned (OpenSpec.ofChange Rows.treeUpSpec) :=
  OpenClaim.holds_of_wide 5 Try.f5 rfl rfl rfl rfl rfl rfl rfl ⟨rfl, rfl, rfl, rfl, rfl⟩ rfl rfl rfl rfl rfl (by kernel_rfl) Try.func5 (by kernel_rfl)
    (of_decide_eq_true (by kernel_rfl)) (by unfold Func.isWrapper; first | (rw [if_pos (by decide +kernel)]; kernel_rfl) | (rw [if_neg (by decide +kernel)]; exact ⟨rfl, rfl⟩))
    (fun os started H enc _ => lifted os started H enc)
theorem proved : Rows.TreeUpSaid := over
#print axioms proved
end Go.Proofs.Ytfdlncakhnlgoaa.treeUp
namespace Go.Proofs.Ytfdlncakhnlgoaa
/-- The row, under a short name, for the claim. -/
theorem treeUp_holds : Rows.TreeUpSaid := treeUp.proved
end Go.Proofs.Ytfdlncakhnlgoaa
