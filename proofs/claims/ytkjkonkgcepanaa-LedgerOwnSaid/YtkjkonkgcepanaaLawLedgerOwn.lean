/- Contracts of functions of the program, each with a plain function of the same answers; written by a program of this workplace. -/
import Derived.Test.YtkjkonkgcepanaaRows
import Derived.Test.YtkjkonkgcepanaaOwnWalk
import Derived.Test.YtkjkonkgcepanaaPureLedgerOwn
import Derived.Test.YtkjkonkgcepanaaReads
import Derived.WalkKit
import Derived.ProofKit
import Derived.OpenShut
import Derived.ShutString
import Derived.ChangeOld
import Derived.Below
import Derived.SizedLaws
import Derived.Carry
namespace Go.Proofs.Ytkjkonkgcepanaa.ledgerOwn
open Go.ChangeShapes Go.WideShapes Go.ChangeAt Go.RowKit Go.Proofs.YtkjkonkgcepanaaW.PrintWords Go.Proofs.Ytkjkonkgcepanaa.PAll
open Go.ChangeMaps (open_string shut_string)
set_option linter.unusedVariables false
theorem own : ownKnob Try.prog.godebug = none := by kernel_rfl
theorem laidOut : laidOutB Try.prog = true := by kernel_rfl
theorem rds39 : Rd.Rds Try.prog k39 39 g39 := by
  intro H enc w base spare held n cs y h
  obtain ⟨xs, m, _, _, hlen, hxl, hf⟩ := DataW.trod_struct Try.underlying39 h
  have hl : cs.length = 6 := hlen.trans (by kernel_rfl)
  obtain ⟨x0, h0, g0_⟩ := Rd.field hxl hf 0 _ rfl (d := (Kd.int .i64)) (good := (fun x => (Lit.int .i64 x).wf = true)) (o := 0) (T := 3) rfl rfl (by kernel_rfl) (Rd.rds_int Try.underlying3)
  obtain ⟨x1, h1, g1_⟩ := Rd.field hxl hf 1 _ rfl (d := (Kd.int .i64)) (good := (fun x => (Lit.int .i64 x).wf = true)) (o := 1) (T := 3) rfl rfl (by kernel_rfl) (Rd.rds_int Try.underlying3)
  obtain ⟨x2, h2, g2_⟩ := Rd.field hxl hf 2 _ rfl (d := (Kd.int .i64)) (good := (fun x => (Lit.int .i64 x).wf = true)) (o := 2) (T := 3) rfl rfl (by kernel_rfl) (Rd.rds_int Try.underlying3)
  obtain ⟨x3, h3, g3_⟩ := Rd.field hxl hf 3 _ rfl (d := (Kd.int .i64)) (good := (fun x => (Lit.int .i64 x).wf = true)) (o := 3) (T := 3) rfl rfl (by kernel_rfl) (Rd.rds_int Try.underlying3)
  obtain ⟨x4, h4, g4_⟩ := Rd.field hxl hf 4 _ rfl (d := (Kd.int .i64)) (good := (fun x => (Lit.int .i64 x).wf = true)) (o := 4) (T := 3) rfl rfl (by kernel_rfl) (Rd.rds_int Try.underlying3)
  obtain ⟨x5, h5, g5_⟩ := Rd.field hxl hf 5 _ rfl (d := (Kd.int .i64)) (good := (fun x => (Lit.int .i64 x).wf = true)) (o := 5) (T := 3) rfl rfl (by kernel_rfl) (Rd.rds_int Try.underlying3)
  have hK := (Rd.pair_mk (o := 0) h0 (Rd.pair_mk (o := 1) h1 (Rd.pair_mk (o := 2) h2 (Rd.pair_mk (o := 3) h3 (Rd.pair_mk (o := 4) h4 (Rd.last_mk (a := (Kd.int .i64)) (o := 5) hl h5))))))
  exact ⟨⟨x0, x1, x2, x3, x4, x5⟩, (by rw [List.drop_zero] at hK; exact hK), ⟨g0_, g1_, g2_, g3_, g4_, g5_⟩⟩
theorem rds37 : Rd.Rds Try.prog k37 37 g37 := by
  intro H enc w base spare held n cs y h
  obtain ⟨xs, m, _, _, hlen, hxl, hf⟩ := DataW.trod_struct Try.underlying37 h
  have hl : cs.length = 2 := hlen.trans (by kernel_rfl)
  obtain ⟨x0, h0, g0_⟩ := Rd.field hxl hf 0 _ rfl (d := (Kd.int .i64)) (good := (fun x => (Lit.int .i64 x).wf = true)) (o := 0) (T := 3) rfl rfl (by kernel_rfl) (Rd.rds_int Try.underlying3)
  obtain ⟨x1, h1, g1_⟩ := Rd.field hxl hf 1 _ rfl (d := (Kd.int .i64)) (good := (fun x => (Lit.int .i64 x).wf = true)) (o := 1) (T := 3) rfl rfl (by kernel_rfl) (Rd.rds_int Try.underlying3)
  have hK := (Rd.pair_mk (o := 0) h0 (Rd.last_mk (a := (Kd.int .i64)) (o := 1) hl h1))
  exact ⟨⟨x0, x1⟩, (by rw [List.drop_zero] at hK; exact hK), ⟨g0_, g1_⟩⟩
set_option maxRecDepth 100000 in
theorem lifted (os : Os) (started : os.Started) (H : Type) (enc : TypeId × Value → H) :
    ReturnsInHanded {} Try.checked os 6 .any (Rows.ledgerOwnSpec.pre6 enc Try.prog Try.f6 Rows.ledgerOwnRow.domain false) (Rows.ledgerOwnSpec.post enc Try.prog Try.f6 false true false false) := by
  refine returnsInHanded_of_change_sized (C := Try.checked) own started (by kernel_rfl) Try.func6
    (ChangeSpec.witness6 (enc := enc) (C := Try.checked) false ⟨#[], #[.int .i64 0, .slice none 0 0, .slice none 0 0], []⟩ 8 (by kernel_rfl) (by kernel_rfl) (by kernel_rfl) (by kernel_rfl)) ?_
  intro W base args ds gs before hval0 hW hcnd hsz0 _
  have hval : ∀ (j : Nat) t v, Try.f6.params[j]? = some t → args[j]? = some v → Value.okWide Try.prog W .any base t v := hval0
  have hW' := hW
  obtain ⟨p, q, hA0, hV, rfl, hfz, hnd⟩ := hW
  have hA : DataW.TrodAll enc Try.prog W 0 (fun _ => true) true Try.f6.params.toList args.toList ds p := hA0
  rw [Try.params6] at hA hval
  obtain ⟨v0, vs0, d0, ds0, p0, q0, hargs, rfl, rfl, h0, r0⟩ := trodAll_cons hA
  obtain ⟨v1, vs1, d1, ds1, p1, q1, rfl, rfl, rfl, h1, r1⟩ := trodAll_cons r0
  obtain ⟨v2, vs2, d2, ds2, p2, q2, rfl, rfl, rfl, h2, r2⟩ := trodAll_cons r1
  obtain ⟨rfl, rfl, rfl⟩ := trodAll_nil r2
  obtain rfl : args = #[v0, v1, v2] := by cases args; simp_all
  obtain ⟨rfl, rfl⟩ := trodVars_none hV
  obtain ⟨a0, rfl, rfl, rfl, w0⟩ := open_int Try.underlying3 (hval 0 3 v0 rfl rfl) h0
  obtain ⟨a1, len1, cap1, rfl⟩ := okWide_slice Try.underlying22 (hval 1 22 v1 rfl rfl)
  have k1 := h1
  have lt1 : ∀ x ∈ p1, x.block < W.heap.size := by obtain ⟨m, hm⟩ := k1; exact DataW.trod_lt m _ _ _ hm
  obtain ⟨l1, ⟨A1, c1, he1, hl1, hC1⟩, g1_⟩ : ∃ xs, ((Kd.slice 39 k39)).K W xs [.slice a1 len1 cap1] ∧ (fun x => (x.length ≤ maxLen ∧ ∀ y ∈ x, g39 y)) xs := by
    obtain ⟨fuel, hf⟩ := h1
    exact (Rd.rds_slice (P := Try.prog) (T := 22) Try.underlying22 (by kernel_rfl) rds39) _ _ _ _ _ _ _ _ _ hf
  obtain ⟨rfl, rfl, rfl⟩ : a1 = A1 ∧ len1 = l1.length ∧ cap1 = c1 := by simpa using he1
  obtain ⟨a2, len2, cap2, rfl⟩ := okWide_slice Try.underlying23 (hval 2 23 v2 rfl rfl)
  have k2 := h2
  have lt2 : ∀ x ∈ p2, x.block < W.heap.size := by obtain ⟨m, hm⟩ := k2; exact DataW.trod_lt m _ _ _ hm
  obtain ⟨l2, ⟨A2, c2, he2, hl2, hC2⟩, g2_⟩ : ∃ xs, ((Kd.slice 37 k37)).K W xs [.slice a2 len2 cap2] ∧ (fun x => (x.length ≤ maxLen ∧ ∀ y ∈ x, g37 y)) xs := by
    obtain ⟨fuel, hf⟩ := h2
    exact (Rd.rds_slice (P := Try.prog) (T := 23) Try.underlying23 (by kernel_rfl) rds37) _ _ _ _ _ _ _ _ _ hf
  obtain ⟨rfl, rfl, rfl⟩ : a2 = A2 ∧ len2 = l2.length ∧ cap2 = c2 := by simpa using he2
  clear hA0 hval0 hsz0
  refine (PAll.prebendlaw09_LedgerOwn.walk Pure.LedgerOwn a0 _ _ l1 _ _ l2 W hC1 hl1 hC2 hl2 w0 g1_ g2_).mono fun e W' ⟨he, bel⟩ => ?_
  subst he
  exact ⟨_, rfl, _, _, _, [], _, [], hW', trodAll_mk1 (shut_bool Try.underlying4 _), (trodAll_cons_mk (shut_int Try.underlying3 w0) (trodAll_cons_mk (Below.trod laidOut (by kernel_rfl) (of_decide_eq_true (by kernel_rfl)) k1 bel lt1) (trodAll_cons_mk (Below.trod laidOut (by kernel_rfl) (of_decide_eq_true (by kernel_rfl)) k2 bel lt2) trodAll_mk0))), rfl, bel.frame _, fun h => by cases h⟩
theorem over : Rows.ledgerOwnRow.holds Try.pinned (OpenSpec.ofChange Rows.ledgerOwnSpec) :=
  OpenClaim.holds_of_wide 6 Try.f6 rfl rfl rfl rfl rfl rfl rfl ⟨rfl, rfl, rfl, rfl, rfl⟩ rfl rfl rfl rfl rfl (by kernel_rfl) Try.func6 (by kernel_rfl)
    (of_decide_eq_true (by kernel_rfl)) (by unfold Func.isWrapper; first | (rw [if_pos (by decide +kernel)]; kernel_rfl) | (rw [if_neg (by decide +kernel)]; exact ⟨rfl, rfl⟩))
    (fun os started H enc _ => lifted os started H enc)
theorem proved : Rows.LedgerOwnSaid := over
#print axioms proved
end Go.Proofs.Ytkjkonkgcepanaa.ledgerOwn
namespace Go.Proofs.Ytkjkonkgcepanaa
/-- The row, under a short name, for the claim. -/
theorem ledgerOwn_holds : Rows.LedgerOwnSaid := ledgerOwn.proved
end Go.Proofs.Ytkjkonkgcepanaa
