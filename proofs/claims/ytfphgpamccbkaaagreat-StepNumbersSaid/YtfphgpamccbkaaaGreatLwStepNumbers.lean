/- Numbers of two registers come to what an instruction makes of them, whatever stands in the others; a division by nothing is a trap: for every instruction, two numbers and beginning. -/
import Derived.Test.YtfphgpamccbkaaaGreatRows
import Derived.WalkKit
import Derived.ProofKit
import Derived.OpenShut
import Derived.SizedLaws
import Derived.Test.YtfphgpamccbkaaaGreatKp4
namespace Go.Proofs.YtfphgpamccbkaaaGreat.stepNumbers
open Go.ChangeShapes Go.WideShapes Go.ChangeAt Go.RowKit Go.Sz
set_option linter.unusedVariables false
set_option linter.unusedSimpArgs false
theorem own : ownKnob Tryz.prog.godebug = none := by kernel_rfl
theorem laid : laidOutB Tryz.prog = true := by kernel_rfl
set_option maxRecDepth 100000 in
theorem lifted (os : Os) (started : os.Started) (H : Type) (enc : TypeId × Value → H) :
    ReturnsInHanded {} Tryz.checked os 3 .any (Rows.stepNumbersSpec.pre6 enc Tryz.prog Tryz.f3 Rows.stepNumbersRow.domain false) (Rows.stepNumbersSpec.post enc Tryz.prog Tryz.f3 false true false false) := by
  refine returnsInHanded_of_change_sized (C := Tryz.checked) own started (by kernel_rfl) Tryz.func3
    (ChangeSpec.witness6 (enc := enc) (C := Tryz.checked) false ⟨#[], #[.int .u8 0, .int .u32 0, .int .u32 0, .agg #[.slice none 0 0, .slice none 0 0, .slice none 0 0, .slice none 0 0, .bool false, .int .i64 0, .int .i64 0, .int .i64 0, .int .i64 0, .int .i64 0]], []⟩ 8 (by kernel_rfl) (by kernel_rfl) (by kernel_rfl) (by kernel_rfl)) ?_
  intro W base args ds gs before hval0 hW hcnd hsz _
  have hval : ∀ (j : Nat) t v, Tryz.f3.params[j]? = some t → args[j]? = some v → Value.okWide Tryz.prog W .any base t v := hval0
  have hW' := hW
  obtain ⟨p, q, hA0, hV, rfl, hfz, hnd⟩ := hW
  have hA : DataW.TrodAll enc Tryz.prog W 0 (fun _ => true) true Tryz.f3.params.toList args.toList ds p := hA0
  rw [Tryz.params3] at hA hval
  obtain ⟨v0, vs0, d0, ds0, p0, q0, hargs, rfl, rfl, h0, r0⟩ := trodAll_cons hA
  obtain ⟨v1, vs1, d1, ds1, p1, q1, rfl, rfl, rfl, h1, r1⟩ := trodAll_cons r0
  obtain ⟨v2, vs2, d2, ds2, p2, q2, rfl, rfl, rfl, h2, r2⟩ := trodAll_cons r1
  obtain ⟨v3, vs3, d3, ds3, p3, q3, rfl, rfl, rfl, h3, r3⟩ := trodAll_cons r2
  obtain ⟨rfl, rfl, rfl⟩ := trodAll_nil r3
  obtain rfl : args = #[v0, v1, v2, v3] := by cases args; simp_all
  obtain ⟨rfl, rfl⟩ := trodVars_none hV
  have hlight := light_each hsz
  have hval1 := hval
  obtain ⟨a0, rfl, _, _, w0⟩ := open_int Tryz.underlying5 (hval 0 5 v0 rfl rfl) h0
  have g0 : 0 ≤ a0 ∧ a0 ≤ 255 := by have h := w0; simp [Lit.wf, IntKind.min, IntKind.max, IntKind.signed, IntKind.bits] at h; omega
  obtain ⟨a1, rfl, _, _, w1⟩ := open_int Tryz.underlying22 (hval 1 22 v1 rfl rfl) h1
  have g1 : 0 ≤ a1 ∧ a1 ≤ 4294967295 := by have h := w1; simp [Lit.wf, IntKind.min, IntKind.max, IntKind.signed, IntKind.bits] at h; omega
  obtain ⟨a2, rfl, _, _, w2⟩ := open_int Tryz.underlying22 (hval 2 22 v2 rfl rfl) h2
  have g2 : 0 ≤ a2 ∧ a2 ≤ 4294967295 := by have h := w2; simp [Lit.wf, IntKind.min, IntKind.max, IntKind.signed, IntKind.bits] at h; omega
  obtain ⟨⟨cq, cx⟩, e3, g3⟩ := rd_arg rd_case h3 (hlight 3 29 d3 rfl rfl)
  obtain rfl : v3 = caseV cq cx := by rw [arg_struct (by kernel_rfl : Tryz.prog.underlying 29 = some (.struct (Tryz.prog.fieldsOf 29))) (hval 3 29 v3 rfl rfl)]; show Value.agg v3.cells = .agg (List.toArray _); congr 1; exact Array.ext' e3
  clear hA0 hval0
  refine (Ct.below (f3_ct a0 a1 a2 cq cx g3.1 g0 g1 g2) (ro := caseRo cq cx) (fun y hy => by exact g3.2.2 y hy)).mono fun e W' ⟨_, he, hb⟩ => ?_
  subst he
  exact ⟨_, rfl, post_law laid (by decide +kernel) hW' rfl (by kernel_rfl) Tryz.underlying4 rfl hb⟩
theorem over : Rows.stepNumbersRow.holds Tryz.pinned (OpenSpec.ofChange Rows.stepNumbersSpec) :=
  OpenClaim.holds_of_wide 3 Tryz.f3 rfl rfl rfl rfl rfl rfl rfl ⟨rfl, rfl, rfl, rfl, rfl⟩ rfl rfl rfl rfl rfl (by kernel_rfl) Tryz.func3 (by kernel_rfl)
    (of_decide_eq_true (by kernel_rfl)) (by unfold Func.isWrapper; first | (rw [if_pos (by decide +kernel)]; kernel_rfl) | (rw [if_neg (by decide +kernel)]; exact ⟨rfl, rfl⟩))
    (fun os started H enc _ => lifted os started H enc)
/-- The statement. -/
theorem proved : Rows.StepNumbersSaid :=
  over
#print axioms proved
end Go.Proofs.YtfphgpamccbkaaaGreat.stepNumbers
