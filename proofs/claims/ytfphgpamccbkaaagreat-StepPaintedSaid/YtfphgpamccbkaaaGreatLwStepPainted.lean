/- A thread that holds nothing that is painted comes to hold nothing that is, if all that it and memory hold is painted whole or not at all: for every beginning and number of steps. -/
import Derived.Test.YtfphgpamccbkaaaGreatRows
import Derived.WalkKit
import Derived.ProofKit
import Derived.OpenShut
import Derived.SizedLaws
import Derived.Test.YtfphgpamccbkaaaGreatKp5
namespace Go.Proofs.YtfphgpamccbkaaaGreat.stepPainted
open Go.ChangeShapes Go.WideShapes Go.ChangeAt Go.RowKit Go.Sz
set_option linter.unusedVariables false
set_option linter.unusedSimpArgs false
theorem own : ownKnob Tryz.prog.godebug = none := by kernel_rfl
theorem laid : laidOutB Tryz.prog = true := by kernel_rfl
set_option maxRecDepth 100000 in
theorem lifted (os : Os) (started : os.Started) (H : Type) (enc : TypeId × Value → H) :
    ReturnsInHanded {} Tryz.checked os 10 .any (Rows.stepPaintedSpec.pre6 enc Tryz.prog Tryz.f10 Rows.stepPaintedRow.domain false) (Rows.stepPaintedSpec.post enc Tryz.prog Tryz.f10 false true false false) := by
  refine returnsInHanded_of_change_sized (C := Tryz.checked) own started (by kernel_rfl) Tryz.func10
    (ChangeSpec.witness6 (enc := enc) (C := Tryz.checked) false ⟨#[], #[.agg #[.slice none 0 0, .slice none 0 0, .slice none 0 0, .slice none 0 0, .bool false, .int .i64 0, .int .i64 0, .int .i64 0, .int .i64 0, .int .i64 0], .int .u8 0], []⟩ 8 (by kernel_rfl) (by kernel_rfl) (by kernel_rfl) (by kernel_rfl)) ?_
  intro W base args ds gs before hval0 hW hcnd hsz _
  have hval : ∀ (j : Nat) t v, Tryz.f10.params[j]? = some t → args[j]? = some v → Value.okWide Tryz.prog W .any base t v := hval0
  have hW' := hW
  obtain ⟨p, q, hA0, hV, rfl, hfz, hnd⟩ := hW
  have hA : DataW.TrodAll enc Tryz.prog W 0 (fun _ => true) true Tryz.f10.params.toList args.toList ds p := hA0
  rw [Tryz.params10] at hA hval
  obtain ⟨v0, vs0, d0, ds0, p0, q0, hargs, rfl, rfl, h0, r0⟩ := trodAll_cons hA
  obtain ⟨v1, vs1, d1, ds1, p1, q1, rfl, rfl, rfl, h1, r1⟩ := trodAll_cons r0
  obtain ⟨rfl, rfl, rfl⟩ := trodAll_nil r1
  obtain rfl : args = #[v0, v1] := by cases args; simp_all
  obtain ⟨rfl, rfl⟩ := trodVars_none hV
  have hlight := light_each hsz
  have hval1 := hval
  obtain ⟨⟨cq, cx⟩, e0, g0⟩ := rd_arg rd_case h0 (hlight 0 29 d0 rfl rfl)
  obtain rfl : v0 = caseV cq cx := by rw [arg_struct (by kernel_rfl : Tryz.prog.underlying 29 = some (.struct (Tryz.prog.fieldsOf 29))) (hval 0 29 v0 rfl rfl)]; show Value.agg v0.cells = .agg (List.toArray _); congr 1; exact Array.ext' e0
  obtain ⟨a1, rfl, _, _, w1⟩ := open_int Tryz.underlying5 (hval 1 5 v1 rfl rfl) h1
  have g1 : 0 ≤ a1 ∧ a1 ≤ 255 := by have h := w1; simp [Lit.wf, IntKind.min, IntKind.max, IntKind.signed, IntKind.bits] at h; omega
  clear hA0 hval0
  refine (Ct.below (f10_ct cq cx a1 g0.1 g1) (ro := caseRo cq cx) (fun y hy => by exact g0.2.2 y hy)).mono fun e W' ⟨_, he, hb⟩ => ?_
  subst he
  exact ⟨_, rfl, post_law laid (by decide +kernel) hW' rfl (by kernel_rfl) Tryz.underlying4 rfl hb⟩
theorem over : Rows.stepPaintedRow.holds Tryz.pinned (OpenSpec.ofChange Rows.stepPaintedSpec) :=
  OpenClaim.holds_of_wide 10 Tryz.f10 rfl rfl rfl rfl rfl rfl rfl ⟨rfl, rfl, rfl, rfl, rfl⟩ rfl rfl rfl rfl rfl (by kernel_rfl) Tryz.func10 (by kernel_rfl)
    (of_decide_eq_true (by kernel_rfl)) (by unfold Func.isWrapper; first | (rw [if_pos (by decide +kernel)]; kernel_rfl) | (rw [if_neg (by decide +kernel)]; exact ⟨rfl, rfl⟩))
    (fun os started H enc _ => lifted os started H enc)
/-- The statement. -/
theorem proved : Rows.StepPaintedSaid :=
  over
#print axioms proved
end Go.Proofs.YtfphgpamccbkaaaGreat.stepPainted
