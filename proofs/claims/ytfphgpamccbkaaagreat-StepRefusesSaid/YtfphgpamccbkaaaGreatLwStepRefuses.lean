/- A pair of unlike types, or one that is not sealed, or one whose data may be run, is not called: for every two capabilities. -/
import Derived.Test.YtfphgpamccbkaaaGreatRows
import Derived.WalkKit
import Derived.ProofKit
import Derived.OpenShut
import Derived.SizedLaws
import Derived.Test.YtfphgpamccbkaaaGreatKp4
namespace Go.Proofs.YtfphgpamccbkaaaGreat.stepRefuses
open Go.ChangeShapes Go.WideShapes Go.ChangeAt Go.RowKit Go.Sz
set_option linter.unusedVariables false
set_option linter.unusedSimpArgs false
theorem own : ownKnob Tryz.prog.godebug = none := by kernel_rfl
theorem laid : laidOutB Tryz.prog = true := by kernel_rfl
set_option maxRecDepth 100000 in
theorem lifted (os : Os) (started : os.Started) (H : Type) (enc : TypeId × Value → H) :
    ReturnsInHanded {} Tryz.checked os 7 .any (Rows.stepRefusesSpec.pre6 enc Tryz.prog Tryz.f7 Rows.stepRefusesRow.domain false) (Rows.stepRefusesSpec.post enc Tryz.prog Tryz.f7 false true false false) := by
  refine returnsInHanded_of_change_sized (C := Tryz.checked) own started (by kernel_rfl) Tryz.func7
    (ChangeSpec.witness6 (enc := enc) (C := Tryz.checked) false ⟨#[], #[.agg #[.bool false, .int .i64 0, .int .i64 0, .int .i64 0, .int .i64 0, .int .i64 0], .agg #[.bool false, .int .i64 0, .int .i64 0, .int .i64 0, .int .i64 0, .int .i64 0]], []⟩ 8 (by kernel_rfl) (by kernel_rfl) (by kernel_rfl) (by kernel_rfl)) ?_
  intro W base args ds gs before hval0 hW hcnd hsz _
  have hval : ∀ (j : Nat) t v, Tryz.f7.params[j]? = some t → args[j]? = some v → Value.okWide Tryz.prog W .any base t v := hval0
  have hW' := hW
  obtain ⟨p, q, hA0, hV, rfl, hfz, hnd⟩ := hW
  have hA : DataW.TrodAll enc Tryz.prog W 0 (fun _ => true) true Tryz.f7.params.toList args.toList ds p := hA0
  rw [Tryz.params7] at hA hval
  obtain ⟨v0, vs0, d0, ds0, p0, q0, hargs, rfl, rfl, h0, r0⟩ := trodAll_cons hA
  obtain ⟨v1, vs1, d1, ds1, p1, q1, rfl, rfl, rfl, h1, r1⟩ := trodAll_cons r0
  obtain ⟨rfl, rfl, rfl⟩ := trodAll_nil r1
  obtain rfl : args = #[v0, v1] := by cases args; simp_all
  obtain ⟨rfl, rfl⟩ := trodVars_none hV
  have hlight := light_each hsz
  have hval1 := hval
  obtain ⟨a, e0, g0⟩ := rd_arg rd_cap h0 (hlight 0 27 d0 rfl rfl)
  obtain rfl : v0 = a.v := by rw [arg_struct (by kernel_rfl : Tryz.prog.underlying 27 = some (.struct (Tryz.prog.fieldsOf 27))) (hval 0 27 v0 rfl rfl)]; show Value.agg v0.cells = .agg (List.toArray _); congr 1; exact Array.ext' e0
  obtain ⟨b, e1, g1⟩ := rd_arg rd_cap h1 (hlight 1 27 d1 rfl rfl)
  obtain rfl : v1 = b.v := by rw [arg_struct (by kernel_rfl : Tryz.prog.underlying 27 = some (.struct (Tryz.prog.fieldsOf 27))) (hval 1 27 v1 rfl rfl)]; show Value.agg v1.cells = .agg (List.toArray _); congr 1; exact Array.ext' e1
  clear hA0 hval0
  refine (Ct.below (f7_ct a b g0 g1) (ro := []) (fun y hy => by cases hy)).mono fun e W' ⟨_, he, hb⟩ => ?_
  subst he
  exact ⟨_, rfl, post_law laid (by decide +kernel) hW' rfl (by kernel_rfl) Tryz.underlying4 rfl hb⟩
theorem over : Rows.stepRefusesRow.holds Tryz.pinned (OpenSpec.ofChange Rows.stepRefusesSpec) :=
  OpenClaim.holds_of_wide 7 Tryz.f7 rfl rfl rfl rfl rfl rfl rfl ⟨rfl, rfl, rfl, rfl, rfl⟩ rfl rfl rfl rfl rfl (by kernel_rfl) Tryz.func7 (by kernel_rfl)
    (of_decide_eq_true (by kernel_rfl)) (by unfold Func.isWrapper; first | (rw [if_pos (by decide +kernel)]; kernel_rfl) | (rw [if_neg (by decide +kernel)]; exact ⟨rfl, rfl⟩))
    (fun os started H enc _ => lifted os started H enc)
/-- The statement. -/
theorem proved : Rows.StepRefusesSaid :=
  over
#print axioms proved
end Go.Proofs.YtfphgpamccbkaaaGreat.stepRefuses
