/- Contracts of functions: what each computes, and what becomes of the memory that it is given. -/
import Derived.Test.YtfphgpamccbkaaaGreatProg
import Derived.Test.YtfphgpamccbkaaaGreatKp3
set_option linter.unusedVariables false
set_option linter.unusedSimpArgs false
set_option linter.unusedSectionVars false
set_option linter.unnecessarySimpa false
namespace Go.Proofs
open Go Go.Sz
attribute [local irreducible] pt lift exs own emp
theorem Tryz.fo46_0 : fOff Tryz.prog 46 0 = some (0, 1, false) := by kernel_rfl
attribute [local irreducible] refM refW

theorem f7_yes (a b : Cap) (oa : CapI a) (ob : CapI b) (he : enters a b = 0) : Ct Tryz.prog 7 #[a.v, b.v] [] [] (fun _ : Unit => .bool true) (fun _ N => N) := by
  refine ct_intro Tryz.func7 rfl (by kernel_rfl) (n := 123) rfl rfl (E := [(0, a.v), (1, b.v)]) rfl ?_
  intro κ hro
  have hda := refuse_iff oa ob
  refine tc_seq ?_
  refine tc_region ?_
  refine tl_box rfl rfl (fun b2 => ?_)
  refine tl_box rfl rfl (fun b3 => ?_)
  refine tl_p (pr_assign rfl) rfl ?_
  refine tl_next ?_
  refine tc_seq ?_
  refine tc_region ?_
  refine tl_callS (f12_ct) (.nil) rfl (kk := fun _ => ?_)
  refine tl_p (pr_assign rfl) rfl ?_
  refine tl_next ?_
  refine tc_seq ?_
  refine tc_region ?_
  refine tl_p (Tryz.bl33_0_1_2 rfl rfl rfl) rfl ?_
  refine tl_p (Tryz.bl33_ ) rfl ?_
  refine tl_buildS Tryz.sf23 Tryz.z33 rfl (.cons rfl (.cons rfl .nil)) rfl rfl (c := insL refX.code) rfl rfl rfl (kk := fun s16 hs16 ms16 => ?_)
  refine tl_p (Tryz.bl29_0 rfl (o0 := sv_one _ _)) rfl ?_
  refine tl_alloc Tryz.z29 rfl (fun b6 => ?_)
  refine tl_storeW Tryz.sz29 rfl rfl (h1 := by show allOne (caseL ⟨s16, 2, .nil, 0, .nil, 0, .nil, 0⟩ refX) = true; simp only [allOne, sv_one]; rfl) (k := ?_)
  refine tl_next ?_
  refine tc_seq ?_
  refine tc_region ?_
  refine tl_p (by first | exact pr_loadW Tryz.ag29 Tryz.sz29 rfl | exact pr_ldA Tryz.ag29 Tryz.sz29 rfl) rfl ?_
  refine tl_callS (refMade ⟨s16, 2, .nil, 0, .nil, 0, .nil, 0⟩ ⟨hs16.toSok, Sok.nil, Sok.nil, Sok.nil⟩) (.cons rfl .nil) rfl (hro := Rdbs.app (Rdbs.sl (.own (by repeat (first | exact Has.here | apply Has.there)))) .nil) (kk := fun ⟨p20, hm20, hw20⟩ => ?_)
  refine tl_p (pr_move rfl) rfl ?_
  refine tl_p (pr_extract rfl rfl) rfl ?_
  refine tl_p (pr_extract rfl rfl) rfl ?_
  refine tl_p (pr_extract rfl rfl) rfl ?_
  refine tl_p (pr_assign rfl) rfl ?_
  refine tl_p (pr_assign rfl) rfl ?_
  refine tl_p (pr_assign rfl) rfl ?_
  refine tl_next ?_
  refine tc_seq ?_
  refine tc_seq ?_
  refine tc_region ?_
  refine tl_p (pr_move rfl) rfl ?_
  refine tl_p (pr_eqlP Tryz.underlying34 rfl (.inr ⟨_, rfl⟩)) rfl ?_
  refine tl_p (pr_move rfl) rfl ?_
  refine tl_on rfl rfl rfl ?_
  refine tl_p (by first | exact pr_loadW Tryz.ag27 Tryz.sz27 rfl | exact pr_ldA Tryz.ag27 Tryz.sz27 rfl) rfl ?_
  refine tl_on rfl rfl rfl ?_
  refine tl_rdS (f28_ct _) (.cons rfl .nil) rfl (kk := ?_)
  refine tl_on rfl rfl rfl ?_
  refine tl_p (pr_not rfl) rfl ?_
  refine tl_p (pr_pickF rfl rfl) rfl ?_
  refine tl_p (pr_move rfl) rfl ?_
  refine tl_gf rfl rfl (fun h => by first | exact pr_loadW Tryz.ag27 Tryz.sz27 rfl | exact pr_ldA Tryz.ag27 Tryz.sz27 rfl) (by intro _ h; cases h) rfl ?_
  refine tl_rdgfS rfl rfl (fun h => ⟨f28_ct _, .cons (gv rfl h) .nil⟩) rfl (kk := ?_)
  refine tl_gf rfl rfl (fun h => pr_not (gv rfl h)) (by intro _ h; cases h) rfl ?_
  refine tl_p (pr_or rfl rfl rfl) rfl ?_
  refine tl_next ?_
  refine tc_if rfl (fun hc1 => ?_) (fun hc1 => ?_)
  · have hd1 := hc1
    try simp only [Bool.not_eq_true', Bool.not_eq_false', Bool.or_eq_true, Bool.and_eq_true, Bool.or_eq_false_iff, Bool.and_eq_false_iff, decide_eq_true_eq, decide_eq_false_iff_not, Bool.not_true, Bool.not_false, gval, Bool.not_eq_eq_eq_not] at hc1
    refine tc_seq ?_
    refine tc_region ?_
    refine tl_p (pr_move rfl) rfl ?_
    refine tl_p (pr_neqP Tryz.underlying34 rfl (.inr ⟨_, rfl⟩)) rfl ?_
    refine tl_p (pr_move rfl) rfl ?_
    refine tl_on rfl rfl rfl ?_
    refine tl_p (pr_move rfl) rfl ?_
    refine tl_p (pr_pickT rfl rfl) rfl ?_
    refine tl_p (pr_assign rfl) rfl ?_
    refine tl_next ?_
    refine tc_ret (tq_then_ret ?_)
    exact tq_ret1 .ret (.inl rfl) () rfl rfl
  · have hd1 := hc1
    try simp only [Bool.not_eq_true', Bool.not_eq_false', Bool.or_eq_true, Bool.and_eq_true, Bool.or_eq_false_iff, Bool.and_eq_false_iff, decide_eq_true_eq, decide_eq_false_iff_not, Bool.not_true, Bool.not_false, gval, Bool.not_eq_eq_eq_not] at hc1
    have hra : capRight a = true := by rw [← ref_right oa]; revert hd1; cases refRight a <;> simp [gval]
    have hrb : capRight b = true := by rw [← ref_right ob]; revert hd1; cases refRight a <;> cases refRight b <;> simp [gval]
    have hD := hda hra hrb
    refine tc_skip (tq_next ?_)
    refine tc_seq ?_
    refine tc_draw Tryz.mixed [0, 1, 2] (by kernel_rfl) ?_
    refine td_q 0 41 (pm_of rfl rfl rfl (fun _ kq => tl_p (pr_move rfl) rfl kq)) rfl rfl rfl ?_
    refine td_q 1 42 (pm_of rfl rfl rfl (fun _ kq => tl_rdS (f15_ct p20.tb _ p20.rb p20.fb) (.cons rfl .nil) rfl (kk := kq))) rfl rfl rfl ?_
    refine td_q 2 43 (pm_of rfl rfl rfl (fun _ kq => tl_p (by first | exact pr_loadW Tryz.ag27 Tryz.sz27 rfl | exact pr_ldA Tryz.ag27 Tryz.sz27 rfl) rfl kq)) rfl rfl rfl ?_
    refine td_e1 3 (by kernel_rfl) ?_
    refine te rfl ?_
    refine tl_callS (f16_ct p20.rb [nullC, nullC, nullC, nullC, nullC, nullC, nullC, nullC] rfl 0 a) (.cons rfl (.cons rfl (.cons rfl .nil))) rfl (kk := fun _ => ?_)
    rw [ref_r1 hra]
    refine td_next (pd := []) (by kernel_rfl) (.nil) ?_
    refine td_done (by kernel_rfl) ?_
    refine tq_next ?_
    refine tc_seq ?_
    refine tc_draw Tryz.mixed [0, 1, 2] (by kernel_rfl) ?_
    refine td_q 0 45 (pm_of rfl rfl rfl (fun _ kq => tl_p (pr_move rfl) rfl kq)) rfl rfl rfl ?_
    refine td_q 1 46 (pm_of rfl rfl rfl (fun _ kq => tl_rdS (f15_ct p20.tb _ p20.rb p20.fb) (.cons rfl .nil) rfl (kk := kq))) rfl rfl rfl ?_
    refine td_q 2 47 (pm_of rfl rfl rfl (fun _ kq => tl_p (by first | exact pr_loadW Tryz.ag27 Tryz.sz27 rfl | exact pr_ldA Tryz.ag27 Tryz.sz27 rfl) rfl kq)) rfl rfl rfl ?_
    refine td_e1 3 (by kernel_rfl) ?_
    refine te rfl ?_
    refine tl_callS (f16_ct p20.rb [a, nullC, nullC, nullC, nullC, nullC, nullC, nullC] rfl 1 b) (.cons rfl (.cons rfl (.cons rfl .nil))) rfl (kk := fun _ => ?_)
    rw [ref_r2 hrb]
    refine td_next (pd := []) (by kernel_rfl) (.nil) ?_
    refine td_done (by kernel_rfl) ?_
    refine tq_next ?_
    refine tc_seq ?_
    refine tc_region ?_
    refine tl_p (pr_move rfl) rfl ?_
    refine tl_p (pr_move rfl) rfl ?_
    refine tl_p (pr_move rfl) rfl ?_
    obtain ⟨regs, fs, pos, hlr, hst⟩ := ref_yes he
    refine tl_callS (stepE_ct p20 hst rfl hm20 refM_n hw20 refW_len) (.cons rfl (.cons rfl (.cons rfl .nil))) rfl (kk := fun _ => ?_)
    clear hst
    refine tl_alloc Tryz.z46 rfl (fun b10 => ?_)
    refine tl_storeW Tryz.sz46 rfl rfl (k := ?_)
    refine tl_next ?_
    refine tc_seq ?_
    refine tc_region ?_
    refine tl_p (pr_fieldAddr Tryz.fo27_0 rfl) rfl ?_
    refine tl_p (pr_ld Tryz.ag4 rfl) rfl ?_
    refine tl_p (pr_move rfl) rfl ?_
    refine tl_gt rfl rfl (fun h => pr_fieldAddr Tryz.fo27_5 rfl) (by intro _ h; cases h) rfl ?_
    refine tl_gt rfl rfl (fun h => pr_ld Tryz.ag3 (gv rfl h)) (by intro _ h; cases h) rfl ?_
    refine tl_gt rfl rfl (fun h => pr_eql (gv rfl h) rfl) (by intro _ h; cases h) rfl ?_
    refine tl_p (pr_and rfl rfl rfl) rfl ?_
    refine tl_p (pr_move rfl) rfl ?_
    refine tl_gt rfl rfl (fun h => pr_fieldAddr Tryz.fo27_4 rfl) (by intro _ h; cases h) rfl ?_
    refine tl_gt rfl rfl (fun h => pr_ld Tryz.ag3 (gv rfl h)) (by intro _ h; cases h) rfl ?_
    refine tl_gt rfl rfl (fun h => pr_bAnd (gv rfl h) rfl) (by intro _ h; cases h) rfl ?_
    refine tl_gt rfl rfl (fun h => pr_neq (gv rfl h) rfl) (by intro _ h; cases h) rfl ?_
    refine tl_p (pr_and rfl rfl rfl) rfl ?_
    refine tl_p (pr_assign rfl) rfl ?_
    refine tl_next ?_
    refine tc_seq ?_
    refine tc_region ?_
    refine tl_p (pr_fieldAddr Tryz.fo27_0 rfl) rfl ?_
    refine tl_p (pr_ld Tryz.ag4 rfl) rfl ?_
    refine tl_p (pr_move rfl) rfl ?_
    refine tl_gt rfl rfl (fun h => pr_fieldAddr Tryz.fo27_5 rfl) (by intro _ h; cases h) rfl ?_
    refine tl_gt rfl rfl (fun h => pr_ld Tryz.ag3 (gv rfl h)) (by intro _ h; cases h) rfl ?_
    refine tl_gt rfl rfl (fun h => pr_geq (gv rfl h) rfl) (by intro _ h; cases h) rfl ?_
    refine tl_p (pr_and rfl rfl rfl) rfl ?_
    refine tl_p (pr_move rfl) rfl ?_
    refine tl_gt rfl rfl (fun h => pr_fieldAddr Tryz.fo27_4 rfl) (by intro _ h; cases h) rfl ?_
    refine tl_gt rfl rfl (fun h => pr_ld Tryz.ag3 (gv rfl h)) (by intro _ h; cases h) rfl ?_
    refine tl_gt rfl rfl (fun h => pr_bAnd (gv rfl h) rfl) (by intro _ h; cases h) rfl ?_
    refine tl_gt rfl rfl (fun h => pr_neq (gv rfl h) rfl) (by intro _ h; cases h) rfl ?_
    refine tl_p (pr_and rfl rfl rfl) rfl ?_
    refine tl_p (pr_move rfl) rfl ?_
    refine tl_gt rfl rfl (fun h => pr_fieldAddr Tryz.fo27_0 rfl) (by intro _ h; cases h) rfl ?_
    refine tl_gt rfl rfl (fun h => pr_ld Tryz.ag4 (gv rfl h)) (by intro _ h; cases h) rfl ?_
    refine tl_p (pr_and rfl rfl rfl) rfl ?_
    refine tl_p (pr_move rfl) rfl ?_
    refine tl_gt rfl rfl (fun h => pr_fieldAddr Tryz.fo27_5 rfl) (by intro _ h; cases h) rfl ?_
    refine tl_gt rfl rfl (fun h => pr_ld Tryz.ag3 (gv rfl h)) (by intro _ h; cases h) rfl ?_
    refine tl_gt rfl rfl (fun h => pr_fieldAddr Tryz.fo27_5 rfl) (by intro _ h; cases h) rfl ?_
    refine tl_gt rfl rfl (fun h => pr_ld Tryz.ag3 (gv rfl h)) (by intro _ h; cases h) rfl ?_
    refine tl_gt rfl rfl (fun h => pr_eql (gv rfl h) (gv rfl h)) (by intro _ h; cases h) rfl ?_
    refine tl_p (pr_and rfl rfl rfl) rfl ?_
    refine tl_p (pr_move rfl) rfl ?_
    refine tl_gt rfl rfl (fun h => pr_fieldAddr Tryz.fo27_4 rfl) (by intro _ h; cases h) rfl ?_
    refine tl_gt rfl rfl (fun h => pr_ld Tryz.ag3 (gv rfl h)) (by intro _ h; cases h) rfl ?_
    refine tl_gt rfl rfl (fun h => pr_bAnd (gv rfl h) rfl) (by intro _ h; cases h) rfl ?_
    refine tl_gt rfl rfl (fun h => pr_eql (gv rfl h) rfl) (by intro _ h; cases h) rfl ?_
    refine tl_p (pr_and rfl rfl rfl) rfl ?_
    refine tl_p (pr_assign rfl) rfl ?_
    refine tl_next ?_
    refine tc_seq ?_
    refine tc_region ?_
    refine tl_p (pr_move rfl) rfl ?_
    refine tl_p (pr_move rfl) rfl ?_
    refine tl_gt rfl rfl (fun h => pr_fieldAddr Tryz.fo46_0 rfl) (by intro _ h; cases h) rfl ?_
    refine tl_gt rfl rfl (fun h => pr_ld Tryz.ag3 (gv rfl h)) (by intro _ h; cases h) rfl ?_
    refine tl_gt rfl rfl (fun h => pr_eql (gv rfl h) rfl) (by intro _ h; cases h) rfl ?_
    refine tl_gt rfl rfl (fun h => pr_move rfl) (by intro _ h; cases h) rfl ?_
    refine tl_gt rfl rfl (fun h => pr_move (gv rfl h)) (by intro _ h; cases h) rfl ?_
    refine tl_ggf rfl rfl (fun h => pr_move rfl) (by intro _ h; cases h) rfl ?_
    refine tl_gt rfl rfl (fun h => pr_or (gv rfl h) rfl (gv2 rfl h)) (by intro _ h; cases h) rfl ?_
    refine tl_gt rfl rfl (fun h => pr_eq (v' := .bool true) (pr_eqlB Tryz.underlying4 rfl rfl) (by show Value.bool (_ == (aloneC a || pairC a b)) = _; rw [← hD]; simp [he])) (by intro _ h; cases h) rfl ?_
    refine tl_p (pr_and rfl rfl rfl) rfl ?_
    refine tl_p (pr_move rfl) rfl ?_
    refine tl_gt rfl rfl (fun h => pr_fieldAddr Tryz.fo46_0 rfl) (by intro _ h; cases h) rfl ?_
    refine tl_gt rfl rfl (fun h => pr_ld Tryz.ag3 (gv rfl h)) (by intro _ h; cases h) rfl ?_
    refine tl_gt rfl rfl (fun h => pr_eql (gv rfl h) rfl) (by intro _ h; cases h) rfl ?_
    refine tl_gt rfl rfl (fun h => pr_move (gv rfl h)) (by intro _ h; cases h) rfl ?_
    refine tl_ggf rfl rfl (fun h => pr_fieldAddr Tryz.fo46_0 rfl) (by intro _ h; cases h) rfl ?_
    refine tl_ggf rfl rfl (fun h => pr_ld Tryz.ag3 (gv rfl h)) (by intro _ h; cases h) rfl ?_
    refine tl_ggf rfl rfl (fun h => pr_eql (gv rfl h) rfl) (by intro _ h; cases h) rfl ?_
    refine tl_ggf rfl rfl (fun h => pr_move (gv rfl h)) (by intro _ h; cases h) rfl ?_
    refine tl_ggt rfl rfl (fun h => pr_move rfl) (by intro _ h; cases h) rfl ?_
    refine tl_rdggtS rfl rfl (fun h => ⟨f25_ct p20.tb _ p20.rb p20.fb, .cons (gv rfl h) .nil⟩) rfl (kk := ?_)
    refine tl_rdggtS rfl rfl (fun h => ⟨f26_ct _ _, .cons (gv rfl h) .nil⟩) rfl (kk := ?_)
    refine tl_ggt rfl rfl (fun h => pr_eql (gv rfl h) rfl) (by intro _ h; cases h) rfl ?_
    refine tl_ggf rfl rfl (fun h => pr_and (gv rfl h) (gv2 rfl h) rfl) (by intro _ h; cases h) rfl ?_
    refine tl_gt rfl rfl (fun h => pr_or (gv rfl h) rfl (gv2 rfl h)) (by intro _ h; cases h) rfl ?_
    refine tl_p (pr_and rfl rfl rfl) rfl ?_
    refine tl_p (pr_assign rfl) rfl ?_
    refine tl_next ?_
    refine tc_ret ?_
    exact tq_ret1 .ret (.inl rfl) () rfl rfl

theorem f7_no (a b : Cap) (oa : CapI a) (ob : CapI b) (he : ¬ enters a b = 0) : Ct Tryz.prog 7 #[a.v, b.v] [] [] (fun _ : Unit => .bool true) (fun _ N => N) := by
  refine ct_intro Tryz.func7 rfl (by kernel_rfl) (n := 123) rfl rfl (E := [(0, a.v), (1, b.v)]) rfl ?_
  intro κ hro
  have hda := refuse_iff oa ob
  refine tc_seq ?_
  refine tc_region ?_
  refine tl_box rfl rfl (fun b2 => ?_)
  refine tl_box rfl rfl (fun b3 => ?_)
  refine tl_p (pr_assign rfl) rfl ?_
  refine tl_next ?_
  refine tc_seq ?_
  refine tc_region ?_
  refine tl_callS (f12_ct) (.nil) rfl (kk := fun _ => ?_)
  refine tl_p (pr_assign rfl) rfl ?_
  refine tl_next ?_
  refine tc_seq ?_
  refine tc_region ?_
  refine tl_p (Tryz.bl33_0_1_2 rfl rfl rfl) rfl ?_
  refine tl_p (Tryz.bl33_ ) rfl ?_
  refine tl_buildS Tryz.sf23 Tryz.z33 rfl (.cons rfl (.cons rfl .nil)) rfl rfl (c := insL refX.code) rfl rfl rfl (kk := fun s16 hs16 ms16 => ?_)
  refine tl_p (Tryz.bl29_0 rfl (o0 := sv_one _ _)) rfl ?_
  refine tl_alloc Tryz.z29 rfl (fun b6 => ?_)
  refine tl_storeW Tryz.sz29 rfl rfl (h1 := by show allOne (caseL ⟨s16, 2, .nil, 0, .nil, 0, .nil, 0⟩ refX) = true; simp only [allOne, sv_one]; rfl) (k := ?_)
  refine tl_next ?_
  refine tc_seq ?_
  refine tc_region ?_
  refine tl_p (by first | exact pr_loadW Tryz.ag29 Tryz.sz29 rfl | exact pr_ldA Tryz.ag29 Tryz.sz29 rfl) rfl ?_
  refine tl_callS (refMade ⟨s16, 2, .nil, 0, .nil, 0, .nil, 0⟩ ⟨hs16.toSok, Sok.nil, Sok.nil, Sok.nil⟩) (.cons rfl .nil) rfl (hro := Rdbs.app (Rdbs.sl (.own (by repeat (first | exact Has.here | apply Has.there)))) .nil) (kk := fun ⟨p20, hm20, hw20⟩ => ?_)
  refine tl_p (pr_move rfl) rfl ?_
  refine tl_p (pr_extract rfl rfl) rfl ?_
  refine tl_p (pr_extract rfl rfl) rfl ?_
  refine tl_p (pr_extract rfl rfl) rfl ?_
  refine tl_p (pr_assign rfl) rfl ?_
  refine tl_p (pr_assign rfl) rfl ?_
  refine tl_p (pr_assign rfl) rfl ?_
  refine tl_next ?_
  refine tc_seq ?_
  refine tc_seq ?_
  refine tc_region ?_
  refine tl_p (pr_move rfl) rfl ?_
  refine tl_p (pr_eqlP Tryz.underlying34 rfl (.inr ⟨_, rfl⟩)) rfl ?_
  refine tl_p (pr_move rfl) rfl ?_
  refine tl_on rfl rfl rfl ?_
  refine tl_p (by first | exact pr_loadW Tryz.ag27 Tryz.sz27 rfl | exact pr_ldA Tryz.ag27 Tryz.sz27 rfl) rfl ?_
  refine tl_on rfl rfl rfl ?_
  refine tl_rdS (f28_ct _) (.cons rfl .nil) rfl (kk := ?_)
  refine tl_on rfl rfl rfl ?_
  refine tl_p (pr_not rfl) rfl ?_
  refine tl_p (pr_pickF rfl rfl) rfl ?_
  refine tl_p (pr_move rfl) rfl ?_
  refine tl_gf rfl rfl (fun h => by first | exact pr_loadW Tryz.ag27 Tryz.sz27 rfl | exact pr_ldA Tryz.ag27 Tryz.sz27 rfl) (by intro _ h; cases h) rfl ?_
  refine tl_rdgfS rfl rfl (fun h => ⟨f28_ct _, .cons (gv rfl h) .nil⟩) rfl (kk := ?_)
  refine tl_gf rfl rfl (fun h => pr_not (gv rfl h)) (by intro _ h; cases h) rfl ?_
  refine tl_p (pr_or rfl rfl rfl) rfl ?_
  refine tl_next ?_
  refine tc_if rfl (fun hc1 => ?_) (fun hc1 => ?_)
  · have hd1 := hc1
    try simp only [Bool.not_eq_true', Bool.not_eq_false', Bool.or_eq_true, Bool.and_eq_true, Bool.or_eq_false_iff, Bool.and_eq_false_iff, decide_eq_true_eq, decide_eq_false_iff_not, Bool.not_true, Bool.not_false, gval, Bool.not_eq_eq_eq_not] at hc1
    refine tc_seq ?_
    refine tc_region ?_
    refine tl_p (pr_move rfl) rfl ?_
    refine tl_p (pr_neqP Tryz.underlying34 rfl (.inr ⟨_, rfl⟩)) rfl ?_
    refine tl_p (pr_move rfl) rfl ?_
    refine tl_on rfl rfl rfl ?_
    refine tl_p (pr_move rfl) rfl ?_
    refine tl_p (pr_pickT rfl rfl) rfl ?_
    refine tl_p (pr_assign rfl) rfl ?_
    refine tl_next ?_
    refine tc_ret (tq_then_ret ?_)
    exact tq_ret1 .ret (.inl rfl) () rfl rfl
  · have hd1 := hc1
    try simp only [Bool.not_eq_true', Bool.not_eq_false', Bool.or_eq_true, Bool.and_eq_true, Bool.or_eq_false_iff, Bool.and_eq_false_iff, decide_eq_true_eq, decide_eq_false_iff_not, Bool.not_true, Bool.not_false, gval, Bool.not_eq_eq_eq_not] at hc1
    have hra : capRight a = true := by rw [← ref_right oa]; revert hd1; cases refRight a <;> simp [gval]
    have hrb : capRight b = true := by rw [← ref_right ob]; revert hd1; cases refRight a <;> cases refRight b <;> simp [gval]
    have hD := hda hra hrb
    refine tc_skip (tq_next ?_)
    refine tc_seq ?_
    refine tc_draw Tryz.mixed [0, 1, 2] (by kernel_rfl) ?_
    refine td_q 0 41 (pm_of rfl rfl rfl (fun _ kq => tl_p (pr_move rfl) rfl kq)) rfl rfl rfl ?_
    refine td_q 1 42 (pm_of rfl rfl rfl (fun _ kq => tl_rdS (f15_ct p20.tb _ p20.rb p20.fb) (.cons rfl .nil) rfl (kk := kq))) rfl rfl rfl ?_
    refine td_q 2 43 (pm_of rfl rfl rfl (fun _ kq => tl_p (by first | exact pr_loadW Tryz.ag27 Tryz.sz27 rfl | exact pr_ldA Tryz.ag27 Tryz.sz27 rfl) rfl kq)) rfl rfl rfl ?_
    refine td_e1 3 (by kernel_rfl) ?_
    refine te rfl ?_
    refine tl_callS (f16_ct p20.rb [nullC, nullC, nullC, nullC, nullC, nullC, nullC, nullC] rfl 0 a) (.cons rfl (.cons rfl (.cons rfl .nil))) rfl (kk := fun _ => ?_)
    rw [ref_r1 hra]
    refine td_next (pd := []) (by kernel_rfl) (.nil) ?_
    refine td_done (by kernel_rfl) ?_
    refine tq_next ?_
    refine tc_seq ?_
    refine tc_draw Tryz.mixed [0, 1, 2] (by kernel_rfl) ?_
    refine td_q 0 45 (pm_of rfl rfl rfl (fun _ kq => tl_p (pr_move rfl) rfl kq)) rfl rfl rfl ?_
    refine td_q 1 46 (pm_of rfl rfl rfl (fun _ kq => tl_rdS (f15_ct p20.tb _ p20.rb p20.fb) (.cons rfl .nil) rfl (kk := kq))) rfl rfl rfl ?_
    refine td_q 2 47 (pm_of rfl rfl rfl (fun _ kq => tl_p (by first | exact pr_loadW Tryz.ag27 Tryz.sz27 rfl | exact pr_ldA Tryz.ag27 Tryz.sz27 rfl) rfl kq)) rfl rfl rfl ?_
    refine td_e1 3 (by kernel_rfl) ?_
    refine te rfl ?_
    refine tl_callS (f16_ct p20.rb [a, nullC, nullC, nullC, nullC, nullC, nullC, nullC] rfl 1 b) (.cons rfl (.cons rfl (.cons rfl .nil))) rfl (kk := fun _ => ?_)
    rw [ref_r2 hrb]
    refine td_next (pd := []) (by kernel_rfl) (.nil) ?_
    refine td_done (by kernel_rfl) ?_
    refine tq_next ?_
    refine tc_seq ?_
    refine tc_region ?_
    refine tl_p (pr_move rfl) rfl ?_
    refine tl_p (pr_move rfl) rfl ?_
    refine tl_p (pr_move rfl) rfl ?_
    refine tl_callS (stepE_ct p20 (ref_no he) rfl hm20 refM_n hw20 refW_len) (.cons rfl (.cons rfl (.cons rfl .nil))) rfl (kk := fun _ => ?_)
    refine tl_alloc Tryz.z46 rfl (fun b10 => ?_)
    refine tl_storeW Tryz.sz46 rfl rfl (k := ?_)
    refine tl_next ?_
    refine tc_seq ?_
    refine tc_region ?_
    refine tl_p (pr_fieldAddr Tryz.fo27_0 rfl) rfl ?_
    refine tl_p (pr_ld Tryz.ag4 rfl) rfl ?_
    refine tl_p (pr_move rfl) rfl ?_
    refine tl_gt rfl rfl (fun h => pr_fieldAddr Tryz.fo27_5 rfl) (by intro _ h; cases h) rfl ?_
    refine tl_gt rfl rfl (fun h => pr_ld Tryz.ag3 (gv rfl h)) (by intro _ h; cases h) rfl ?_
    refine tl_gt rfl rfl (fun h => pr_eql (gv rfl h) rfl) (by intro _ h; cases h) rfl ?_
    refine tl_p (pr_and rfl rfl rfl) rfl ?_
    refine tl_p (pr_move rfl) rfl ?_
    refine tl_gt rfl rfl (fun h => pr_fieldAddr Tryz.fo27_4 rfl) (by intro _ h; cases h) rfl ?_
    refine tl_gt rfl rfl (fun h => pr_ld Tryz.ag3 (gv rfl h)) (by intro _ h; cases h) rfl ?_
    refine tl_gt rfl rfl (fun h => pr_bAnd (gv rfl h) rfl) (by intro _ h; cases h) rfl ?_
    refine tl_gt rfl rfl (fun h => pr_neq (gv rfl h) rfl) (by intro _ h; cases h) rfl ?_
    refine tl_p (pr_and rfl rfl rfl) rfl ?_
    refine tl_p (pr_assign rfl) rfl ?_
    refine tl_next ?_
    refine tc_seq ?_
    refine tc_region ?_
    refine tl_p (pr_fieldAddr Tryz.fo27_0 rfl) rfl ?_
    refine tl_p (pr_ld Tryz.ag4 rfl) rfl ?_
    refine tl_p (pr_move rfl) rfl ?_
    refine tl_gt rfl rfl (fun h => pr_fieldAddr Tryz.fo27_5 rfl) (by intro _ h; cases h) rfl ?_
    refine tl_gt rfl rfl (fun h => pr_ld Tryz.ag3 (gv rfl h)) (by intro _ h; cases h) rfl ?_
    refine tl_gt rfl rfl (fun h => pr_geq (gv rfl h) rfl) (by intro _ h; cases h) rfl ?_
    refine tl_p (pr_and rfl rfl rfl) rfl ?_
    refine tl_p (pr_move rfl) rfl ?_
    refine tl_gt rfl rfl (fun h => pr_fieldAddr Tryz.fo27_4 rfl) (by intro _ h; cases h) rfl ?_
    refine tl_gt rfl rfl (fun h => pr_ld Tryz.ag3 (gv rfl h)) (by intro _ h; cases h) rfl ?_
    refine tl_gt rfl rfl (fun h => pr_bAnd (gv rfl h) rfl) (by intro _ h; cases h) rfl ?_
    refine tl_gt rfl rfl (fun h => pr_neq (gv rfl h) rfl) (by intro _ h; cases h) rfl ?_
    refine tl_p (pr_and rfl rfl rfl) rfl ?_
    refine tl_p (pr_move rfl) rfl ?_
    refine tl_gt rfl rfl (fun h => pr_fieldAddr Tryz.fo27_0 rfl) (by intro _ h; cases h) rfl ?_
    refine tl_gt rfl rfl (fun h => pr_ld Tryz.ag4 (gv rfl h)) (by intro _ h; cases h) rfl ?_
    refine tl_p (pr_and rfl rfl rfl) rfl ?_
    refine tl_p (pr_move rfl) rfl ?_
    refine tl_gt rfl rfl (fun h => pr_fieldAddr Tryz.fo27_5 rfl) (by intro _ h; cases h) rfl ?_
    refine tl_gt rfl rfl (fun h => pr_ld Tryz.ag3 (gv rfl h)) (by intro _ h; cases h) rfl ?_
    refine tl_gt rfl rfl (fun h => pr_fieldAddr Tryz.fo27_5 rfl) (by intro _ h; cases h) rfl ?_
    refine tl_gt rfl rfl (fun h => pr_ld Tryz.ag3 (gv rfl h)) (by intro _ h; cases h) rfl ?_
    refine tl_gt rfl rfl (fun h => pr_eql (gv rfl h) (gv rfl h)) (by intro _ h; cases h) rfl ?_
    refine tl_p (pr_and rfl rfl rfl) rfl ?_
    refine tl_p (pr_move rfl) rfl ?_
    refine tl_gt rfl rfl (fun h => pr_fieldAddr Tryz.fo27_4 rfl) (by intro _ h; cases h) rfl ?_
    refine tl_gt rfl rfl (fun h => pr_ld Tryz.ag3 (gv rfl h)) (by intro _ h; cases h) rfl ?_
    refine tl_gt rfl rfl (fun h => pr_bAnd (gv rfl h) rfl) (by intro _ h; cases h) rfl ?_
    refine tl_gt rfl rfl (fun h => pr_eql (gv rfl h) rfl) (by intro _ h; cases h) rfl ?_
    refine tl_p (pr_and rfl rfl rfl) rfl ?_
    refine tl_p (pr_assign rfl) rfl ?_
    refine tl_next ?_
    refine tc_seq ?_
    refine tc_region ?_
    refine tl_p (pr_move rfl) rfl ?_
    refine tl_p (pr_move rfl) rfl ?_
    refine tl_gt rfl rfl (fun h => pr_fieldAddr Tryz.fo46_0 rfl) (by intro _ h; cases h) rfl ?_
    refine tl_gt rfl rfl (fun h => pr_ld Tryz.ag3 (gv rfl h)) (by intro _ h; cases h) rfl ?_
    refine tl_gt rfl rfl (fun h => pr_eql (gv rfl h) rfl) (by intro _ h; cases h) rfl ?_
    refine tl_gt rfl rfl (fun h => pr_move rfl) (by intro _ h; cases h) rfl ?_
    refine tl_gt rfl rfl (fun h => pr_move (gv rfl h)) (by intro _ h; cases h) rfl ?_
    refine tl_ggf rfl rfl (fun h => pr_move rfl) (by intro _ h; cases h) rfl ?_
    refine tl_gt rfl rfl (fun h => pr_or (gv rfl h) rfl (gv2 rfl h)) (by intro _ h; cases h) rfl ?_
    refine tl_gt rfl rfl (fun h => pr_eq (v' := .bool true) (pr_eqlB Tryz.underlying4 rfl rfl) (by show Value.bool (_ == (aloneC a || pairC a b)) = _; rw [← hD]; simp [he])) (by intro _ h; cases h) rfl ?_
    refine tl_p (pr_and rfl rfl rfl) rfl ?_
    refine tl_p (pr_move rfl) rfl ?_
    refine tl_gt rfl rfl (fun h => pr_fieldAddr Tryz.fo46_0 rfl) (by intro _ h; cases h) rfl ?_
    refine tl_gt rfl rfl (fun h => pr_ld Tryz.ag3 (gv rfl h)) (by intro _ h; cases h) rfl ?_
    refine tl_gt rfl rfl (fun h => pr_eql (gv rfl h) rfl) (by intro _ h; cases h) rfl ?_
    refine tl_gt rfl rfl (fun h => pr_move (gv rfl h)) (by intro _ h; cases h) rfl ?_
    refine tl_ggf rfl rfl (fun h => pr_fieldAddr Tryz.fo46_0 rfl) (by intro _ h; cases h) rfl ?_
    refine tl_ggf rfl rfl (fun h => pr_ld Tryz.ag3 (gv rfl h)) (by intro _ h; cases h) rfl ?_
    refine tl_ggf rfl rfl (fun h => pr_eql (gv rfl h) rfl) (by intro _ h; cases h) rfl ?_
    refine tl_ggf rfl rfl (fun h => pr_move (gv rfl h)) (by intro _ h; cases h) rfl ?_
    refine tl_ggt rfl rfl (fun h => pr_move rfl) (by intro _ h; cases h) rfl ?_
    refine tl_rdggtS rfl rfl (fun h => ⟨f25_ct p20.tb _ p20.rb p20.fb, .cons (gv rfl h) .nil⟩) rfl (kk := ?_)
    refine tl_rdggtS rfl rfl (fun h => ⟨f26_ct p20.fb [], .cons (gv rfl h) .nil⟩) rfl (kk := ?_)
    refine tl_ggt rfl rfl (fun h => pr_eql (gv rfl h) rfl) (by intro _ h; cases h) rfl ?_
    refine tl_ggf rfl rfl (fun h => pr_and (gv rfl h) (gv2 rfl h) rfl) (by intro _ h; cases h) rfl ?_
    refine tl_gt rfl rfl (fun h => pr_or (gv rfl h) rfl (gv2 rfl h)) (by intro _ h; cases h) rfl ?_
    refine tl_p (pr_and rfl rfl rfl) rfl ?_
    refine tl_p (pr_assign rfl) rfl ?_
    refine tl_next ?_
    refine tc_ret ?_
    exact tq_ret1 .ret (.inl rfl) () rfl rfl

theorem f7_ct (a b : Cap) (oa : CapI a) (ob : CapI b) : Ct Tryz.prog 7 #[a.v, b.v] [] [] (fun _ : Unit => .bool true) (fun _ N => N) := by
  by_cases h : enters a b = 0
  · exact f7_yes a b oa ob h
  · exact f7_no a b oa ob h

end Go.Proofs

namespace Go.Proofs
open Go Go.Sz
attribute [local irreducible] pt lift exs own emp

open Go.RowKit Go.WideShapes Go.ChangeShapes
section
variable {H : Type} {enc : TypeId × Value → H} {w : World}
theorem wf_i64 {i : Int} (h : (Lit.int .i64 i).wf = true) : I64 i := by
  simp [Lit.wf, IntKind.min, IntKind.max, IntKind.signed, IntKind.bits] at h; exact h
theorem rd_i64 : RdT enc Tryz.prog w 3 (fun i : Int => [.int .i64 i]) I64 := fun n cs x h hl => by
  obtain ⟨i, rfl, hw⟩ := rd_int Tryz.underlying3 n cs x h hl
  exact ⟨i, rfl, wf_i64 hw⟩

theorem rd_cap : RdT enc Tryz.prog w 27 Cap.l CapI := fun n cs x h hl => by
  have ht : Tryz.prog.underlying 27 = some (.struct (Tryz.prog.fieldsOf 27)) := by kernel_rfl
  have hlen : cs.length = 6 := (rd_fields ht h hl).1.trans (by kernel_rfl)
  obtain ⟨a0, e0, g0⟩ := rd_field ht h hl 0 (by kernel_rfl : fldOf Tryz.prog 27 0 = some (4, 0, 1)) (rd_bool Tryz.underlying4)
  obtain ⟨a1, e1, g1⟩ := rd_field ht h hl 1 (by kernel_rfl : fldOf Tryz.prog 27 1 = some (3, 1, 1)) rd_i64
  obtain ⟨a2, e2, g2⟩ := rd_field ht h hl 2 (by kernel_rfl : fldOf Tryz.prog 27 2 = some (3, 2, 1)) rd_i64
  obtain ⟨a3, e3, g3⟩ := rd_field ht h hl 3 (by kernel_rfl : fldOf Tryz.prog 27 3 = some (3, 3, 1)) rd_i64
  obtain ⟨a4, e4, g4⟩ := rd_field ht h hl 4 (by kernel_rfl : fldOf Tryz.prog 27 4 = some (3, 4, 1)) rd_i64
  obtain ⟨a5, e5, g5⟩ := rd_field ht h hl 5 (by kernel_rfl : fldOf Tryz.prog 27 5 = some (3, 5, 1)) rd_i64
  match cs, hlen with
  | [c0, c1, c2, c3, c4, c5], _ =>
    simp only [List.drop, List.take] at e0 e1 e2 e3 e4 e5
    simp only [List.cons.injEq, and_true] at e0 e1 e2 e3 e4 e5
    subst e0 e1 e2 e3 e4 e5
    exact ⟨⟨a0, a1, a2, a3, a4, a5⟩, rfl, g1, g2, g3, g4, g5⟩
def InsI (x : Ins) : Prop := I64 x.op ∧ I64 x.a ∧ I64 x.b ∧ I64 x.c

theorem rd_ins : RdT enc Tryz.prog w 33 Ins.l InsI := fun n cs x h hl => by
  have ht : Tryz.prog.underlying 33 = some (.struct (Tryz.prog.fieldsOf 33)) := by kernel_rfl
  have hlen : cs.length = 4 := (rd_fields ht h hl).1.trans (by kernel_rfl)
  obtain ⟨a0, e0, g0⟩ := rd_field ht h hl 0 (by kernel_rfl : fldOf Tryz.prog 33 0 = some (3, 0, 1)) rd_i64
  obtain ⟨a1, e1, g1⟩ := rd_field ht h hl 1 (by kernel_rfl : fldOf Tryz.prog 33 1 = some (3, 1, 1)) rd_i64
  obtain ⟨a2, e2, g2⟩ := rd_field ht h hl 2 (by kernel_rfl : fldOf Tryz.prog 33 2 = some (3, 2, 1)) rd_i64
  obtain ⟨a3, e3, g3⟩ := rd_field ht h hl 3 (by kernel_rfl : fldOf Tryz.prog 33 3 = some (3, 3, 1)) rd_i64
  match cs, hlen with
  | [c0, c1, c2, c3], _ =>
    simp only [List.drop, List.take] at e0 e1 e2 e3
    simp only [List.cons.injEq, and_true] at e0 e1 e2 e3
    subst e0 e1 e2 e3
    exact ⟨⟨a0, a1, a2, a3⟩, rfl, g0, g1, g2, g3⟩
theorem rd_inss : RdT enc Tryz.prog w 23 (fun q : SlA Ins => [sv q.s q.l.length]) (fun q => Sok 4 q.s q.l.length (insL q.l) ∧ (∀ a ∈ q.l, InsI a) ∧ ∀ p ∈ ra q.s (insL q.l), w.heap[p.1]? = some p.2) := rd_slice Tryz.underlying23 (by kernel_rfl) (by kernel_rfl : Tryz.prog.bytesOf 33 = 32) (by omega) (by omega) ins_len rd_ins
theorem rd_caps : RdT enc Tryz.prog w 24 (fun q : SlA Cap => [sv q.s q.l.length]) (fun q => Sok 6 q.s q.l.length (capsL q.l) ∧ (∀ a ∈ q.l, CapI a) ∧ ∀ p ∈ ra q.s (capsL q.l), w.heap[p.1]? = some p.2) := rd_slice Tryz.underlying24 (by kernel_rfl) (by kernel_rfl : Tryz.prog.bytesOf 27 = 48) (by omega) (by omega) cap_len rd_cap
theorem ints_flat (l : List Int) : l.flatMap (fun i : Int => [Value.int .i64 i]) = ints l := by
  induction l with
  | nil => rfl
  | cons i l ih => rw [List.flatMap_cons, ih]; rfl
theorem rd_ints : RdT enc Tryz.prog w 25 (fun q : SlA Int => [sv q.s q.l.length]) (fun q => Sok 1 q.s q.l.length (ints q.l) ∧ (∀ a ∈ q.l, I64 a) ∧ ∀ p ∈ ra q.s (ints q.l), w.heap[p.1]? = some p.2) := fun n cs x h hl => by
  obtain ⟨a, h1, h2⟩ := rd_slice (sz := 1) (L := fun i : Int => [Value.int .i64 i]) Tryz.underlying25 (by kernel_rfl) (by kernel_rfl : Tryz.prog.bytesOf 3 = 8) (by omega) (by omega) (fun _ => rfl) rd_i64 n cs x h hl
  rw [ints_flat] at h2
  exact ⟨a, h1, h2⟩
structure CaseI (x : CaseM) : Prop where
  code : ∀ y ∈ x.code, InsI y
  regs : ∀ c ∈ x.regs, CapI c
  mem : ∀ c ∈ x.mem, CapI c
  paint : ∀ p ∈ x.paint, I64 p
  pos : CapI x.pos
theorem rd_case : RdT enc Tryz.prog w 29 (fun p : CaseS × CaseM => caseL p.1 p.2) (fun p => CaseOk p.1 p.2 ∧ CaseI p.2 ∧ ∀ y ∈ caseRo p.1 p.2, w.heap[y.1]? = some y.2) := fun n cs x h hl => by
  have ht : Tryz.prog.underlying 29 = some (.struct (Tryz.prog.fieldsOf 29)) := by kernel_rfl
  have hlen : cs.length = 10 := (rd_fields ht h hl).1.trans (by kernel_rfl)
  obtain ⟨a0, e0, g0⟩ := rd_field ht h hl 0 (by kernel_rfl : fldOf Tryz.prog 29 0 = some (23, 0, 1)) rd_inss
  obtain ⟨a1, e1, g1⟩ := rd_field ht h hl 1 (by kernel_rfl : fldOf Tryz.prog 29 1 = some (24, 1, 1)) rd_caps
  obtain ⟨a2, e2, g2⟩ := rd_field ht h hl 2 (by kernel_rfl : fldOf Tryz.prog 29 2 = some (24, 2, 1)) rd_caps
  obtain ⟨a3, e3, g3⟩ := rd_field ht h hl 3 (by kernel_rfl : fldOf Tryz.prog 29 3 = some (25, 3, 1)) rd_ints
  obtain ⟨a4, e4, g4⟩ := rd_field ht h hl 4 (by kernel_rfl : fldOf Tryz.prog 29 4 = some (27, 4, 6)) rd_cap
  match cs, hlen with
  | [c0, c1, c2, c3, c4, c5, c6, c7, c8, c9], _ =>
    simp only [List.drop, List.take] at e0 e1 e2 e3 e4
    simp only [List.cons.injEq, and_true] at e0 e1 e2 e3
    simp only [Cap.l, List.cons.injEq, and_true] at e4
    obtain ⟨f0, f1, f2, f3, f4, f5⟩ := e4
    subst e0 e1 e2 e3 f0 f1 f2 f3 f4 f5
    refine ⟨(⟨a0.s, a0.l.length, a1.s, a1.l.length, a2.s, a2.l.length, a3.s, a3.l.length⟩, ⟨a0.l, a1.l, a2.l, a3.l, a4⟩), rfl, ⟨g0.1, g1.1, g2.1, g3.1⟩, ⟨g0.2.1, g1.2.1, g2.2.1, g3.2.1, g4⟩, fun y hy => ?_⟩
    rcases List.mem_append.1 hy with hy | hy
    · exact g0.2.2 y hy
    · rcases List.mem_append.1 hy with hy | hy
      · exact g1.2.2 y hy
      · rcases List.mem_append.1 hy with hy | hy
        · exact g2.2.2 y hy
        · exact g3.2.2 y hy
end

end Go.Proofs

namespace Go.Proofs
open Go Go.Sz
attribute [local irreducible] pt lift exs own emp

theorem capEq (c d : Cap) : ([(0, none), (1, some .i64), (2, some .i64), (3, some .i64), (4, some .i64), (5, some .i64)] : List (Nat × Option IntKind)).all (eqAt (List.toArray c.l) (List.toArray d.l)) = decide (c = d) := by
  show ((c.tag == d.tag) && ((c.base == d.base) && ((c.top == d.top) && ((c.pos == d.pos) && ((c.perms == d.perms) && ((c.typ == d.typ) && true)))))) = _
  rw [Bool.eq_iff_iff]
  cases c; cases d
  simp
theorem m32_bd (n : Int) : 0 ≤ m32 n ∧ m32 n ≤ 4294967295 := by unfold m32; omega
theorem refDo_bd (op a b : Int) : 0 ≤ (refDo op a b).1 ∧ (refDo op a b).1 ≤ 4294967295 := by
  unfold refDo
  repeat' split
  · exact m32_bd _
  · exact m32_bd _
  · exact m32_bd _
  · exact ⟨by decide, by decide⟩
  · have h1 := m32_bd b
    have h2 := m32_bd a
    have h3 := Int.ediv_nonneg h2.1 h1.1
    have h4 := Int.ediv_le_self (m32 b) h2.1
    exact ⟨h3, Int.le_trans h4 h2.2⟩
  all_goals exact ⟨by decide, by decide⟩
theorem ref_alu {op a b : Int} (ho : 3 ≤ op ∧ op ≤ 8) (ha : 0 ≤ a ∧ a ≤ 4294967295) (hb : 0 ≤ b ∧ b ≤ 4294967295) : refDo op a b = aluDo op a b := by
  have ua : u32 a = a := by unfold u32 IntKind.wrap; simp [IntKind.bits, IntKind.signed]; omega
  have ub : u32 b = b := by unfold u32 IntKind.wrap; simp [IntKind.bits, IntKind.signed]; omega
  have ma : m32 a = a := Int.emod_eq_of_lt ha.1 (by omega)
  have mb : m32 b = b := Int.emod_eq_of_lt hb.1 (by omega)
  have uw : ∀ i : Int, wI (u32 i) = m32 i := fun i => by
    unfold u32 IntKind.wrap; simp [IntKind.bits, IntKind.signed]; exact wI_of (by omega)
  have h : op = 3 ∨ op = 4 ∨ op = 5 ∨ op = 6 ∨ op = 7 ∨ op = 8 := by omega
  unfold refDo aluDo
  rw [ma, mb, ua, ub]
  rcases h with rfl | rfl | rfl | rfl | rfl | rfl
  · show (m32 (a + b), (0 : Int)) = if false = true ∧ b = 0 then _ else (wI (u32 (a + b)), 0)
    rw [if_neg (by simp), uw]
  · show (m32 (a - b), (0 : Int)) = if false = true ∧ b = 0 then _ else (wI (u32 (a - b)), 0)
    rw [if_neg (by simp), uw]
  · show (refMul a b, (0 : Int)) = if false = true ∧ b = 0 then _ else (wI (u32 (a * b)), 0)
    rw [if_neg (by simp), uw]
    congr 1
    have h1 : 0 ≤ a * (b / 65536) := Int.mul_nonneg ha.1 (by omega)
    have h2 : a * (b / 65536) ≤ 4294967295 * 65535 := Int.mul_le_mul ha.2 (by omega) (by omega) (by omega)
    have h3 : 0 ≤ a * (b % 65536) := Int.mul_nonneg ha.1 (by omega)
    have h4 : a * (b % 65536) ≤ 4294967295 * 65535 := Int.mul_le_mul ha.2 (by omega) (by omega) (by omega)
    have h5 : a * b = a * (b / 65536) * 65536 + a * (b % 65536) := by
      rw [Int.mul_assoc, ← Int.mul_add]; congr 1; omega
    unfold refMul
    rw [h5, wI_of (i := a * (b / 65536)) (by omega), wI_of (i := a * (b % 65536)) (by omega)]
    generalize a * (b / 65536) = u at *
    generalize a * (b % 65536) = v at *
    rw [wI_of (by unfold m32; omega)]
    unfold m32; omega
  · show (if b = 0 then ((0 : Int), (201 : Int)) else (a / b, 0)) = if true = true ∧ b = 0 then (0, 201) else (wI (u32 (a.tdiv b)), 0)
    by_cases h0 : b = 0
    · rw [if_pos h0, if_pos ⟨rfl, h0⟩]
    · rw [if_neg h0, if_neg (by simp [h0]), uw, Int.tdiv_eq_ediv_of_nonneg ha.1]
      have := Int.ediv_nonneg ha.1 hb.1
      have := Int.ediv_le_self b ha.1
      rw [show m32 (a / b) = a / b from Int.emod_eq_of_lt (by omega) (by omega)]
  · show (if a < b then ((1 : Int), (0 : Int)) else (0, 0)) = if false = true ∧ b = 0 then _ else (wI (truth (decide (a < b))), 0)
    rw [show ∀ z : Int × Int, (if false = true ∧ b = 0 then ((0 : Int), (201 : Int)) else z) = z from fun z => if_neg (by simp)]
    by_cases c : a < b <;> simp [c, truth] <;> rfl
  · show (if a = b then ((1 : Int), (0 : Int)) else (0, 0)) = if false = true ∧ b = 0 then _ else (wI (truth (decide (a = b))), 0)
    rw [show ∀ z : Int × Int, (if false = true ∧ b = 0 then ((0 : Int), (201 : Int)) else z) = z from fun z => if_neg (by simp)]
    by_cases c : a = b <;> simp [c, truth] <;> rfl
def numX (k : Int) (x : CaseM) : CaseM := ⟨[⟨k, 3, 1, 2⟩, ⟨0, 0, 0, 0⟩], x.regs, x.mem, x.paint, nullC⟩
def numM (k : Int) (x : CaseM) : MemM := madeM (numX k x)
def numW (k : Int) (x : CaseM) : List Int := madeW (numX k x)
def numR (k : Int) (x : CaseM) : List Cap := madeR (numX k x)
theorem numM_n (k : Int) (x : CaseM) : (numM k x).n = 4 := madeMJ_n _ _
theorem numW_len (k : Int) (x : CaseM) : (numW k x).length = 1 := madeWJ_len _ _
theorem numR_len (k : Int) (x : CaseM) : (numR k x).length = 8 := madeRJ_len _ _
theorem num_great {k : Int} {x : CaseM} (h : greatC x = false) : greatC (numX k x) = false := by
  obtain ⟨h1, h2, h3, h4, h5⟩ := great_no h
  unfold greatC numX
  simp
  refine ⟨fun p hp => ?_, ?_⟩
  · have := h5 p hp; omega
  · omega
theorem num_pos (k : Int) (x : CaseM) : posC (numX k x) = P256 256 := rfl
theorem num_right {k : Int} (hk : 3 ≤ k ∧ k ≤ 8) : insRight (⟨k, 3, 1, 2⟩ : Ins) = true := by
  have h : k = 3 ∨ k = 4 ∨ k = 5 ∨ k = 6 ∨ k = 7 ∨ k = 8 := by omega
  rcases h with rfl | rfl | rfl | rfl | rfl | rfl <;> rfl
theorem num_i1 {k : Int} (hk : 3 ≤ k ∧ k ≤ 8) (x : CaseM) : insP (P256 256) (numM k x) = (⟨k, 3, 1, 2⟩, 0) := by
  have hr : ∀ y ∈ (numX k x).code, insRight y = true := by
    intro y hy
    simp only [numX, List.mem_cons, List.not_mem_nil, or_false] at hy
    rcases hy with rfl | rfl
    · exact num_right hk
    · kernel_rfl
  exact ins_256 (numM_n k x) (by omega) (num_right hk) (made_code hr (by show 2 ≤ 64; omega) (i := 0) (by show 0 < 2; omega))
theorem num_alu {k : Int} (hk : 3 ≤ k ∧ k ≤ 8) : aluIs k = true := by unfold aluIs; simp; omega
theorem num_yes {k a b : Int} (hk : 3 ≤ k ∧ k ≤ 8) {x : CaseM} {R : List Cap} (h1 : (getR R 1).pos = a) (h2 : (getR R 2).pos = b) (he : (aluDo k a b).2 = 0) (hn : 0 ≤ (aluDo k a b).1 ∧ (aluDo k a b).1 ≤ 4294967295) : stepF (P256 256) R [] (numM k x) (numW k x) 64 = ⟨(0, 0, 0), P256 260, R.set 3 (intC (aluDo k a b).1), [], numM k x⟩ := by
  rw [step_alu (num_i1 hk x) (by dsimp only; omega) (by dsimp only; omega) (num_alu hk)]
  show (if (aluDo k (getR R 1).pos (getR R 2).pos).2 = 0 then _ else _) = _
  rw [h1, h2, if_pos he, astep256]
  show Stp.mk _ _ (setE R 3 (intC (aluDo k a b).1) 0) _ _ = _
  have : setE R 3 (intC (aluDo k a b).1) 0 = R.set 3 (intC (aluDo k a b).1) := by
    unfold setE setR
    rw [if_pos rfl, intC_of hn, int_right hn]; rfl
  rw [this]
theorem num_no {k a b : Int} (hk : 3 ≤ k ∧ k ≤ 8) {x : CaseM} {R : List Cap} (h1 : (getR R 1).pos = a) (h2 : (getR R 2).pos = b) (he : ¬ (aluDo k a b).2 = 0) : stepF (P256 256) R [] (numM k x) (numW k x) 64 = ⟨(2, 0, (aluDo k a b).2), P256 256, R, [], numM k x⟩ := by
  rw [step_alu (num_i1 hk x) (by dsimp only; omega) (by dsimp only; omega) (num_alu hk)]
  show (if (aluDo k (getR R 1).pos (getR R 2).pos).2 = 0 then _ else _) = _
  rw [h1, h2, if_neg he]
theorem aluDo_e {k a b : Int} : (aluDo k a b).2 = 0 ∨ (aluDo k a b).2 = 201 ∨ (aluDo k a b).2 = 151 := by
  unfold aluDo
  split
  · exact .inr (.inr rfl)
  · split
    · exact .inr (.inl rfl)
    · exact .inl rfl
theorem numMade (k : Int) (x : CaseM) (q : CaseS) (hq : CaseOk q (numX k x)) (hg : greatC x = false) : Ct Tryz.prog 14 #[caseV q (numX k x)] (caseRo q (numX k x)) [] (X := {p : Pl // MOk p.ms (numM k x) ∧ ShOk p.ps (numW k x) 64}) (fun y => .tuple #[ad y.1.tb 0, ad y.1.mb 0, ad y.1.sb 0]) (fun y N => worldS y.1 (P256 256) (numR k x) [] (numM k x) (numW k x) ++ N) := f14_ct q (numX k x) hq (num_great hg)
theorem num_r1 {R : List Cap} {a : Int} (hR : R.length = 8) (ha : 0 ≤ a ∧ a ≤ 4294967295) : setR R 1 (intC a) = R.set 1 (intC a) := by
  unfold setR; rw [intC_of ha, int_right ha]; rfl
theorem num_r2 {R : List Cap} {a : Int} (hR : R.length = 8) (ha : 0 ≤ a ∧ a ≤ 4294967295) : setR R 2 (intC a) = R.set 2 (intC a) := by
  unfold setR; rw [intC_of ha, int_right ha]; rfl
abbrev numR2 (k : Int) (x : CaseM) (a b : Int) : List Cap := ((numR k x).set 1 (intC a)).set 2 (intC b)
theorem numR2_len (k : Int) (x : CaseM) (a b : Int) : (numR2 k x a b).length = 8 := by simp [numR_len]
theorem numR2_1 {k : Int} {x : CaseM} {a b : Int} (ha : 0 ≤ a ∧ a ≤ 4294967295) : (getR (numR2 k x a b) 1).pos = a := by
  have hl := numR_len k x
  rw [show getR (numR2 k x a b) 1 = (numR2 k x a b).getD 1 nullC from rfl, numR2, intC_of ha]
  simp [List.getD_eq_getElem?_getD, List.getElem?_set, hl]
theorem numR2_2 {k : Int} {x : CaseM} {a b : Int} (hb : 0 ≤ b ∧ b ≤ 4294967295) : (getR (numR2 k x a b) 2).pos = b := by
  have hl := numR_len k x
  rw [show getR (numR2 k x a b) 2 = (numR2 k x a b).getD 2 nullC from rfl, numR2, intC_of hb]
  simp [List.getD_eq_getElem?_getD, List.getElem?_set, hl]

end Go.Proofs

namespace Go.Proofs
open Go Go.Sz
attribute [local irreducible] pt lift exs own emp
theorem Tryz.sz23 : szOf Tryz.prog 23 = some 1 := by kernel_rfl
attribute [local irreducible] numM numW numR
theorem set3_ne {R : List Cap} {c : Cap} {j : Nat} (h : j ≠ 3) : (R.set 3 c).getD j nullC = R.getD j nullC := by
  simp [List.getD_eq_getElem?_getD, List.getElem?_set_ne (Ne.symm h)]
theorem at_some {R : List Cap} {j : Nat} (h : j < R.length) : R[j]? = some (R.getD j nullC) := at_getD h

theorem f3_yes (a0 a1 a2 : Int) (q : CaseS) (x : CaseM) (hq : CaseOk q x) (h0 : 0 ≤ a0 ∧ a0 ≤ 255) (h1 : 0 ≤ a1 ∧ a1 ≤ 4294967295) (h2 : 0 ≤ a2 ∧ a2 ≤ 4294967295) (he : (aluDo (3 + a0 % 6) a1 a2).2 = 0) : Ct Tryz.prog 3 #[.int .u8 a0, .int .u32 a1, .int .u32 a2, caseV q x] (caseRo q x) [] (fun _ : Unit => .bool true) (fun _ N => N) := by
  refine ct_intro Tryz.func3 rfl (by kernel_rfl) (n := 134) rfl rfl (E := [(0, .int .u8 a0), (1, .int .u32 a1), (2, .int .u32 a2), (3, caseV q x)]) rfl ?_
  intro κ hro
  obtain ⟨k, hk⟩ : ∃ k : Int, k = 3 + a0 % 6 := ⟨_, rfl⟩
  rw [← hk] at he
  have hk1 : 3 ≤ k ∧ k ≤ 8 := by omega
  have r1_len : (numR2 k x a1 a2).length = 8 := numR2_len k x a1 a2
  have hbd := refDo_bd k a1 a2
  rw [ref_alu hk1 h1 h2] at hbd
  obtain ⟨N, hN⟩ : ∃ N : Int, (aluDo k a1 a2).1 = N := ⟨_, rfl⟩
  rw [hN] at hbd
  have r2_len : ((numR2 k x a1 a2).set 3 (intC N)).length = 8 := by simp [numR_len]
  have hst := num_yes hk1 (x := x) (numR2_1 (k := k) (x := x) (b := a2) h1) (numR2_2 (k := k) (x := x) (a := a1) h2) he (by rw [hN]; exact hbd)
  rw [hN] at hst
  have r23 : ((numR2 k x a1 a2).set 3 (intC N))[3]? = some (intC N) := by rw [List.getElem?_set_self (by rw [r1_len]; omega)]
  refine tc_seq ?_
  refine tc_region ?_
  refine tl_box rfl rfl (fun b7 => ?_)
  refine tl_p (pr_assign rfl) rfl ?_
  refine tl_next ?_
  refine tc_seq ?_
  refine tc_region ?_
  refine tl_callS (f12_ct) (.nil) rfl (kk := fun _ => ?_)
  refine tl_p (pr_assign rfl) rfl ?_
  refine tl_next ?_
  refine tc_seq ?_
  refine tc_region ?_
  refine tl_p (pr_move rfl) rfl ?_
  refine tl_p (pr_eq (v' := .int .u8 (k - 3)) (pr_rem rfl rfl (by decide)) (by rw [Int.tmod_eq_emod_of_nonneg h0.1]; congr 1; omega)) rfl ?_
  refine tl_p (pr_eqI (j := k - 3) (pr_conv Tryz.it3 Tryz.underlying5 rfl) (wI_of (by omega))) rfl ?_
  refine tl_p (pr_eqI (j := k) (pr_addN rfl rfl (by omega)) (by omega)) rfl ?_
  refine tl_p (pr_assign rfl) rfl ?_
  refine tl_next ?_
  refine tc_seq ?_
  refine tc_seq ?_
  refine tc_region ?_
  refine tl_p (by first | exact pr_loadW Tryz.ag29 Tryz.sz29 rfl | exact pr_ldA Tryz.ag29 Tryz.sz29 rfl) rfl ?_
  refine tl_rdS (f13_ct q x hq) (.cons rfl .nil) rfl (kk := ?_)
  refine tl_next ?_
  refine tc_if rfl (fun hc1 => ?_) (fun hc1 => ?_)
  · have hd1 := hc1
    try simp only [Bool.not_eq_true', Bool.not_eq_false', Bool.or_eq_true, Bool.and_eq_true, Bool.or_eq_false_iff, Bool.and_eq_false_iff, decide_eq_true_eq, decide_eq_false_iff_not, Bool.not_true, Bool.not_false, gval, Bool.not_eq_eq_eq_not] at hc1
    refine tc_seq ?_
    refine tc_region ?_
    refine tl_p (pr_move rfl) rfl ?_
    refine tl_p (pr_assign rfl) rfl ?_
    refine tl_next ?_
    refine tc_ret (tq_then_ret ?_)
    exact tq_ret1 .ret (.inl rfl) () rfl rfl
  · have hd1 := hc1
    try simp only [Bool.not_eq_true', Bool.not_eq_false', Bool.or_eq_true, Bool.and_eq_true, Bool.or_eq_false_iff, Bool.and_eq_false_iff, decide_eq_true_eq, decide_eq_false_iff_not, Bool.not_true, Bool.not_false, gval, Bool.not_eq_eq_eq_not] at hc1
    have hg : greatC x = false := hd1
    refine tc_skip (tq_next ?_)
    refine tc_seq ?_
    refine tc_region ?_
    refine tl_p (Tryz.bl27_ ) rfl ?_
    refine tl_p (pr_fieldAddr Tryz.fo29_4 rfl) rfl ?_
    refine tl_stA Tryz.sz27 rfl rfl (k := ?_)
    refine tl_next ?_
    refine tc_seq ?_
    refine tc_region ?_
    refine tl_p (pr_move rfl) rfl ?_
    refine tl_p (Tryz.bl33_0_1_2_3 rfl rfl rfl rfl) rfl ?_
    refine tl_p (Tryz.bl33_ ) rfl ?_
    refine tl_buildS Tryz.sf23 Tryz.z33 rfl (.cons rfl (.cons rfl .nil)) rfl rfl (c := insL (numX k x).code) rfl rfl rfl (kk := fun s33 hs33 ms33 => ?_)
    refine tl_p (pr_fieldAddr Tryz.fo29_0 rfl) rfl ?_
    refine tl_st Tryz.sz23 rfl rfl (h1 := by first | rfl | exact sv_one _ _) (k := ?_)
    refine tl_next ?_
    refine tc_seq ?_
    refine tc_region ?_
    refine tl_p (by first | exact pr_loadW Tryz.ag29 Tryz.sz29 rfl | exact pr_ldA Tryz.ag29 Tryz.sz29 rfl) rfl ?_
    refine tl_callS (numMade k x ⟨s33, 2, q.s2, q.n2, q.s3, q.n3, q.s4, q.n4⟩ ⟨hs33.toSok, hq.h2, hq.h3, hq.h4⟩ hg) (.cons rfl .nil) rfl (hro := Rdbs.app (Rdbs.sl (.own (by repeat (first | exact Has.here | apply Has.there)))) (Rdbs.of (Reads.app hro).2)) (kk := fun ⟨p37, hm37, hw37⟩ => ?_)
    refine tl_p (pr_move rfl) rfl ?_
    refine tl_p (pr_extract rfl rfl) rfl ?_
    refine tl_p (pr_extract rfl rfl) rfl ?_
    refine tl_p (pr_extract rfl rfl) rfl ?_
    refine tl_p (pr_assign rfl) rfl ?_
    refine tl_p (pr_assign rfl) rfl ?_
    refine tl_p (pr_assign rfl) rfl ?_
    refine tl_next ?_
    refine tc_seq ?_
    refine tc_seq ?_
    refine tc_region ?_
    refine tl_p (pr_move rfl) rfl ?_
    refine tl_p (pr_eqlP Tryz.underlying34 rfl (.inr ⟨_, rfl⟩)) rfl ?_
    refine tl_next ?_
    refine tc_if_false rfl rfl ?_
    refine tc_skip (tq_next ?_)
    refine tc_seq ?_
    refine tc_region ?_
    refine tl_p (pr_move rfl) rfl ?_
    refine tl_rdS (f15_ct p37.tb _ p37.rb p37.fb) (.cons rfl .nil) rfl (kk := ?_)
    refine tl_p (pr_move rfl) rfl ?_
    refine tl_p (pr_eqI (j := a1) (pr_conv Tryz.it3 Tryz.underlying22 rfl) (wI_of (by omega))) rfl ?_
    refine tl_rdS (f17_ct a1 (by omega)) (.cons rfl .nil) rfl (kk := ?_)
    refine tl_callS (f16_ct p37.rb (numR k x) (numR_len k x) 1 (intC a1)) (.cons rfl (.cons rfl (.cons rfl .nil))) rfl (kk := fun _ => ?_)
    rw [num_r1 (numR_len k x) h1]
    refine tl_next ?_
    refine tc_seq ?_
    refine tc_region ?_
    refine tl_p (pr_move rfl) rfl ?_
    refine tl_rdS (f15_ct p37.tb _ p37.rb p37.fb) (.cons rfl .nil) rfl (kk := ?_)
    refine tl_p (pr_move rfl) rfl ?_
    refine tl_p (pr_eqI (j := a2) (pr_conv Tryz.it3 Tryz.underlying22 rfl) (wI_of (by omega))) rfl ?_
    refine tl_rdS (f17_ct a2 (by omega)) (.cons rfl .nil) rfl (kk := ?_)
    refine tl_callS (f16_ct p37.rb ((numR k x).set 1 (intC a1)) (by simp [numR_len]) 2 (intC a2)) (.cons rfl (.cons rfl (.cons rfl .nil))) rfl (kk := fun _ => ?_)
    rw [num_r2 (by simp [numR_len]) h2]
    refine tl_next ?_
    refine tc_seq ?_
    refine tc_region ?_
    refine tl_p (pr_move rfl) rfl ?_
    refine tl_rdS (f15_ct p37.tb _ p37.rb p37.fb) (.cons rfl .nil) rfl (kk := ?_)
    refine tl_callS (f18_ct p37.rb (numR2 k x a1 a2) r1_len) (.cons rfl .nil) rfl (kk := fun ⟨s57, hs57⟩ => ?_)
    refine tl_p (pr_assign rfl) rfl ?_
    refine tl_next ?_
    refine tc_seq ?_
    refine tc_region ?_
    refine tl_p (pr_move rfl) rfl ?_
    refine tl_p (pr_move rfl) rfl ?_
    refine tl_p (pr_move rfl) rfl ?_
    refine tl_callS (stepE_ct p37 hst r1_len hm37 (numM_n k x) hw37 (numW_len k x)) (.cons rfl (.cons rfl (.cons rfl .nil))) rfl (kk := fun _ => ?_)
    refine tl_alloc Tryz.z46 rfl (fun b15 => ?_)
    refine tl_storeW Tryz.sz46 rfl rfl (k := ?_)
    refine tl_next ?_
    refine tc_seq ?_
    refine tc_region ?_
    refine tl_p (pr_move rfl) rfl ?_
    refine tl_p (pr_move rfl) rfl ?_
    refine tl_p (pr_eqI (j := a1) (pr_conv Tryz.it3 Tryz.underlying22 rfl) (wI_of (by omega))) rfl ?_
    refine tl_p (pr_move rfl) rfl ?_
    refine tl_p (pr_eqI (j := a2) (pr_conv Tryz.it3 Tryz.underlying22 rfl) (wI_of (by omega))) rfl ?_
    refine tl_rdS (Rd.val (v' := ii (N, 0)) (f20_ct k a1 a2 (by omega) (by omega)) (by rw [ref_alu hk1 h1 h2, ← hN]; show ii ((aluDo k a1 a2).1, (aluDo k a1 a2).2) = _; rw [he])) (.cons rfl (.cons rfl (.cons rfl .nil))) rfl (kk := ?_)
    refine tl_p (pr_move rfl) rfl ?_
    refine tl_p (pr_extract rfl rfl) rfl ?_
    refine tl_p (pr_extract rfl rfl) rfl ?_
    refine tl_p (pr_assign rfl) rfl ?_
    refine tl_p (pr_assign rfl) rfl ?_
    refine tl_next ?_
    refine tc_seq ?_
    refine tc_region ?_
    refine tl_p (pr_move rfl) rfl ?_
    refine tl_rdS (f15_ct p37.tb _ p37.rb p37.fb) (.cons rfl .nil) rfl (kk := ?_)
    refine tl_callS (f18_ct p37.rb ((numR2 k x a1 a2).set 3 (intC N)) r2_len) (.cons rfl .nil) rfl (kk := fun ⟨s73, hs73⟩ => ?_)
    refine tl_p (pr_assign rfl) rfl ?_
    refine tl_next ?_
    refine tc_seq ?_
    refine tc_seq ?_
    refine tc_region ?_
    refine tl_p (pr_assign rfl) rfl ?_
    refine tl_next ?_
    refine tc_block ?_
    refine tc_loopP (X := Nat) (fun j => j ≤ 8) (fun j => [(9, .bool true), (11, ad p37.tb 0), (14, sv s57 8), (15, ad b15 0), (16, .int .i64 N), (17, .int .i64 0), (18, sv s73 8), (19, .int .i64 (j : Int))]) (fun j => [sl s57 (capsL (numR2 k x a1 a2)), sl s73 (capsL ((numR2 k x a1 a2).set 3 (intC N))), pt b15 (.cells (Value.cells (didV (0, 0, 0))) 46 (0, 0)), pt p37.tb (thrO (P256 260) p37.rb p37.fb)]) (fun j => 8 - j) 0 (by omega) (.cons rfl (.cons rfl (.cons rfl (.cons rfl (.cons rfl (.cons rfl (.cons rfl (.cons rfl .nil)))))))) (fun j hj => ?_)
    refine tc_seq ?_
    refine tc_seq ?_
    refine tc_region ?_
    refine tl_p (pr_move rfl) rfl ?_
    refine tl_p (pr_lss rfl rfl) rfl ?_
    refine tl_next ?_
    refine tc_if rfl (fun hc3 => ?_) (fun hc3 => ?_)
    · have hd3 := hc3
      try simp only [Bool.not_eq_true', Bool.not_eq_false', Bool.or_eq_true, Bool.and_eq_true, Bool.or_eq_false_iff, Bool.and_eq_false_iff, decide_eq_true_eq, decide_eq_false_iff_not, Bool.not_true, Bool.not_false, gval, Bool.not_eq_eq_eq_not] at hc3
      refine tc_skip (tq_next ?_)
      refine tc_seq ?_
      refine tc_block ?_
      refine tc_seq ?_
      refine tc_draw Tryz.mixed [0, 1, 2, 3, 4, 5, 6, 7, 8, 9, 10, 11, 12] (by kernel_rfl) ?_
      refine td_q 0 78 (pm_of rfl rfl rfl (fun _ kq => tl_p (pr_move rfl) rfl kq)) rfl rfl rfl ?_
      refine td_q 1 79 (pm_of rfl rfl rfl (fun _ kq => tl_p (pr_neq rfl rfl) rfl kq)) rfl rfl rfl ?_
      refine td_q 2 80 (pm_of rfl rfl rfl (fun _ kq => tl_p (pr_move rfl) rfl kq)) rfl rfl rfl ?_
      refine td_q 3 81 (pm_of rfl rfl rfl (fun _ kq => tl_gt rfl rfl (fun h => pr_move rfl) (by intro _ h; cases h) rfl kq)) rfl rfl rfl ?_
      refine td_q 4 82 (pm_of rfl rfl rfl (fun _ kq => tl_gt rfl rfl (fun h => pr_move rfl) (by intro _ h; cases h) rfl kq)) rfl rfl rfl ?_
      refine td_q 5 83 (pm_of rfl rfl rfl (fun _ kq => tl_gt rfl rfl (fun h => pr_ixE Tryz.sl24 (gv rfl h) (gv rfl h) (by omega) (by omega) hs73.toSok) (by intro _ h; cases h) rfl kq)) rfl rfl rfl ?_
      refine td_q 6 84 (pm_of rfl rfl rfl (fun _ kq => tl_gt rfl rfl (fun h => pr_ldEA Tryz.ag27 Tryz.sz27 (gv rfl h) (c := capsL ((numR2 k x a1 a2).set 3 (intC N))) (m := Cap.l (((numR2 k x a1 a2).set 3 (intC N)).getD j nullC)) (fm_le cap_len ((numR2 k x a1 a2).set 3 (intC N)) j (by rw [r2_len]; omega)) (fm_cut cap_len ((numR2 k x a1 a2).set 3 (intC N)) j (at_some (by rw [r2_len]; omega))) (hs73.toSok.isM (by omega)) (.own (by repeat (first | exact Has.here | apply Has.there)))) (by intro _ h; cases h) rfl kq)) rfl rfl rfl ?_
      refine td_q 7 85 (pm_of rfl rfl rfl (fun _ kq => tl_gt rfl rfl (fun h => pr_move rfl) (by intro _ h; cases h) rfl kq)) rfl rfl rfl ?_
      refine td_q 8 86 (pm_of rfl rfl rfl (fun _ kq => tl_gt rfl rfl (fun h => pr_move rfl) (by intro _ h; cases h) rfl kq)) rfl rfl rfl ?_
      refine td_q 9 87 (pm_of rfl rfl rfl (fun _ kq => tl_gt rfl rfl (fun h => pr_ixE Tryz.sl24 (gv rfl h) (gv rfl h) (by omega) (by omega) hs57.toSok) (by intro _ h; cases h) rfl kq)) rfl rfl rfl ?_
      refine td_q 10 88 (pm_of rfl rfl rfl (fun _ kq => tl_gt rfl rfl (fun h => pr_ldEA Tryz.ag27 Tryz.sz27 (gv rfl h) (c := capsL (numR2 k x a1 a2)) (m := Cap.l ((numR2 k x a1 a2).getD j nullC)) (fm_le cap_len (numR2 k x a1 a2) j (by rw [r1_len]; omega)) (fm_cut cap_len (numR2 k x a1 a2) j (at_some (by rw [r1_len]; omega))) (hs57.toSok.isM (by omega)) (.own (by repeat (first | exact Has.here | apply Has.there)))) (by intro _ h; cases h) rfl kq)) rfl rfl rfl ?_
      refine td_q 11 89 (pm_of rfl rfl rfl (fun _ kq => tl_gt rfl rfl (fun h => pr_neqF Tryz.eqg27 Tryz.ff27 (gv rfl h) (gv rfl h) (b := true) ((capEq _ _).trans (by have hj3 : j ≠ 3 := (by simp at h; omega); rw [set3_ne hj3]; simp))) (by intro _ h; cases h) rfl kq)) rfl rfl rfl ?_
      refine td_q 12 90 (pm_of rfl rfl rfl (fun _ kq => tl_p (pr_and rfl rfl rfl) rfl kq)) rfl rfl rfl ?_
      refine td_done (by kernel_rfl) ?_
      refine tq_next ?_
      refine tc_if_false rfl (by simp) ?_
      refine tc_skip (tq_blk_normal (tq_next ?_))
      refine tc_region ?_
      refine tl_p (pr_move rfl) rfl ?_
      refine tl_p (pr_addN rfl rfl (by omega)) rfl ?_
      refine tl_p (pr_assign rfl) rfl ?_
      refine tl_nil ?_
      exact tq_roundP (j + 1) (by omega) (by omega) (.cons rfl (.cons rfl (.cons rfl (.cons rfl (.cons rfl (.cons rfl (.cons rfl (.cons rfl .nil))))))))
    · have hd3 := hc3
      try simp only [Bool.not_eq_true', Bool.not_eq_false', Bool.or_eq_true, Bool.and_eq_true, Bool.or_eq_false_iff, Bool.and_eq_false_iff, decide_eq_true_eq, decide_eq_false_iff_not, Bool.not_true, Bool.not_false, gval, Bool.not_eq_eq_eq_not] at hc3
      refine tc_exit (tq_then_exit (tq_then_exit (tq_blk_here ?_)))
      refine tq_next ?_
      refine tc_seq ?_
      refine tc_seq ?_
      refine tc_region ?_
      refine tl_p (pr_move rfl) rfl ?_
      refine tl_p (pr_neq rfl rfl) rfl ?_
      refine tl_next ?_
      refine tc_if_false rfl rfl ?_
      refine tc_skip (tq_next ?_)
      refine tc_seq ?_
      refine tc_draw Tryz.mixed [0, 1, 2, 3, 4, 5, 6, 7, 8, 9, 10, 11, 12, 13, 14, 15, 16, 17, 18, 19] (by kernel_rfl) ?_
      refine td_q 0 114 (pm_of rfl rfl rfl (fun _ kq => tl_p (pr_move rfl) rfl kq)) rfl rfl rfl ?_
      refine td_q 1 115 (pm_of rfl rfl rfl (fun _ kq => tl_p (pr_move rfl) rfl kq)) rfl rfl rfl ?_
      refine td_q 2 116 (pm_of rfl rfl rfl (fun _ kq => tl_gt rfl rfl (fun h => by first | exact pr_loadW Tryz.ag46 Tryz.sz46 rfl | exact pr_ldA Tryz.ag46 Tryz.sz46 rfl) (by intro _ h; cases h) rfl kq)) rfl rfl rfl ?_
      refine td_q 3 117 (pm_of rfl rfl rfl (fun _ kq => tl_gt rfl rfl (fun h => Tryz.bl46_ ) (by intro _ h; cases h) rfl kq)) rfl rfl rfl ?_
      refine td_q 4 118 (pm_of rfl rfl rfl (fun _ kq => tl_gt rfl rfl (fun h => pr_eqlF Tryz.eqg46 Tryz.ff46 (gv rfl h) (gv rfl h) rfl) (by intro _ h; cases h) rfl kq)) rfl rfl rfl ?_
      refine td_q 5 119 (pm_of rfl rfl rfl (fun _ kq => tl_p (pr_and rfl rfl rfl) rfl kq)) rfl rfl rfl ?_
      refine td_q 6 120 (pm_of rfl rfl rfl (fun _ kq => tl_p (pr_move rfl) rfl kq)) rfl rfl rfl ?_
      refine td_q 7 121 (pm_of rfl rfl rfl (fun _ kq => tl_gt rfl rfl (fun h => pr_move rfl) (by intro _ h; cases h) rfl kq)) rfl rfl rfl ?_
      refine td_q 8 122 (pm_of rfl rfl rfl (fun _ kq => tl_gt rfl rfl (fun h => pr_ixE Tryz.sl24 (gv rfl h) (gv rfl h) (by omega) (by omega) hs73.toSok) (by intro _ h; cases h) rfl kq)) rfl rfl rfl ?_
      refine td_q 9 123 (pm_of rfl rfl rfl (fun _ kq => tl_gt rfl rfl (fun h => pr_ldEA Tryz.ag27 Tryz.sz27 (gv rfl h) (c := capsL ((numR2 k x a1 a2).set 3 (intC N))) (m := Cap.l (intC N)) (fm_le cap_len ((numR2 k x a1 a2).set 3 (intC N)) 3 (by rw [r2_len]; omega)) (fm_cut cap_len ((numR2 k x a1 a2).set 3 (intC N)) 3 (r23)) (hs73.toSok.isM (by omega)) (.own (by repeat (first | exact Has.here | apply Has.there)))) (by intro _ h; cases h) rfl kq)) rfl rfl rfl ?_
      refine td_q 10 124 (pm_of rfl rfl rfl (fun _ kq => tl_gt rfl rfl (fun h => pr_move rfl) (by intro _ h; cases h) rfl kq)) rfl rfl rfl ?_
      refine td_q 11 125 (pm_of rfl rfl rfl (fun _ kq => tl_rdgtS rfl rfl (fun h => ⟨f17_ct N (by omega), .cons (gv rfl h) .nil⟩) rfl (kk := kq))) rfl rfl rfl ?_
      refine td_q 12 126 (pm_of rfl rfl rfl (fun _ kq => tl_gt rfl rfl (fun h => pr_eqlF Tryz.eqg27 Tryz.ff27 (gv rfl h) (gv rfl h) (b := true) ((capEq _ _).trans (by simp))) (by intro _ h; cases h) rfl kq)) rfl rfl rfl ?_
      refine td_q 13 127 (pm_of rfl rfl rfl (fun _ kq => tl_p (pr_and rfl rfl rfl) rfl kq)) rfl rfl rfl ?_
      refine td_q 14 128 (pm_of rfl rfl rfl (fun _ kq => tl_p (pr_move rfl) rfl kq)) rfl rfl rfl ?_
      refine td_q 15 129 (pm_of rfl rfl rfl (fun _ kq => tl_gt rfl rfl (fun h => pr_move rfl) (by intro _ h; cases h) rfl kq)) rfl rfl rfl ?_
      refine td_q 16 130 (pm_of rfl rfl rfl (fun _ kq => tl_rdgtS rfl rfl (fun h => ⟨f21_ct p37.tb _ p37.rb p37.fb, .cons (gv rfl h) .nil⟩) rfl (kk := kq))) rfl rfl rfl ?_
      refine td_q 17 131 (pm_of rfl rfl rfl (fun _ kq => tl_gt rfl rfl (fun h => pr_field Tryz.fo27_3 (gv rfl h) rfl) (by intro _ h; cases h) rfl kq)) rfl rfl rfl ?_
      refine td_q 18 132 (pm_of rfl rfl rfl (fun _ kq => tl_gt rfl rfl (fun h => pr_eql (gv rfl h) rfl) (by intro _ h; cases h) rfl kq)) rfl rfl rfl ?_
      refine td_q 19 133 (pm_of rfl rfl rfl (fun _ kq => tl_p (pr_and rfl rfl rfl) rfl kq)) rfl rfl rfl ?_
      refine td_e1 20 (by kernel_rfl) ?_
      refine te rfl ?_
      refine tl_p (pr_assign rfl) rfl ?_
      refine td_next (pd := []) (by kernel_rfl) (.nil) ?_
      refine td_done (by kernel_rfl) ?_
      refine tq_next ?_
      refine tc_ret ?_
      exact tq_ret1 .ret (.inl rfl) () rfl rfl

theorem f3_no (a0 a1 a2 : Int) (q : CaseS) (x : CaseM) (hq : CaseOk q x) (h0 : 0 ≤ a0 ∧ a0 ≤ 255) (h1 : 0 ≤ a1 ∧ a1 ≤ 4294967295) (h2 : 0 ≤ a2 ∧ a2 ≤ 4294967295) (he : (aluDo (3 + a0 % 6) a1 a2).2 = 201) : Ct Tryz.prog 3 #[.int .u8 a0, .int .u32 a1, .int .u32 a2, caseV q x] (caseRo q x) [] (fun _ : Unit => .bool true) (fun _ N => N) := by
  refine ct_intro Tryz.func3 rfl (by kernel_rfl) (n := 134) rfl rfl (E := [(0, .int .u8 a0), (1, .int .u32 a1), (2, .int .u32 a2), (3, caseV q x)]) rfl ?_
  intro κ hro
  obtain ⟨k, hk⟩ : ∃ k : Int, k = 3 + a0 % 6 := ⟨_, rfl⟩
  rw [← hk] at he
  have hk1 : 3 ≤ k ∧ k ≤ 8 := by omega
  have r1_len : (numR2 k x a1 a2).length = 8 := numR2_len k x a1 a2
  have hbd := refDo_bd k a1 a2
  rw [ref_alu hk1 h1 h2] at hbd
  obtain ⟨N, hN⟩ : ∃ N : Int, (aluDo k a1 a2).1 = N := ⟨_, rfl⟩
  rw [hN] at hbd
  have h201 : (aluDo k a1 a2).2 = 201 := he
  have hst := num_no hk1 (x := x) (numR2_1 (k := k) (x := x) (b := a2) h1) (numR2_2 (k := k) (x := x) (a := a1) h2) (by rw [h201]; decide)
  rw [h201] at hst
  refine tc_seq ?_
  refine tc_region ?_
  refine tl_box rfl rfl (fun b7 => ?_)
  refine tl_p (pr_assign rfl) rfl ?_
  refine tl_next ?_
  refine tc_seq ?_
  refine tc_region ?_
  refine tl_callS (f12_ct) (.nil) rfl (kk := fun _ => ?_)
  refine tl_p (pr_assign rfl) rfl ?_
  refine tl_next ?_
  refine tc_seq ?_
  refine tc_region ?_
  refine tl_p (pr_move rfl) rfl ?_
  refine tl_p (pr_eq (v' := .int .u8 (k - 3)) (pr_rem rfl rfl (by decide)) (by rw [Int.tmod_eq_emod_of_nonneg h0.1]; congr 1; omega)) rfl ?_
  refine tl_p (pr_eqI (j := k - 3) (pr_conv Tryz.it3 Tryz.underlying5 rfl) (wI_of (by omega))) rfl ?_
  refine tl_p (pr_eqI (j := k) (pr_addN rfl rfl (by omega)) (by omega)) rfl ?_
  refine tl_p (pr_assign rfl) rfl ?_
  refine tl_next ?_
  refine tc_seq ?_
  refine tc_seq ?_
  refine tc_region ?_
  refine tl_p (by first | exact pr_loadW Tryz.ag29 Tryz.sz29 rfl | exact pr_ldA Tryz.ag29 Tryz.sz29 rfl) rfl ?_
  refine tl_rdS (f13_ct q x hq) (.cons rfl .nil) rfl (kk := ?_)
  refine tl_next ?_
  refine tc_if rfl (fun hc1 => ?_) (fun hc1 => ?_)
  · have hd1 := hc1
    try simp only [Bool.not_eq_true', Bool.not_eq_false', Bool.or_eq_true, Bool.and_eq_true, Bool.or_eq_false_iff, Bool.and_eq_false_iff, decide_eq_true_eq, decide_eq_false_iff_not, Bool.not_true, Bool.not_false, gval, Bool.not_eq_eq_eq_not] at hc1
    refine tc_seq ?_
    refine tc_region ?_
    refine tl_p (pr_move rfl) rfl ?_
    refine tl_p (pr_assign rfl) rfl ?_
    refine tl_next ?_
    refine tc_ret (tq_then_ret ?_)
    exact tq_ret1 .ret (.inl rfl) () rfl rfl
  · have hd1 := hc1
    try simp only [Bool.not_eq_true', Bool.not_eq_false', Bool.or_eq_true, Bool.and_eq_true, Bool.or_eq_false_iff, Bool.and_eq_false_iff, decide_eq_true_eq, decide_eq_false_iff_not, Bool.not_true, Bool.not_false, gval, Bool.not_eq_eq_eq_not] at hc1
    have hg : greatC x = false := hd1
    refine tc_skip (tq_next ?_)
    refine tc_seq ?_
    refine tc_region ?_
    refine tl_p (Tryz.bl27_ ) rfl ?_
    refine tl_p (pr_fieldAddr Tryz.fo29_4 rfl) rfl ?_
    refine tl_stA Tryz.sz27 rfl rfl (k := ?_)
    refine tl_next ?_
    refine tc_seq ?_
    refine tc_region ?_
    refine tl_p (pr_move rfl) rfl ?_
    refine tl_p (Tryz.bl33_0_1_2_3 rfl rfl rfl rfl) rfl ?_
    refine tl_p (Tryz.bl33_ ) rfl ?_
    refine tl_buildS Tryz.sf23 Tryz.z33 rfl (.cons rfl (.cons rfl .nil)) rfl rfl (c := insL (numX k x).code) rfl rfl rfl (kk := fun s33 hs33 ms33 => ?_)
    refine tl_p (pr_fieldAddr Tryz.fo29_0 rfl) rfl ?_
    refine tl_st Tryz.sz23 rfl rfl (h1 := by first | rfl | exact sv_one _ _) (k := ?_)
    refine tl_next ?_
    refine tc_seq ?_
    refine tc_region ?_
    refine tl_p (by first | exact pr_loadW Tryz.ag29 Tryz.sz29 rfl | exact pr_ldA Tryz.ag29 Tryz.sz29 rfl) rfl ?_
    refine tl_callS (numMade k x ⟨s33, 2, q.s2, q.n2, q.s3, q.n3, q.s4, q.n4⟩ ⟨hs33.toSok, hq.h2, hq.h3, hq.h4⟩ hg) (.cons rfl .nil) rfl (hro := Rdbs.app (Rdbs.sl (.own (by repeat (first | exact Has.here | apply Has.there)))) (Rdbs.of (Reads.app hro).2)) (kk := fun ⟨p37, hm37, hw37⟩ => ?_)
    refine tl_p (pr_move rfl) rfl ?_
    refine tl_p (pr_extract rfl rfl) rfl ?_
    refine tl_p (pr_extract rfl rfl) rfl ?_
    refine tl_p (pr_extract rfl rfl) rfl ?_
    refine tl_p (pr_assign rfl) rfl ?_
    refine tl_p (pr_assign rfl) rfl ?_
    refine tl_p (pr_assign rfl) rfl ?_
    refine tl_next ?_
    refine tc_seq ?_
    refine tc_seq ?_
    refine tc_region ?_
    refine tl_p (pr_move rfl) rfl ?_
    refine tl_p (pr_eqlP Tryz.underlying34 rfl (.inr ⟨_, rfl⟩)) rfl ?_
    refine tl_next ?_
    refine tc_if_false rfl rfl ?_
    refine tc_skip (tq_next ?_)
    refine tc_seq ?_
    refine tc_region ?_
    refine tl_p (pr_move rfl) rfl ?_
    refine tl_rdS (f15_ct p37.tb _ p37.rb p37.fb) (.cons rfl .nil) rfl (kk := ?_)
    refine tl_p (pr_move rfl) rfl ?_
    refine tl_p (pr_eqI (j := a1) (pr_conv Tryz.it3 Tryz.underlying22 rfl) (wI_of (by omega))) rfl ?_
    refine tl_rdS (f17_ct a1 (by omega)) (.cons rfl .nil) rfl (kk := ?_)
    refine tl_callS (f16_ct p37.rb (numR k x) (numR_len k x) 1 (intC a1)) (.cons rfl (.cons rfl (.cons rfl .nil))) rfl (kk := fun _ => ?_)
    rw [num_r1 (numR_len k x) h1]
    refine tl_next ?_
    refine tc_seq ?_
    refine tc_region ?_
    refine tl_p (pr_move rfl) rfl ?_
    refine tl_rdS (f15_ct p37.tb _ p37.rb p37.fb) (.cons rfl .nil) rfl (kk := ?_)
    refine tl_p (pr_move rfl) rfl ?_
    refine tl_p (pr_eqI (j := a2) (pr_conv Tryz.it3 Tryz.underlying22 rfl) (wI_of (by omega))) rfl ?_
    refine tl_rdS (f17_ct a2 (by omega)) (.cons rfl .nil) rfl (kk := ?_)
    refine tl_callS (f16_ct p37.rb ((numR k x).set 1 (intC a1)) (by simp [numR_len]) 2 (intC a2)) (.cons rfl (.cons rfl (.cons rfl .nil))) rfl (kk := fun _ => ?_)
    rw [num_r2 (by simp [numR_len]) h2]
    refine tl_next ?_
    refine tc_seq ?_
    refine tc_region ?_
    refine tl_p (pr_move rfl) rfl ?_
    refine tl_rdS (f15_ct p37.tb _ p37.rb p37.fb) (.cons rfl .nil) rfl (kk := ?_)
    refine tl_callS (f18_ct p37.rb (numR2 k x a1 a2) r1_len) (.cons rfl .nil) rfl (kk := fun ⟨s57, hs57⟩ => ?_)
    refine tl_p (pr_assign rfl) rfl ?_
    refine tl_next ?_
    refine tc_seq ?_
    refine tc_region ?_
    refine tl_p (pr_move rfl) rfl ?_
    refine tl_p (pr_move rfl) rfl ?_
    refine tl_p (pr_move rfl) rfl ?_
    refine tl_callS (stepE_ct p37 hst r1_len hm37 (numM_n k x) hw37 (numW_len k x)) (.cons rfl (.cons rfl (.cons rfl .nil))) rfl (kk := fun _ => ?_)
    refine tl_alloc Tryz.z46 rfl (fun b15 => ?_)
    refine tl_storeW Tryz.sz46 rfl rfl (k := ?_)
    refine tl_next ?_
    refine tc_seq ?_
    refine tc_region ?_
    refine tl_p (pr_move rfl) rfl ?_
    refine tl_p (pr_move rfl) rfl ?_
    refine tl_p (pr_eqI (j := a1) (pr_conv Tryz.it3 Tryz.underlying22 rfl) (wI_of (by omega))) rfl ?_
    refine tl_p (pr_move rfl) rfl ?_
    refine tl_p (pr_eqI (j := a2) (pr_conv Tryz.it3 Tryz.underlying22 rfl) (wI_of (by omega))) rfl ?_
    refine tl_rdS (Rd.val (v' := ii (N, 201)) (f20_ct k a1 a2 (by omega) (by omega)) (by rw [ref_alu hk1 h1 h2, ← hN]; show ii ((aluDo k a1 a2).1, (aluDo k a1 a2).2) = _; rw [he])) (.cons rfl (.cons rfl (.cons rfl .nil))) rfl (kk := ?_)
    refine tl_p (pr_move rfl) rfl ?_
    refine tl_p (pr_extract rfl rfl) rfl ?_
    refine tl_p (pr_extract rfl rfl) rfl ?_
    refine tl_p (pr_assign rfl) rfl ?_
    refine tl_p (pr_assign rfl) rfl ?_
    refine tl_next ?_
    refine tc_seq ?_
    refine tc_region ?_
    refine tl_p (pr_move rfl) rfl ?_
    refine tl_rdS (f15_ct p37.tb _ p37.rb p37.fb) (.cons rfl .nil) rfl (kk := ?_)
    refine tl_callS (f18_ct p37.rb (numR2 k x a1 a2) r1_len) (.cons rfl .nil) rfl (kk := fun ⟨s73, hs73⟩ => ?_)
    refine tl_p (pr_assign rfl) rfl ?_
    refine tl_next ?_
    refine tc_seq ?_
    refine tc_seq ?_
    refine tc_region ?_
    refine tl_p (pr_assign rfl) rfl ?_
    refine tl_next ?_
    refine tc_block ?_
    refine tc_loopP (X := Nat) (fun j => j ≤ 8) (fun j => [(9, .bool true), (11, ad p37.tb 0), (14, sv s57 8), (15, ad b15 0), (16, .int .i64 N), (17, .int .i64 201), (18, sv s73 8), (19, .int .i64 (j : Int))]) (fun j => [sl s57 (capsL (numR2 k x a1 a2)), sl s73 (capsL (numR2 k x a1 a2)), pt b15 (.cells (Value.cells (didV (2, 0, 201))) 46 (0, 0)), pt p37.tb (thrO (P256 256) p37.rb p37.fb)]) (fun j => 8 - j) 0 (by omega) (.cons rfl (.cons rfl (.cons rfl (.cons rfl (.cons rfl (.cons rfl (.cons rfl (.cons rfl .nil)))))))) (fun j hj => ?_)
    refine tc_seq ?_
    refine tc_seq ?_
    refine tc_region ?_
    refine tl_p (pr_move rfl) rfl ?_
    refine tl_p (pr_lss rfl rfl) rfl ?_
    refine tl_next ?_
    refine tc_if rfl (fun hc3 => ?_) (fun hc3 => ?_)
    · have hd3 := hc3
      try simp only [Bool.not_eq_true', Bool.not_eq_false', Bool.or_eq_true, Bool.and_eq_true, Bool.or_eq_false_iff, Bool.and_eq_false_iff, decide_eq_true_eq, decide_eq_false_iff_not, Bool.not_true, Bool.not_false, gval, Bool.not_eq_eq_eq_not] at hc3
      refine tc_skip (tq_next ?_)
      refine tc_seq ?_
      refine tc_block ?_
      refine tc_seq ?_
      refine tc_draw Tryz.mixed [0, 1, 2, 3, 4, 5, 6, 7, 8, 9, 10, 11, 12] (by kernel_rfl) ?_
      refine td_q 0 78 (pm_of rfl rfl rfl (fun _ kq => tl_p (pr_move rfl) rfl kq)) rfl rfl rfl ?_
      refine td_q 1 79 (pm_of rfl rfl rfl (fun _ kq => tl_p (pr_neq rfl rfl) rfl kq)) rfl rfl rfl ?_
      refine td_q 2 80 (pm_of rfl rfl rfl (fun _ kq => tl_p (pr_move rfl) rfl kq)) rfl rfl rfl ?_
      refine td_q 3 81 (pm_of rfl rfl rfl (fun _ kq => tl_gt rfl rfl (fun h => pr_move rfl) (by intro _ h; cases h) rfl kq)) rfl rfl rfl ?_
      refine td_q 4 82 (pm_of rfl rfl rfl (fun _ kq => tl_gt rfl rfl (fun h => pr_move rfl) (by intro _ h; cases h) rfl kq)) rfl rfl rfl ?_
      refine td_q 5 83 (pm_of rfl rfl rfl (fun _ kq => tl_gt rfl rfl (fun h => pr_ixE Tryz.sl24 (gv rfl h) (gv rfl h) (by omega) (by omega) hs73.toSok) (by intro _ h; cases h) rfl kq)) rfl rfl rfl ?_
      refine td_q 6 84 (pm_of rfl rfl rfl (fun _ kq => tl_gt rfl rfl (fun h => pr_ldEA Tryz.ag27 Tryz.sz27 (gv rfl h) (c := capsL (numR2 k x a1 a2)) (m := Cap.l ((numR2 k x a1 a2).getD j nullC)) (fm_le cap_len (numR2 k x a1 a2) j (by rw [r1_len]; omega)) (fm_cut cap_len (numR2 k x a1 a2) j (at_some (by rw [r1_len]; omega))) (hs73.toSok.isM (by omega)) (.own (by repeat (first | exact Has.here | apply Has.there)))) (by intro _ h; cases h) rfl kq)) rfl rfl rfl ?_
      refine td_q 7 85 (pm_of rfl rfl rfl (fun _ kq => tl_gt rfl rfl (fun h => pr_move rfl) (by intro _ h; cases h) rfl kq)) rfl rfl rfl ?_
      refine td_q 8 86 (pm_of rfl rfl rfl (fun _ kq => tl_gt rfl rfl (fun h => pr_move rfl) (by intro _ h; cases h) rfl kq)) rfl rfl rfl ?_
      refine td_q 9 87 (pm_of rfl rfl rfl (fun _ kq => tl_gt rfl rfl (fun h => pr_ixE Tryz.sl24 (gv rfl h) (gv rfl h) (by omega) (by omega) hs57.toSok) (by intro _ h; cases h) rfl kq)) rfl rfl rfl ?_
      refine td_q 10 88 (pm_of rfl rfl rfl (fun _ kq => tl_gt rfl rfl (fun h => pr_ldEA Tryz.ag27 Tryz.sz27 (gv rfl h) (c := capsL (numR2 k x a1 a2)) (m := Cap.l ((numR2 k x a1 a2).getD j nullC)) (fm_le cap_len (numR2 k x a1 a2) j (by rw [r1_len]; omega)) (fm_cut cap_len (numR2 k x a1 a2) j (at_some (by rw [r1_len]; omega))) (hs57.toSok.isM (by omega)) (.own (by repeat (first | exact Has.here | apply Has.there)))) (by intro _ h; cases h) rfl kq)) rfl rfl rfl ?_
      refine td_q 11 89 (pm_of rfl rfl rfl (fun _ kq => tl_gt rfl rfl (fun h => pr_neqF Tryz.eqg27 Tryz.ff27 (gv rfl h) (gv rfl h) (b := true) ((capEq _ _).trans (by simp))) (by intro _ h; cases h) rfl kq)) rfl rfl rfl ?_
      refine td_q 12 90 (pm_of rfl rfl rfl (fun _ kq => tl_p (pr_and rfl rfl rfl) rfl kq)) rfl rfl rfl ?_
      refine td_done (by kernel_rfl) ?_
      refine tq_next ?_
      refine tc_if_false rfl (by simp) ?_
      refine tc_skip (tq_blk_normal (tq_next ?_))
      refine tc_region ?_
      refine tl_p (pr_move rfl) rfl ?_
      refine tl_p (pr_addN rfl rfl (by omega)) rfl ?_
      refine tl_p (pr_assign rfl) rfl ?_
      refine tl_nil ?_
      exact tq_roundP (j + 1) (by omega) (by omega) (.cons rfl (.cons rfl (.cons rfl (.cons rfl (.cons rfl (.cons rfl (.cons rfl (.cons rfl .nil))))))))
    · have hd3 := hc3
      try simp only [Bool.not_eq_true', Bool.not_eq_false', Bool.or_eq_true, Bool.and_eq_true, Bool.or_eq_false_iff, Bool.and_eq_false_iff, decide_eq_true_eq, decide_eq_false_iff_not, Bool.not_true, Bool.not_false, gval, Bool.not_eq_eq_eq_not] at hc3
      refine tc_exit (tq_then_exit (tq_then_exit (tq_blk_here ?_)))
      refine tq_next ?_
      refine tc_seq ?_
      refine tc_seq ?_
      refine tc_region ?_
      refine tl_p (pr_move rfl) rfl ?_
      refine tl_p (pr_neq rfl rfl) rfl ?_
      refine tl_next ?_
      refine tc_if_true rfl rfl ?_
      refine tc_seq ?_
      refine tc_draw Tryz.mixed [0, 1, 2, 3, 4, 5, 6, 7, 8, 9, 10, 11, 12, 13, 14, 15, 16, 17, 18, 19, 20] (by kernel_rfl) ?_
      refine td_q 0 93 (pm_of rfl rfl rfl (fun _ kq => tl_p (pr_move rfl) rfl kq)) rfl rfl rfl ?_
      refine td_q 1 94 (pm_of rfl rfl rfl (fun _ kq => tl_p (pr_move rfl) rfl kq)) rfl rfl rfl ?_
      refine td_q 2 95 (pm_of rfl rfl rfl (fun _ kq => tl_gt rfl rfl (fun h => by first | exact pr_loadW Tryz.ag46 Tryz.sz46 rfl | exact pr_ldA Tryz.ag46 Tryz.sz46 rfl) (by intro _ h; cases h) rfl kq)) rfl rfl rfl ?_
      refine td_q 3 96 (pm_of rfl rfl rfl (fun _ kq => tl_gt rfl rfl (fun h => Tryz.bl46_0_2 rfl rfl) (by intro _ h; cases h) rfl kq)) rfl rfl rfl ?_
      refine td_q 4 97 (pm_of rfl rfl rfl (fun _ kq => tl_gt rfl rfl (fun h => pr_eqlF Tryz.eqg46 Tryz.ff46 (gv rfl h) (gv rfl h) rfl) (by intro _ h; cases h) rfl kq)) rfl rfl rfl ?_
      refine td_q 5 98 (pm_of rfl rfl rfl (fun _ kq => tl_p (pr_and rfl rfl rfl) rfl kq)) rfl rfl rfl ?_
      refine td_q 6 99 (pm_of rfl rfl rfl (fun _ kq => tl_p (pr_move rfl) rfl kq)) rfl rfl rfl ?_
      refine td_q 7 100 (pm_of rfl rfl rfl (fun _ kq => tl_gt rfl rfl (fun h => pr_move rfl) (by intro _ h; cases h) rfl kq)) rfl rfl rfl ?_
      refine td_q 8 101 (pm_of rfl rfl rfl (fun _ kq => tl_gt rfl rfl (fun h => pr_ixE Tryz.sl24 (gv rfl h) (gv rfl h) (by omega) (by omega) hs73.toSok) (by intro _ h; cases h) rfl kq)) rfl rfl rfl ?_
      refine td_q 9 102 (pm_of rfl rfl rfl (fun _ kq => tl_gt rfl rfl (fun h => pr_ldEA Tryz.ag27 Tryz.sz27 (gv rfl h) (c := capsL (numR2 k x a1 a2)) (m := Cap.l ((numR2 k x a1 a2).getD 3 nullC)) (fm_le cap_len (numR2 k x a1 a2) 3 (by rw [r1_len]; omega)) (fm_cut cap_len (numR2 k x a1 a2) 3 (at_some (by rw [r1_len]; omega))) (hs73.toSok.isM (by omega)) (.own (by repeat (first | exact Has.here | apply Has.there)))) (by intro _ h; cases h) rfl kq)) rfl rfl rfl ?_
      refine td_q 10 103 (pm_of rfl rfl rfl (fun _ kq => tl_gt rfl rfl (fun h => pr_move rfl) (by intro _ h; cases h) rfl kq)) rfl rfl rfl ?_
      refine td_q 11 104 (pm_of rfl rfl rfl (fun _ kq => tl_gt rfl rfl (fun h => pr_ixE Tryz.sl24 (gv rfl h) (gv rfl h) (by omega) (by omega) hs57.toSok) (by intro _ h; cases h) rfl kq)) rfl rfl rfl ?_
      refine td_q 12 105 (pm_of rfl rfl rfl (fun _ kq => tl_gt rfl rfl (fun h => pr_ldEA Tryz.ag27 Tryz.sz27 (gv rfl h) (c := capsL (numR2 k x a1 a2)) (m := Cap.l ((numR2 k x a1 a2).getD 3 nullC)) (fm_le cap_len (numR2 k x a1 a2) 3 (by rw [r1_len]; omega)) (fm_cut cap_len (numR2 k x a1 a2) 3 (at_some (by rw [r1_len]; omega))) (hs57.toSok.isM (by omega)) (.own (by repeat (first | exact Has.here | apply Has.there)))) (by intro _ h; cases h) rfl kq)) rfl rfl rfl ?_
      refine td_q 13 106 (pm_of rfl rfl rfl (fun _ kq => tl_gt rfl rfl (fun h => pr_eqlF Tryz.eqg27 Tryz.ff27 (gv rfl h) (gv rfl h) (b := true) ((capEq _ _).trans (by simp))) (by intro _ h; cases h) rfl kq)) rfl rfl rfl ?_
      refine td_q 14 107 (pm_of rfl rfl rfl (fun _ kq => tl_p (pr_and rfl rfl rfl) rfl kq)) rfl rfl rfl ?_
      refine td_q 15 108 (pm_of rfl rfl rfl (fun _ kq => tl_p (pr_move rfl) rfl kq)) rfl rfl rfl ?_
      refine td_q 16 109 (pm_of rfl rfl rfl (fun _ kq => tl_gt rfl rfl (fun h => pr_move rfl) (by intro _ h; cases h) rfl kq)) rfl rfl rfl ?_
      refine td_q 17 110 (pm_of rfl rfl rfl (fun _ kq => tl_rdgtS rfl rfl (fun h => ⟨f21_ct p37.tb _ p37.rb p37.fb, .cons (gv rfl h) .nil⟩) rfl (kk := kq))) rfl rfl rfl ?_
      refine td_q 18 111 (pm_of rfl rfl rfl (fun _ kq => tl_gt rfl rfl (fun h => pr_field Tryz.fo27_3 (gv rfl h) rfl) (by intro _ h; cases h) rfl kq)) rfl rfl rfl ?_
      refine td_q 19 112 (pm_of rfl rfl rfl (fun _ kq => tl_gt rfl rfl (fun h => pr_eql (gv rfl h) rfl) (by intro _ h; cases h) rfl kq)) rfl rfl rfl ?_
      refine td_q 20 113 (pm_of rfl rfl rfl (fun _ kq => tl_p (pr_and rfl rfl rfl) rfl kq)) rfl rfl rfl ?_
      refine td_e1 21 (by kernel_rfl) ?_
      refine te rfl ?_
      refine tl_p (pr_assign rfl) rfl ?_
      refine td_next (pd := []) (by kernel_rfl) (.nil) ?_
      refine td_done (by kernel_rfl) ?_
      refine tq_next ?_
      refine tc_ret (tq_then_ret ?_)
      exact tq_ret1 .ret (.inl rfl) () rfl rfl

theorem f3_ct (a0 a1 a2 : Int) (q : CaseS) (x : CaseM) (hq : CaseOk q x) (h0 : 0 ≤ a0 ∧ a0 ≤ 255) (h1 : 0 ≤ a1 ∧ a1 ≤ 4294967295) (h2 : 0 ≤ a2 ∧ a2 ≤ 4294967295) : Ct Tryz.prog 3 #[.int .u8 a0, .int .u32 a1, .int .u32 a2, caseV q x] (caseRo q x) [] (fun _ : Unit => .bool true) (fun _ N => N) := by
  have hk : 3 ≤ 3 + a0 % 6 ∧ 3 + a0 % 6 ≤ 8 := by omega
  rcases aluDo_e (k := 3 + a0 % 6) (a := a1) (b := a2) with h | h | h
  · exact f3_yes a0 a1 a2 q x hq h0 h1 h2 h
  · exact f3_no a0 a1 a2 q x hq h0 h1 h2 h
  · exfalso
    have hr := ref_alu hk h1 h2
    rw [← hr] at h
    unfold refDo at h
    repeat' split at h
    all_goals first | omega | (exact absurd h (by decide))

end Go.Proofs

namespace Go.Proofs
open Go Go.Sz
attribute [local irreducible] pt lift exs own emp

theorem take_ext {α : Type} {l m : List α} {j : Nat} (h1 : j < l.length) (h2 : j < m.length) (h : l.take j = m.take j) (e : l[j] = m[j]) : l.take (j + 1) = m.take (j + 1) := by
  rw [List.take_succ_eq_append_getElem h1, List.take_succ_eq_append_getElem h2, h, e]

theorem f27_ct (s1 s2 : Shp) (n1 n2 : Nat) (l1 l2 : List Cap) (hs1 : Sok 6 s1 n1 (capsL l1)) (hs2 : Sok 6 s2 n2 (capsL l2)) : Rd Tryz.prog 27 #[sv s1 n1, sv s2 n2] (ra s1 (capsL l1) ++ ra s2 (capsL l2)) [] (.bool (decide (l1 = l2))) := by
  refine ct_intro Tryz.func27 rfl (by kernel_rfl) (n := 26) rfl rfl (E := [(0, sv s1 n1), (1, sv s2 n2)]) rfl ?_
  intro κ hro
  have hn1 := caps_n hs1
  have hn2 := caps_n hs2
  have hb1 := hs1.bnd
  have hrd1 : ∀ L, RdS L κ s1 (capsL l1) := fun L => Reads.sl (Reads.app hro).1
  have hrd2 : ∀ L, RdS L κ s2 (capsL l2) := fun L => Reads.sl (Reads.app hro).2
  refine tc_seq ?_
  refine tc_region ?_
  refine tl_p (pr_assign rfl) rfl ?_
  refine tl_next ?_
  refine tc_seq ?_
  refine tc_seq ?_
  refine tc_region ?_
  refine tl_p (pr_move rfl) rfl ?_
  refine tl_p (pr_lenS Tryz.sf24 rfl hs1) rfl ?_
  refine tl_p (pr_move rfl) rfl ?_
  refine tl_p (pr_lenS Tryz.sf24 rfl hs2) rfl ?_
  refine tl_p (pr_neq rfl rfl) rfl ?_
  refine tl_next ?_
  refine tc_if rfl (fun hc1 => ?_) (fun hc1 => ?_)
  · have hd1 := hc1
    try simp only [Bool.not_eq_true', Bool.not_eq_false', Bool.or_eq_true, Bool.and_eq_true, Bool.or_eq_false_iff, Bool.and_eq_false_iff, decide_eq_true_eq, decide_eq_false_iff_not, Bool.not_true, Bool.not_false, gval, Bool.not_eq_eq_eq_not] at hc1
    refine tc_seq ?_
    refine tc_region ?_
    refine tl_p (pr_assign rfl) rfl ?_
    refine tl_next ?_
    refine tc_ret (tq_then_ret ?_)
    exact tq_ret1 .ret (.inl rfl) () rfl (by rw [show decide (l1 = l2) = false from decide_eq_false (fun e => by subst e; omega)]; rfl)
  · have hd1 := hc1
    try simp only [Bool.not_eq_true', Bool.not_eq_false', Bool.or_eq_true, Bool.and_eq_true, Bool.or_eq_false_iff, Bool.and_eq_false_iff, decide_eq_true_eq, decide_eq_false_iff_not, Bool.not_true, Bool.not_false, gval, Bool.not_eq_eq_eq_not] at hc1
    have hnn : n1 = n2 := by omega
    refine tc_skip (tq_next ?_)
    refine tc_seq ?_
    refine tc_seq ?_
    refine tc_region ?_
    refine tl_p (pr_assign rfl) rfl ?_
    refine tl_next ?_
    refine tc_block ?_
    refine tc_loopP (X := Nat) (fun j => j ≤ n1 ∧ l1.take j = l2.take j) (fun j => [(0, sv s1 n1), (1, sv s2 n2), (5, .int .i64 (j : Int))]) (fun j => []) (fun j => n1 - j) 0 ⟨by omega, rfl⟩ (.cons rfl (.cons rfl (.cons rfl .nil))) (fun j hj => ?_)
    have hj1 := hj.1
    have hj2 := hj.2
    refine tc_seq ?_
    refine tc_seq ?_
    refine tc_region ?_
    refine tl_p (pr_move rfl) rfl ?_
    refine tl_p (pr_move rfl) rfl ?_
    refine tl_p (pr_lenS Tryz.sf24 rfl hs1) rfl ?_
    refine tl_p (pr_lss rfl rfl) rfl ?_
    refine tl_next ?_
    refine tc_if rfl (fun hc2 => ?_) (fun hc2 => ?_)
    · have hd2 := hc2
      try simp only [Bool.not_eq_true', Bool.not_eq_false', Bool.or_eq_true, Bool.and_eq_true, Bool.or_eq_false_iff, Bool.and_eq_false_iff, decide_eq_true_eq, decide_eq_false_iff_not, Bool.not_true, Bool.not_false, gval, Bool.not_eq_eq_eq_not] at hc2
      refine tc_skip (tq_next ?_)
      refine tc_seq ?_
      refine tc_block ?_
      refine tc_seq ?_
      refine tc_draw Tryz.mixed [0, 1, 2, 3, 4, 5, 6, 7, 8] (by kernel_rfl) ?_
      refine td_q 0 17 (pm_of rfl rfl rfl (fun _ kq => tl_p (pr_move rfl) rfl kq)) rfl rfl rfl ?_
      refine td_q 1 18 (pm_of rfl rfl rfl (fun _ kq => tl_p (pr_move rfl) rfl kq)) rfl rfl rfl ?_
      refine td_q 2 19 (pm_of rfl rfl rfl (fun _ kq => tl_p (pr_ixE Tryz.sl24 rfl rfl (by omega) (by omega) hs1) rfl kq)) rfl rfl rfl ?_
      refine td_q 3 20 (pm_of rfl rfl rfl (fun _ kq => tl_p (pr_ldEA Tryz.ag27 Tryz.sz27 rfl (c := capsL l1) (m := Cap.l (l1.getD j nullC)) (fm_le cap_len l1 j (by omega)) (fm_cut cap_len l1 j (at_getD (by omega))) (hs1.isM (by omega)) (hrd1 _)) rfl kq)) rfl rfl rfl ?_
      refine td_q 4 21 (pm_of rfl rfl rfl (fun _ kq => tl_p (pr_move rfl) rfl kq)) rfl rfl rfl ?_
      refine td_q 5 22 (pm_of rfl rfl rfl (fun _ kq => tl_p (pr_move rfl) rfl kq)) rfl rfl rfl ?_
      refine td_q 6 23 (pm_of rfl rfl rfl (fun _ kq => tl_p (pr_ixE Tryz.sl24 rfl rfl (by omega) (by omega) hs2) rfl kq)) rfl rfl rfl ?_
      refine td_q 7 24 (pm_of rfl rfl rfl (fun _ kq => tl_p (pr_ldEA Tryz.ag27 Tryz.sz27 rfl (c := capsL l2) (m := Cap.l (l2.getD j nullC)) (fm_le cap_len l2 j (by omega)) (fm_cut cap_len l2 j (at_getD (by omega))) (hs2.isM (by omega)) (hrd2 _)) rfl kq)) rfl rfl rfl ?_
      refine td_q 8 25 (pm_of rfl rfl rfl (fun _ kq => tl_p (pr_neqF Tryz.eqg27 Tryz.ff27 rfl rfl (capEq _ _)) rfl kq)) rfl rfl rfl ?_
      refine td_done (by kernel_rfl) ?_
      refine tq_next ?_
      refine tc_if rfl (fun hc3 => ?_) (fun hc3 => ?_)
      · have hd3 := hc3
        try simp only [Bool.not_eq_true', Bool.not_eq_false', Bool.or_eq_true, Bool.and_eq_true, Bool.or_eq_false_iff, Bool.and_eq_false_iff, decide_eq_true_eq, decide_eq_false_iff_not, Bool.not_true, Bool.not_false, gval, Bool.not_eq_eq_eq_not] at hc3
        refine tc_seq ?_
        refine tc_region ?_
        refine tl_p (pr_assign rfl) rfl ?_
        refine tl_next ?_
        refine tc_ret (tq_blk_ret (tq_then_ret (tq_then_ret (tq_blk_ret (tq_then_ret ?_)))))
        exact tq_ret1 .ret (.inl rfl) () rfl (by rw [show decide (l1 = l2) = false from decide_eq_false (fun e => by subst e; simp at hd3)]; rfl)
      · have hd3 := hc3
        try simp only [Bool.not_eq_true', Bool.not_eq_false', Bool.or_eq_true, Bool.and_eq_true, Bool.or_eq_false_iff, Bool.and_eq_false_iff, decide_eq_true_eq, decide_eq_false_iff_not, Bool.not_true, Bool.not_false, gval, Bool.not_eq_eq_eq_not] at hc3
        refine tc_skip (tq_blk_normal (tq_next ?_))
        refine tc_region ?_
        refine tl_p (pr_move rfl) rfl ?_
        refine tl_p (pr_addN rfl rfl (by omega)) rfl ?_
        refine tl_p (pr_assign rfl) rfl ?_
        refine tl_nil ?_
        exact tq_roundP (j + 1) ⟨by omega, take_ext (by omega) (by omega) hj2 (by rw [some_getD (l := l1) (by omega) nullC, some_getD (l := l2) (by omega) nullC]; simpa using hd3)⟩ (by omega) (.cons rfl (.cons rfl (.cons rfl .nil)))
    · have hd2 := hc2
      try simp only [Bool.not_eq_true', Bool.not_eq_false', Bool.or_eq_true, Bool.and_eq_true, Bool.or_eq_false_iff, Bool.and_eq_false_iff, decide_eq_true_eq, decide_eq_false_iff_not, Bool.not_true, Bool.not_false, gval, Bool.not_eq_eq_eq_not] at hc2
      refine tc_exit (tq_then_exit (tq_then_exit (tq_blk_here ?_)))
      refine tq_next ?_
      refine tc_seq ?_
      refine tc_region ?_
      refine tl_p (pr_assign rfl) rfl ?_
      refine tl_next ?_
      refine tc_ret ?_
      exact tq_ret1 .ret (.inl rfl) () rfl (by have e : j = n1 := (by omega); have := hj2; rw [e, List.take_of_length_le (by omega), List.take_of_length_le (by omega)] at this; rw [show decide (l1 = l2) = true from decide_eq_true this]; rfl)

end Go.Proofs

namespace Go.Proofs
open Go Go.Sz
attribute [local irreducible] pt lift exs own emp

abbrev PC (t n : Int) : Cap := ⟨true, 256, t, n, 5, 0⟩
theorem pc_right {t n : Int} (ht : 256 ≤ t ∧ t ≤ 512) (h : 0 ≤ n ∧ n ≤ 4294967295) : capRight (PC t n) = true := capRight_of (by dsimp only; omega) (by kernel_rfl) (by dsimp only; omega)
theorem fetchC {t n : Int} (ht : 256 ≤ t ∧ t ≤ 512) (h : 256 ≤ n ∧ n + 4 ≤ t ∧ n % 4 = 0) : aeven (PC t n) (permOf [4]) 0 4 = (n, 0) := by
  have e : acheck (PC t n) (permOf [4]) 0 4 = (n, 0) := by
    have := acheck_ok (c := PC t n) (need := permOf [4]) (off := 0) (n := 4) (pc_right ht (by omega)) (by kernel_rfl) (by omega) rfl rfl (by kernel_rfl) (by kernel_rfl) (by rw [wI_of (by dsimp only; omega)]; exact (capIn_iff (by dsimp only; omega) (by dsimp only; omega)).2 (by dsimp only; omega))
    rw [this, wI_of (by dsimp only; omega)]; dsimp only; rw [Int.add_zero]
  unfold aeven; rw [e, if_pos (by show n.tmod 4 = 0; rw [Int.tmod_eq_emod_of_nonneg (by omega)]; omega)]
theorem ins_C {m : MemM} (hn : m.n = 4) {t n : Int} (ht : 256 ≤ t ∧ t ≤ 512) (h : 256 ≤ n ∧ n + 4 ≤ t ∧ n % 4 = 0) {x : Ins} (hx : insRight x = true) (hb : m.bs n.toNat 4 = putI x) : insP (PC t n) m = (x, 0) := by
  unfold insP
  rw [fetchC ht h]
  have hi : memIn m n 4 = true := memIn_of4 hn (by omega) (by omega) (by omega)
  rw [if_neg (by simp), if_pos hi, memLoad_of hi]
  show insGet (m.bs n.toNat 4) = _
  rw [hb, insGet_put hx]
theorem madeRJ_right (x : CaseM) (j : Nat) : ∀ c ∈ madeRJ x j, capRight c = true := by
  induction j with
  | zero => intro c hc; have : c = nullC := List.eq_of_mem_replicate (show c ∈ List.replicate 8 nullC from hc); subst this; rfl
  | succ j ih =>
    intro c hc
    rw [madeRJ_succ] at hc
    unfold setR at hc
    split at hc
    · rename_i h
      rcases List.mem_or_eq_of_mem_set hc with hc | rfl
      · exact ih c hc
      · exact gr h
    · exact ih c hc
abbrev retI : Ins := ⟨24, 0, 0, 0⟩
abbrev callI : Ins := ⟨23, 0, 1, 0⟩
abbrev calCode : List Ins := callI :: List.replicate 29 retI
def calX (l : List Cap) : CaseM := ⟨calCode, l, [], [], nullC⟩
def calM (l : List Cap) : MemM := madeM (calX l)
def calW (l : List Cap) : List Int := madeW (calX l)
def calR (l : List Cap) : List Cap := madeR (calX l)
theorem calM_n (l : List Cap) : (calM l).n = 4 := madeMJ_n _ _
theorem calW_len (l : List Cap) : (calW l).length = 1 := madeWJ_len _ _
theorem cal_pos (l : List Cap) : posC (calX l) = P256 256 := rfl
theorem cal_regs (l : List Cap) : ∃ r0 r1 r2 r3 r4 r5 r6 r7, calR l = [r0, r1, r2, r3, r4, r5, r6, r7] ∧ (∀ c ∈ [r0, r1, r2, r3, r4, r5, r6, r7], capRight c = true) := by
  obtain ⟨r0, r1, r2, r3, r4, r5, r6, r7, h⟩ := len8 (madeRJ_len (calX l) l.length)
  exact ⟨r0, r1, r2, r3, r4, r5, r6, r7, h, by rw [← h]; exact madeRJ_right _ _⟩
theorem cal_code (l : List Cap) : ∀ y ∈ (calX l).code, insRight y = true := by
  intro y hy
  rcases List.mem_cons.1 (show y ∈ callI :: List.replicate 29 retI from hy) with rfl | hy
  · rfl
  · rw [List.eq_of_mem_replicate hy]; rfl
theorem cal_i1 (l : List Cap) : insP (P256 256) (calM l) = (callI, 0) := ins_256 (calM_n l) (by omega) rfl (made_code (x := calX l) (cal_code l) (by show 30 ≤ 64; omega) (i := 0) (by show 0 < 30; omega))
theorem cal_i2 (l : List Cap) {k : Nat} (hk : 2 ≤ k ∧ k ≤ 21) : insP (PC 376 (256 + 4 * (k : Int))) (calM l) = (retI, 0) := by
  refine ins_C (calM_n l) (by omega) (by omega) rfl ?_
  have := made_code (x := calX l) (cal_code l) (by show 30 ≤ 64; omega) (i := k) (by show k < 30; omega)
  rw [show (256 + 4 * (k : Int)).toNat = 256 + 4 * k from by omega]
  refine this.trans ?_
  congr 1
  obtain ⟨q, rfl⟩ : ∃ q, k = q + 1 := ⟨k - 1, by omega⟩
  exact List.getElem_replicate (a := retI) (n := 29) (i := q) (by simp; omega)
section
variable {l : List Cap} {k : Nat} {y : Int} {r2 r3 r4 r5 r6 r7 : Cap} (hk : 2 ≤ k ∧ k ≤ 21) (hy : 2 ≤ y ∧ y ≤ 201) (hr : ∀ c ∈ [r4, r5, r6, r7], capRight c = true)
abbrev calA (k : Nat) (y : Int) : Cap := ⟨true, 256, 376, 256 + 4 * (k : Int), 5, y⟩
abbrev calB (y : Int) : Cap := ⟨true, 512, 768, 512, 27, y⟩
abbrev calF (r4 r5 r6 r7 : Cap) : Fr := ⟨P256 260, r4, r5, r6, r7⟩
include hk hy in
theorem calA_right {t : Int} (ht : 0 ≤ t ∧ t ≤ 255) : capRight (calA k t) = true := capRight_of (by dsimp only; omega) (by kernel_rfl) ht
theorem calB_right {t : Int} (ht : 0 ≤ t ∧ t ≤ 255) : capRight (calB t) = true := capRight_of (by dsimp only; omega) perm27 ht
include hy in
theorem cal_enters : enters (calA k y) (calB y) = 0 := by
  unfold enters
  rw [if_neg (by simp), if_neg (by dsimp only; omega), if_neg (by rw [show permHas 5 4 = true from by kernel_rfl]; simp), if_neg (by dsimp only; omega), if_neg (by simp), if_neg (by simp), if_neg (by rw [show permHas 27 4 = false from by kernel_rfl]; simp)]
include hr in
theorem cal_push : pushOk [] (calF r4 r5 r6 r7) = true := by
  unfold pushOk allRight Fr.regs
  rw [show capRight (calF r4 r5 r6 r7).pos = true from p256_right (by omega)]
  simp only [List.all_eq_true, Bool.and_eq_true]
  exact ⟨⟨by simp, by trivial⟩, hr⟩
include hk hy hr
theorem cal_s1 : stepF (P256 256) [calA k y, calB y, r2, r3, r4, r5, r6, r7] [] (calM l) (calW l) 64 = ⟨(0, 0, 0), PC 376 (256 + 4 * (k : Int)), [calA k y, calB y, r2, r3, nullC, nullC, nullC, calB 0], [calF r4 r5 r6 r7], calM l⟩ := by
  have h1 : enters (getR [calA k y, calB y, r2, r3, r4, r5, r6, r7] callI.a) (getR [calA k y, calB y, r2, r3, r4, r5, r6, r7] callI.b) = 0 := cal_enters hy
  obtain ⟨c1, c2, c3, c4⟩ := caE_2 (regs := [calA k y, calB y, r2, r3, r4, r5, r6, r7]) (x := callI) (fs := []) (nx := P256 260) h1 (cal_push hr)
  rw [step_went (cal_i1 l) (by decide) (by decide) rfl (by rw [astep256]; exact c1), astep256]
  show Stp.mk _ (caN _ _ _ _) (caR _ _ _ _) (caF _ _ _ _) _ = _
  rw [c2, c3, c4]
  have e1 : caB [calA k y, calB y, r2, r3, r4, r5, r6, r7] callI = calB y := by
    unfold caB; rw [if_neg (by show ¬ y = 1; omega)]; rfl
  rw [e1]
  have e2 : setR (clearR [calA k y, calB y, r2, r3, r4, r5, r6, r7] 4 7) 7 { calB y with typ := 0 } = [calA k y, calB y, r2, r3, nullC, nullC, nullC, calB 0] := by
    unfold setR
    rw [show capRight { calB y with typ := 0 } = true from calB_right (by omega)]; rfl
  rw [e2]
  have e3 : pushF [] (calF r4 r5 r6 r7) = [calF r4 r5 r6 r7] := by unfold pushF; rw [cal_push hr]; rfl
  have e4 : caF [calA k y, calB y, r2, r3, r4, r5, r6, r7] callI [] (P256 260) = [calF r4 r5 r6 r7] := c3.trans e3
  show Stp.mk _ _ _ (pushF [] (calF r4 r5 r6 r7)) _ = _
  rw [e3]; rfl
theorem cal_s2 (h23 : capRight r2 = true ∧ capRight r3 = true) : stepF (PC 376 (256 + 4 * (k : Int))) [calA k y, calB y, r2, r3, nullC, nullC, nullC, calB 0] [calF r4 r5 r6 r7] (calM l) (calW l) 64 = ⟨(0, 0, 0), P256 260, [calA k y, calB y, r2, r3, r4, r5, r6, r7], [], calM l⟩ := by
  rw [step_went (cal_i2 l hk) (by decide) (by decide) rfl rfl]
  have e2 : putRegs [calA k y, calB y, r2, r3, nullC, nullC, nullC, calB 0] [calA k y, calB y, r2, r3, r4, r5, r6, r7] = [calA k y, calB y, r2, r3, r4, r5, r6, r7] := by
    have hall : allRight [calA k y, calB y, r2, r3, r4, r5, r6, r7] = true := by
     unfold allRight
     rw [List.all_eq_true]
     intro c hc
     simp only [List.mem_cons, List.not_mem_nil, or_false] at hc
     rcases hc with rfl | rfl | rfl | rfl | rfl | rfl | rfl | rfl
     · exact calA_right hk hy (by omega)
     · exact calB_right (by omega)
     · exact h23.1
     · exact h23.2
     all_goals exact hr _ (by simp)
    unfold putRegs
    rw [if_pos ⟨rfl, hall⟩]
  show Stp.mk _ _ (putRegs [calA k y, calB y, r2, r3, nullC, nullC, nullC, calB 0] [calA k y, calB y, r2, r3, r4, r5, r6, r7]) _ _ = _
  rw [e2]; rfl
end
theorem cal_r1 {k : Nat} {y : Int} (hk : 2 ≤ k ∧ k ≤ 21) (hy : 2 ≤ y ∧ y ≤ 201) {r0 r1 r2 r3 r4 r5 r6 r7 : Cap} : setR [r0, r1, r2, r3, r4, r5, r6, r7] 0 (calA k y) = [calA k y, r1, r2, r3, r4, r5, r6, r7] := by
  unfold setR; rw [calA_right hk hy (by omega)]; rfl
theorem cal_r2 {y : Int} (hy : 2 ≤ y ∧ y ≤ 201) {r0 r1 r2 r3 r4 r5 r6 r7 : Cap} : setR [r0, r1, r2, r3, r4, r5, r6, r7] 1 (calB y) = [r0, calB y, r2, r3, r4, r5, r6, r7] := by
  unfold setR; rw [calB_right (by omega)]; rfl
theorem calMade (l : List Cap) (q : CaseS) (hq : CaseOk q (calX l)) (hg : greatC (calX l) = false) : Ct Tryz.prog 14 #[caseV q (calX l)] (caseRo q (calX l)) [] (X := {p : Pl // MOk p.ms (calM l) ∧ ShOk p.ps (calW l) 64}) (fun y => .tuple #[ad y.1.tb 0, ad y.1.mb 0, ad y.1.sb 0]) (fun y N => worldS y.1 (P256 256) (calR l) [] (calM l) (calW l) ++ N) := f14_ct q (calX l) hq hg

end Go.Proofs

namespace Go.Proofs
open Go Go.Sz
attribute [local irreducible] pt lift exs own emp
theorem Tryz.bl27_0_1_2_3_4_5 {n : Nat} {D : List Deferred} {E : Env} {L : List HProp} {κ : Ctx} {T : TypeId} {x0 x1 x2 x3 x4 x5 : Operand} {a0 a1 a2 a3 a4 a5 : Value} (h0 : E.ev x0 = some a0) (h1 : E.ev x1 = some a1) (h2 : E.ev x2 = some a2) (h3 : E.ev x3 = some a3) (h4 : E.ev x4 = some a4) (h5 : E.ev x5 = some a5) (o0 : oneV a0 = true := by rfl) (o1 : oneV a1 = true := by rfl) (o2 : oneV a2 = true := by rfl) (o3 : oneV a3 = true := by rfl) (o4 : oneV a4 = true := by rfl) (o5 : oneV a5 = true := by rfl) :
    PR Tryz.prog (.build 27 #[(0, x0), (1, x1), (2, x2), (3, x3), (4, x4), (5, x5)]) T n D E L κ (.agg #[a0, a1, a2, a3, a4, a5]) := by
  refine pr_buildS Tryz.bld27 (.cons h0 (.cons h1 (.cons h2 (.cons h3 (.cons h4 (.cons h5 .nil)))))) ?_
  simp [Instr.fill, cells_agg, cells_one o0, cells_one o1, cells_one o2, cells_one o3, cells_one o4, cells_one o5]
theorem nil_mk {c : List Value} {L : List HProp} {κ : Ctx} {w : World} (s : St L κ w) : St (sl .nil c :: L) κ w := s.emp_mk
attribute [local irreducible] calM calW calR sl
theorem ins_ok {l : List Ins} : allOne (insL l) = true := by
  rw [allOne_iff]
  intro v hv
  obtain ⟨x, _, hx⟩ := List.mem_flatMap.1 hv
  simp only [Ins.l, List.mem_cons, List.not_mem_nil, or_false] at hx
  rcases hx with rfl | rfl | rfl | rfl <;> rfl
theorem ret_succ (j : Nat) : insL (List.replicate (j + 1) retI) = insL (List.replicate j retI) ++ insL [retI] := by
  rw [List.replicate_succ']
  exact List.flatMap_append
theorem Sow.re {sz n : Nat} {s : Shp} {c c' : List Value} (h : Sow sz s n c) (e : c'.length = c.length) : Sow sz s n c' := ⟨⟨by rw [e]; exact h.len, h.far, h.cap, h.bnd⟩, h.tame, h.room⟩

theorem f6_ct (a0 a2 : Int) (s : Shp) (n : Nat) (l : List Cap) (hs : Sok 6 s n (capsL l)) (h0 : 0 ≤ a0 ∧ a0 ≤ 255) (h2 : 0 ≤ a2 ∧ a2 ≤ 255) : Ct Tryz.prog 6 #[.int .u8 a0, sv s n, .int .u8 a2] (ra s (capsL l)) [] (fun _ : Unit => .bool true) (fun _ N => N) := by
  refine ct_intro Tryz.func6 rfl (by kernel_rfl) (n := 156) rfl rfl (E := [(0, .int .u8 a0), (1, sv s n), (2, .int .u8 a2)]) rfl ?_
  intro κ hro
  obtain ⟨y, hy⟩ : ∃ y : Int, y = 2 + a0 % 200 := ⟨_, rfl⟩
  have hy1 : 2 ≤ y ∧ y ≤ 201 := by omega
  obtain ⟨k, hk⟩ : ∃ k : Nat, (k : Int) = 2 + a2 % 20 := ⟨(2 + a2 % 20).toNat, by omega⟩
  have hk1 : 2 ≤ k ∧ k ≤ 21 := by omega
  obtain ⟨r0, r1, r2, r3, r4, r5, r6, r7, hR, hrr⟩ := cal_regs l
  have hr4 : ∀ c ∈ [r4, r5, r6, r7], capRight c = true := fun c hc => hrr c (List.mem_of_mem_drop (i := 4) (l := [r0, r1, r2, r3, r4, r5, r6, r7]) hc)
  have h23 : capRight r2 = true ∧ capRight r3 = true := ⟨hrr _ (by simp), hrr _ (by simp)⟩
  refine tc_seq ?_
  refine tc_region ?_
  refine tl_p (pr_assign rfl) rfl ?_
  refine tl_next ?_
  refine tc_seq ?_
  refine tc_region ?_
  refine tl_callS (f12_ct) (.nil) rfl (kk := fun _ => ?_)
  refine tl_p (pr_assign rfl) rfl ?_
  refine tl_next ?_
  refine tc_seq ?_
  refine tc_region ?_
  refine tl_p (pr_move rfl) rfl ?_
  refine tl_p (pr_eq (v' := .int .u8 (y - 2)) (pr_rem rfl rfl (by decide)) (by rw [Int.tmod_eq_emod_of_nonneg h0.1]; congr 1; omega)) rfl ?_
  refine tl_p (pr_eqI (j := y - 2) (pr_conv Tryz.it3 Tryz.underlying5 rfl) (wI_of (by omega))) rfl ?_
  refine tl_p (pr_eqI (j := y) (pr_addN rfl rfl (by omega)) (by omega)) rfl ?_
  refine tl_p (pr_assign rfl) rfl ?_
  refine tl_next ?_
  refine tc_seq ?_
  refine tc_region ?_
  refine tl_p (pr_move rfl) rfl ?_
  refine tl_p (pr_eq (v' := .int .u8 ((k : Int) - 2)) (pr_rem rfl rfl (by decide)) (by rw [Int.tmod_eq_emod_of_nonneg h2.1]; congr 1; omega)) rfl ?_
  refine tl_p (pr_eqI (j := (k : Int) - 2) (pr_conv Tryz.it3 Tryz.underlying5 rfl) (wI_of (by omega))) rfl ?_
  refine tl_p (pr_eqI (j := (k : Int)) (pr_addN rfl rfl (by omega)) (by omega)) rfl ?_
  refine tl_p (pr_assign rfl) rfl ?_
  refine tl_next ?_
  refine tc_seq ?_
  refine tc_region ?_
  refine tl_p (pr_assign rfl) rfl ?_
  refine tl_next ?_
  refine tc_seq ?_
  refine tc_block ?_
  refine tc_imp (fun w s => nil_mk (c := insL (List.replicate 0 retI)) s) ?_
  refine tc_loopP (X := Nat × Shp) (fun j => j.1 ≤ 30 ∧ Sow 4 j.2 j.1 (insL (List.replicate j.1 retI))) (fun j => [(1, sv s n), (7, .bool true), (8, .int .i64 y), (9, .int .i64 (k : Int)), (10, sv j.2 j.1)]) (fun j => [sl j.2 (insL (List.replicate j.1 retI))]) (fun j => 30 - j.1) (0, .nil) ⟨by omega, Sow.nil⟩ (.cons rfl (.cons rfl (.cons rfl (.cons rfl (.cons rfl .nil))))) (fun j hj => ?_)
  have hj1 := hj.1
  have hj2 := hj.2
  refine tc_seq ?_
  refine tc_seq ?_
  refine tc_region ?_
  refine tl_p (pr_move rfl) rfl ?_
  refine tl_p (pr_lenS Tryz.sf23 rfl hj2.toSok) rfl ?_
  refine tl_p (pr_lss rfl rfl) rfl ?_
  refine tl_next ?_
  refine tc_if rfl (fun hc1 => ?_) (fun hc1 => ?_)
  · have hd1 := hc1
    try simp only [Bool.not_eq_true', Bool.not_eq_false', Bool.or_eq_true, Bool.and_eq_true, Bool.or_eq_false_iff, Bool.and_eq_false_iff, decide_eq_true_eq, decide_eq_false_iff_not, Bool.not_true, Bool.not_false, gval, Bool.not_eq_eq_eq_not] at hc1
    refine tc_skip (tq_next ?_)
    refine tc_block ?_
    refine tc_region ?_
    refine tl_p (pr_move rfl) rfl ?_
    refine tl_p (Tryz.bl33_0 rfl) rfl ?_
    refine tl_buildS Tryz.sf23 Tryz.z33 rfl (.cons rfl .nil) rfl rfl (c := insL [retI]) rfl rfl rfl (kk := fun s35 hs35 ms35 => ?_)
    refine tl_append Tryz.sf23 Tryz.z33 rfl rfl rfl hj2 (Sow.toSok hs35) ins_ok (by omega) rfl (kk := fun s36 hs36 => ?_)
    refine tl_p (pr_assign rfl) rfl ?_
    refine tl_nil (tq_blk_normal ?_)
    rw [← ret_succ]
    exact tq_roundP (j.1 + 1, s36) ⟨by omega, by rw [ret_succ]; exact hs36⟩ (by show 30 - (j.1 + 1) < _; omega) (.cons rfl (.cons rfl (.cons rfl (.cons rfl (.cons rfl .nil)))))
  · have hd1 := hc1
    try simp only [Bool.not_eq_true', Bool.not_eq_false', Bool.or_eq_true, Bool.and_eq_true, Bool.or_eq_false_iff, Bool.and_eq_false_iff, decide_eq_true_eq, decide_eq_false_iff_not, Bool.not_true, Bool.not_false, gval, Bool.not_eq_eq_eq_not] at hc1
    obtain ⟨j1, s30⟩ := j
    obtain rfl : j1 = 30 := by simp only at hj1 hc1; omega
    have hf30 : ∀ g, s30 = .mem g → g.fr = (0, 0) := fun g e => (hj2.room g e).1
    have hs30 : Sow 4 s30 30 (insL calCode) := Sow.re hj2 rfl
    refine tc_exit (tq_then_exit (tq_then_exit (tq_blk_here ?_)))
    refine tq_next ?_
    refine tc_seq ?_
    refine tc_region ?_
    refine tl_p (pr_move rfl) rfl ?_
    refine tl_p (Tryz.bl33_0_1_2 rfl rfl rfl) rfl ?_
    refine tl_p (pr_ixE Tryz.sl23 rfl rfl (by omega) (by omega) hs30.toSok) rfl ?_
    refine tl_stE (s := s30) (j := (0 : Int).toNat * 4) (c := insL (List.replicate 30 retI)) (c' := insL calCode) Tryz.sz33 rfl rfl (by show 4 ≤ 120; omega) rfl hf30 (hm := hs30.toSok.isM (by omega)) (k := ?_)
    refine tl_next ?_
    refine tc_seq ?_
    refine tc_region ?_
    refine tl_p (pr_move rfl) rfl ?_
    refine tl_p (pr_move rfl) rfl ?_
    refine tl_p (Tryz.bl29_0_1 rfl rfl (o0 := sv_one _ _) (o1 := sv_one _ _)) rfl ?_
    refine tl_alloc Tryz.z29 rfl (fun b11 => ?_)
    refine tl_storeW Tryz.sz29 rfl rfl (h1 := by show allOne (caseL ⟨s30, 30, s, n, .nil, 0, .nil, 0⟩ (calX l)) = true; simp only [allOne, sv_one]; rfl) (k := ?_)
    refine tl_next ?_
    refine tc_seq ?_
    refine tc_seq ?_
    refine tc_region ?_
    refine tl_p (by first | exact pr_loadW Tryz.ag29 Tryz.sz29 rfl | exact pr_ldA Tryz.ag29 Tryz.sz29 rfl) rfl ?_
    refine tl_rdS (f13_ct ⟨s30, 30, s, n, .nil, 0, .nil, 0⟩ (calX l) ⟨hs30.toSok, hs, Sok.nil, Sok.nil⟩) (.cons rfl .nil) rfl (hro := Rdbs.app (Rdbs.sl (.own (by repeat (first | exact Has.here | apply Has.there)))) (Rdbs.app (Rdbs.sl (Reads.sl hro)) .nil)) (kk := ?_)
    refine tl_next ?_
    refine tc_if rfl (fun hc2 => ?_) (fun hc2 => ?_)
    · have hd2 := hc2
      try simp only [Bool.not_eq_true', Bool.not_eq_false', Bool.or_eq_true, Bool.and_eq_true, Bool.or_eq_false_iff, Bool.and_eq_false_iff, decide_eq_true_eq, decide_eq_false_iff_not, Bool.not_true, Bool.not_false, gval, Bool.not_eq_eq_eq_not] at hc2
      refine tc_seq ?_
      refine tc_region ?_
      refine tl_p (pr_move rfl) rfl ?_
      refine tl_p (pr_assign rfl) rfl ?_
      refine tl_next ?_
      refine tc_ret (tq_then_ret ?_)
      exact tq_ret1 .ret (.inl rfl) () rfl rfl
    · have hd2 := hc2
      try simp only [Bool.not_eq_true', Bool.not_eq_false', Bool.or_eq_true, Bool.and_eq_true, Bool.or_eq_false_iff, Bool.and_eq_false_iff, decide_eq_true_eq, decide_eq_false_iff_not, Bool.not_true, Bool.not_false, gval, Bool.not_eq_eq_eq_not] at hc2
      have hg : greatC (calX l) = false := hd2
      refine tc_skip (tq_next ?_)
      refine tc_seq ?_
      refine tc_region ?_
      refine tl_p (by first | exact pr_loadW Tryz.ag29 Tryz.sz29 rfl | exact pr_ldA Tryz.ag29 Tryz.sz29 rfl) rfl ?_
      refine tl_callS (calMade l ⟨s30, 30, s, n, .nil, 0, .nil, 0⟩ ⟨hs30.toSok, hs, Sok.nil, Sok.nil⟩ hg) (.cons rfl .nil) rfl (hro := Rdbs.app (Rdbs.sl (.own (by repeat (first | exact Has.here | apply Has.there)))) (Rdbs.app (Rdbs.sl (Reads.sl hro)) .nil)) (kk := fun ⟨p48, hm48, hw48⟩ => ?_)
      rw [hR]
      refine tl_p (pr_move rfl) rfl ?_
      refine tl_p (pr_extract rfl rfl) rfl ?_
      refine tl_p (pr_extract rfl rfl) rfl ?_
      refine tl_p (pr_extract rfl rfl) rfl ?_
      refine tl_p (pr_assign rfl) rfl ?_
      refine tl_p (pr_assign rfl) rfl ?_
      refine tl_p (pr_assign rfl) rfl ?_
      refine tl_next ?_
      refine tc_seq ?_
      refine tc_seq ?_
      refine tc_region ?_
      refine tl_p (pr_move rfl) rfl ?_
      refine tl_p (pr_eqlP Tryz.underlying34 rfl (.inr ⟨_, rfl⟩)) rfl ?_
      refine tl_next ?_
      refine tc_if_false rfl rfl ?_
      refine tc_skip (tq_next ?_)
      refine tc_seq ?_
      refine tc_region ?_
      refine tl_p (pr_move rfl) rfl ?_
      refine tl_p (pr_mulN rfl rfl (by omega)) rfl ?_
      refine tl_p (pr_addN rfl rfl (by omega)) rfl ?_
      refine tl_p (pr_move rfl) rfl ?_
      refine tl_p (Tryz.bl27_0_1_2_3_4_5 rfl rfl rfl rfl rfl rfl) rfl ?_
      refine tl_alloc Tryz.z27 rfl (fun b15 => ?_)
      refine tl_storeW Tryz.sz27 rfl rfl (k := ?_)
      refine tl_next ?_
      refine tc_seq ?_
      refine tc_region ?_
      refine tl_rdS (f22_ct ) (.nil) rfl (kk := ?_)
      refine tl_alloc Tryz.z27 rfl (fun b16 => ?_)
      refine tl_storeW Tryz.sz27 rfl rfl (k := ?_)
      refine tl_next ?_
      refine tc_seq ?_
      refine tc_region ?_
      refine tl_p (pr_move rfl) rfl ?_
      refine tl_p (pr_fieldAddr Tryz.fo27_5 rfl) rfl ?_
      refine tl_st Tryz.sz3 rfl rfl (k := ?_)
      refine tl_next ?_
      refine tc_seq ?_
      refine tc_draw Tryz.mixed [0, 1, 2] (by kernel_rfl) ?_
      refine td_q 0 62 (pm_of rfl rfl rfl (fun _ kq => tl_p (pr_move rfl) rfl kq)) rfl rfl rfl ?_
      refine td_q 1 63 (pm_of rfl rfl rfl (fun _ kq => tl_rdS (f15_ct p48.tb _ p48.rb p48.fb) (.cons rfl .nil) rfl (kk := kq))) rfl rfl rfl ?_
      refine td_q 2 64 (pm_of rfl rfl rfl (fun _ kq => tl_p (by first | exact pr_loadW Tryz.ag27 Tryz.sz27 rfl | exact pr_ldA Tryz.ag27 Tryz.sz27 rfl) rfl kq)) rfl rfl rfl ?_
      refine td_e1 3 (by kernel_rfl) ?_
      refine te rfl ?_
      refine tl_callS (f16_ct p48.rb [r0, r1, r2, r3, r4, r5, r6, r7] rfl 0 (calA k y)) (.cons rfl (.cons rfl (.cons rfl .nil))) rfl (kk := fun _ => ?_)
      rw [cal_r1 hk1 hy1]
      refine td_next (pd := []) (by kernel_rfl) (.nil) ?_
      refine td_done (by kernel_rfl) ?_
      refine tq_next ?_
      refine tc_seq ?_
      refine tc_draw Tryz.mixed [0, 1, 2] (by kernel_rfl) ?_
      refine td_q 0 66 (pm_of rfl rfl rfl (fun _ kq => tl_p (pr_move rfl) rfl kq)) rfl rfl rfl ?_
      refine td_q 1 67 (pm_of rfl rfl rfl (fun _ kq => tl_rdS (f15_ct p48.tb _ p48.rb p48.fb) (.cons rfl .nil) rfl (kk := kq))) rfl rfl rfl ?_
      refine td_q 2 68 (pm_of rfl rfl rfl (fun _ kq => tl_p (by first | exact pr_loadW Tryz.ag27 Tryz.sz27 rfl | exact pr_ldA Tryz.ag27 Tryz.sz27 rfl) rfl kq)) rfl rfl rfl ?_
      refine td_e1 3 (by kernel_rfl) ?_
      refine te rfl ?_
      refine tl_callS (f16_ct p48.rb [calA k y, r1, r2, r3, r4, r5, r6, r7] rfl 1 (calB y)) (.cons rfl (.cons rfl (.cons rfl .nil))) rfl (kk := fun _ => ?_)
      rw [cal_r2 hy1]
      refine td_next (pd := []) (by kernel_rfl) (.nil) ?_
      refine td_done (by kernel_rfl) ?_
      refine tq_next ?_
      refine tc_seq ?_
      refine tc_region ?_
      refine tl_p (pr_move rfl) rfl ?_
      refine tl_rdS (f15_ct p48.tb _ p48.rb p48.fb) (.cons rfl .nil) rfl (kk := ?_)
      refine tl_callS (f18_ct p48.rb [calA k y, calB y, r2, r3, r4, r5, r6, r7] rfl) (.cons rfl .nil) rfl (kk := fun ⟨s72, hs72⟩ => ?_)
      refine tl_p (pr_assign rfl) rfl ?_
      refine tl_next ?_
      refine tc_seq ?_
      refine tc_region ?_
      refine tl_p (pr_move rfl) rfl ?_
      refine tl_p (pr_move rfl) rfl ?_
      refine tl_p (pr_move rfl) rfl ?_
      refine tl_callS (stepE_ct p48 (cal_s1 (l := l) hk1 hy1 hr4) rfl hm48 (calM_n l) hw48 (calW_len l)) (.cons rfl (.cons rfl (.cons rfl .nil))) rfl (kk := fun _ => ?_)
      refine tl_alloc Tryz.z46 rfl (fun b18 => ?_)
      refine tl_storeW Tryz.sz46 rfl rfl (k := ?_)
      refine tl_next ?_
      refine tc_seq ?_
      refine tc_region ?_
      refine tl_p (pr_move rfl) rfl ?_
      refine tl_rdS (f15_ct p48.tb _ p48.rb p48.fb) (.cons rfl .nil) rfl (kk := ?_)
      refine tl_callS (f18_ct p48.rb [calA k y, calB y, r2, r3, nullC, nullC, nullC, calB 0] rfl) (.cons rfl .nil) rfl (kk := fun ⟨s79, hs79⟩ => ?_)
      refine tl_p (pr_assign rfl) rfl ?_
      refine tl_next ?_
      refine tc_seq ?_
      refine tc_region ?_
      refine tl_p (pr_fieldAddr Tryz.fo27_5 rfl) rfl ?_
      refine tl_st Tryz.sz3 rfl rfl (k := ?_)
      refine tl_next ?_
      refine tc_seq ?_
      refine tc_seq ?_
      refine tc_draw Tryz.mixed [0, 1, 2, 3, 4, 5, 6, 7, 8, 9, 10, 11, 12, 13, 14, 15, 16, 17, 18, 19, 20, 21, 22, 23, 24, 25, 26, 27, 28, 29, 30, 31, 32, 33, 34, 35, 36, 37, 38, 39, 40, 41, 42, 43, 44, 45] (by kernel_rfl) ?_
      refine td_q 0 81 (pm_of rfl rfl rfl (fun _ kq => tl_p (by first | exact pr_loadW Tryz.ag46 Tryz.sz46 rfl | exact pr_ldA Tryz.ag46 Tryz.sz46 rfl) rfl kq)) rfl rfl rfl ?_
      refine td_q 1 82 (pm_of rfl rfl rfl (fun _ kq => tl_p (Tryz.bl46_ ) rfl kq)) rfl rfl rfl ?_
      refine td_q 2 83 (pm_of rfl rfl rfl (fun _ kq => tl_p (pr_neqF Tryz.eqg46 Tryz.ff46 rfl rfl rfl) rfl kq)) rfl rfl rfl ?_
      refine td_q 3 84 (pm_of rfl rfl rfl (fun _ kq => tl_p (pr_move rfl) rfl kq)) rfl rfl rfl ?_
      refine td_q 4 85 (pm_of rfl rfl rfl (fun _ kq => tl_gf rfl rfl (fun h => pr_move rfl) (by intro _ h; cases h) rfl kq)) rfl rfl rfl ?_
      refine td_q 5 86 (pm_of rfl rfl rfl (fun _ kq => tl_rdgfS rfl rfl (fun h => ⟨f21_ct p48.tb (PC 376 (256 + 4 * (k : Int))) p48.rb p48.fb, .cons (gv rfl h) .nil⟩) rfl (kk := kq))) rfl rfl rfl ?_
      refine td_q 6 87 (pm_of rfl rfl rfl (fun _ kq => tl_gf rfl rfl (fun h => pr_move rfl) (by intro _ h; cases h) rfl kq)) rfl rfl rfl ?_
      refine td_q 7 88 (pm_of rfl rfl rfl (fun _ kq => tl_gf rfl rfl (fun h => pr_mulN (gv rfl h) (gv rfl h) (by omega)) (by intro _ h; cases h) rfl kq)) rfl rfl rfl ?_
      refine td_q 8 89 (pm_of rfl rfl rfl (fun _ kq => tl_gf rfl rfl (fun h => pr_addN rfl (gv rfl h) (by omega)) (by intro _ h; cases h) rfl kq)) rfl rfl rfl ?_
      refine td_q 9 90 (pm_of rfl rfl rfl (fun _ kq => tl_gf rfl rfl (fun h => Tryz.bl27_0_1_2_3_4 rfl rfl rfl (gv rfl h) rfl) (by intro _ h; cases h) rfl kq)) rfl rfl rfl ?_
      refine td_q 10 91 (pm_of rfl rfl rfl (fun _ kq => tl_gf rfl rfl (fun h => pr_neqF Tryz.eqg27 Tryz.ff27 (gv rfl h) (gv rfl h) (b := true) ((capEq (PC 376 (256 + 4 * (k : Int))) (PC 376 (256 + 4 * (k : Int)))).trans (by simp))) (by intro _ h; cases h) rfl kq)) rfl rfl rfl ?_
      refine td_q 11 92 (pm_of rfl rfl rfl (fun _ kq => tl_p (pr_or rfl rfl rfl) rfl kq)) rfl rfl rfl ?_
      refine td_q 12 93 (pm_of rfl rfl rfl (fun _ kq => tl_p (pr_move rfl) rfl kq)) rfl rfl rfl ?_
      refine td_q 13 94 (pm_of rfl rfl rfl (fun _ kq => tl_gf rfl rfl (fun h => pr_move rfl) (by intro _ h; cases h) rfl kq)) rfl rfl rfl ?_
      refine td_q 14 95 (pm_of rfl rfl rfl (fun _ kq => tl_gf rfl rfl (fun h => pr_ixE Tryz.sl24 (gv rfl h) (gv rfl h) (by omega) (by omega) hs79.toSok) (by intro _ h; cases h) rfl kq)) rfl rfl rfl ?_
      refine td_q 15 96 (pm_of rfl rfl rfl (fun _ kq => tl_gf rfl rfl (fun h => pr_ldEA Tryz.ag27 Tryz.sz27 (gv rfl h) (c := capsL [calA k y, calB y, r2, r3, nullC, nullC, nullC, calB 0]) (m := Cap.l (calB 0)) (fm_le cap_len [calA k y, calB y, r2, r3, nullC, nullC, nullC, calB 0] 7 (by simp)) (fm_cut cap_len [calA k y, calB y, r2, r3, nullC, nullC, nullC, calB 0] 7 rfl) (hs79.toSok.isM (by omega)) (.own (by repeat (first | exact Has.here | apply Has.there)))) (by intro _ h; cases h) rfl kq)) rfl rfl rfl ?_
      refine td_q 16 97 (pm_of rfl rfl rfl (fun _ kq => tl_gf rfl rfl (fun h => by first | exact pr_loadW Tryz.ag27 Tryz.sz27 rfl | exact pr_ldA Tryz.ag27 Tryz.sz27 rfl) (by intro _ h; cases h) rfl kq)) rfl rfl rfl ?_
      refine td_q 17 98 (pm_of rfl rfl rfl (fun _ kq => tl_gf rfl rfl (fun h => pr_neqF Tryz.eqg27 Tryz.ff27 (gv rfl h) (gv rfl h) (b := true) ((capEq (calB 0) (calB 0)).trans (by simp))) (by intro _ h; cases h) rfl kq)) rfl rfl rfl ?_
      refine td_q 18 99 (pm_of rfl rfl rfl (fun _ kq => tl_p (pr_or rfl rfl rfl) rfl kq)) rfl rfl rfl ?_
      refine td_q 19 100 (pm_of rfl rfl rfl (fun _ kq => tl_p (pr_move rfl) rfl kq)) rfl rfl rfl ?_
      refine td_q 20 101 (pm_of rfl rfl rfl (fun _ kq => tl_gf rfl rfl (fun h => pr_move rfl) (by intro _ h; cases h) rfl kq)) rfl rfl rfl ?_
      refine td_q 21 102 (pm_of rfl rfl rfl (fun _ kq => tl_gf rfl rfl (fun h => pr_ixE Tryz.sl24 (gv rfl h) (gv rfl h) (by omega) (by omega) hs79.toSok) (by intro _ h; cases h) rfl kq)) rfl rfl rfl ?_
      refine td_q 22 103 (pm_of rfl rfl rfl (fun _ kq => tl_gf rfl rfl (fun h => pr_ldEA Tryz.ag27 Tryz.sz27 (gv rfl h) (c := capsL [calA k y, calB y, r2, r3, nullC, nullC, nullC, calB 0]) (m := Cap.l nullC) (fm_le cap_len [calA k y, calB y, r2, r3, nullC, nullC, nullC, calB 0] 4 (by simp)) (fm_cut cap_len [calA k y, calB y, r2, r3, nullC, nullC, nullC, calB 0] 4 rfl) (hs79.toSok.isM (by omega)) (.own (by repeat (first | exact Has.here | apply Has.there)))) (by intro _ h; cases h) rfl kq)) rfl rfl rfl ?_
      refine td_q 23 104 (pm_of rfl rfl rfl (fun _ kq => tl_gf rfl rfl (fun h => Tryz.bl27_ ) (by intro _ h; cases h) rfl kq)) rfl rfl rfl ?_
      refine td_q 24 105 (pm_of rfl rfl rfl (fun _ kq => tl_gf rfl rfl (fun h => pr_neqF Tryz.eqg27 Tryz.ff27 (gv rfl h) (gv rfl h) (b := true) ((capEq nullC nullC).trans (by simp))) (by intro _ h; cases h) rfl kq)) rfl rfl rfl ?_
      refine td_q 25 106 (pm_of rfl rfl rfl (fun _ kq => tl_p (pr_or rfl rfl rfl) rfl kq)) rfl rfl rfl ?_
      refine td_q 26 107 (pm_of rfl rfl rfl (fun _ kq => tl_p (pr_move rfl) rfl kq)) rfl rfl rfl ?_
      refine td_q 27 108 (pm_of rfl rfl rfl (fun _ kq => tl_gf rfl rfl (fun h => pr_move rfl) (by intro _ h; cases h) rfl kq)) rfl rfl rfl ?_
      refine td_q 28 109 (pm_of rfl rfl rfl (fun _ kq => tl_gf rfl rfl (fun h => pr_ixE Tryz.sl24 (gv rfl h) (gv rfl h) (by omega) (by omega) hs79.toSok) (by intro _ h; cases h) rfl kq)) rfl rfl rfl ?_
      refine td_q 29 110 (pm_of rfl rfl rfl (fun _ kq => tl_gf rfl rfl (fun h => pr_ldEA Tryz.ag27 Tryz.sz27 (gv rfl h) (c := capsL [calA k y, calB y, r2, r3, nullC, nullC, nullC, calB 0]) (m := Cap.l nullC) (fm_le cap_len [calA k y, calB y, r2, r3, nullC, nullC, nullC, calB 0] 5 (by simp)) (fm_cut cap_len [calA k y, calB y, r2, r3, nullC, nullC, nullC, calB 0] 5 rfl) (hs79.toSok.isM (by omega)) (.own (by repeat (first | exact Has.here | apply Has.there)))) (by intro _ h; cases h) rfl kq)) rfl rfl rfl ?_
      refine td_q 30 111 (pm_of rfl rfl rfl (fun _ kq => tl_gf rfl rfl (fun h => Tryz.bl27_ ) (by intro _ h; cases h) rfl kq)) rfl rfl rfl ?_
      refine td_q 31 112 (pm_of rfl rfl rfl (fun _ kq => tl_gf rfl rfl (fun h => pr_neqF Tryz.eqg27 Tryz.ff27 (gv rfl h) (gv rfl h) (b := true) ((capEq nullC nullC).trans (by simp))) (by intro _ h; cases h) rfl kq)) rfl rfl rfl ?_
      refine td_q 32 113 (pm_of rfl rfl rfl (fun _ kq => tl_p (pr_or rfl rfl rfl) rfl kq)) rfl rfl rfl ?_
      refine td_q 33 114 (pm_of rfl rfl rfl (fun _ kq => tl_p (pr_move rfl) rfl kq)) rfl rfl rfl ?_
      refine td_q 34 115 (pm_of rfl rfl rfl (fun _ kq => tl_gf rfl rfl (fun h => pr_move rfl) (by intro _ h; cases h) rfl kq)) rfl rfl rfl ?_
      refine td_q 35 116 (pm_of rfl rfl rfl (fun _ kq => tl_gf rfl rfl (fun h => pr_ixE Tryz.sl24 (gv rfl h) (gv rfl h) (by omega) (by omega) hs79.toSok) (by intro _ h; cases h) rfl kq)) rfl rfl rfl ?_
      refine td_q 36 117 (pm_of rfl rfl rfl (fun _ kq => tl_gf rfl rfl (fun h => pr_ldEA Tryz.ag27 Tryz.sz27 (gv rfl h) (c := capsL [calA k y, calB y, r2, r3, nullC, nullC, nullC, calB 0]) (m := Cap.l nullC) (fm_le cap_len [calA k y, calB y, r2, r3, nullC, nullC, nullC, calB 0] 6 (by simp)) (fm_cut cap_len [calA k y, calB y, r2, r3, nullC, nullC, nullC, calB 0] 6 rfl) (hs79.toSok.isM (by omega)) (.own (by repeat (first | exact Has.here | apply Has.there)))) (by intro _ h; cases h) rfl kq)) rfl rfl rfl ?_
      refine td_q 37 118 (pm_of rfl rfl rfl (fun _ kq => tl_gf rfl rfl (fun h => Tryz.bl27_ ) (by intro _ h; cases h) rfl kq)) rfl rfl rfl ?_
      refine td_q 38 119 (pm_of rfl rfl rfl (fun _ kq => tl_gf rfl rfl (fun h => pr_neqF Tryz.eqg27 Tryz.ff27 (gv rfl h) (gv rfl h) (b := true) ((capEq nullC nullC).trans (by simp))) (by intro _ h; cases h) rfl kq)) rfl rfl rfl ?_
      refine td_q 39 120 (pm_of rfl rfl rfl (fun _ kq => tl_p (pr_or rfl rfl rfl) rfl kq)) rfl rfl rfl ?_
      refine td_q 40 121 (pm_of rfl rfl rfl (fun _ kq => tl_p (pr_move rfl) rfl kq)) rfl rfl rfl ?_
      refine td_q 41 122 (pm_of rfl rfl rfl (fun _ kq => tl_gf rfl rfl (fun h => pr_move rfl) (by intro _ h; cases h) rfl kq)) rfl rfl rfl ?_
      refine td_q 42 123 (pm_of rfl rfl rfl (fun _ kq => tl_rdgfS rfl rfl (fun h => ⟨f25_ct p48.tb _ p48.rb p48.fb, .cons (gv rfl h) .nil⟩) rfl (kk := kq))) rfl rfl rfl ?_
      refine td_q 43 124 (pm_of rfl rfl rfl (fun _ kq => tl_rdgfS rfl rfl (fun h => ⟨f26_ct p48.fb [calF r4 r5 r6 r7], .cons (gv rfl h) .nil⟩) rfl (kk := kq))) rfl rfl rfl ?_
      refine td_q 44 125 (pm_of rfl rfl rfl (fun _ kq => tl_gf rfl rfl (fun h => pr_neq (gv rfl h) rfl) (by intro _ h; cases h) rfl kq)) rfl rfl rfl ?_
      refine td_q 45 126 (pm_of rfl rfl rfl (fun _ kq => tl_p (pr_or rfl rfl rfl) rfl kq)) rfl rfl rfl ?_
      refine td_done (by kernel_rfl) ?_
      refine tq_next ?_
      refine tc_if_false rfl (rfl) ?_
      refine tc_skip (tq_next ?_)
      refine tc_seq ?_
      refine tc_region ?_
      refine tl_p (pr_move rfl) rfl ?_
      refine tl_p (pr_move rfl) rfl ?_
      refine tl_p (pr_move rfl) rfl ?_
      refine tl_callS (stepE_ct p48 (cal_s2 (l := l) hk1 hy1 hr4 h23) rfl hm48 (calM_n l) hw48 (calW_len l)) (.cons rfl (.cons rfl (.cons rfl .nil))) rfl (kk := fun _ => ?_)
      refine tl_alloc Tryz.z46 rfl (fun b20 => ?_)
      refine tl_storeW Tryz.sz46 rfl rfl (k := ?_)
      refine tl_next ?_
      refine tc_seq ?_
      refine tc_region ?_
      refine tl_p (pr_move rfl) rfl ?_
      refine tl_p (pr_move rfl) rfl ?_
      refine tl_on rfl rfl rfl ?_
      refine tl_p (by first | exact pr_loadW Tryz.ag46 Tryz.sz46 rfl | exact pr_ldA Tryz.ag46 Tryz.sz46 rfl) rfl ?_
      refine tl_on rfl rfl rfl ?_
      refine tl_p (Tryz.bl46_ ) rfl ?_
      refine tl_on rfl rfl rfl ?_
      refine tl_p (pr_eqlF Tryz.eqg46 Tryz.ff46 rfl rfl rfl) rfl ?_
      refine tl_p (pr_pickT rfl rfl) rfl ?_
      refine tl_p (pr_move rfl) rfl ?_
      refine tl_on rfl rfl rfl ?_
      refine tl_p (pr_move rfl) rfl ?_
      refine tl_on rfl rfl rfl ?_
      refine tl_rdS (f15_ct p48.tb _ p48.rb p48.fb) (.cons rfl .nil) rfl (kk := ?_)
      refine tl_on rfl rfl rfl ?_
      refine tl_callS (f18_ct p48.rb [calA k y, calB y, r2, r3, r4, r5, r6, r7] rfl) (.cons rfl .nil) rfl (kk := fun ⟨s140, hs140⟩ => ?_)
      refine tl_on rfl rfl rfl ?_
      refine tl_p (pr_move rfl) rfl ?_
      refine tl_on rfl rfl rfl ?_
      refine tl_rdS (Rd.val (v' := .bool true) (f27_ct s140 s72 8 8 [calA k y, calB y, r2, r3, r4, r5, r6, r7] [calA k y, calB y, r2, r3, r4, r5, r6, r7] hs140.toSok hs72.toSok) (by simp)) (.cons rfl (.cons rfl .nil)) rfl (kk := ?_)
      refine tl_p (pr_pickT rfl rfl) rfl ?_
      refine tl_p (pr_move rfl) rfl ?_
      refine tl_on rfl rfl rfl ?_
      refine tl_p (pr_move rfl) rfl ?_
      refine tl_on rfl rfl rfl ?_
      refine tl_rdS (f21_ct p48.tb _ p48.rb p48.fb) (.cons rfl .nil) rfl (kk := ?_)
      refine tl_on rfl rfl rfl ?_
      refine tl_p (pr_field Tryz.fo27_3 rfl rfl) rfl ?_
      refine tl_on rfl rfl rfl ?_
      refine tl_p (pr_eql rfl rfl) rfl ?_
      refine tl_p (pr_pickT rfl rfl) rfl ?_
      refine tl_p (pr_move rfl) rfl ?_
      refine tl_on rfl rfl rfl ?_
      refine tl_p (pr_move rfl) rfl ?_
      refine tl_on rfl rfl rfl ?_
      refine tl_rdS (f25_ct p48.tb _ p48.rb p48.fb) (.cons rfl .nil) rfl (kk := ?_)
      refine tl_on rfl rfl rfl ?_
      refine tl_rdS (f26_ct p48.fb []) (.cons rfl .nil) rfl (kk := ?_)
      refine tl_on rfl rfl rfl ?_
      refine tl_p (pr_eql rfl rfl) rfl ?_
      refine tl_p (pr_pickT rfl rfl) rfl ?_
      refine tl_p (pr_assign rfl) rfl ?_
      refine tl_next ?_
      refine tc_ret ?_
      exact tq_ret1 .ret (.inl rfl) () rfl rfl

end Go.Proofs

namespace Go.Proofs
open Go Go.Sz
attribute [local irreducible] pt lift exs own emp

/-! what a step that does not go on leaves -/
theorem within_no {b : Bool} (h : ¬ within b = 0) : b = false := by cases b; rfl; exact absurd rfl h
theorem ex_same {x : Ins} {nx pos : Cap} {regs : List Cap} {fs : List Fr} {m : MemM} {W : List Int} {g : Nat} (h : ¬ exE x nx pos regs fs m = 0) : exR x nx pos regs fs m W g = regs ∧ exF x nx regs fs = fs ∧ exM x regs m = m := by
  unfold exE at h
  by_cases h9 : x.op = 9
  · unfold exR exF exM; simp [h9]
  rw [if_neg h9] at h
  by_cases h10 : x.op = 10
  · unfold exR exF exM; simp [h10]
  rw [if_neg h10] at h
  by_cases hl : x.op = 11 ∨ x.op = 13
  · rw [if_pos hl] at h
    have e : ldR regs x m = regs := by
      unfold ldE at h; unfold ldR
      by_cases c : (ldP regs x).2 = 0
      · rw [if_pos c] at h ⊢; unfold setE; rw [if_neg h]
      · rw [if_neg c]
    unfold exR exF exM
    rw [if_neg (by omega), if_pos hl, if_neg (by omega), if_neg (by omega), if_neg (by omega), if_neg (by omega)]
    exact ⟨e, rfl, rfl⟩
  rw [if_neg hl] at h
  by_cases hs : x.op = 12 ∨ x.op = 14
  · rw [if_pos hs] at h
    have e : stM regs x m = m := by
      unfold stE at h; unfold stM
      by_cases c : (stP regs x).2 = 0
      · rw [if_pos c] at h ⊢; unfold memSto; rw [within_no h]; rfl
      · rw [if_neg c]
    unfold exR exF exM
    rw [if_neg (by omega), if_neg (by omega), if_pos (by omega), if_neg (by omega), if_neg (by omega), if_pos hs]
    exact ⟨rfl, rfl, e⟩
  rw [if_neg hs] at h
  by_cases h15 : x.op = 15
  · rw [if_pos h15] at h
    have e : lcR regs x m W g = regs := by
      unfold lcE at h; unfold lcR
      by_cases c : (lcP regs x).2 = 0
      · rw [if_pos c] at h ⊢; unfold setE; rw [if_neg h]
      · rw [if_neg c]
    unfold exR exF exM
    rw [if_neg (by omega), if_neg (by omega), if_neg (by omega), if_pos h15, if_neg (by omega), if_neg (by omega), if_neg (by omega), if_neg (by omega)]
    exact ⟨e, rfl, rfl⟩
  rw [if_neg h15] at h
  by_cases h16 : x.op = 16
  · rw [if_pos h16] at h
    have e : scM regs x m = m := by
      unfold scE at h; unfold scM
      by_cases c : (scP regs x).2 = 0
      · rw [if_pos c] at h ⊢; unfold memPutC; rw [within_no h]; rfl
      · rw [if_neg c]
    unfold exR exF exM
    rw [if_neg (by omega), if_neg (by omega), if_pos (by omega), if_neg (by omega), if_neg (by omega), if_neg (by omega), if_pos h16]
    exact ⟨rfl, rfl, e⟩
  rw [if_neg h16] at h
  by_cases hd : 17 ≤ x.op ∧ x.op ≤ 22
  · rw [if_pos hd] at h
    unfold exR exF exM
    rw [if_neg (by omega), if_neg (by omega), if_neg (by omega), if_neg (by omega), if_pos hd, if_neg (by omega), if_neg (by omega), if_neg (by omega), if_neg (by omega)]
    exact ⟨by unfold setE; rw [if_neg h], rfl, rfl⟩
  rw [if_neg hd] at h
  by_cases h23 : x.op = 23
  · rw [if_pos h23] at h
    have e : caO regs x fs nx = false := by unfold caO; simp [h]
    unfold exR exF exM
    rw [if_neg (by omega), if_neg (by omega), if_neg (by omega), if_neg (by omega), if_neg (by omega), if_pos h23, if_pos h23, if_neg (by omega), if_neg (by omega)]
    unfold caR caF; rw [e]; exact ⟨rfl, rfl, rfl⟩
  rw [if_neg h23] at h
  by_cases h24 : x.op = 24
  · rw [if_pos h24] at h
    have e : fs.isEmpty = true := by
      cases c : fs.isEmpty
      · unfold reE at h; rw [c] at h; exact absurd rfl h
      · rfl
    unfold exR exF exM
    rw [if_neg (by omega), if_neg (by omega), if_neg (by omega), if_neg (by omega), if_neg (by omega), if_neg (by omega), if_pos h24, if_neg (by omega), if_pos h24, if_neg (by omega), if_neg (by omega)]
    refine ⟨by unfold reR; rw [if_pos e], ?_, rfl⟩
    cases fs with
    | nil => rfl
    | cons => cases e
  rw [if_neg h24] at h
  exact absurd rfl h
structure Stays (i : Stp) (pos : Cap) (regs : List Cap) (fs : List Fr) (m : MemM) : Prop where
  pos : i.pos = pos
  regs : i.regs = regs
  fs : i.fs = fs
  m : i.m = m
  n : i.did.2.1 = 0
  e : i.did.2.2 = 0 ↔ i.did.1 = 1
theorem step_stays {pos : Cap} {regs : List Cap} {fs : List Fr} {m : MemM} {W : List Int} {g : Nat} (h : (stepF pos regs fs m W g).did.1 = 2 ∨ (stepF pos regs fs m W g).did.1 = 1) : Stays (stepF pos regs fs m W g) pos regs fs m := by
  unfold stepF at h ⊢
  repeat' split at h
  · rename_i c; rw [if_pos c]; exact ⟨rfl, rfl, rfl, rfl, rfl, by simp only; simp; exact c⟩
  · rename_i c c2; rw [if_neg c, if_pos c2]; exact ⟨rfl, rfl, rfl, rfl, rfl, by simp⟩
  · simp at h
  · simp at h
  · rename_i c c2 c3 c4 c5; rw [if_neg c, if_neg c2, if_neg c3, if_pos c4, if_neg c5]; exact ⟨rfl, rfl, rfl, rfl, rfl, by simp only; simp; exact c5⟩
  · simp at h
  · rename_i c c2 c3 c4 c5; rw [if_neg c, if_neg c2, if_neg c3, if_neg c4, if_neg c5]
    obtain ⟨e1, e2, e3⟩ := ex_same (W := W) (g := g) c5
    exact ⟨rfl, e1, e2, e3, rfl, by simp only; simp; exact c5⟩
/-! where capabilities stand -/
def tagsJ (m : MemM) (j : Nat) : List Int := ((List.range j).filter m.T).map fun (i : Nat) => 16 * (i : Int)
def tagsL (m : MemM) : List Int := tagsJ m (16 * m.n)
theorem tagsJ_succ (m : MemM) (j : Nat) : tagsJ m (j + 1) = if m.T j then tagsJ m j ++ [16 * (j : Int)] else tagsJ m j := by
  unfold tagsJ
  rw [List.range_succ, List.filter_append, List.map_append]
  cases h : m.T j <;> simp [h]
theorem tagsJ_le (m : MemM) (j : Nat) : (tagsJ m j).length ≤ j := by
  unfold tagsJ
  rw [List.length_map]
  exact Nat.le_trans (List.length_filter_le _ _) (Nat.le_of_eq List.length_range)
theorem memTag16 {m : MemM} {j : Nat} (h : j < 16 * m.n) : memTag m (16 * (j : Int)) = m.T j := by
  unfold memTag
  rw [gran_iff.2 (by omega), show (16 * (j : Int) / 16).toNat = j from by omega]; rfl
theorem ints_app (l m : List Int) : ints (l ++ m) = ints l ++ ints m := List.map_append

theorem f31_ct (mb : Nat) (s : Shp) (m : MemM) (hm : MOk s m) : Ct Tryz.prog 31 #[ad mb 0] ([(mb, memO s m.n)] ++ ra s m.l) [] (X := {s : Shp // Sow 1 s (tagsL m).length (ints (tagsL m))}) (fun x => sv x.1 (tagsL m).length) (fun x N => sl x.1 (ints (tagsL m)) :: N) := by
  refine ct_intro Tryz.func31 rfl (by kernel_rfl) (n := 19) rfl rfl (E := [(0, ad mb 0)]) rfl ?_
  intro κ hro
  obtain ⟨hr1, hr2⟩ := Reads.app hro
  have hq : κ.frame mb = some (memO s m.n) := hr1 _ (List.Mem.head _)
  have hs := hm.own
  have ms := hm.mem
  have hl := hm.lim
  have hrm : ∀ L, RdS L κ s m.l := fun L => Reads.sl hr2
  refine tc_seq ?_
  refine tc_region ?_
  refine tl_p (pr_assign rfl) rfl ?_
  refine tl_next ?_
  refine tc_seq ?_
  refine tc_region ?_
  refine tl_p (pr_assign rfl) rfl ?_
  refine tl_next ?_
  refine tc_seq ?_
  refine tc_seq ?_
  refine tc_region ?_
  refine tl_p (pr_assign rfl) rfl ?_
  refine tl_next ?_
  refine tc_block ?_
  refine tc_imp (fun w s => nil_mk (c := ints (tagsJ m 0)) s) ?_
  refine tc_loopP (X := Nat × Shp) (fun j => j.1 ≤ 16 * m.n ∧ Sow 1 j.2 (tagsJ m j.1).length (ints (tagsJ m j.1))) (fun j => [(0, ad mb 0), (4, .int .i64 (16 * (j.1 : Int))), (3, sv j.2 (tagsJ m j.1).length)]) (fun j => [sl j.2 (ints (tagsJ m j.1))]) (fun j => 16 * m.n - j.1) (0, .nil) ⟨by omega, Sow.nil⟩ (.cons rfl (.cons rfl (.cons rfl .nil))) (fun j hj => ?_)
  have hj1 := hj.1
  have hj2 := hj.2
  refine tc_seq ?_
  refine tc_seq ?_
  refine tc_region ?_
  refine tl_p (pr_move rfl) rfl ?_
  refine tl_p (pr_move rfl) rfl ?_
  refine tl_rdS (f75_ct _ _ _ hm) (.cons rfl .nil) rfl (kk := ?_)
  refine tl_p (pr_lss rfl rfl) rfl ?_
  refine tl_next ?_
  refine tc_if rfl (fun hc1 => ?_) (fun hc1 => ?_)
  · have hd1 := hc1
    try simp only [Bool.not_eq_true', Bool.not_eq_false', Bool.or_eq_true, Bool.and_eq_true, Bool.or_eq_false_iff, Bool.and_eq_false_iff, decide_eq_true_eq, decide_eq_false_iff_not, Bool.not_true, Bool.not_false, gval, Bool.not_eq_eq_eq_not] at hc1
    refine tc_skip (tq_next ?_)
    refine tc_seq ?_
    refine tc_block ?_
    refine tc_seq ?_
    refine tc_region ?_
    refine tl_p (pr_move rfl) rfl ?_
    refine tl_p (pr_move rfl) rfl ?_
    refine tl_rdS (f48_ct mb s m hm (16 * (j.1 : Int)) (by omega)) (.cons rfl (.cons rfl .nil)) rfl (kk := ?_)
    refine tl_next ?_
    refine tc_if rfl (fun hc2 => ?_) (fun hc2 => ?_)
    · have hd2 := hc2
      try simp only [Bool.not_eq_true', Bool.not_eq_false', Bool.or_eq_true, Bool.and_eq_true, Bool.or_eq_false_iff, Bool.and_eq_false_iff, decide_eq_true_eq, decide_eq_false_iff_not, Bool.not_true, Bool.not_false, gval, Bool.not_eq_eq_eq_not] at hc2
      refine tc_region ?_
      refine tl_p (pr_move rfl) rfl ?_
      refine tl_p (pr_move rfl) rfl ?_
      refine tl_buildS Tryz.sf25 Tryz.z3 rfl (.cons rfl .nil) rfl rfl (c := ints [16 * (j.1 : Int)]) rfl rfl rfl (kk := fun s16 hs16 ms16 => ?_)
      refine tl_append Tryz.sf25 Tryz.z3 rfl rfl rfl hj2 (Sow.toSok hs16) ints_ok (by have := tagsJ_le m j.1; omega) rfl (kk := fun s17 hs17 => ?_)
      refine tl_p (pr_assign rfl) rfl ?_
      refine tl_nil (tq_blk_normal (tq_next ?_))
      refine tc_region ?_
      refine tl_p (pr_move rfl) rfl ?_
      refine tl_p (pr_addN rfl rfl (by omega)) rfl ?_
      refine tl_p (pr_assign rfl) rfl ?_
      refine tl_nil ?_
      first
        | (have et : tagsJ m (j.1 + 1) = tagsJ m j.1 ++ [16 * (j.1 : Int)] := by rw [tagsJ_succ, if_pos (by rw [← memTag16 (by omega)]; assumption)]
           rw [show ints (tagsJ m j.1) ++ ints [16 * (j.1 : Int)] = ints (tagsJ m (j.1 + 1)) from by rw [et, ints_app]]
           exact tq_roundP (j.1 + 1, s17) ⟨by omega, by rw [et, List.length_append, ints_app]; exact hs17⟩ (by show 16 * m.n - (j.1 + 1) < _; omega) (.cons rfl (.cons (by rw [show (16 * ((j.1 + 1 : Nat) : Int)) = 16 * (j.1 : Int) + 16 from by omega]; rfl) (.cons (by rw [et, List.length_append]; rfl) .nil))))
        | (have ef : tagsJ m (j.1 + 1) = tagsJ m j.1 := by rw [tagsJ_succ, if_neg (by rw [← memTag16 (by omega)]; simp only [Bool.not_eq_true]; assumption)]
           refine tq_imp (L' := sl j.2 (ints (tagsJ m (j.1 + 1))) :: _) (fun w s => by rw [ef]; exact s) ?_
           exact tq_roundP (j.1 + 1, j.2) ⟨by omega, by rw [ef]; exact hj2⟩ (by show 16 * m.n - (j.1 + 1) < _; omega) (.cons rfl (.cons (by rw [show (16 * ((j.1 + 1 : Nat) : Int)) = 16 * (j.1 : Int) + 16 from by omega]; rfl) (.cons (by rw [ef]; rfl) .nil))))
    · have hd2 := hc2
      try simp only [Bool.not_eq_true', Bool.not_eq_false', Bool.or_eq_true, Bool.and_eq_true, Bool.or_eq_false_iff, Bool.and_eq_false_iff, decide_eq_true_eq, decide_eq_false_iff_not, Bool.not_true, Bool.not_false, gval, Bool.not_eq_eq_eq_not] at hc2
      refine tc_skip (tq_blk_normal (tq_next ?_))
      refine tc_region ?_
      refine tl_p (pr_move rfl) rfl ?_
      refine tl_p (pr_addN rfl rfl (by omega)) rfl ?_
      refine tl_p (pr_assign rfl) rfl ?_
      refine tl_nil ?_
      first
        | (have et : tagsJ m (j.1 + 1) = tagsJ m j.1 ++ [16 * (j.1 : Int)] := by rw [tagsJ_succ, if_pos (by rw [← memTag16 (by omega)]; assumption)]
           rw [show ints (tagsJ m j.1) ++ ints [16 * (j.1 : Int)] = ints (tagsJ m (j.1 + 1)) from by rw [et, ints_app]]
           exact tq_roundP (j.1 + 1, s17) ⟨by omega, by rw [et, List.length_append, ints_app]; exact hs17⟩ (by show 16 * m.n - (j.1 + 1) < _; omega) (.cons rfl (.cons (by rw [show (16 * ((j.1 + 1 : Nat) : Int)) = 16 * (j.1 : Int) + 16 from by omega]; rfl) (.cons (by rw [et, List.length_append]; rfl) .nil))))
        | (have ef : tagsJ m (j.1 + 1) = tagsJ m j.1 := by rw [tagsJ_succ, if_neg (by rw [← memTag16 (by omega)]; simp only [Bool.not_eq_true]; assumption)]
           refine tq_imp (L' := sl j.2 (ints (tagsJ m (j.1 + 1))) :: _) (fun w s => by rw [ef]; exact s) ?_
           exact tq_roundP (j.1 + 1, j.2) ⟨by omega, by rw [ef]; exact hj2⟩ (by show 16 * m.n - (j.1 + 1) < _; omega) (.cons rfl (.cons (by rw [show (16 * ((j.1 + 1 : Nat) : Int)) = 16 * (j.1 : Int) + 16 from by omega]; rfl) (.cons (by rw [ef]; rfl) .nil))))
  · have hd1 := hc1
    try simp only [Bool.not_eq_true', Bool.not_eq_false', Bool.or_eq_true, Bool.and_eq_true, Bool.or_eq_false_iff, Bool.and_eq_false_iff, decide_eq_true_eq, decide_eq_false_iff_not, Bool.not_true, Bool.not_false, gval, Bool.not_eq_eq_eq_not] at hc1
    refine tc_exit (tq_then_exit (tq_then_exit (tq_blk_here ?_)))
    refine tq_next ?_
    refine tc_seq ?_
    refine tc_region ?_
    refine tl_p (pr_move rfl) rfl ?_
    refine tl_p (pr_assign rfl) rfl ?_
    refine tl_next ?_
    refine tc_ret ?_
    have e : j.1 = 16 * m.n := by omega
    rw [e] at hj2
    rw [e]
    exact tq_ret1 .ret (.inl rfl) ⟨j.2, hj2⟩ rfl rfl

end Go.Proofs

namespace Go.Proofs
open Go Go.Sz
attribute [local irreducible] pt lift exs own emp
theorem Tryz.fo46_1 : fOff Tryz.prog 46 1 = some (1, 1, false) := by kernel_rfl
theorem Tryz.fo46_2 : fOff Tryz.prog 46 2 = some (2, 1, false) := by kernel_rfl
theorem f32_ct (s1 s2 : Shp) (n1 n2 : Nat) (l1 l2 : List Int) (hs1 : Sok 1 s1 n1 (ints l1)) (hs2 : Sok 1 s2 n2 (ints l2)) : Rd Tryz.prog 32 #[sv s1 n1, sv s2 n2] (ra s1 (ints l1) ++ ra s2 (ints l2)) [] (.bool (decide (l1 = l2))) := by
  refine ct_intro Tryz.func32 rfl (by kernel_rfl) (n := 26) rfl rfl (E := [(0, sv s1 n1), (1, sv s2 n2)]) rfl ?_
  intro κ hro
  have hn1 : l1.length = n1 := by have := hs1.len; simp at this; omega
  have hn2 : l2.length = n2 := by have := hs2.len; simp at this; omega
  have hb1 := hs1.bnd
  have hrd1 : ∀ L, RdS L κ s1 (ints l1) := fun L => Reads.sl (Reads.app hro).1
  have hrd2 : ∀ L, RdS L κ s2 (ints l2) := fun L => Reads.sl (Reads.app hro).2
  refine tc_seq ?_
  refine tc_region ?_
  refine tl_p (pr_assign rfl) rfl ?_
  refine tl_next ?_
  refine tc_seq ?_
  refine tc_seq ?_
  refine tc_region ?_
  refine tl_p (pr_move rfl) rfl ?_
  refine tl_p (pr_lenS Tryz.sf25 rfl hs1) rfl ?_
  refine tl_p (pr_move rfl) rfl ?_
  refine tl_p (pr_lenS Tryz.sf25 rfl hs2) rfl ?_
  refine tl_p (pr_neq rfl rfl) rfl ?_
  refine tl_next ?_
  refine tc_if rfl (fun hc1 => ?_) (fun hc1 => ?_)
  · have hd1 := hc1
    try simp only [Bool.not_eq_true', Bool.not_eq_false', Bool.or_eq_true, Bool.and_eq_true, Bool.or_eq_false_iff, Bool.and_eq_false_iff, decide_eq_true_eq, decide_eq_false_iff_not, Bool.not_true, Bool.not_false, gval, Bool.not_eq_eq_eq_not] at hc1
    refine tc_seq ?_
    refine tc_region ?_
    refine tl_p (pr_assign rfl) rfl ?_
    refine tl_next ?_
    refine tc_ret (tq_then_ret ?_)
    exact tq_ret1 .ret (.inl rfl) () rfl (by rw [show decide (l1 = l2) = false from decide_eq_false (fun e => by subst e; omega)]; rfl)
  · have hd1 := hc1
    try simp only [Bool.not_eq_true', Bool.not_eq_false', Bool.or_eq_true, Bool.and_eq_true, Bool.or_eq_false_iff, Bool.and_eq_false_iff, decide_eq_true_eq, decide_eq_false_iff_not, Bool.not_true, Bool.not_false, gval, Bool.not_eq_eq_eq_not] at hc1
    have hnn : n1 = n2 := by omega
    refine tc_skip (tq_next ?_)
    refine tc_seq ?_
    refine tc_seq ?_
    refine tc_region ?_
    refine tl_p (pr_assign rfl) rfl ?_
    refine tl_next ?_
    refine tc_block ?_
    refine tc_loopP (X := Nat) (fun j => j ≤ n1 ∧ l1.take j = l2.take j) (fun j => [(0, sv s1 n1), (1, sv s2 n2), (5, .int .i64 (j : Int))]) (fun j => []) (fun j => n1 - j) 0 ⟨by omega, rfl⟩ (.cons rfl (.cons rfl (.cons rfl .nil))) (fun j hj => ?_)
    have hj1 := hj.1
    have hj2 := hj.2
    refine tc_seq ?_
    refine tc_seq ?_
    refine tc_region ?_
    refine tl_p (pr_move rfl) rfl ?_
    refine tl_p (pr_move rfl) rfl ?_
    refine tl_p (pr_lenS Tryz.sf25 rfl hs1) rfl ?_
    refine tl_p (pr_lss rfl rfl) rfl ?_
    refine tl_next ?_
    refine tc_if rfl (fun hc2 => ?_) (fun hc2 => ?_)
    · have hd2 := hc2
      try simp only [Bool.not_eq_true', Bool.not_eq_false', Bool.or_eq_true, Bool.and_eq_true, Bool.or_eq_false_iff, Bool.and_eq_false_iff, decide_eq_true_eq, decide_eq_false_iff_not, Bool.not_true, Bool.not_false, gval, Bool.not_eq_eq_eq_not] at hc2
      refine tc_skip (tq_next ?_)
      refine tc_seq ?_
      refine tc_block ?_
      refine tc_seq ?_
      refine tc_draw Tryz.mixed [0, 1, 2, 3, 4, 5, 6, 7, 8] (by kernel_rfl) ?_
      refine td_q 0 17 (pm_of rfl rfl rfl (fun _ kq => tl_p (pr_move rfl) rfl kq)) rfl rfl rfl ?_
      refine td_q 1 18 (pm_of rfl rfl rfl (fun _ kq => tl_p (pr_move rfl) rfl kq)) rfl rfl rfl ?_
      refine td_q 2 19 (pm_of rfl rfl rfl (fun _ kq => tl_p (pr_ixE Tryz.sl25 rfl rfl (by omega) (by omega) hs1) rfl kq)) rfl rfl rfl ?_
      refine td_q 3 20 (pm_of rfl rfl rfl (fun _ kq => tl_p (pr_ldE Tryz.ag3 rfl (c := ints l1) (v := .int .i64 (l1[j]'(by omega))) (map_at (by omega)) (hs1.isM (by omega)) (hrd1 _)) rfl kq)) rfl rfl rfl ?_
      refine td_q 4 21 (pm_of rfl rfl rfl (fun _ kq => tl_p (pr_move rfl) rfl kq)) rfl rfl rfl ?_
      refine td_q 5 22 (pm_of rfl rfl rfl (fun _ kq => tl_p (pr_move rfl) rfl kq)) rfl rfl rfl ?_
      refine td_q 6 23 (pm_of rfl rfl rfl (fun _ kq => tl_p (pr_ixE Tryz.sl25 rfl rfl (by omega) (by omega) hs2) rfl kq)) rfl rfl rfl ?_
      refine td_q 7 24 (pm_of rfl rfl rfl (fun _ kq => tl_p (pr_ldE Tryz.ag3 rfl (c := ints l2) (v := .int .i64 (l2[j]'(by omega))) (map_at (by omega)) (hs2.isM (by omega)) (hrd2 _)) rfl kq)) rfl rfl rfl ?_
      refine td_q 8 25 (pm_of rfl rfl rfl (fun _ kq => tl_p (pr_neq rfl rfl) rfl kq)) rfl rfl rfl ?_
      refine td_done (by kernel_rfl) ?_
      refine tq_next ?_
      refine tc_if rfl (fun hc3 => ?_) (fun hc3 => ?_)
      · have hd3 := hc3
        try simp only [Bool.not_eq_true', Bool.not_eq_false', Bool.or_eq_true, Bool.and_eq_true, Bool.or_eq_false_iff, Bool.and_eq_false_iff, decide_eq_true_eq, decide_eq_false_iff_not, Bool.not_true, Bool.not_false, gval, Bool.not_eq_eq_eq_not] at hc3
        refine tc_seq ?_
        refine tc_region ?_
        refine tl_p (pr_assign rfl) rfl ?_
        refine tl_next ?_
        refine tc_ret (tq_blk_ret (tq_then_ret (tq_then_ret (tq_blk_ret (tq_then_ret ?_)))))
        exact tq_ret1 .ret (.inl rfl) () rfl (by rw [show decide (l1 = l2) = false from decide_eq_false (fun e => by subst e; simp at hd3)]; rfl)
      · have hd3 := hc3
        try simp only [Bool.not_eq_true', Bool.not_eq_false', Bool.or_eq_true, Bool.and_eq_true, Bool.or_eq_false_iff, Bool.and_eq_false_iff, decide_eq_true_eq, decide_eq_false_iff_not, Bool.not_true, Bool.not_false, gval, Bool.not_eq_eq_eq_not] at hc3
        refine tc_skip (tq_blk_normal (tq_next ?_))
        refine tc_region ?_
        refine tl_p (pr_move rfl) rfl ?_
        refine tl_p (pr_addN rfl rfl (by omega)) rfl ?_
        refine tl_p (pr_assign rfl) rfl ?_
        refine tl_nil ?_
        exact tq_roundP (j + 1) ⟨by omega, take_ext (by omega) (by omega) hj2 (by simpa using hd3)⟩ (by omega) (.cons rfl (.cons rfl (.cons rfl .nil)))
    · have hd2 := hc2
      try simp only [Bool.not_eq_true', Bool.not_eq_false', Bool.or_eq_true, Bool.and_eq_true, Bool.or_eq_false_iff, Bool.and_eq_false_iff, decide_eq_true_eq, decide_eq_false_iff_not, Bool.not_true, Bool.not_false, gval, Bool.not_eq_eq_eq_not] at hc2
      refine tc_exit (tq_then_exit (tq_then_exit (tq_blk_here ?_)))
      refine tq_next ?_
      refine tc_seq ?_
      refine tc_region ?_
      refine tl_p (pr_assign rfl) rfl ?_
      refine tl_next ?_
      refine tc_ret ?_
      exact tq_ret1 .ret (.inl rfl) () rfl (by have e : j = n1 := (by omega); have := hj2; rw [e, List.take_of_length_le (by omega), List.take_of_length_le (by omega)] at this; rw [show decide (l1 = l2) = true from decide_eq_true this]; rfl)

abbrev madeS (x : CaseM) : Stp := ⟨(0, 0, 0), posC x, madeR x, [], madeM x⟩
theorem mod_u8 {a k : Int} (h : 0 ≤ a) : a.tmod k = a % k := Int.tmod_eq_emod_of_nonneg h

theorem f8_ct (q : CaseS) (x : CaseM) (a1 : Int) (hq : CaseOk q x) (h1 : 0 ≤ a1 ∧ a1 ≤ 255) : Ct Tryz.prog 8 #[caseV q x, .int .u8 a1] (caseRo q x) [] (fun _ : Unit => .bool true) (fun _ N => N) := by
  refine ct_intro Tryz.func8 rfl (by kernel_rfl) (n := 106) rfl rfl (E := [(0, caseV q x), (1, .int .u8 a1)]) rfl ?_
  intro κ hro
  refine tc_seq ?_
  refine tc_region ?_
  refine tl_box rfl rfl (fun b2 => ?_)
  refine tl_p (pr_assign rfl) rfl ?_
  refine tl_next ?_
  refine tc_seq ?_
  refine tc_region ?_
  refine tl_callS (f12_ct) (.nil) rfl (kk := fun _ => ?_)
  refine tl_p (pr_assign rfl) rfl ?_
  refine tl_next ?_
  refine tc_seq ?_
  refine tc_seq ?_
  refine tc_region ?_
  refine tl_p (by first | exact pr_loadW Tryz.ag29 Tryz.sz29 rfl | exact pr_ldA Tryz.ag29 Tryz.sz29 rfl) rfl ?_
  refine tl_rdS (f13_ct q x hq) (.cons rfl .nil) rfl (kk := ?_)
  refine tl_next ?_
  refine tc_if rfl (fun hc1 => ?_) (fun hc1 => ?_)
  · have hd1 := hc1
    try simp only [Bool.not_eq_true', Bool.not_eq_false', Bool.or_eq_true, Bool.and_eq_true, Bool.or_eq_false_iff, Bool.and_eq_false_iff, decide_eq_true_eq, decide_eq_false_iff_not, Bool.not_true, Bool.not_false, gval, Bool.not_eq_eq_eq_not] at hc1
    refine tc_seq ?_
    refine tc_region ?_
    refine tl_p (pr_move rfl) rfl ?_
    refine tl_p (pr_assign rfl) rfl ?_
    refine tl_next ?_
    refine tc_ret (tq_then_ret ?_)
    exact tq_ret1 .ret (.inl rfl) () rfl rfl
  · have hd1 := hc1
    try simp only [Bool.not_eq_true', Bool.not_eq_false', Bool.or_eq_true, Bool.and_eq_true, Bool.or_eq_false_iff, Bool.and_eq_false_iff, decide_eq_true_eq, decide_eq_false_iff_not, Bool.not_true, Bool.not_false, gval, Bool.not_eq_eq_eq_not] at hc1
    have hg : greatC x = false := hd1
    refine tc_skip (tq_next ?_)
    refine tc_seq ?_
    refine tc_region ?_
    refine tl_p (by first | exact pr_loadW Tryz.ag29 Tryz.sz29 rfl | exact pr_ldA Tryz.ag29 Tryz.sz29 rfl) rfl ?_
    refine tl_callS (f14_ct q x hq hg) (.cons rfl .nil) rfl (hro := Rdbs.of hro) (kk := fun ⟨p24, hm24, hw24⟩ => ?_)
    refine tl_p (pr_move rfl) rfl ?_
    refine tl_p (pr_extract rfl rfl) rfl ?_
    refine tl_p (pr_extract rfl rfl) rfl ?_
    refine tl_p (pr_extract rfl rfl) rfl ?_
    refine tl_p (pr_assign rfl) rfl ?_
    refine tl_p (pr_assign rfl) rfl ?_
    refine tl_p (pr_assign rfl) rfl ?_
    refine tl_next ?_
    refine tc_seq ?_
    refine tc_seq ?_
    refine tc_region ?_
    refine tl_p (pr_move rfl) rfl ?_
    refine tl_p (pr_eqlP Tryz.underlying34 rfl (.inr ⟨_, rfl⟩)) rfl ?_
    refine tl_next ?_
    refine tc_if_false rfl rfl ?_
    refine tc_skip (tq_next ?_)
    refine tc_seq ?_
    refine tc_seq ?_
    refine tc_region ?_
    refine tl_p (pr_assign rfl) rfl ?_
    refine tl_next ?_
    refine tc_block ?_
    refine tc_loopP (X := Nat × Stp) (fun j => (j.1 : Int) ≤ a1 % 64 ∧ j.2.regs.length = 8 ∧ j.2.m.n = 4) (fun j => [(1, .int .u8 a1), (5, .bool true), (6, ad p24.tb 0), (7, ad p24.mb 0), (8, ad p24.sb 0), (9, .int .i64 (j.1 : Int))]) (fun j => worldI p24 j.2 (madeW x)) (fun j => (a1 % 64 - (j.1 : Int)).toNat) (0, madeS x) ⟨by show ((0 : Nat) : Int) ≤ _; omega, madeRJ_len _ _, madeM_n x⟩ (.cons rfl (.cons rfl (.cons rfl (.cons rfl (.cons rfl (.cons rfl .nil)))))) (fun j hj => ?_)
    obtain ⟨S, hS⟩ : ∃ S, stepF j.2.pos j.2.regs j.2.fs j.2.m (madeW x) 64 = S := ⟨_, rfl⟩
    have hj1 := hj.1
    have hjl := hj.2.1
    have hjn := hj.2.2
    have hSl : S.regs.length = 8 := by rw [← hS]; exact stepF_len hjl
    have hSn : S.m.n = 4 := by rw [← hS]; exact stepF_n.trans hjn
    have hjm : MOk p24.ms j.2.m := hm24.of (hjn.trans (madeM_n x).symm)
    have hSm : MOk p24.ms S.m := hm24.of (hSn.trans (madeM_n x).symm)
    have hWl : (madeW x).length = 1 := madeWJ_len _ _
    refine tc_seq ?_
    refine tc_seq ?_
    refine tc_region ?_
    refine tl_p (pr_move rfl) rfl ?_
    refine tl_p (pr_move rfl) rfl ?_
    refine tl_p (pr_eq (v' := .int .u8 (a1 % 64)) (pr_rem rfl rfl (by decide)) (by rw [mod_u8 h1.1])) rfl ?_
    refine tl_p (pr_eqI (j := a1 % 64) (pr_conv Tryz.it3 Tryz.underlying5 rfl) (wI_of (by omega))) rfl ?_
    refine tl_p (pr_lss rfl rfl) rfl ?_
    refine tl_next ?_
    refine tc_if rfl (fun hc3 => ?_) (fun hc3 => ?_)
    · have hd3 := hc3
      try simp only [Bool.not_eq_true', Bool.not_eq_false', Bool.or_eq_true, Bool.and_eq_true, Bool.or_eq_false_iff, Bool.and_eq_false_iff, decide_eq_true_eq, decide_eq_false_iff_not, Bool.not_true, Bool.not_false, gval, Bool.not_eq_eq_eq_not] at hc3
      refine tc_skip (tq_next ?_)
      refine tc_seq ?_
      refine tc_block ?_
      refine tc_seq ?_
      refine tc_region ?_
      refine tl_p (pr_move rfl) rfl ?_
      refine tl_callS (f29_ct p24.tb j.2.pos p24.rb p24.fb j.2.regs hjl j.2.fs) (.cons rfl .nil) rfl (kk := fun ⟨s38, hs38, hb38⟩ => ?_)
      refine tl_p (pr_assign rfl) rfl ?_
      refine tl_next ?_
      refine tc_seq ?_
      refine tc_region ?_
      refine tl_p (pr_move rfl) rfl ?_
      refine tl_callS ((f30_ct p24.mb p24.ms j.2.m hjm 0 1024).cast rfl (by rw [hjn])) (.cons rfl (.cons rfl (.cons rfl .nil))) rfl (kk := fun ⟨s41, hs41⟩ => ?_)
      refine tl_p (pr_move rfl) rfl ?_
      refine tl_p (pr_extract rfl rfl) rfl ?_
      refine tl_p (pr_extract rfl rfl) rfl ?_
      refine tl_p (pr_assign rfl) rfl ?_
      refine tl_p (pr_assign rfl) rfl ?_
      refine tl_next ?_
      refine tc_seq ?_
      refine tc_region ?_
      refine tl_p (pr_move rfl) rfl ?_
      refine tl_callS ((f31_ct p24.mb p24.ms j.2.m hjm).cast rfl (by rw [hjn])) (.cons rfl .nil) rfl (kk := fun ⟨s45, hs45⟩ => ?_)
      refine tl_p (pr_assign rfl) rfl ?_
      refine tl_next ?_
      refine tc_seq ?_
      refine tc_region ?_
      refine tl_p (pr_move rfl) rfl ?_
      refine tl_p (pr_move rfl) rfl ?_
      refine tl_p (pr_move rfl) rfl ?_
      refine tl_callS (stepE_ct p24 hS hjl hjm hjn hw24 hWl) (.cons rfl (.cons rfl (.cons rfl .nil))) rfl (kk := fun _ => ?_)
      refine tl_alloc Tryz.z46 rfl (fun b14 => ?_)
      refine tl_storeW Tryz.sz46 rfl rfl (k := ?_)
      refine tl_next ?_
      refine tc_seq ?_
      refine tc_seq ?_
      refine tc_region ?_
      refine tl_p (pr_fieldAddr Tryz.fo46_0 rfl) rfl ?_
      refine tl_p (pr_ld Tryz.ag3 rfl) rfl ?_
      refine tl_p (pr_neq rfl rfl) rfl ?_
      refine tl_p (pr_move rfl) rfl ?_
      refine tl_gt rfl rfl (fun h => pr_fieldAddr Tryz.fo46_0 rfl) (by intro _ h; cases h) rfl ?_
      refine tl_gt rfl rfl (fun h => pr_ld Tryz.ag3 (gv rfl h)) (by intro _ h; cases h) rfl ?_
      refine tl_gt rfl rfl (fun h => pr_neq (gv rfl h) rfl) (by intro _ h; cases h) rfl ?_
      refine tl_p (pr_and rfl rfl rfl) rfl ?_
      refine tl_next ?_
      refine tc_if rfl (fun hc4 => ?_) (fun hc4 => ?_)
      · have hd4 := hc4
        try simp only [Bool.not_eq_true', Bool.not_eq_false', Bool.or_eq_true, Bool.and_eq_true, Bool.or_eq_false_iff, Bool.and_eq_false_iff, decide_eq_true_eq, decide_eq_false_iff_not, Bool.not_true, Bool.not_false, gval, Bool.not_eq_eq_eq_not] at hc4
        refine tc_exit (tq_then_exit (tq_blk_here ?_))
        refine tq_next ?_
        refine tc_region ?_
        refine tl_p (pr_move rfl) rfl ?_
        refine tl_p (pr_addN rfl rfl (by omega)) rfl ?_
        refine tl_p (pr_assign rfl) rfl ?_
        refine tl_nil ?_
        exact tq_roundP (j.1 + 1, S) ⟨by show ((j.1 + 1 : Nat) : Int) ≤ _; omega, hSl, hSn⟩ (by show (a1 % 64 - ((j.1 + 1 : Nat) : Int)).toNat < _; omega) (.cons rfl (.cons rfl (.cons rfl (.cons rfl (.cons rfl (.cons rfl .nil))))))
      · have hd4 := hc4
        try simp only [Bool.not_eq_true', Bool.not_eq_false', Bool.or_eq_true, Bool.and_eq_true, Bool.or_eq_false_iff, Bool.and_eq_false_iff, decide_eq_true_eq, decide_eq_false_iff_not, Bool.not_true, Bool.not_false, gval, Bool.not_eq_eq_eq_not] at hc4
        have hk : S.did.1 = 2 ∨ S.did.1 = 1 := by revert hd4; simp; omega
        have st : Stays S j.2.pos j.2.regs j.2.fs j.2.m := by rw [← hS] at hk ⊢; exact step_stays hk
        have hS2 : stepF S.pos S.regs S.fs S.m (madeW x) 64 = S := by rw [st.pos, st.regs, st.fs, st.m]; exact hS
        refine tc_skip (tq_next ?_)
        refine tc_seq ?_
        refine tc_region ?_
        refine tl_p (pr_move rfl) rfl ?_
        refine tl_callS ((f30_ct p24.mb p24.ms S.m hSm 0 1024).cast rfl (by rw [hSn])) (.cons rfl (.cons rfl (.cons rfl .nil))) rfl (kk := fun ⟨s60, hs60⟩ => ?_)
        refine tl_p (pr_move rfl) rfl ?_
        refine tl_p (pr_extract rfl rfl) rfl ?_
        refine tl_p (pr_extract rfl rfl) rfl ?_
        refine tl_p (pr_assign rfl) rfl ?_
        refine tl_p (pr_assign rfl) rfl ?_
        refine tl_next ?_
        refine tc_seq ?_
        refine tc_region ?_
        refine tl_p (pr_move rfl) rfl ?_
        refine tl_p (pr_move rfl) rfl ?_
        refine tl_p (pr_move rfl) rfl ?_
        refine tl_callS (stepE_ct p24 hS2 hSl hSm hSn hw24 hWl) (.cons rfl (.cons rfl (.cons rfl .nil))) rfl (kk := fun _ => ?_)
        refine tl_alloc Tryz.z46 rfl (fun b17 => ?_)
        refine tl_storeW Tryz.sz46 rfl rfl (k := ?_)
        refine tl_next ?_
        refine tc_seq ?_
        refine tc_region ?_
        refine tl_p (pr_move rfl) rfl ?_
        refine tl_callS (f29_ct p24.tb S.pos p24.rb p24.fb S.regs hSl S.fs) (.cons rfl .nil) rfl (kk := fun ⟨s68, hs68, hb68⟩ => ?_)
        refine tl_p (pr_move rfl) rfl ?_
        refine tl_rdS (Rd.val (v' := .bool true) (f27_ct s68 s38 _ _ (thrCaps S.pos S.regs S.fs) (thrCaps j.2.pos j.2.regs j.2.fs) hs68.toSok hs38.toSok) (by rw [st.pos, st.regs, st.fs]; simp)) (.cons rfl (.cons rfl .nil)) rfl (kk := ?_)
        refine tl_p (pr_not rfl) rfl ?_
        refine tl_p (pr_move rfl) rfl ?_
        refine tl_on rfl rfl rfl ?_
        refine tl_p (pr_move rfl) rfl ?_
        refine tl_on rfl rfl rfl ?_
        refine tl_p (pr_bytesStr (ns := memLoad j.2.m 0 1024) Tryz.sf64 Tryz.underlying5 Tryz.underlying9 rfl hs41.toSok) rfl ?_
        refine tl_on rfl rfl rfl ?_
        refine tl_p (pr_move rfl) rfl ?_
        refine tl_on rfl rfl rfl ?_
        refine tl_p (pr_bytesStr (ns := memLoad S.m 0 1024) Tryz.sf64 Tryz.underlying5 Tryz.underlying9 rfl hs60.toSok) rfl ?_
        refine tl_on rfl rfl rfl ?_
        refine tl_p (pr_eq (v' := .bool false) (pr_neqStr rfl rfl) (by rw [st.m]; show Value.bool (!(_ == _)) = _; rw [beq_toListBytes]; simp)) rfl ?_
        refine tl_p (pr_pickF rfl rfl) rfl ?_
        refine tl_p (pr_move rfl) rfl ?_
        refine tl_on rfl rfl rfl ?_
        refine tl_p (pr_move rfl) rfl ?_
        refine tl_on rfl rfl rfl ?_
        refine tl_callS ((f31_ct p24.mb p24.ms S.m hSm).cast rfl (by rw [hSn])) (.cons rfl .nil) rfl (kk := fun ⟨s81, hs81⟩ => ?_)
        refine tl_on rfl rfl rfl ?_
        refine tl_p (pr_move rfl) rfl ?_
        refine tl_on rfl rfl rfl ?_
        refine tl_rdS (Rd.val (v' := .bool true) (f32_ct s81 s45 _ _ (tagsL S.m) (tagsL j.2.m) hs81.toSok hs45.toSok) (by rw [st.m]; simp)) (.cons rfl (.cons rfl .nil)) rfl (kk := ?_)
        refine tl_on rfl rfl rfl ?_
        refine tl_p (pr_not rfl) rfl ?_
        refine tl_p (pr_pickF rfl rfl) rfl ?_
        refine tl_p (pr_move rfl) rfl ?_
        refine tl_on rfl rfl rfl ?_
        refine tl_p (by first | exact pr_loadW Tryz.ag46 Tryz.sz46 rfl | exact pr_ldA Tryz.ag46 Tryz.sz46 rfl) rfl ?_
        refine tl_on rfl rfl rfl ?_
        refine tl_p (by first | exact pr_loadW Tryz.ag46 Tryz.sz46 rfl | exact pr_ldA Tryz.ag46 Tryz.sz46 rfl) rfl ?_
        refine tl_on rfl rfl rfl ?_
        refine tl_p (pr_neqF Tryz.eqg46 Tryz.ff46 rfl rfl (b := true) (by simp [eqAt, eqCell])) rfl ?_
        refine tl_p (pr_pickF rfl rfl) rfl ?_
        refine tl_p (pr_move rfl) rfl ?_
        refine tl_on rfl rfl rfl ?_
        refine tl_p (pr_fieldAddr Tryz.fo46_2 rfl) rfl ?_
        refine tl_on rfl rfl rfl ?_
        refine tl_p (pr_ld Tryz.ag44 rfl) rfl ?_
        refine tl_on rfl rfl rfl ?_
        refine tl_p (pr_eql rfl rfl) rfl ?_
        refine tl_on rfl rfl rfl ?_
        refine tl_p (pr_fieldAddr Tryz.fo46_0 rfl) rfl ?_
        refine tl_on rfl rfl rfl ?_
        refine tl_p (pr_ld Tryz.ag3 rfl) rfl ?_
        refine tl_on rfl rfl rfl ?_
        refine tl_p (pr_eql rfl rfl) rfl ?_
        refine tl_on rfl rfl rfl ?_
        refine tl_p (pr_eq (v' := .bool false) (pr_neqB Tryz.underlying4 rfl rfl) (by have := st.e; by_cases c : S.did.1 = 1 <;> simp [c, this])) rfl ?_
        refine tl_p (pr_pickF rfl rfl) rfl ?_
        refine tl_p (pr_move rfl) rfl ?_
        refine tl_on rfl rfl rfl ?_
        refine tl_p (pr_fieldAddr Tryz.fo46_1 rfl) rfl ?_
        refine tl_on rfl rfl rfl ?_
        refine tl_p (pr_ld Tryz.ag3 rfl) rfl ?_
        refine tl_on rfl rfl rfl ?_
        refine tl_p (pr_eq (v' := .bool false) (pr_neq rfl rfl) (by rw [st.n]; rfl)) rfl ?_
        refine tl_p (pr_pickF rfl rfl) rfl ?_
        refine tl_next ?_
        refine tc_if_false rfl rfl ?_
        refine tc_skip (tq_blk_normal (tq_next ?_))
        refine tc_region ?_
        refine tl_p (pr_move rfl) rfl ?_
        refine tl_p (pr_addN rfl rfl (by omega)) rfl ?_
        refine tl_p (pr_assign rfl) rfl ?_
        refine tl_nil ?_
        exact tq_roundP (j.1 + 1, S) ⟨by show ((j.1 + 1 : Nat) : Int) ≤ _; omega, hSl, hSn⟩ (by show (a1 % 64 - ((j.1 + 1 : Nat) : Int)).toNat < _; omega) (.cons rfl (.cons rfl (.cons rfl (.cons rfl (.cons rfl (.cons rfl .nil))))))
    · have hd3 := hc3
      try simp only [Bool.not_eq_true', Bool.not_eq_false', Bool.or_eq_true, Bool.and_eq_true, Bool.or_eq_false_iff, Bool.and_eq_false_iff, decide_eq_true_eq, decide_eq_false_iff_not, Bool.not_true, Bool.not_false, gval, Bool.not_eq_eq_eq_not] at hc3
      refine tc_exit (tq_then_exit (tq_then_exit (tq_blk_here ?_)))
      refine tq_next ?_
      refine tc_seq ?_
      refine tc_region ?_
      refine tl_p (pr_move rfl) rfl ?_
      refine tl_p (pr_assign rfl) rfl ?_
      refine tl_next ?_
      refine tc_ret ?_
      exact tq_ret1 .ret (.inl rfl) () rfl rfl

end Go.Proofs

namespace Go.Proofs
open Go Go.Sz
attribute [local irreducible] pt lift exs own emp

theorem map_take {α β : Type} (f : α → β) {l : List α} {j : Nat} (h : j < l.length) : (l.take (j + 1)).map f = (l.take j).map f ++ [f l[j]] := by
  rw [List.take_succ_eq_append_getElem h, List.map_append]; rfl
theorem caps_take1 {l : List Cap} {j : Nat} {d : Cap} (f : Cap → Cap) (h : j < l.length) : capsL ((l.take j).map f) ++ capsL [f (l.getD j d)] = capsL ((l.take (j + 1)).map f) := by
  rw [map_take f h]; simp [capsL, List.getD, h]

theorem f40_ct (sb mb : Nat) (r : Bool) (lv : Value) (nn : Int) (pb : Nat) (s : Shp) (W : List Int) (g : Nat) (hw : ShOk s W g) (s1 : Shp) (n : Nat) (l : List Cap) (hs1 : Sok 6 s1 n (capsL l)) (hb : ∀ i, (l.getD i nullC).base ≤ 9223372036854775807) (hN : n ≤ 1000000) : Ct Tryz.prog 40 #[ad sb 0, sv s1 n] ([(sb, swO mb pb r lv nn), (pb, shO s W.length g)] ++ (ra s (u64s W) ++ ra s1 (capsL l))) [] (X := {s : Shp // Sow 6 s n (capsL (l.map (barr W g)))}) (fun x => sv x.1 n) (fun x N => sl x.1 (capsL (l.map (barr W g))) :: N) := by
  refine ct_intro Tryz.func40 rfl (by kernel_rfl) (n := 22) rfl rfl (E := [(0, ad sb 0), (1, sv s1 n)]) rfl ?_
  intro κ hro
  have hn := caps_n hs1
  have hb1 := hs1.bnd
  obtain ⟨hr1, hr2⟩ := Reads.app hro
  obtain ⟨hr3, hr4⟩ := Reads.app hr2
  have hq1 : κ.frame sb = some (swO mb pb r lv nn) := hr1 _ (List.Mem.head _)
  have hq2 : κ.frame pb = some (shO s W.length g) := hr1 _ (List.Mem.tail _ (List.Mem.head _))
  have hrd1 : ∀ L, RdS L κ s1 (capsL l) := fun L => Reads.sl hr4
  refine tc_seq ?_
  refine tc_region ?_
  refine tl_p (pr_assign rfl) rfl ?_
  refine tl_next ?_
  refine tc_seq ?_
  refine tc_region ?_
  refine tl_p (pr_assign rfl) rfl ?_
  refine tl_next ?_
  refine tc_seq ?_
  refine tc_seq ?_
  refine tc_region ?_
  refine tl_p (pr_move rfl) rfl ?_
  refine tl_p (pr_lenS Tryz.sf24 rfl hs1) rfl ?_
  refine tl_p (pr_move rfl) rfl ?_
  refine tl_next ?_
  refine tc_block ?_
  refine tc_imp (fun w s => s.emp_mk) ?_
  refine tc_loopP (X := Nat × Shp) (fun j => j.1 ≤ n ∧ Sow 6 j.2 j.1 (capsL ((l.take j.1).map (barr W g)))) (fun j => [(0, ad sb 0), (8, sv s1 n), (9, .int .i64 n), (10, .int .i64 (j.1 : Int)), (5, sv j.2 j.1)]) (fun j => [sl j.2 (capsL ((l.take j.1).map (barr W g)))]) (fun j => n - j.1) (0, .nil) ⟨by omega, Sow.nil⟩ (.cons rfl (.cons rfl (.cons rfl (.cons rfl (.cons rfl .nil))))) (fun j hj => ?_)
  have hj1 := hj.1
  have hj2 := hj.2
  refine tc_seq ?_
  refine tc_region ?_
  refine tl_p (pr_lss rfl rfl) rfl ?_
  refine tl_next ?_
  refine tc_seq ?_
  refine tc_if rfl (fun hc1 => ?_) (fun hc1 => ?_)
  · have hd1 := hc1
    try simp only [Bool.not_eq_true', Bool.not_eq_false', Bool.or_eq_true, Bool.and_eq_true, Bool.or_eq_false_iff, Bool.and_eq_false_iff, decide_eq_true_eq, decide_eq_false_iff_not, Bool.not_true, Bool.not_false, gval, Bool.not_eq_eq_eq_not] at hc1
    refine tc_skip (tq_next ?_)
    refine tc_seq ?_
    refine tc_block ?_
    refine tc_seq ?_
    refine tc_region ?_
    refine tl_p (pr_ixE Tryz.sl24 rfl rfl (by omega) (by omega) hs1) rfl ?_
    refine tl_p (pr_ldEA Tryz.ag27 Tryz.sz27 rfl (c := capsL l) (m := Cap.l (l.getD j.1 nullC)) (fm_le cap_len l j.1 (by omega)) (fm_cut cap_len l j.1 (at_getD (by omega))) (hs1.isM (by omega)) (hrd1 _)) rfl ?_
    refine tl_alloc Tryz.z27 rfl (fun b7 => ?_)
    refine tl_storeW Tryz.sz27 rfl rfl (k := ?_)
    refine tl_next ?_
    refine tc_region ?_
    refine tl_p (pr_move rfl) rfl ?_
    refine tl_p (pr_move rfl) rfl ?_
    refine tl_p (by first | exact pr_loadW Tryz.ag27 Tryz.sz27 rfl | exact pr_ldA Tryz.ag27 Tryz.sz27 rfl) rfl ?_
    refine tl_rdS (f44_ct sb mb r lv nn pb s W g hw (l.getD j.1 nullC) (hb _)) (.cons rfl (.cons rfl .nil)) rfl (kk := ?_)
    refine tl_buildS Tryz.sf24 Tryz.z27 rfl (.cons rfl .nil) rfl rfl (c := capsL [barr W g (l.getD j.1 nullC)]) rfl rfl rfl (kk := fun s18 hs18 ms18 => ?_)
    refine tl_append Tryz.sf24 Tryz.z27 rfl rfl rfl hj2 (Sow.toSok (by assumption)) caps_ok (by omega) rfl (kk := fun s19 hs19 => ?_)
    refine tl_p (pr_assign rfl) rfl ?_
    refine tl_nil (tq_blk_normal (tq_next ?_))
    refine tc_region ?_
    refine tl_p (pr_addN rfl rfl (by omega)) rfl ?_
    refine tl_p (pr_move rfl) rfl ?_
    refine tl_nil ?_
    rw [caps_take1 (barr W g) (by omega)] at hs19 ⊢
    exact tq_roundP (j.1 + 1, s19) ⟨by omega, hs19⟩ (by show n - (j.1 + 1) < _; omega) (.cons rfl (.cons rfl (.cons rfl (.cons rfl (.cons rfl .nil)))))
  · have hd1 := hc1
    try simp only [Bool.not_eq_true', Bool.not_eq_false', Bool.or_eq_true, Bool.and_eq_true, Bool.or_eq_false_iff, Bool.and_eq_false_iff, decide_eq_true_eq, decide_eq_false_iff_not, Bool.not_true, Bool.not_false, gval, Bool.not_eq_eq_eq_not] at hc1
    refine tc_exit (tq_then_exit (tq_then_exit (tq_blk_here ?_)))
    refine tq_next ?_
    refine tc_seq ?_
    refine tc_region ?_
    refine tl_p (pr_move rfl) rfl ?_
    refine tl_p (pr_assign rfl) rfl ?_
    refine tl_next ?_
    refine tc_ret ?_
    have e : j.1 = n := by omega
    rw [e, List.take_of_length_le (by omega)] at hj2
    rw [List.take_of_length_le (by omega)]
    rw [e]
    exact tq_ret1 .ret (.inl rfl) ⟨j.2, hj2⟩ rfl rfl

end Go.Proofs

namespace Go.Proofs
open Go Go.Sz
attribute [local irreducible] pt lift exs own emp

abbrev frC (fs : List Fr) : List Cap := fs.flatMap Fr.caps
theorem frC_l (fs : List Fr) : capsL (frC fs) = frL fs := by
  induction fs with
  | nil => rfl
  | cons f fs ih => simp only [frC, capsL, List.flatMap_cons, List.flatMap_append, Fr.l] at ih ⊢; rw [ih]
def mixF (fs2 fs : List Fr) (j : Nat) : List Fr := fs2.take j ++ fs.drop j
theorem mixF_len {fs2 fs : List Fr} {j : Nat} (h : fs2.length = fs.length) : (mixF fs2 fs j).length = fs.length := by simp [mixF]; omega
theorem mixF_set {fs2 fs : List Fr} {j : Nat} (h : fs2.length = fs.length) (hj : j < fs.length) : (mixF fs2 fs j).set j (fs2.getD j nullF) = mixF fs2 fs (j + 1) := by
  unfold mixF
  rw [List.set_append_right _ _ (by simp; omega), show j - (fs2.take j).length = 0 from by simp; omega, List.drop_eq_getElem_cons hj, List.set_cons_zero, List.take_succ_eq_append_getElem (by omega), ← some_getD (l := fs2) (by omega)]
  rw [List.append_assoc]; rfl
theorem frC_cut {fs : List Fr} {j : Nat} (h : j < fs.length) : subL 6 (capsL (frC fs)) (j * 5) ((j + 1) * 5) = Fr.l (fs.getD j nullF) := by
  have e := fm_cut fr_len fs j (fr_getD h)
  rw [frC_l]
  unfold cutL subL at *
  rw [show ((j + 1) * 5 - j * 5) * 6 = 30 from by omega, show j * 5 * 6 = j * 30 from by omega]
  exact e

theorem fr_pos (f : Fr) : cutL (Fr.l f) 0 6 = f.pos.l := rfl
theorem fr_regs (f : Fr) : cutL (Fr.l f) 6 24 = capsL f.regs := rfl
theorem frC_len (fs : List Fr) : (frC fs).length = 5 * fs.length := fcaps_len fs

theorem f101_ct (fb : Nat) (fs fs2 : List Fr) (s1 : Shp) (h2 : fs2.length = fs.length) (h3 : allRight (frC fs2) = true) (hs1 : Sok 6 s1 (5 * fs.length) (capsL (frC fs2))) : Ct Tryz.prog 101 #[ad fb 0, sv s1 (5 * fs.length)] (ra s1 (capsL (frC fs2))) [stkA fb fs] (fun _ : Unit => .bool true) (fun _ N => stkA fb fs2 :: N) := by
  refine ct_intro Tryz.func101 rfl (by kernel_rfl) (n := 51) rfl rfl (E := [(0, ad fb 0), (1, sv s1 (5 * fs.length))]) rfl ?_
  intro κ hro
  refine tc_ex Rem.here fun s0 => tc_own Rem.here (tc_lift Rem.here fun hs0 => ?_)
  obtain ⟨hs0, hb0⟩ := hs0
  have hb1 := hs1.bnd
  have hrd1 : ∀ L, RdS L κ s1 (capsL (frC fs2)) := fun L => Reads.sl hro
  have hz : frL fs = frL (mixF fs2 fs 0) := by unfold mixF; rw [List.take_zero, List.drop_zero]; rfl
  refine tc_seq ?_
  refine tc_region ?_
  refine tl_p (pr_assign rfl) rfl ?_
  refine tl_next ?_
  refine tc_seq ?_
  refine tc_seq ?_
  refine tc_region ?_
  refine tl_p (pr_move rfl) rfl ?_
  refine tl_p (pr_lenS Tryz.sf24 rfl hs1) rfl ?_
  refine tl_p (pr_move rfl) rfl ?_
  refine tl_p (pr_nilCheck rfl) rfl ?_
  refine tl_p (pr_fieldAddr Tryz.fo117_0 rfl) rfl ?_
  refine tl_p (pr_ld Tryz.ag115 rfl) rfl ?_
  refine tl_p (pr_lenS Tryz.sf115 rfl) rfl ?_
  refine tl_p (pr_mulN rfl rfl (by omega)) rfl ?_
  refine tl_p (pr_eq (v' := .bool false) (pr_neq rfl rfl) (by simp)) rfl ?_
  refine tl_p (pr_move rfl) rfl ?_
  refine tl_on rfl rfl rfl ?_
  refine tl_p (pr_move rfl) rfl ?_
  refine tl_on rfl rfl rfl ?_
  refine tl_rdS (Rd.val (v' := .bool true) (f183_ct s1 _ _ hs1) (by rw [h3])) (.cons rfl .nil) rfl (kk := ?_)
  refine tl_on rfl rfl rfl ?_
  refine tl_p (pr_not rfl) rfl ?_
  refine tl_p (pr_pickF rfl rfl) rfl ?_
  refine tl_next ?_
  refine tc_if_false rfl rfl ?_
  refine tc_skip (tq_next ?_)
  refine tc_seq ?_
  refine tc_seq ?_
  refine tc_region ?_
  refine tl_p (pr_move rfl) rfl ?_
  refine tl_p (pr_nilCheck rfl) rfl ?_
  refine tl_p (pr_fieldAddr Tryz.fo117_0 rfl) rfl ?_
  refine tl_p (pr_ld Tryz.ag115 rfl) rfl ?_
  refine tl_p (pr_lenS Tryz.sf115 rfl) rfl ?_
  refine tl_p (pr_move rfl) rfl ?_
  refine tl_next ?_
  refine tc_block ?_
  rw [hz]
  refine tc_loopP (X := Nat) (fun j => j ≤ fs.length) (fun j => [(0, ad fb 0), (1, sv s1 (5 * fs.length)), (25, .int .i64 fs.length), (26, .int .i64 (j : Int))]) (fun j => [pt fb (stkO (sv s0 fs.length)), sl s0 (frL (mixF fs2 fs j))]) (fun j => fs.length - j) 0 (by omega) (.cons rfl (.cons rfl (.cons rfl (.cons rfl .nil)))) (fun j hj => ?_)
  have hj1 := hj
  have hok : Sok 30 s0 fs.length (frL (mixF fs2 fs j)) := ⟨by rw [fm_len fr_len, mixF_len h2], hs0.toSok.far, hs0.toSok.cap, hs0.toSok.bnd⟩
  refine tc_seq ?_
  refine tc_region ?_
  refine tl_p (pr_lss rfl rfl) rfl ?_
  refine tl_next ?_
  refine tc_seq ?_
  refine tc_if rfl (fun hc2 => ?_) (fun hc2 => ?_)
  · have hd2 := hc2
    try simp only [Bool.not_eq_true', Bool.not_eq_false', Bool.or_eq_true, Bool.and_eq_true, Bool.or_eq_false_iff, Bool.and_eq_false_iff, decide_eq_true_eq, decide_eq_false_iff_not, Bool.not_true, Bool.not_false, gval, Bool.not_eq_eq_eq_not] at hc2
    refine tc_skip (tq_next ?_)
    refine tc_seq ?_
    refine tc_block ?_
    refine tc_seq ?_
    refine tc_region ?_
    refine tl_p (pr_move rfl) rfl ?_
    refine tl_p (pr_assign rfl) rfl ?_
    refine tl_next ?_
    refine tc_seq ?_
    refine tc_region ?_
    refine tl_p (pr_move rfl) rfl ?_
    refine tl_p (pr_move rfl) rfl ?_
    refine tl_p (pr_eqI (j := ((j * 5 : Nat) : Int)) (pr_mulN rfl rfl (by omega)) (by push_cast; rfl)) rfl ?_
    refine tl_p (pr_move rfl) rfl ?_
    refine tl_p (pr_addN rfl rfl (by omega)) rfl ?_
    refine tl_p (pr_eqI (j := (((j + 1) * 5 : Nat) : Int)) (pr_mulN rfl rfl (by omega)) (by push_cast; rfl)) rfl ?_
    refine tl_p (pr_sliceS Tryz.sf24 rfl (.yes rfl rfl) (.yes rfl rfl) (l := j * 5) (h := (j + 1) * 5) (by omega) (by omega) hs1) rfl ?_
    refine tl_p (pr_assign rfl) rfl ?_
    refine tl_next ?_
    refine tc_draw Tryz.mixed [0, 1, 2, 3, 4, 5, 6, 7, 8, 9, 11, 12, 13] (by kernel_rfl) ?_
    refine td_q 0 36 (pm_of rfl rfl rfl (fun _ kq => tl_p (pr_move rfl) rfl kq)) rfl rfl rfl ?_
    refine td_q 1 37 (pm_of rfl rfl rfl (fun _ kq => tl_p (pr_nilCheck rfl) rfl kq)) rfl rfl rfl ?_
    refine td_q 2 38 (pm_of rfl rfl rfl (fun _ kq => tl_p (pr_fieldAddr Tryz.fo117_0 rfl) rfl kq)) rfl rfl rfl ?_
    refine td_q 3 39 (pm_of rfl rfl rfl (fun _ kq => tl_p (pr_ld Tryz.ag115 rfl) rfl kq)) rfl rfl rfl ?_
    refine td_q 4 40 (pm_of rfl rfl rfl (fun _ kq => tl_p (pr_move rfl) rfl kq)) rfl rfl rfl ?_
    refine td_q 5 41 (pm_of rfl rfl rfl (fun _ kq => tl_p (pr_move rfl) rfl kq)) rfl rfl rfl ?_
    refine td_q 6 42 (pm_of rfl rfl rfl (fun _ kq => tl_p (pr_ixE Tryz.sl24 rfl rfl (by omega) (by omega) (hs1.sub (l := j * 5) (h := (j + 1) * 5) (by omega) (by omega))) rfl kq)) rfl rfl rfl ?_
    refine td_q 7 43 (pm_of rfl rfl rfl (fun _ kq => tl_p (pr_ldEA Tryz.ag27 Tryz.sz27 rfl (c := subL 6 (capsL (frC fs2)) (j * 5) ((j + 1) * 5)) (m := Cap.l (fs2.getD j nullF).pos) (by rw [frC_cut (by omega)]; exact (show 6 ≤ 30 by omega)) (by rw [frC_cut (by omega)]; rfl) ((hs1.sub (l := j * 5) (h := (j + 1) * 5) (by omega) (by omega)).isM (by omega)) (RdS.sub hs1 (by omega) (by omega) (hrd1 _))) rfl kq)) rfl rfl rfl ?_
    refine td_q 8 44 (pm_of rfl rfl rfl (fun _ kq => tl_p (pr_move rfl) rfl kq)) rfl rfl rfl ?_
    refine td_q 9 45 (pm_of rfl rfl rfl (fun _ kq => tl_p (pr_sliceS Tryz.sf24 rfl (.yes rfl rfl) .no (l := 1) (h := (j + 1) * 5 - j * 5) (by omega) (by omega) (hs1.sub (l := j * 5) (h := (j + 1) * 5) (by omega) (by omega))) rfl kq)) rfl rfl rfl ?_
    refine td_e1 10 (by kernel_rfl) ?_
    refine te rfl ?_
    refine tl_p (pr_arrayAt Tryz.ar187 rfl ((hs1.sub (l := j * 5) (h := (j + 1) * 5) (by omega) (by omega)).sub (l := 1) (h := (j + 1) * 5 - j * 5) (by omega) (by omega)) (by omega) (((hs1.sub (l := j * 5) (h := (j + 1) * 5) (by omega) (by omega)).sub (l := 1) (h := (j + 1) * 5 - j * 5) (by omega) (by omega)).isM (by omega))) rfl ?_
    refine td_next (pd := [7, 6, 5, 4, 3, 2, 1, 0]) (by kernel_rfl) (.cons rfl (pm_of rfl rfl rfl (fun _ kq => tl_p (pr_ldEA Tryz.ag27 Tryz.sz27 rfl (c := subL 6 (capsL (frC fs2)) (j * 5) ((j + 1) * 5)) (m := Cap.l (fs2.getD j nullF).pos) (by rw [frC_cut (by omega)]; exact (show 6 ≤ 30 by omega)) (by rw [frC_cut (by omega)]; rfl) ((hs1.sub (l := j * 5) (h := (j + 1) * 5) (by omega) (by omega)).isM (by omega)) (RdS.sub hs1 (by omega) (by omega) (hrd1 _))) rfl kq)) (.cons rfl (pm_of rfl rfl rfl (fun _ kq => tl_p (pr_ixE Tryz.sl24 rfl rfl (by omega) (by omega) (hs1.sub (l := j * 5) (h := (j + 1) * 5) (by omega) (by omega))) rfl kq)) (.cons rfl (pm_of rfl rfl rfl (fun _ kq => tl_p (pr_move rfl) rfl kq)) (.cons rfl (pm_of rfl rfl rfl (fun _ kq => tl_p (pr_move rfl) rfl kq)) (.cons rfl (pm_of rfl rfl rfl (fun _ kq => tl_p (pr_ld Tryz.ag115 rfl) rfl kq)) (.cons rfl (pm_of rfl rfl rfl (fun _ kq => tl_p (pr_fieldAddr Tryz.fo117_0 rfl) rfl kq)) (.cons rfl (pm_of rfl rfl rfl (fun _ kq => tl_p (pr_nilCheck rfl) rfl kq)) (.cons rfl (pm_of rfl rfl rfl (fun _ kq => tl_p (pr_move rfl) rfl kq)) .nil)))))))) ?_
    refine td_q 11 47 (pm_of rfl rfl rfl (fun _ kq => tl_p (pr_ldEA Tryz.ag187 Tryz.sz187 rfl (c := subL 6 (subL 6 (capsL (frC fs2)) (j * 5) ((j + 1) * 5)) 1 ((j + 1) * 5 - j * 5)) (m := capsL (fs2.getD j nullF).regs) (by rw [frC_cut (by omega), show (j + 1) * 5 - j * 5 = 5 from by omega]; exact (show 24 ≤ 24 by omega)) (by rw [frC_cut (by omega), show (j + 1) * 5 - j * 5 = 5 from by omega]; rfl) (((hs1.sub (l := j * 5) (h := (j + 1) * 5) (by omega) (by omega)).sub (l := 1) (h := (j + 1) * 5 - j * 5) (by omega) (by omega)).isM (by omega)) (RdS.sub (hs1.sub (l := j * 5) (h := (j + 1) * 5) (by omega) (by omega)) (by omega) (by omega) (RdS.sub hs1 (by omega) (by omega) (hrd1 _)))) rfl kq)) rfl rfl rfl ?_
    refine td_q 12 48 (pm_of rfl rfl rfl (fun _ kq => tl_p (Tryz.bl189_0_1 rfl rfl) rfl kq)) rfl rfl rfl ?_
    refine td_q 13 49 (pm_of rfl rfl rfl (fun _ kq => tl_p (pr_ixE Tryz.sl115 rfl rfl (by omega) (by omega) hok) rfl kq)) rfl rfl rfl ?_
    refine td_e1 14 (by kernel_rfl) ?_
    refine te rfl ?_
    refine tl_stE (s := s0) (j := (j : Int).toNat * 30) (c := frL (mixF fs2 fs j)) (c' := frL (mixF fs2 fs (j + 1))) (v := Fr.v (fs2.getD j nullF)) Tryz.sz189 rfl rfl (by rw [fm_len fr_len, mixF_len h2]; omega) (by have e := fm_put fr_len (mixF fs2 fs j) j (fs2.getD j nullF) (by rw [mixF_len h2]; omega); rw [mixF_set h2 (by omega)] at e; exact e) (fun g e => (hs0.room g e).1) (hm := hok.isM (by omega)) (k := ?_)
    refine td_next (pd := []) (by kernel_rfl) (.nil) ?_
    refine td_done (by kernel_rfl) ?_
    refine tq_blk_normal (tq_next ?_)
    refine tc_region ?_
    refine tl_p (pr_addN rfl rfl (by omega)) rfl ?_
    refine tl_p (pr_move rfl) rfl ?_
    refine tl_nil ?_
    exact tq_roundP (j + 1) (by omega) (by omega) (.cons rfl (.cons rfl (.cons rfl (.cons rfl .nil))))
  · have hd2 := hc2
    try simp only [Bool.not_eq_true', Bool.not_eq_false', Bool.or_eq_true, Bool.and_eq_true, Bool.or_eq_false_iff, Bool.and_eq_false_iff, decide_eq_true_eq, decide_eq_false_iff_not, Bool.not_true, Bool.not_false, gval, Bool.not_eq_eq_eq_not] at hc2
    refine tc_exit (tq_then_exit (tq_then_exit (tq_blk_here ?_)))
    refine tq_next ?_
    refine tc_seq ?_
    refine tc_region ?_
    refine tl_p (pr_assign rfl) rfl ?_
    refine tl_next ?_
    refine tc_ret ?_
    have e : j = fs.length := by omega
    have e2 : mixF fs2 fs j = fs2 := by unfold mixF; rw [e, List.drop_of_length_le (Nat.le_refl _), ← h2, List.take_length, List.append_nil]
    rw [e2]
    have hs0b : Sow 30 s0 fs.length (frL fs2) := Sow.re hs0 (by rw [fm_len fr_len, fm_len fr_len, h2])
    refine tq_stkE fs2 hs0b h2.symm rfl (by omega) ?_
    exact tq_retE1 .ret (.inl rfl) () rfl rfl rfl (by repeat (first | exact Pick.nil | exact Rem.here | apply Rem.there | apply Pick.cons))

end Go.Proofs

namespace Go.Proofs
open Go Go.Sz
attribute [local irreducible] pt lift exs own emp

theorem allR_app {a b : List Cap} : allRight (a ++ b) = (allRight a && allRight b) := by simp [allRight]
theorem thr_sub1 (pos : Cap) (regs : List Cap) (fs : List Fr) (h : regs.length = 8) : subL 6 (capsL (thrCaps pos regs fs)) 1 9 = capsL regs := by
  rw [fm_sub cap_len]
  congr 1
  show (List.drop 1 (pos :: regs ++ _)).take 8 = regs
  rw [List.cons_append, List.drop_succ_cons, List.drop_zero, List.take_append_of_le_length (by omega), List.take_of_length_le (by omega)]
theorem thr_sub2 (pos : Cap) (regs : List Cap) (fs : List Fr) (h : regs.length = 8) : subL 6 (capsL (thrCaps pos regs fs)) 9 (9 + 5 * fs.length) = capsL (frC fs) := by
  rw [fm_sub cap_len]
  congr 1
  show (List.drop 9 (pos :: regs ++ _)).take _ = frC fs
  rw [List.cons_append, List.drop_succ_cons, List.drop_append, List.drop_of_length_le (by omega), show 8 - regs.length = 0 from by omega, List.drop_zero, List.nil_append, List.take_of_length_le (by rw [fcaps_len]; omega)]
theorem any_no {l : List Cap} (h : allRight l = true) : l.any (fun c => !capRight c) = false := by
  rw [List.any_eq_false]
  intro x hx
  have := List.all_eq_true.1 h x hx
  simp [this]

theorem f41_ct (tb : Nat) (pos : Cap) (rb fb : Nat) (regs : List Cap) (hl : regs.length = 8) (fs : List Fr) (pos2 : Cap) (regs2 : List Cap) (fs2 : List Fr) (s1 : Shp) (hl2 : regs2.length = 8) (hf2 : fs2.length = fs.length) (hR : allRight (thrCaps pos2 regs2 fs2) = true) (hs1 : Sok 6 s1 (9 + 5 * fs.length) (capsL (thrCaps pos2 regs2 fs2))) : Ct Tryz.prog 41 #[ad tb 0, sv s1 (9 + 5 * fs.length)] (ra s1 (capsL (thrCaps pos2 regs2 fs2))) [pt tb (thrO pos rb fb), fileA rb regs, stkA fb fs] (fun _ : Unit => .bool true) (fun _ N => pt tb (thrO pos2 rb fb) :: fileA rb regs2 :: stkA fb fs2 :: N) := by
  refine ct_intro Tryz.func41 rfl (by kernel_rfl) (n := 37) rfl rfl (E := [(0, ad tb 0), (1, sv s1 (9 + 5 * fs.length))]) rfl ?_
  intro κ hro
  have hb1 := hs1.bnd
  have hrd1 : ∀ L, RdS L κ s1 (capsL (thrCaps pos2 regs2 fs2)) := fun L => Reads.sl hro
  have hR2 := hR
  unfold thrCaps at hR2
  rw [allR_app] at hR2
  have hR3 : allRight (frC fs2) = true := by simp at hR2; exact hR2.2
  have hR4 : allRight regs2 = true := by simp [allRight] at hR2 ⊢; exact hR2.1.2
  have hp2 : putRegs regs regs2 = regs2 := if_pos ⟨hl2, hR4⟩
  have hsA : Sok 6 (subS 6 (capsL (thrCaps pos2 regs2 fs2)) 1 9 s1) (9 - 1) (capsL regs2) := by have e := hs1.sub (l := 1) (h := 9) (by omega) (by omega); rwa [thr_sub1 _ _ _ hl2] at e
  have hrA : ∀ L, RdS L κ (subS 6 (capsL (thrCaps pos2 regs2 fs2)) 1 9 s1) (capsL regs2) := by intro L; have e := RdS.sub (l := 1) (h := 9) hs1 (by omega) (by omega) (hrd1 L); rwa [thr_sub1 _ _ _ hl2] at e
  have h59 : 9 + 5 * fs.length - 9 = 5 * fs.length := by omega
  have hsB : Sok 6 (subS 6 (capsL (thrCaps pos2 regs2 fs2)) 9 (9 + 5 * fs.length) s1) (5 * fs.length) (capsL (frC fs2)) := by have e := hs1.sub (l := 9) (h := 9 + 5 * fs.length) (by omega) (by omega); rw [h59] at e; have e2 := thr_sub2 pos2 regs2 fs2 hl2; rw [hf2] at e2; rwa [e2] at e
  have hrB : ∀ L, RdS L κ (subS 6 (capsL (thrCaps pos2 regs2 fs2)) 9 (9 + 5 * fs.length) s1) (capsL (frC fs2)) := by intro L; have e := RdS.sub (l := 9) (h := 9 + 5 * fs.length) hs1 (by omega) (by omega) (hrd1 L); have e2 := thr_sub2 pos2 regs2 fs2 hl2; rw [hf2] at e2; rwa [e2] at e
  refine tc_seq ?_
  refine tc_region ?_
  refine tl_p (pr_assign rfl) rfl ?_
  refine tl_next ?_
  refine tc_seq ?_
  refine tc_region ?_
  refine tl_p (pr_assign rfl) rfl ?_
  refine tl_next ?_
  refine tc_seq ?_
  refine tc_seq ?_
  refine tc_region ?_
  refine tl_p (pr_move rfl) rfl ?_
  refine tl_p (pr_lenS Tryz.sf24 rfl hs1) rfl ?_
  refine tl_p (pr_move rfl) rfl ?_
  refine tl_callS (f29_ct tb pos rb fb regs hl fs) (.cons rfl .nil) rfl (kk := fun ⟨s9, hs9, hb9⟩ => ?_)
  refine tl_p (pr_lenS Tryz.sf24 rfl) rfl ?_
  refine tl_p (pr_eq (v' := .bool false) (pr_neq rfl rfl) (by simp)) rfl ?_
  refine tl_p (pr_move rfl) rfl ?_
  refine tl_on rfl rfl rfl ?_
  refine tl_p (pr_move rfl) rfl ?_
  refine tl_on rfl rfl rfl ?_
  refine tl_p (pr_move rfl) rfl ?_
  refine tl_on rfl rfl rfl ?_
  refine tl_rdS (Rd.val (v' := .bool false) (f99_ct s1 _ (thrCaps pos2 regs2 fs2) 98 [] [] (fun c => !capRight c) f98_ct hs1) (by rw [any_no hR])) (.cons rfl (.cons rfl .nil)) rfl (kk := ?_)
  refine tl_p (pr_pickF rfl rfl) rfl ?_
  refine tl_next ?_
  refine tc_if_false rfl rfl ?_
  refine tc_skip (tq_next ?_)
  refine tc_seq ?_
  refine tc_region ?_
  refine tl_p (pr_move rfl) rfl ?_
  refine tl_p (pr_move rfl) rfl ?_
  refine tl_p (pr_ixE Tryz.sl24 rfl rfl (by omega) (by omega) hs1) rfl ?_
  refine tl_p (pr_ldEA Tryz.ag27 Tryz.sz27 rfl (c := capsL (thrCaps pos2 regs2 fs2)) (m := Cap.l pos2) (by rw [hs1.len]; omega) rfl (hs1.isM (by omega)) (hrd1 _)) rfl ?_
  refine tl_p (pr_nilCheck rfl) rfl ?_
  refine tl_p (pr_fieldAddr Tryz.fo100_0 rfl) rfl ?_
  refine tl_stA Tryz.sz27 rfl rfl (k := ?_)
  refine tl_next ?_
  refine tc_seq ?_
  refine tc_draw Tryz.mixed [0, 1, 2, 3, 4, 5] (by kernel_rfl) ?_
  refine td_q 0 23 (pm_of rfl rfl rfl (fun _ kq => tl_p (pr_move rfl) rfl kq)) rfl rfl rfl ?_
  refine td_q 1 24 (pm_of rfl rfl rfl (fun _ kq => tl_p (pr_nilCheck rfl) rfl kq)) rfl rfl rfl ?_
  refine td_q 2 25 (pm_of rfl rfl rfl (fun _ kq => tl_p (pr_fieldAddr Tryz.fo100_1 rfl) rfl kq)) rfl rfl rfl ?_
  refine td_q 3 26 (pm_of rfl rfl rfl (fun _ kq => tl_p (pr_ld Tryz.ag39 rfl) rfl kq)) rfl rfl rfl ?_
  refine td_q 4 27 (pm_of rfl rfl rfl (fun _ kq => tl_p (pr_move rfl) rfl kq)) rfl rfl rfl ?_
  refine td_q 5 28 (pm_of rfl rfl rfl (fun _ kq => tl_p (pr_sliceS Tryz.sf24 rfl (.yes rfl rfl) (.yes rfl rfl) (l := 1) (h := 9) (by omega) (by omega) hs1) rfl kq)) rfl rfl rfl ?_
  refine td_e1 6 (by kernel_rfl) ?_
  refine te rfl ?_
  refine tl_callS (f100_ct rb regs hl _ _ regs2 hsA) (.cons rfl (.cons rfl .nil)) rfl (hro := Rdbs.sl (hrA _)) (kk := fun _ => ?_)
  rw [hp2]
  refine td_next (pd := []) (by kernel_rfl) (.nil) ?_
  refine td_done (by kernel_rfl) ?_
  refine tq_next ?_
  refine tc_seq ?_
  refine tc_draw Tryz.mixed [0, 1, 2, 3, 4, 5] (by kernel_rfl) ?_
  refine td_q 0 30 (pm_of rfl rfl rfl (fun _ kq => tl_p (pr_move rfl) rfl kq)) rfl rfl rfl ?_
  refine td_q 1 31 (pm_of rfl rfl rfl (fun _ kq => tl_p (pr_nilCheck rfl) rfl kq)) rfl rfl rfl ?_
  refine td_q 2 32 (pm_of rfl rfl rfl (fun _ kq => tl_p (pr_fieldAddr Tryz.fo100_2 rfl) rfl kq)) rfl rfl rfl ?_
  refine td_q 3 33 (pm_of rfl rfl rfl (fun _ kq => tl_p (pr_ld Tryz.ag57 rfl) rfl kq)) rfl rfl rfl ?_
  refine td_q 4 34 (pm_of rfl rfl rfl (fun _ kq => tl_p (pr_move rfl) rfl kq)) rfl rfl rfl ?_
  refine td_q 5 35 (pm_of rfl rfl rfl (fun _ kq => tl_p (pr_eq (v' := sv (subS 6 (capsL (thrCaps pos2 regs2 fs2)) 9 (9 + 5 * fs.length) s1) (5 * fs.length)) (pr_sliceS Tryz.sf24 rfl (.yes rfl rfl) .no (l := 9) (h := 9 + 5 * fs.length) (by omega) (by omega) hs1) (by rw [h59])) rfl kq)) rfl rfl rfl ?_
  refine td_e1 6 (by kernel_rfl) ?_
  refine te rfl ?_
  refine tl_callS (f101_ct fb fs fs2 _ hf2 hR3 hsB) (.cons rfl (.cons rfl .nil)) rfl (hro := Rdbs.sl (hrB _)) (kk := fun _ => ?_)
  refine td_next (pd := []) (by kernel_rfl) (.nil) ?_
  refine td_done (by kernel_rfl) ?_
  refine tq_next ?_
  refine tc_seq ?_
  refine tc_region ?_
  refine tl_p (pr_assign rfl) rfl ?_
  refine tl_next ?_
  refine tc_ret ?_
  exact tq_ret1 .ret (.inl rfl) () rfl rfl

end Go.Proofs

namespace Go.Proofs
open Go Go.Sz
attribute [local irreducible] pt lift exs own emp

theorem tagsL_le (m : MemM) : (tagsL m).length ≤ 16 * m.n := tagsJ_le m _
theorem tagsL_mem {m : MemM} {p : Int} (h : p ∈ tagsL m) : ∃ i : Nat, i < 16 * m.n ∧ m.T i = true ∧ p = 16 * (i : Int) := by
  unfold tagsL tagsJ at h
  obtain ⟨i, h1, rfl⟩ := List.mem_map.1 h
  obtain ⟨h2, h3⟩ := List.mem_filter.1 h1
  exact ⟨i, by simpa using h2, h3, rfl⟩
theorem tagsL_big {m : MemM} (hm : m.n ≤ 65536) (i : Nat) : (tagsL m).getD i 0 ≤ 9223372036854775807 := by
  by_cases h : i < (tagsL m).length
  · rw [← some_getD h]
    obtain ⟨k, h1, _, h2⟩ := tagsL_mem (List.getElem_mem h)
    omega
  · rw [List.getD_eq_getElem?_getD, List.getElem?_eq_none (by omega)]; show (0 : Int) ≤ _; omega
def memCaps (m : MemM) : List Cap := (tagsL m).map fun p => (memCap m p).1
def heldJ (pos : Cap) (regs : List Cap) (fs : List Fr) (m : MemM) (j : Nat) : List Cap := thrCaps pos regs fs ++ (memCaps m).take j
def heldL (pos : Cap) (regs : List Cap) (fs : List Fr) (m : MemM) : List Cap := thrCaps pos regs fs ++ memCaps m
theorem heldJ_0 (pos : Cap) (regs : List Cap) (fs : List Fr) (m : MemM) : thrCaps pos regs fs = heldJ pos regs fs m 0 := by unfold heldJ; rw [List.take_zero, List.append_nil]
theorem heldJ_all (pos : Cap) (regs : List Cap) (fs : List Fr) (m : MemM) : heldJ pos regs fs m (tagsL m).length = heldL pos regs fs m := by unfold heldJ heldL; rw [List.take_of_length_le (by simp [memCaps])]
theorem heldJ_succ (pos : Cap) (regs : List Cap) (fs : List Fr) {m : MemM} {j : Nat} (h : j < (tagsL m).length) : capsL (heldJ pos regs fs m j) ++ capsL [(memCap m ((tagsL m).getD j 0)).1] = capsL (heldJ pos regs fs m (j + 1)) := by
  have h2 : j < (memCaps m).length := by simpa [memCaps] using h
  unfold heldJ
  rw [List.take_succ_eq_append_getElem h2, ← List.append_assoc]
  have e : (memCaps m)[j] = (memCap m ((tagsL m).getD j 0)).1 := by simp [memCaps, List.getD, h]
  rw [e]
  exact List.flatMap_append.symm

theorem f42_ct (tb : Nat) (pos : Cap) (rb fb : Nat) (regs : List Cap) (hl : regs.length = 8) (fs : List Fr) (mb : Nat) (s : Shp) (m : MemM) (hm : MOk s m) : Ct Tryz.prog 42 #[ad tb 0, ad mb 0] ([(tb, thrO pos rb fb)] ++ (ra (.mem (fileS rb)) (capsL regs) ++ ([(mb, memO s m.n)] ++ ra s m.l))) [stkA fb fs] (X := {s : Shp // Sow 6 s (9 + 5 * fs.length + (tagsL m).length) (capsL (heldL pos regs fs m)) ∧ fs.length ≤ 16}) (fun x => sv x.1 (9 + 5 * fs.length + (tagsL m).length)) (fun x N => sl x.1 (capsL (heldL pos regs fs m)) :: stkA fb fs :: N) := by
  refine ct_intro Tryz.func42 rfl (by kernel_rfl) (n := 34) rfl rfl (E := [(0, ad tb 0), (1, ad mb 0)]) rfl ?_
  intro κ hro
  obtain ⟨hr1, hr2⟩ := Reads.app hro
  obtain ⟨hr3, hr4⟩ := Reads.app hr2
  obtain ⟨hr5, hr6⟩ := Reads.app hr4
  have hq1 : κ.frame tb = some (thrO pos rb fb) := hr1 _ (List.Mem.head _)
  have hq3 : κ.frame mb = some (memO s m.n) := hr5 _ (List.Mem.head _)
  have hlim := hm.lim
  have htl := tagsL_le m
  refine tc_seq ?_
  refine tc_region ?_
  refine tl_p (pr_assign rfl) rfl ?_
  refine tl_next ?_
  refine tc_seq ?_
  refine tc_region ?_
  refine tl_p (pr_move rfl) rfl ?_
  refine tl_callS (f29_ct tb pos rb fb regs hl fs) (.cons rfl .nil) rfl (kk := fun ⟨s11, hs11, hb11⟩ => ?_)
  refine tl_p (pr_assign rfl) rfl ?_
  refine tl_next ?_
  refine tc_seq ?_
  refine tc_region ?_
  refine tl_p (pr_move rfl) rfl ?_
  refine tl_callS (f31_ct mb s m hm) (.cons rfl .nil) rfl (kk := fun ⟨s13, hs13⟩ => ?_)
  refine tl_p (pr_assign rfl) rfl ?_
  refine tl_next ?_
  refine tc_seq ?_
  refine tc_seq ?_
  refine tc_region ?_
  refine tl_p (pr_assign rfl) rfl ?_
  refine tl_next ?_
  refine tc_block ?_
  have hs11b : Sow 6 s11 (9 + 5 * fs.length + 0) (capsL (heldJ pos regs fs m 0)) := by rw [← heldJ_0]; exact hs11
  refine tc_imp (L' := [sl s13 (ints (tagsL m)), sl s11 (capsL (heldJ pos regs fs m 0)), stkA fb fs]) (fun w st => by rw [← heldJ_0]; exact st) ?_
  refine tc_loopP (X := Nat × Shp) (fun j => j.1 ≤ (tagsL m).length ∧ Sow 6 j.2 (9 + 5 * fs.length + j.1) (capsL (heldJ pos regs fs m j.1))) (fun j => [(1, ad mb 0), (5, sv j.2 (9 + 5 * fs.length + j.1)), (6, sv s13 (tagsL m).length), (7, .int .i64 (j.1 : Int))]) (fun j => [sl j.2 (capsL (heldJ pos regs fs m j.1)), sl s13 (ints (tagsL m)), stkA fb fs]) (fun j => (tagsL m).length - j.1) (0, s11) ⟨by omega, hs11b⟩ (.cons rfl (.cons rfl (.cons rfl (.cons rfl .nil)))) (fun j hj => ?_)
  have hj1 := hj.1
  have hj2 := hj.2
  refine tc_seq ?_
  refine tc_seq ?_
  refine tc_region ?_
  refine tl_p (pr_move rfl) rfl ?_
  refine tl_p (pr_move rfl) rfl ?_
  refine tl_p (pr_lenS Tryz.sf25 rfl hs13.toSok) rfl ?_
  refine tl_p (pr_lss rfl rfl) rfl ?_
  refine tl_next ?_
  refine tc_if rfl (fun hc1 => ?_) (fun hc1 => ?_)
  · have hd1 := hc1
    try simp only [Bool.not_eq_true', Bool.not_eq_false', Bool.or_eq_true, Bool.and_eq_true, Bool.or_eq_false_iff, Bool.and_eq_false_iff, decide_eq_true_eq, decide_eq_false_iff_not, Bool.not_true, Bool.not_false, gval, Bool.not_eq_eq_eq_not] at hc1
    refine tc_skip (tq_next ?_)
    refine tc_seq ?_
    refine tc_block ?_
    refine tc_seq ?_
    refine tc_region ?_
    refine tl_p (pr_move rfl) rfl ?_
    refine tl_p (pr_move rfl) rfl ?_
    refine tl_p (pr_move rfl) rfl ?_
    refine tl_p (pr_ixE Tryz.sl25 rfl rfl (by omega) (by omega) hs13.toSok) rfl ?_
    refine tl_p (pr_ldE Tryz.ag3 rfl (c := ints (tagsL m)) (v := .int .i64 ((tagsL m).getD j.1 0)) (by rw [← some_getD (l := tagsL m) (by omega)]; exact map_at (by omega)) (hs13.toSok.isM (by omega))) rfl ?_
    refine tl_rdS (f102_ct mb s m hm _ (tagsL_big hm.lim j.1)) (.cons rfl (.cons rfl .nil)) rfl (kk := ?_)
    refine tl_p (pr_move rfl) rfl ?_
    refine tl_p (pr_extract rfl rfl) rfl ?_
    refine tl_p (pr_extract rfl rfl) rfl ?_
    refine tl_alloc Tryz.z27 rfl (fun b8 => ?_)
    refine tl_storeW Tryz.sz27 rfl rfl (k := ?_)
    refine tl_p (pr_assign rfl) rfl ?_
    refine tl_next ?_
    refine tc_region ?_
    refine tl_p (pr_move rfl) rfl ?_
    refine tl_p (by first | exact pr_loadW Tryz.ag27 Tryz.sz27 rfl | exact pr_ldA Tryz.ag27 Tryz.sz27 rfl) rfl ?_
    refine tl_buildS Tryz.sf24 Tryz.z27 rfl (.cons rfl .nil) rfl rfl (c := capsL [(memCap m ((tagsL m).getD j.1 0)).1]) rfl rfl rfl (kk := fun s31 hs31 ms31 => ?_)
    refine tl_append Tryz.sf24 Tryz.z27 rfl rfl rfl hj2 (Sow.toSok (by assumption)) caps_ok (by omega) rfl (kk := fun s32 hs32 => ?_)
    refine tl_p (pr_assign rfl) rfl ?_
    refine tl_nil (tq_blk_normal (tq_next ?_))
    refine tc_region ?_
    refine tl_p (pr_move rfl) rfl ?_
    refine tl_p (pr_addN rfl rfl (by omega)) rfl ?_
    refine tl_p (pr_assign rfl) rfl ?_
    refine tl_nil ?_
    rw [heldJ_succ _ _ _ (by omega)] at hs32 ⊢
    exact tq_roundP (j.1 + 1, s32) ⟨by omega, hs32⟩ (by show (tagsL m).length - (j.1 + 1) < _; omega) (.cons rfl (.cons rfl (.cons rfl (.cons rfl .nil))))
  · have hd1 := hc1
    try simp only [Bool.not_eq_true', Bool.not_eq_false', Bool.or_eq_true, Bool.and_eq_true, Bool.or_eq_false_iff, Bool.and_eq_false_iff, decide_eq_true_eq, decide_eq_false_iff_not, Bool.not_true, Bool.not_false, gval, Bool.not_eq_eq_eq_not] at hc1
    refine tc_exit (tq_then_exit (tq_then_exit (tq_blk_here ?_)))
    refine tq_next ?_
    refine tc_seq ?_
    refine tc_region ?_
    refine tl_p (pr_move rfl) rfl ?_
    refine tl_p (pr_assign rfl) rfl ?_
    refine tl_next ?_
    refine tc_ret ?_
    have e : j.1 = (tagsL m).length := by omega
    rw [e, heldJ_all] at hj2
    rw [e, heldJ_all]
    exact tq_ret1 .ret (.inl rfl) ⟨j.2, hj2, hb11⟩ rfl rfl

end Go.Proofs

namespace Go.Proofs
open Go Go.Sz
attribute [local irreducible] pt lift exs own emp

/-! is a span whole: all of its granules painted, or none -/
def wB (c : Cap) : Nat := (c.base / 16).toNat
def wN (c : Cap) : Nat := (min ((c.top + 15) / 16) 64 - c.base / 16).toNat
def manyJ (P : List Int) (b j : Nat) : Nat := ((List.range j).filter fun i => decide (((b + i : Nat) : Int) ∈ P)).length
theorem manyJ_succ (P : List Int) (b j : Nat) : manyJ P b (j + 1) = manyJ P b j + (if ((b + j : Nat) : Int) ∈ P then 1 else 0) := by
  unfold manyJ
  rw [List.range_succ, List.filter_append, List.length_append]
  by_cases h : ((b + j : Nat) : Int) ∈ P
  · rw [if_pos h, List.filter_cons_of_pos (by simpa using h)]; rfl
  · rw [if_neg h, List.filter_cons_of_neg (by simpa using h)]; rfl
theorem manyJ_le (P : List Int) (b j : Nat) : manyJ P b j ≤ j := by
  unfold manyJ
  exact Nat.le_trans (List.length_filter_le _ _) (Nat.le_of_eq List.length_range)
def wholeC (P : List Int) (c : Cap) : Bool := decide (manyJ P (wB c) (wN c) = 0) || decide (manyJ P (wB c) (wN c) = wN c)
theorem wCond {c : Cap} {j : Nat} (h : 0 ≤ c.base) (hj : j ≤ wN c) : (16 * ((wB c + j : Nat) : Int) < c.top ∧ ((wB c + j : Nat) : Int) < 64) ↔ j < wN c := by
  unfold wN wB at *
  omega

theorem f43_ct (q : CaseS) (x : CaseM) (hq : CaseOk q x) (c : Cap) (hc : 0 ≤ c.base ∧ c.base ≤ 4294967295 ∧ c.top ≤ 4294967295) : Rd Tryz.prog 43 #[caseV q x, c.v] (caseRo q x) [] (.bool (wholeC x.paint c)) := by
  refine ct_intro Tryz.func43 rfl (by kernel_rfl) (n := 48) rfl rfl (E := [(0, caseV q x), (1, c.v)]) rfl ?_
  intro κ hro
  have n4 : x.paint.length = q.n4 := by have := hq.h4.len; simp at this; omega
  have b4 := hq.h4.bnd
  have hrd : ∀ L, RdS L κ q.s4 (ints x.paint) := fun L => Reads.sl (Reads.app (Reads.app (Reads.app hro).2).2).2
  obtain ⟨hb1, hb2, hb3⟩ := hc
  have hwB : wB c ≤ 268435456 := by unfold wB; omega
  have hwN : wN c ≤ 64 := by unfold wN; omega
  refine tc_seq ?_
  refine tc_region ?_
  refine tl_box rfl rfl (fun b2 => ?_)
  refine tl_box rfl rfl (fun b3 => ?_)
  refine tl_p (pr_assign rfl) rfl ?_
  refine tl_next ?_
  refine tc_seq ?_
  refine tc_region ?_
  refine tl_p (pr_assign rfl) rfl ?_
  refine tl_next ?_
  refine tc_seq ?_
  refine tc_region ?_
  refine tl_p (pr_assign rfl) rfl ?_
  refine tl_next ?_
  refine tc_seq ?_
  refine tc_seq ?_
  refine tc_region ?_
  refine tl_p (pr_fieldAddr Tryz.fo27_1 rfl) rfl ?_
  refine tl_p (pr_ld Tryz.ag3 rfl) rfl ?_
  refine tl_p (pr_eq (v' := .int .i64 ((wB c + 0 : Nat) : Int)) (pr_quoN rfl rfl (by omega) (by omega) (by omega)) (by congr 1; unfold wB; omega)) rfl ?_
  refine tl_p (pr_assign rfl) rfl ?_
  refine tl_next ?_
  refine tc_block ?_
  refine tc_loopP (X := Nat) (fun j => j ≤ wN c) (fun j => [(2, ad b2 0), (3, ad b3 0), (5, .int .i64 (manyJ x.paint (wB c) j : Int)), (6, .int .i64 (j : Int)), (7, .int .i64 ((wB c + j : Nat) : Int))]) (fun j => [pt b2 (.cells (List.toArray (caseL q x)) 29 (0, 0)), pt b3 (capO c)]) (fun j => wN c - j) 0 (by omega) (.cons rfl (.cons rfl (.cons rfl (.cons rfl (.cons rfl .nil))))) (fun j hj => ?_)
  have hJ := hj
  have hml := manyJ_le x.paint (wB c) j
  have hwc := wCond hb1 hj
  refine tc_seq ?_
  refine tc_seq ?_
  refine tc_region ?_
  refine tl_p (pr_move rfl) rfl ?_
  refine tl_p (pr_mulN rfl rfl (by omega)) rfl ?_
  refine tl_p (pr_fieldAddr Tryz.fo27_2 rfl) rfl ?_
  refine tl_p (pr_ld Tryz.ag3 rfl) rfl ?_
  refine tl_p (pr_lss rfl rfl) rfl ?_
  refine tl_p (pr_move rfl) rfl ?_
  refine tl_gt rfl rfl (fun h => pr_move rfl) (by intro _ h; cases h) rfl ?_
  refine tl_gt rfl rfl (fun h => pr_lss (gv rfl h) rfl) (by intro _ h; cases h) rfl ?_
  refine tl_p (pr_and rfl rfl rfl) rfl ?_
  refine tl_next ?_
  refine tc_if rfl (fun hc1 => ?_) (fun hc1 => ?_)
  · have hd1 := hc1
    try simp only [Bool.not_eq_true', Bool.not_eq_false', Bool.or_eq_true, Bool.and_eq_true, Bool.or_eq_false_iff, Bool.and_eq_false_iff, decide_eq_true_eq, decide_eq_false_iff_not, Bool.not_true, Bool.not_false, gval, Bool.not_eq_eq_eq_not] at hc1
    have hjN : j < wN c := hwc.1 (by simpa using hd1)
    refine tc_skip (tq_next ?_)
    refine tc_seq ?_
    refine tc_block ?_
    refine tc_seq ?_
    refine tc_region ?_
    refine tl_p (pr_move rfl) rfl ?_
    refine tl_p (pr_addN rfl rfl (by omega)) rfl ?_
    refine tl_p (pr_assign rfl) rfl ?_
    refine tl_next ?_
    refine tc_seq ?_
    refine tc_region ?_
    refine tl_p (pr_assign rfl) rfl ?_
    refine tl_next ?_
    refine tc_block ?_
    refine tc_loopP (X := Nat) (fun i => i ≤ q.n4 ∧ ∀ k, k < i → x.paint.getD k 0 ≠ ((wB c + j : Nat) : Int)) (fun i => [(2, ad b2 0), (3, ad b3 0), (5, .int .i64 (manyJ x.paint (wB c) j : Int)), (6, .int .i64 ((j + 1 : Nat) : Int)), (7, .int .i64 ((wB c + j : Nat) : Int)), (8, .int .i64 (i : Int))]) (fun i => [pt b2 (.cells (List.toArray (caseL q x)) 29 (0, 0)), pt b3 (capO c)]) (fun i => q.n4 - i) 0 ⟨by omega, by omega⟩ (.cons rfl (.cons rfl (.cons rfl (.cons rfl (.cons rfl (.cons rfl .nil)))))) (fun i hj => ?_)
    have hi1 := hj.1
    have hi2 := hj.2
    refine tc_seq ?_
    refine tc_seq ?_
    refine tc_region ?_
    refine tl_p (pr_move rfl) rfl ?_
    refine tl_p (pr_fieldAddr Tryz.fo29_3 rfl) rfl ?_
    refine tl_p (pr_ld Tryz.ag25 rfl) rfl ?_
    refine tl_p (pr_lenS Tryz.sf25 rfl hq.h4) rfl ?_
    refine tl_p (pr_lss rfl rfl) rfl ?_
    refine tl_next ?_
    refine tc_if rfl (fun hc2 => ?_) (fun hc2 => ?_)
    · have hd2 := hc2
      try simp only [Bool.not_eq_true', Bool.not_eq_false', Bool.or_eq_true, Bool.and_eq_true, Bool.or_eq_false_iff, Bool.and_eq_false_iff, decide_eq_true_eq, decide_eq_false_iff_not, Bool.not_true, Bool.not_false, gval, Bool.not_eq_eq_eq_not] at hc2
      refine tc_skip (tq_next ?_)
      refine tc_seq ?_
      refine tc_block ?_
      refine tc_seq ?_
      refine tc_region ?_
      refine tl_p (pr_fieldAddr Tryz.fo29_3 rfl) rfl ?_
      refine tl_p (pr_ld Tryz.ag25 rfl) rfl ?_
      refine tl_p (pr_move rfl) rfl ?_
      refine tl_p (pr_ixE Tryz.sl25 rfl rfl (by omega) (by omega) hq.h4) rfl ?_
      refine tl_p (pr_ldE Tryz.ag3 rfl (c := ints x.paint) (v := .int .i64 (x.paint.getD i 0)) (by rw [← some_getD (l := x.paint) (by omega)]; exact map_at (by omega)) (hq.h4.isM (by omega)) (hrd _)) rfl ?_
      refine tl_p (pr_move rfl) rfl ?_
      refine tl_p (pr_eql rfl rfl) rfl ?_
      refine tl_next ?_
      refine tc_if rfl (fun hc3 => ?_) (fun hc3 => ?_)
      · have hd3 := hc3
        try simp only [Bool.not_eq_true', Bool.not_eq_false', Bool.or_eq_true, Bool.and_eq_true, Bool.or_eq_false_iff, Bool.and_eq_false_iff, decide_eq_true_eq, decide_eq_false_iff_not, Bool.not_true, Bool.not_false, gval, Bool.not_eq_eq_eq_not] at hc3
        refine tc_seq ?_
        refine tc_region ?_
        refine tl_p (pr_move rfl) rfl ?_
        refine tl_p (pr_addN rfl rfl (by omega)) rfl ?_
        refine tl_p (pr_assign rfl) rfl ?_
        refine tl_next ?_
        refine tc_exit (tq_blk_other rfl (tq_then_exit (tq_then_exit (tq_blk_here ?_))))
        refine tq_blk_normal (tq_next ?_)
        refine tc_region ?_
        refine tl_p (pr_move rfl) rfl ?_
        refine tl_p (pr_addN rfl rfl (by omega)) rfl ?_
        refine tl_p (pr_assign rfl) rfl ?_
        refine tl_nil ?_
        first
          | (have hs : manyJ x.paint (wB c) (j + 1) = manyJ x.paint (wB c) j + 1 := by rw [manyJ_succ, if_pos (by rw [← hc3, ← some_getD (l := x.paint) (by omega) 0]; exact List.getElem_mem _)]
             exact tq_roundP (j + 1) (by omega) (by omega) (.cons rfl (.cons rfl (.cons (by rw [hs]; rfl) (.cons rfl (.cons rfl .nil))))))
          | (have hs : manyJ x.paint (wB c) (j + 1) = manyJ x.paint (wB c) j := by rw [manyJ_succ, if_neg (fun hm => by obtain ⟨k, hk, e⟩ := List.getElem_of_mem hm; exact hi2 k (by omega) (by rw [← some_getD hk 0]; exact e))]; rfl
             exact tq_roundP (j + 1) (by omega) (by omega) (.cons rfl (.cons rfl (.cons (by rw [hs]; rfl) (.cons rfl (.cons rfl .nil))))))
      · have hd3 := hc3
        try simp only [Bool.not_eq_true', Bool.not_eq_false', Bool.or_eq_true, Bool.and_eq_true, Bool.or_eq_false_iff, Bool.and_eq_false_iff, decide_eq_true_eq, decide_eq_false_iff_not, Bool.not_true, Bool.not_false, gval, Bool.not_eq_eq_eq_not] at hc3
        refine tc_skip (tq_blk_normal (tq_next ?_))
        refine tc_region ?_
        refine tl_p (pr_move rfl) rfl ?_
        refine tl_p (pr_addN rfl rfl (by omega)) rfl ?_
        refine tl_p (pr_assign rfl) rfl ?_
        refine tl_nil ?_
        exact tq_roundP (i + 1) ⟨by omega, fun k hk => by by_cases e : k = i; (· subst e; exact hc3); (· exact hi2 k (by omega))⟩ (by omega) (.cons rfl (.cons rfl (.cons rfl (.cons rfl (.cons rfl (.cons rfl .nil))))))
    · have hd2 := hc2
      try simp only [Bool.not_eq_true', Bool.not_eq_false', Bool.or_eq_true, Bool.and_eq_true, Bool.or_eq_false_iff, Bool.and_eq_false_iff, decide_eq_true_eq, decide_eq_false_iff_not, Bool.not_true, Bool.not_false, gval, Bool.not_eq_eq_eq_not] at hc2
      refine tc_exit (tq_then_exit (tq_then_exit (tq_blk_here ?_)))
      refine tq_blk_normal (tq_next ?_)
      refine tc_region ?_
      refine tl_p (pr_move rfl) rfl ?_
      refine tl_p (pr_addN rfl rfl (by omega)) rfl ?_
      refine tl_p (pr_assign rfl) rfl ?_
      refine tl_nil ?_
      first
        | (have hs : manyJ x.paint (wB c) (j + 1) = manyJ x.paint (wB c) j + 1 := by rw [manyJ_succ, if_pos (by rw [← hc3, ← some_getD (l := x.paint) (by omega) 0]; exact List.getElem_mem _)]
           exact tq_roundP (j + 1) (by omega) (by omega) (.cons rfl (.cons rfl (.cons (by rw [hs]; rfl) (.cons rfl (.cons rfl .nil))))))
        | (have hs : manyJ x.paint (wB c) (j + 1) = manyJ x.paint (wB c) j := by rw [manyJ_succ, if_neg (fun hm => by obtain ⟨k, hk, e⟩ := List.getElem_of_mem hm; exact hi2 k (by omega) (by rw [← some_getD hk 0]; exact e))]; rfl
           exact tq_roundP (j + 1) (by omega) (by omega) (.cons rfl (.cons rfl (.cons (by rw [hs]; rfl) (.cons rfl (.cons rfl .nil))))))
  · have hd1 := hc1
    try simp only [Bool.not_eq_true', Bool.not_eq_false', Bool.or_eq_true, Bool.and_eq_true, Bool.or_eq_false_iff, Bool.and_eq_false_iff, decide_eq_true_eq, decide_eq_false_iff_not, Bool.not_true, Bool.not_false, gval, Bool.not_eq_eq_eq_not] at hc1
    refine tc_exit (tq_then_exit (tq_then_exit (tq_blk_here ?_)))
    refine tq_next ?_
    refine tc_seq ?_
    refine tc_region ?_
    refine tl_p (pr_move rfl) rfl ?_
    refine tl_p (pr_eql rfl rfl) rfl ?_
    refine tl_p (pr_move rfl) rfl ?_
    refine tl_gf rfl rfl (fun h => pr_move rfl) (by intro _ h; cases h) rfl ?_
    refine tl_gf rfl rfl (fun h => pr_move rfl) (by intro _ h; cases h) rfl ?_
    refine tl_gf rfl rfl (fun h => pr_eql (gv rfl h) (gv rfl h)) (by intro _ h; cases h) rfl ?_
    refine tl_p (pr_or rfl rfl rfl) rfl ?_
    refine tl_p (pr_assign rfl) rfl ?_
    refine tl_next ?_
    refine tc_ret ?_
    have e : j = wN c := by
      have h3 : ¬ (16 * ((wB c + j : Nat) : Int) < c.top ∧ ((wB c + j : Nat) : Int) < 64) := fun ⟨a, b⟩ => by rw [decide_eq_true a, decide_eq_true b] at hd1; cases hd1
      rw [hwc] at h3
      omega
    exact tq_retE1 .ret (.inl rfl) () rfl rfl (by unfold wholeC; rw [← e]; congr 1; rw [Bool.eq_iff_iff]; simp; omega)

end Go.Proofs

namespace Go.Proofs
open Go Go.Sz
attribute [local irreducible] pt lift exs own emp

/-! what stands in memory reads as what was stored -/
theorem bOr64 {x y k : Nat} (hy : y < 2 ^ k) (hs : x * 2 ^ k + y < 9223372036854775808) : bOr .i64 ((x * 2 ^ k : Nat) : Int) (y : Int) = ((x * 2 ^ k + y : Nat) : Int) := by
  have key : (BitVec.ofInt 64 ((x * 2 ^ k : Nat) : Int) ||| BitVec.ofInt 64 (y : Int)).toNat = x * 2 ^ k + y := by
    have q1 : (x * 2 ^ k) % 2 ^ 64 = x * 2 ^ k := Nat.mod_eq_of_lt (by omega)
    have q2 : y % 2 ^ 64 = y := Nat.mod_eq_of_lt (by omega)
    rw [BitVec.ofInt_natCast, BitVec.ofInt_natCast, BitVec.toNat_or, BitVec.toNat_ofNat, BitVec.toNat_ofNat, q1, q2, ← Nat.shiftLeft_eq, Nat.shiftLeft_add_eq_or_of_lt hy]
  unfold bOr
  show IntKind.i64.wrap (((BitVec.ofInt 64 ((x * 2 ^ k : Nat) : Int) ||| BitVec.ofInt 64 (y : Int)).toNat : Nat) : Int) = _
  rw [key]
  exact wrap_i64 (by omega)
theorem sh_of {a k : Nat} (hk : k ≤ 24) (ha : a ≤ 255) : sh (a : Int) (k : Int) = ((a * 2 ^ k : Nat) : Int) := by
  have h : a * 2 ^ k ≤ 255 * 2 ^ 24 := Nat.mul_le_mul ha (Nat.pow_le_pow_right (by omega) hk)
  unfold sh
  have w1 : IntKind.i64.wrap (a : Int) = a := wrap_i64 (by omega)
  rw [w1, show min (k : Int).toNat IntKind.i64.bits = k from by show min k 64 = k; omega]
  have e : (a : Int) * 2 ^ k = ((a * 2 ^ k : Nat) : Int) := by push_cast; rfl
  rw [e]; exact wrap_i64 (by omega)
theorem wordOf_nat {a b c d : Nat} (ha : a ≤ 255) (hb : b ≤ 255) (hc : c ≤ 255) (hd : d ≤ 255) : wordOf (a : Int) (b : Int) (c : Int) (d : Int) = ((((a * 256 + b) * 256 + c) * 256 + d : Nat) : Int) := by
  unfold wordOf
  have e1 := sh_of (k := 24) (by omega) ha
  have e2 := sh_of (k := 16) (by omega) hb
  have e3 := sh_of (k := 8) (by omega) hc
  rw [show ((24 : Nat) : Int) = 24 from rfl] at e1
  rw [show ((16 : Nat) : Int) = 16 from rfl] at e2
  rw [show ((8 : Nat) : Int) = 8 from rfl] at e3
  rw [e1, e2, e3, wrap_i64 (by omega)]
  rw [bOr64 (x := a) (k := 24) (y := b * 2 ^ 16) (by omega) (by omega)]
  rw [show a * 2 ^ 24 + b * 2 ^ 16 = (a * 256 + b) * 2 ^ 16 from by omega, bOr64 (x := a * 256 + b) (k := 16) (y := c * 2 ^ 8) (by omega) (by omega)]
  rw [show (a * 256 + b) * 2 ^ 16 + c * 2 ^ 8 = ((a * 256 + b) * 256 + c) * 2 ^ 8 from by omega, bOr64 (x := (a * 256 + b) * 256 + c) (k := 8) (y := d) (by omega) (by omega)]
theorem wordOf_int {a b c d : Int} (ha : 0 ≤ a ∧ a ≤ 255) (hb : 0 ≤ b ∧ b ≤ 255) (hc : 0 ≤ c ∧ c ≤ 255) (hd : 0 ≤ d ∧ d ≤ 255) : wordOf a b c d = ((a * 256 + b) * 256 + c) * 256 + d := by
  have := wordOf_nat (a := a.toNat) (b := b.toNat) (c := c.toNat) (d := d.toNat) (by omega) (by omega) (by omega) (by omega)
  rw [Int.toNat_of_nonneg ha.1, Int.toNat_of_nonneg hb.1, Int.toNat_of_nonneg hc.1, Int.toNat_of_nonneg hd.1] at this
  rw [this]; omega
theorem u8wr (x : Int) : IntKind.u8.wrap x = x % 256 := by unfold IntKind.wrap; simp [IntKind.bits, IntKind.signed]
theorem word4_eq {n : Int} (h : 0 ≤ n) : word4 n = [n / 16777216 % 256, n / 65536 % 256, n / 256 % 256, n % 256] := by
  have e (k : Int) (hk : 0 ≤ k) : n.fdiv k = n / k := Int.fdiv_eq_ediv_of_nonneg _ hk
  show [IntKind.u8.wrap (n.fdiv 16777216), IntKind.u8.wrap (n.fdiv 65536), IntKind.u8.wrap (n.fdiv 256), IntKind.u8.wrap n] = _
  rw [e _ (by omega), e _ (by omega), e _ (by omega)]
  simp only [u8wr]
theorem word_back {n : Int} (h : 0 ≤ n ∧ n ≤ 4294967295) : wordOf (n / 16777216 % 256) (n / 65536 % 256) (n / 256 % 256) (n % 256) = n := by
  rw [wordOf_int (by omega) (by omega) (by omega) (by omega)]; omega
theorem encCap_eq {c : Cap} (hp : 0 ≤ c.pos) (hb : 0 ≤ c.base) (ht : 0 ≤ c.top) : encCap c = [c.pos / 16777216 % 256, c.pos / 65536 % 256, c.pos / 256 % 256, c.pos % 256, c.base / 16777216 % 256, c.base / 65536 % 256, c.base / 256 % 256, c.base % 256, c.top / 16777216 % 256, c.top / 65536 % 256, c.top / 256 % 256, c.top % 256, 0, c.perms % 256, 0, c.typ % 256] := by
  unfold encCap words
  simp only [List.flatMap_cons, List.flatMap_nil, word4_eq hp, word4_eq hb, word4_eq ht, u8wr, List.append_nil]
  rfl
theorem span_ok {c : Cap} (h : capRight c = true) : (0 ≤ c.base ∧ c.base ≤ 4294967295) ∧ (0 ≤ c.top ∧ c.top ≤ 4294967295) ∧ (0 ≤ c.pos ∧ c.pos ≤ 4294967295) ∧ (0 ≤ c.typ ∧ c.typ ≤ 255) := by
  unfold capRight spanRight at h
  simp at h
  omega
theorem encRaw_back {c : Cap} (h : capRight c = true) (t : Bool) : encRaw (encCap c) t = ⟨t, c.base, c.top, c.pos, bAnd .i64 (c.perms % 256) 127, c.typ⟩ := by
  obtain ⟨hb, ht, hp, hy⟩ := span_ok h
  rw [encCap_eq hp.1 hb.1 ht.1]
  unfold encRaw wordAt
  show (⟨t, wordOf (c.base / 16777216 % 256) (c.base / 65536 % 256) (c.base / 256 % 256) (c.base % 256), wordOf (c.top / 16777216 % 256) (c.top / 65536 % 256) (c.top / 256 % 256) (c.top % 256), wordOf (c.pos / 16777216 % 256) (c.pos / 65536 % 256) (c.pos / 256 % 256) (c.pos % 256), bAnd .i64 (IntKind.i64.wrap (c.perms % 256)) 127, IntKind.i64.wrap (c.typ % 256)⟩ : Cap) = _
  have w1 : IntKind.i64.wrap (c.perms % 256) = c.perms % 256 := wrap_i64 (by omega)
  have w2 : IntKind.i64.wrap (c.typ % 256) = c.typ % 256 := wrap_i64 (by omega)
  rw [word_back hb, word_back ht, word_back hp, w1, w2, Int.emod_eq_of_lt hy.1 (by omega)]
theorem bAnd127 {p : Int} (h : 0 ≤ p ∧ p ≤ 127) : bAnd .i64 (p % 256) 127 = p := by
  obtain ⟨n, rfl⟩ : ∃ n : Nat, p = n := ⟨p.toNat, by omega⟩
  have : ∀ q : Fin 128, bAnd .i64 ((q.val : Int) % 256) 127 = (q.val : Int) := by decide +kernel
  exact this ⟨n, by omega⟩
theorem encGet_tag {l : List Int} {t : Bool} (h : (encGet l t).tag = true) : t = true ∧ capRight (encGet l t) = true := by
  unfold encGet at h ⊢
  have h2 : (t && plainG l && capRight (encRaw l true)) = true := h
  rw [h2]
  simp at h2
  exact ⟨h2.1.1, h2.2⟩
theorem enc_span {c : Cap} (h : capRight c = true) : (encGet (encCap c) c.tag).base = c.base ∧ (encGet (encCap c) c.tag).top = c.top := by
  unfold encGet
  rw [encRaw_back h]; exact ⟨rfl, rfl⟩
theorem enc_back {c : Cap} (h : capRight c = true) (hp : 0 ≤ c.perms ∧ c.perms ≤ 127) : encGet (encCap c) c.tag = c := by
  unfold encGet
  have e : ∀ t, encRaw (encCap c) t = ⟨t, c.base, c.top, c.pos, c.perms, c.typ⟩ := fun t => by rw [encRaw_back h, bAnd127 hp]
  rw [e, e]
  cases ht : c.tag with
  | false => rw [Bool.false_and, Bool.false_and]; cases c; simp_all
  | true =>
    have hc : (⟨true, c.base, c.top, c.pos, c.perms, c.typ⟩ : Cap) = c := by cases c; simp_all
    obtain ⟨hb, htp, hps, hy⟩ := span_ok h
    have hpl : plainG (encCap c) = true := by
      rw [encCap_eq hps.1 hb.1 htp.1]
      show (decide (bOr .u8 0 0 = 0) && decide (c.perms % 256 ≤ 127)) = true
      simp only [Bool.and_eq_true, decide_eq_true_eq]
      exact ⟨by decide +kernel, by omega⟩
    rw [hc, h, hpl]; exact hc

end Go.Proofs

namespace Go.Proofs
open Go Go.Sz
attribute [local irreducible] pt lift exs own emp

/-! what a step keeps of all capabilities: what it makes is made of what there was -/
theorem bs_same {m m' : MemM} {a k : Nat} (h : ∀ q, q < k → m'.B (a + q) = m.B (a + q)) : m'.bs a k = m.bs a k := by
  unfold MemM.bs
  apply List.map_congr_left
  intro q hq
  exact h q (List.mem_range.1 hq)
theorem memSto_cap (m : MemM) (a : Int) (bs : List Int) (p : Int) : (memCap (memSto m a bs) p).1.tag = false ∨ (memCap (memSto m a bs) p).1 = (memCap m p).1 := by
  unfold memSto
  split
  · rename_i hi
    unfold memCap
    rw [show gran (m.sto a.toNat bs) p = gran m p from rfl]
    split
    · rename_i hg
      have hg2 := gran_iff.1 hg
      by_cases ov : 0 < bs.length ∧ a.toNat ≤ 16 * (p / 16).toNat + 15 ∧ 16 * (p / 16).toNat < a.toNat + bs.length
      · left
        show (encGet _ (if _ then false else _)).tag = false
        rw [if_pos ov]; rfl
      · right
        have e1 : (m.sto a.toNat bs).T (p / 16).toNat = m.T (p / 16).toNat := if_neg ov
        have e2 : (m.sto a.toNat bs).bs p.toNat 16 = m.bs p.toNat 16 := bs_same fun q hq => if_neg (by omega)
        rw [e1, e2]
    · exact .inr rfl
  · exact .inr rfl
theorem putB_bs {m : MemM} {a : Nat} {l : List Int} : (m.putB a l).bs a l.length = l := by
  apply List.ext_getElem
  · simp [MemM.bs]
  · intro i h1 h2
    have h3 : i < l.length := h2
    simp [MemM.bs, MemM.putB, h3, List.getD]
theorem memPutC_cap (m : MemM) (p : Int) (c : Cap) (q : Int) : (memCap (memPutC m p c) q).1 = (memCap m q).1 ∨ (capRight c = true ∧ (memCap (memPutC m p c) q).1 = encGet (encCap c) c.tag) := by
  unfold memPutC
  split
  · rename_i hi
    rw [Bool.and_eq_true] at hi
    have hp := gran_iff.1 hi.1
    unfold memCap
    rw [show gran (((m.putB p.toNat (encCap c)).putT (p / 16).toNat c.tag).putD (p / 256).toNat (m.D (p / 256).toNat || c.tag)) q = gran m q from rfl]
    split
    · rename_i hg
      have hq := gran_iff.1 hg
      by_cases e : q = p
      · subst e
        right
        refine ⟨hi.2, ?_⟩
        have e1 : (((m.putB q.toNat (encCap c)).putT (q / 16).toNat c.tag).putD (q / 256).toNat (m.D (q / 256).toNat || c.tag)).T (q / 16).toNat = c.tag := if_pos rfl
        have e2 : (((m.putB q.toNat (encCap c)).putT (q / 16).toNat c.tag).putD (q / 256).toNat (m.D (q / 256).toNat || c.tag)).bs q.toNat 16 = encCap c := putB_bs (m := m) (l := encCap c)
        rw [e1, e2]
      · left
        have e1 : (((m.putB p.toNat (encCap c)).putT (p / 16).toNat c.tag).putD (p / 256).toNat (m.D (p / 256).toNat || c.tag)).T (q / 16).toNat = m.T (q / 16).toNat := if_neg (by omega)
        have e2 : (((m.putB p.toNat (encCap c)).putT (p / 16).toNat c.tag).putD (p / 256).toNat (m.D (p / 256).toNat || c.tag)).bs q.toNat 16 = m.bs q.toNat 16 := bs_same fun k hk => if_neg (by rw [encCap_len]; omega)
        rw [e1, e2]
    · exact .inl rfl
  · exact .inl rfl
structure Keeps (P Q : Cap → Prop) (W : List Int) (g : Nat) : Prop where
  no : ∀ c, c.tag = false → P c
  ast : ∀ c n, P c → P (astep c n).1
  mv : ∀ c n, P c → P (dMove c n).1
  bd : ∀ c n, P c → P (dBounds c n).1
  pm : ∀ c n, P c → P (dPerms c n).1
  en : ∀ c, P c → P (dEnter c).1
  se : ∀ c y, P c → P y → P (dSeal c y).1
  un : ∀ c y, P c → P y → P (dUnseal c y).1
  bar : ∀ c, Q c → P (barr W g c)
  mem : ∀ c, capRight c = true → P c → Q (encGet (encCap c) c.tag)
  noq : ∀ c, c.tag = false → Q c
structure AllP (P Q : Cap → Prop) (pos : Cap) (regs : List Cap) (fs : List Fr) (m : MemM) : Prop where
  pos : P pos
  regs : ∀ c ∈ regs, P c
  fs : ∀ f ∈ fs, ∀ c ∈ f.caps, P c
  mem : ∀ p, Q (memCap m p).1
section
variable {P Q : Cap → Prop} {W : List Int} {g : Nat} {pos : Cap} {regs : List Cap} {fs : List Fr} {m : MemM} {x : Ins}
theorem Keeps.getD (K : Keeps P Q W g) {l : List Cap} (h : ∀ c ∈ l, P c) (i : Nat) : P (l.getD i nullC) := by
  by_cases hi : i < l.length
  · rw [← some_getD hi]; exact h _ (List.getElem_mem hi)
  · rw [List.getD_eq_getElem?_getD, List.getElem?_eq_none (by omega)]; exact K.no _ rfl
theorem Keeps.getR (K : Keeps P Q W g) {l : List Cap} (h : ∀ c ∈ l, P c) (r : Int) : P (getR l r) := by
  unfold Go.Proofs.getR
  split
  · exact K.getD h _
  · exact K.no _ rfl
theorem set_mem {l : List Cap} {i : Nat} {c y : Cap} (h : y ∈ l.set i c) : y ∈ l ∨ y = c := List.mem_or_eq_of_mem_set h
theorem setR_keeps {l : List Cap} (h : ∀ c ∈ l, P c) {r : Int} {c : Cap} (hc : P c) : ∀ y ∈ setR l r c, P y := by
  intro y hy
  unfold setR at hy
  split at hy
  · rcases set_mem hy with h1 | rfl
    · exact h _ h1
    · exact hc
  · exact h _ hy
theorem setE_keeps {l : List Cap} (h : ∀ c ∈ l, P c) {r e : Int} {c : Cap} (hc : P c) : ∀ y ∈ setE l r c e, P y := by
  unfold setE
  split
  · exact setR_keeps h hc
  · exact h
theorem lastF_keeps (K : Keeps P Q W g) (h : ∀ f ∈ fs, ∀ c ∈ f.caps, P c) : ∀ c ∈ (lastF fs).caps, P c := by
  by_cases hi : fs.length - 1 < fs.length
  · intro c hc
    unfold lastF at hc
    rw [← some_getD hi] at hc
    exact h _ (List.getElem_mem hi) _ hc
  · have e : lastF fs = nullF := by unfold lastF; rw [List.getD_eq_getElem?_getD, List.getElem?_eq_none (by omega)]; rfl
    rw [e]
    intro c hc
    have : c = nullC := by simpa [Fr.caps] using hc
    subst this; exact K.no _ rfl
theorem exD_keeps (K : Keeps P Q W g) (hr : ∀ c ∈ regs, P c) : P (exD x regs).1 := by
  have h := fun r => K.getR hr r
  unfold exD
  split
  · exact K.mv _ _ (h _)
  · split
    · exact K.bd _ _ (h _)
    · split
      · exact K.pm _ _ (h _)
      · split
        · exact K.se _ _ (h _) (h _)
        · split
          · exact K.un _ _ (h _) (h _)
          · exact K.en _ (h _)
theorem exC_keeps (K : Keeps P Q W g) (hr : ∀ c ∈ regs, P c) : P (exC x regs) := by
  unfold exC
  repeat' split
  all_goals first | exact K.getR hr _ | exact K.no _ rfl
theorem exR_keeps {nx : Cap} (K : Keeps P Q W g) (A : AllP P Q pos regs fs m) (i : Nat) (c : Cap) (hc : (exR x nx pos regs fs m W g)[i]? = some c) : (x.op = 23 ∧ i = 7 ∧ caO regs x fs nx = true ∧ c = { caB regs x with typ := 0 }) ∨ P c := by
  have hr := A.regs
  have key : (∀ y ∈ exR x nx pos regs fs m W g, P y) → P c := fun h => h c (List.mem_of_getElem? hc)
  unfold exR at hc key
  by_cases h1 : x.op = 9 ∨ x.op = 10
  · rw [if_pos h1] at key; exact .inr (key hr)
  rw [if_neg h1] at hc key
  by_cases h2 : x.op = 11 ∨ x.op = 13
  · rw [if_pos h2] at key
    refine .inr (key ?_)
    unfold ldR
    split
    · exact setE_keeps hr (K.no _ rfl)
    · exact hr
  rw [if_neg h2] at hc key
  by_cases h3 : x.op = 12 ∨ x.op = 14 ∨ x.op = 16
  · rw [if_pos h3] at key; exact .inr (key hr)
  rw [if_neg h3] at hc key
  by_cases h4 : x.op = 15
  · rw [if_pos h4] at key
    refine .inr (key ?_)
    unfold lcR
    split
    · exact setE_keeps hr (K.bar _ (A.mem _))
    · exact hr
  rw [if_neg h4] at hc key
  by_cases h5 : 17 ≤ x.op ∧ x.op ≤ 22
  · rw [if_pos h5] at key; exact .inr (key (setE_keeps hr (exD_keeps K hr)))
  rw [if_neg h5] at hc key
  by_cases h6 : x.op = 23
  · rw [if_pos h6] at hc key
    unfold caR at hc key
    split at hc
    · rename_i ho
      have hcl : ∀ y ∈ clearR regs 4 7, P y := by
        intro y hy
        unfold clearR at hy
        rcases List.mem_append.1 hy with h | h
        · rcases List.mem_append.1 h with h | h
          · exact hr _ (List.mem_of_mem_take h)
          · rw [List.eq_of_mem_replicate h]; exact K.no _ rfl
        · exact hr _ (List.mem_of_mem_drop h)
      unfold setR at hc
      split at hc
      · rw [List.getElem?_set] at hc
        split at hc
        · rename_i h7
          split at hc
          · exact .inl ⟨h6, h7.symm, ho, (Option.some.inj hc).symm⟩
          · cases hc
        · exact .inr (hcl _ (List.mem_of_getElem? hc))
      · exact .inr (hcl _ (List.mem_of_getElem? hc))
    · exact .inr (hr _ (List.mem_of_getElem? hc))
  rw [if_neg h6] at hc key
  by_cases h7 : x.op = 24
  · rw [if_pos h7] at key
    refine .inr (key ?_)
    unfold reR
    split
    · exact hr
    · intro y hy
      unfold putRegs at hy
      split at hy
      · rcases List.mem_append.1 hy with h | h
        · exact hr _ (List.mem_of_mem_take h)
        · exact lastF_keeps K A.fs _ (.tail _ h)
      · exact hr _ hy
  rw [if_neg h7] at key
  exact .inr (key (setE_keeps hr (exC_keeps K hr)))
theorem exN_keeps {nx : Cap} (K : Keeps P Q W g) (A : AllP P Q pos regs fs m) (hn : P nx) : (x.op = 23 ∧ caO regs x fs nx = true ∧ exN x nx pos regs fs = { getR regs x.a with typ := 0 }) ∨ P (exN x nx pos regs fs) := by
  have hj : P (jmpN pos x nx) := by
    unfold jmpN
    split
    · exact K.ast _ _ A.pos
    · exact hn
  unfold exN
  split
  · exact .inr hj
  · split
    · right; unfold jzN; split
      · exact hj
      · exact hn
    · split
      · rename_i h23
        unfold caN
        split
        · rename_i ho; exact .inl ⟨h23, ho, rfl⟩
        · exact .inr hn
      · split
        · right; unfold reN; split
          · exact hn
          · exact lastF_keeps K A.fs _ (.head _)
        · exact .inr hn
theorem exF_keeps {nx : Cap} (K : Keeps P Q W g) (A : AllP P Q pos regs fs m) (hn : P nx) : ∀ f ∈ exF x nx regs fs, ∀ c ∈ f.caps, P c := by
  unfold exF
  split
  · unfold caF
    split
    · intro f hf
      unfold pushF at hf
      split at hf
      · rcases List.mem_append.1 hf with h | h
        · exact A.fs _ h
        · have e := List.mem_singleton.1 h
          subst e
          intro c hc
          simp only [Fr.caps, List.mem_cons, List.not_mem_nil, or_false] at hc
          rcases hc with rfl | rfl | rfl | rfl | rfl
          · exact hn
          all_goals exact K.getR A.regs _
      · exact A.fs _ hf
    · exact A.fs
  · split
    · intro f hf; rw [List.dropLast_eq_take] at hf; exact A.fs _ (List.mem_of_mem_take hf)
    · exact A.fs
theorem exM_keeps (K : Keeps P Q W g) (A : AllP P Q pos regs fs m) (p : Int) : Q (memCap (exM x regs m) p).1 := by
  unfold exM
  split
  · unfold stM
    split
    · rcases memSto_cap m (stP regs x).1 (stB regs x) p with h | h
      · exact K.noq _ h
      · rw [h]; exact A.mem p
    · exact A.mem p
  · split
    · unfold scM
      split
      · rcases memPutC_cap m (scP regs x).1 (getR regs x.a) p with h | ⟨h1, h⟩
        · rw [h]; exact A.mem p
        · rw [h]; exact K.mem _ h1 (K.getR A.regs _)
      · exact A.mem p
    · exact A.mem p
end

end Go.Proofs

namespace Go.Proofs
open Go Go.Sz
attribute [local irreducible] pt lift exs own emp

section
variable {P Q : Cap → Prop} {W : List Int} {g : Nat} {pos : Cap} {regs : List Cap} {fs : List Fr} {m : MemM}
theorem caO_enters {x : Ins} {nx : Cap} (h : caO regs x fs nx = true) : enters (getR regs x.a) (getR regs x.b) = 0 := by
  unfold caO at h
  have h2 : caE regs x fs nx = 0 := by simpa using h
  unfold caE at h2
  split at h2
  · assumption
  · exact h2
theorem step_keeps (K : Keeps P Q W g) (hcall : ∀ a b, P a → P b → enters a b = 0 → P { a with typ := 0 } ∧ (a.typ ≠ 1 → P { b with typ := 0 })) (A : AllP P Q pos regs fs m) :
    AllP P Q (stepF pos regs fs m W g).pos (stepF pos regs fs m W g).regs (stepF pos regs fs m W g).fs (stepF pos regs fs m W g).m := by
  have hn := K.ast pos 4 A.pos
  have hrg : ∀ y, y ∈ exR (insP pos m).1 (astep pos 4).1 pos regs fs m W g → P y := by
    intro y hy
    obtain ⟨i, hi, he⟩ := List.getElem_of_mem hy
    rcases exR_keeps K A i y (by rw [List.getElem?_eq_getElem hi, he]) with ⟨_, _, ho, rfl⟩ | h
    · have hc := hcall _ _ (K.getR A.regs _) (K.getR A.regs _) (caO_enters ho)
      unfold caB
      split
      · exact K.no _ rfl
      · exact hc.2 (by assumption)
    · exact h
  have hps : P (exN (insP pos m).1 (astep pos 4).1 pos regs fs) := by
    rcases exN_keeps (x := (insP pos m).1) K A hn with ⟨_, ho, e⟩ | h
    · rw [e]; exact (hcall _ _ (K.getR A.regs _) (K.getR A.regs _) (caO_enters ho)).1
    · exact h
  unfold stepF
  split
  · exact A
  · split
    · exact A
    · split
      · exact ⟨hn, A.regs, A.fs, A.mem⟩
      · split
        · split
          · have hq : ∀ y ∈ setE regs (insP pos m).1.a (intC (aluDo (insP pos m).1.op (getR regs (insP pos m).1.b).pos (getR regs (insP pos m).1.c).pos).1) 0, P y := setE_keeps A.regs (K.no _ rfl)
            exact ⟨hn, hq, A.fs, A.mem⟩
          · exact A
        · split
          · exact ⟨hps, hrg, exF_keeps K A hn, exM_keeps K A⟩
          · exact ⟨A.pos, hrg, exF_keeps K A hn, exM_keeps K A⟩
end
/-! what is painted -/
def NotP (W : List Int) (c : Cap) : Prop := c.tag = true → c.base ≤ 4294967295 ∧ (c.base < c.top → ∀ i : Int, c.base ≤ 16 * i + 15 → 16 * i < c.top → painted W 64 i = false)
def WholeP (W : List Int) (c : Cap) : Prop := c.tag = true → (0 ≤ c.base ∧ c.base ≤ 4294967295) ∧ (c.base < c.top → (∀ i : Int, c.base ≤ 16 * i + 15 → 16 * i < c.top → painted W 64 i = false) ∨ painted W 64 (c.base / 16) = true)
theorem NotP.part {W : List Int} {a b : Cap} (h : NotP W a) (k : b.tag = true → a.tag = true ∧ a.base ≤ b.base ∧ b.top ≤ a.top ∧ b.base ≤ max a.base 4294967295) : NotP W b := by
  intro ht
  obtain ⟨k1, k2, k3, k4⟩ := k ht
  obtain ⟨h3, h4⟩ := h k1
  exact ⟨by omega, fun hb i h1 h2 => h4 (by omega) i (by omega) (by omega)⟩
theorem made_part {W : List Int} {c c' : Cap} {l : List Must} (h : NotP W c) (k : mfirst l = 0 → c'.tag = true → c.tag = true ∧ c.base ≤ c'.base ∧ c'.top ≤ c.top ∧ c'.base ≤ max c.base 4294967295) : NotP W (made c c' l).1 := by
  unfold made
  split
  · rename_i e; exact h.part (k e)
  · intro ht; cases ht
theorem mfirst_all {l : List Must} (h : mfirst l = 0) (hz : ∀ m ∈ l, m.2 ≠ 0) : ∀ m ∈ l, m.1 = true := by
  induction l with
  | nil => intro m hm; cases hm
  | cons a l ih =>
    unfold mfirst at h
    split at h
    · intro m hm
      rcases List.mem_cons.1 hm with rfl | hm
      · assumption
      · exact ih h (fun m hm => hz m (.tail _ hm)) m hm
    · exact absurd h (hz a (.head _))
theorem notP_keeps (W : List Int) : Keeps (NotP W) (WholeP W) W 64 where
  no := fun c h ht => by rw [h] at ht; cases ht
  ast := fun c n h => by
    unfold astep
    split
    · exact h.part fun ht => ⟨ht, Int.le_refl _, Int.le_refl _, Int.le_max_left _ _⟩
    · intro ht; cases ht
  mv := fun c n h => made_part h fun _ ht => ⟨ht, Int.le_refl _, Int.le_refl _, Int.le_max_left _ _⟩
  pm := fun c n h => made_part h fun _ ht => ⟨ht, Int.le_refl _, Int.le_refl _, Int.le_max_left _ _⟩
  en := fun c h => made_part h fun _ ht => ⟨ht, Int.le_refl _, Int.le_refl _, Int.le_max_left _ _⟩
  se := fun c y h _ => made_part h fun _ ht => ⟨ht, Int.le_refl _, Int.le_refl _, Int.le_max_left _ _⟩
  un := fun c y h _ => made_part h fun _ ht => ⟨ht, Int.le_refl _, Int.le_refl _, Int.le_max_left _ _⟩
  bd := fun c n h => made_part h fun e ht => by
    have hall := mfirst_all e (by intro m hm; simp only [mUsed, mRight, mTag, mSealed, mSpans, List.mem_append, List.mem_cons, List.not_mem_nil, or_false] at hm; rcases hm with (rfl | rfl | rfl) | rfl <;> simp)
    have h1 : capRight c = true := hall (mRight c) (by simp [mUsed])
    have h2 : capIn c c.pos n = true := hall (mSpans c n) (by simp)
    have hs := span_ok h1
    refine ⟨ht, ?_⟩
    unfold capIn at h2
    simp only [Bool.and_eq_true, decide_eq_true_eq] at h2
    obtain ⟨⟨⟨⟨h3, h4⟩, h5⟩, h6⟩, h7⟩ := h2
    have w1 : IntKind.i64.wrap (c.top - c.pos) = c.top - c.pos := wrap_i64 (by omega)
    rw [w1] at h7
    have w2 : wI (c.pos + n) = c.pos + n := wrap_i64 (by omega)
    exact ⟨h5, by show wI (c.pos + n) ≤ c.top; rw [w2]; omega, by show c.pos ≤ _; omega⟩
  bar := fun c h ht => by
    have ht1 : c.tag = true ∧ shHits W 64 c = false := by
      have : (c.tag && !shHits W 64 c) = true := ht
      simpa using this
    obtain ⟨⟨k1, k0⟩, k2⟩ := h ht1.1
    refine ⟨k0, fun hb i h1 h2 => ?_⟩
    rcases k2 hb with k | k
    · exact k i h1 h2
    · have hx := ht1.2
      unfold shHits shIs at hx
      rw [ht1.1, decide_eq_true (show c.base < c.top from hb), decide_eq_true k1, k] at hx
      cases hx
  mem := fun c hc h ht => by
    obtain ⟨e1, e2⟩ := enc_span hc
    have ht2 := (encGet_tag ht).1
    have hs := span_ok hc
    rw [e1, e2]
    exact ⟨hs.1, fun hb => .inl ((h ht2).2 hb)⟩
  noq := fun c h ht => by rw [h] at ht; cases ht
theorem notP_call (W : List Int) (a b : Cap) (ha : NotP W a) (hb : NotP W b) (_ : enters a b = 0) : NotP W { a with typ := 0 } ∧ (a.typ ≠ 1 → NotP W { b with typ := 0 }) :=
  ⟨ha.part fun ht => ⟨ht, Int.le_refl _, Int.le_refl _, Int.le_max_left _ _⟩, fun _ => hb.part fun ht => ⟨ht, Int.le_refl _, Int.le_refl _, Int.le_max_left _ _⟩⟩
theorem notP_barr {W : List Int} {c : Cap} (h : NotP W c) : barr W 64 c = c := by
  have e : (c.tag && !shHits W 64 c) = c.tag := by
    cases ht : c.tag with
    | false => rfl
    | true =>
      by_cases hb : c.base < c.top
      · have hp := (h ht).2 hb (c.base / 16) (by omega) (by omega)
        unfold shHits shIs
        rw [hp]; simp
      · unfold shHits
        rw [decide_eq_false hb]; simp
  unfold barr
  rw [e]

end Go.Proofs

namespace Go.Proofs
open Go Go.Sz
attribute [local irreducible] pt lift exs own emp

/-! which granules a beginning paints -/
theorem wrapU64 {n : Nat} (h : n < 2 ^ 64) : IntKind.u64.wrap (n : Int) = n := by
  have e : IntKind.u64.wrap (n : Int) = (n : Int) % 18446744073709551616 := by unfold IntKind.wrap; simp [IntKind.bits, IntKind.signed]
  rw [e, Int.emod_eq_of_lt (by omega) (by omega)]
theorem bOrU (X Y : BitVec 64) : bOr .u64 (X.toNat : Int) (Y.toNat : Int) = ((X ||| Y).toNat : Int) := by
  unfold bOr
  show IntKind.u64.wrap (((BitVec.ofInt 64 (X.toNat : Int) ||| BitVec.ofInt 64 (Y.toNat : Int)).toNat : Nat) : Int) = _
  rw [BitVec.ofInt_natCast, BitVec.ofInt_natCast, BitVec.ofNat_toNat, BitVec.ofNat_toNat, BitVec.setWidth_eq, BitVec.setWidth_eq]
  exact wrapU64 (BitVec.isLt _)
theorem bAnd1 {n : Nat} (h : n < 2 ^ 64) : bAnd .u64 (n : Int) 1 = ((n % 2 : Nat) : Int) := by
  unfold bAnd
  show IntKind.u64.wrap (((BitVec.ofInt 64 (n : Int) &&& BitVec.ofInt 64 1).toNat : Nat) : Int) = _
  have e : (BitVec.ofInt 64 (n : Int) &&& BitVec.ofInt 64 1).toNat = n % 2 := by
    rw [show (BitVec.ofInt 64 1) = BitVec.ofNat 64 1 from by decide, BitVec.ofInt_natCast, BitVec.toNat_and, BitVec.toNat_ofNat, BitVec.toNat_ofNat, Nat.mod_eq_of_lt h]
    exact Nat.and_one_is_mod n
  rw [e]
  exact wrapU64 (by omega)
theorem bit_of (X : BitVec 64) {i : Nat} (hi : i < 64) : bitAt [(X.toNat : Int)] i = X.getLsbD i := by
  unfold bitAt
  rw [show i / 64 = 0 from by omega, show min ((i : Int) % 64).toNat IntKind.u64.bits = i from by show min ((i : Int) % 64).toNat 64 = i; omega]
  show decide (bAnd .u64 (((X.toNat : Nat) : Int).fdiv (2 ^ i)) 1 = 1) = _
  rw [Int.fdiv_eq_ediv_of_nonneg _ (Int.le_of_lt (Int.pow_pos (by omega)))]
  have e : ((X.toNat : Nat) : Int) / 2 ^ i = ((X.toNat / 2 ^ i : Nat) : Int) := by push_cast; rfl
  rw [e, bAnd1 (Nat.lt_of_le_of_lt (Nat.div_le_self _ _) X.isLt)]
  unfold BitVec.getLsbD
  rw [Nat.testBit_eq_decide_div_mod_eq]
  congr 1
  apply propext
  constructor <;> intro h <;> omega
theorem bitW_eq {k : Nat} (hk : k < 64) : bitW k = ((BitVec.ofNat 64 (2 ^ k)).toNat : Int) := by
  unfold bitW
  rw [show min ((k : Int) % 64).toNat IntKind.u64.bits = k from by show min ((k : Int) % 64).toNat 64 = k; omega, BitVec.toNat_ofNat]
  have h : 2 ^ k < 2 ^ 64 := Nat.pow_lt_pow_right (by omega) hk
  rw [Nat.mod_eq_of_lt h, Int.one_mul]
  have e : (2 : Int) ^ k = ((2 ^ k : Nat) : Int) := by push_cast; rfl
  rw [e]
  exact wrapU64 h
theorem made_bits {x : CaseM} (hg : greatC x = false) {j : Nat} (hj : j ≤ x.paint.length) : ∃ X : BitVec 64, madeWJ x j = [(X.toNat : Int)] ∧ ∀ i, i < 64 → X.getLsbD i = decide ((i : Int) ∈ x.paint.take j) := by
  induction j with
  | zero => exact ⟨0, rfl, fun i hi => by simp⟩
  | succ j ih =>
    obtain ⟨X, e, hX⟩ := ih (by omega)
    have hp := (great_no hg).2.2.2.2 _ (List.getElem_mem (l := x.paint) (show j < x.paint.length by omega))
    rw [some_getD (l := x.paint) (by omega) 0] at hp
    obtain ⟨k, hk⟩ : ∃ k : Nat, (k : Int) = x.paint.getD j 0 := ⟨(x.paint.getD j 0).toNat, by omega⟩
    have hk2 : k < 64 := by omega
    have e2 : madeWJ x (j + 1) = orW [(X.toNat : Int)] k := by
      rw [madeWJ_succ, e, ← hk]
      unfold paintP
      have hok : paintOk 64 (16 * (k : Int)) (16 * (k : Int) + 16) = true := by
        unfold paintOk
        rw [Int.tmod_eq_emod_of_nonneg (by omega), Int.tmod_eq_emod_of_nonneg (by omega)]
        simp; omega
      rw [if_pos hok, show (16 * (k : Int) / 16).toNat = k from by omega, show ((16 * (k : Int) + 16) / 16).toNat = k + 1 from by omega, paintN_succ _ _ (Nat.le_refl _), paintN_nil]
      rfl
    refine ⟨X ||| BitVec.ofNat 64 (2 ^ k), ?_, fun i hi => ?_⟩
    · rw [e2]
      unfold orW
      rw [show k / 64 = 0 from by omega, bitW_eq hk2]
      show [bOr .u64 (X.toNat : Int) _] = _
      rw [bOrU]
    · rw [BitVec.getLsbD_or, hX i hi, List.take_succ_eq_append_getElem (by omega), some_getD (l := x.paint) (by omega) 0, ← hk]
      have e3 : (BitVec.ofNat 64 (2 ^ k)).getLsbD i = decide ((i : Int) = (k : Int)) := by
        rw [BitVec.getLsbD_ofNat, Nat.testBit_two_pow]
        simp [hi]
        omega
      rw [e3]
      simp only [List.mem_append, List.mem_singleton, Bool.decide_or]
theorem made_painted {x : CaseM} (hg : greatC x = false) {i : Int} (h0 : 0 ≤ i) : painted (madeW x) 64 i = (decide (i < 64) && decide (i ∈ x.paint)) := by
  obtain ⟨X, e, hX⟩ := made_bits hg (Nat.le_refl _)
  unfold painted
  by_cases h : i < 64
  · rw [show decide (i < ((64 : Nat) : Int)) = true from decide_eq_true (by omega), decide_eq_true h, Bool.true_and, Bool.true_and]
    show bitAt (madeWJ x x.paint.length) i.toNat = _
    rw [e, bit_of X (by omega), hX _ (by omega), List.take_length, Int.toNat_of_nonneg h0]
  · rw [show decide (i < ((64 : Nat) : Int)) = false from decide_eq_false (by omega), decide_eq_false h]; rfl

end Go.Proofs

namespace Go.Proofs
open Go Go.Sz
attribute [local irreducible] pt lift exs own emp

/-! where StepPainted starts -/
theorem barr_right {W : List Int} {g : Nat} {c : Cap} (h : capRight c = true) : capRight (barr W g c) = true := by
  unfold capRight at *
  rw [Bool.and_eq_true] at h ⊢
  refine ⟨h.1, ?_⟩
  show (!(c.tag && !shHits W g c) || spanHas 0 16777216 c.base c.top) = true
  have h2 := h.2
  cases ht : c.tag
  · rfl
  · rw [ht] at h2
    have h3 : spanHas 0 16777216 c.base c.top = true := by simpa using h2
    rw [h3, Bool.or_true]
theorem posC_right (x : CaseM) : capRight (posC x) = true := by
  unfold posC
  split
  · rename_i h
    rw [Bool.and_eq_true] at h
    have hi : CapI x.pos := by
      have h1 := h.1
      unfold refRight refAddr refPerm at h1
      simp at h1
      refine ⟨⟨?_, ?_⟩, ⟨?_, ?_⟩, ⟨?_, ?_⟩, ⟨?_, ?_⟩, ⟨?_, ?_⟩⟩ <;> omega
    rw [← ref_right hi]; exact h.1
  · decide +kernel
def posB (x : CaseM) : Cap := barr (madeW x) 64 (posC x)
def regsB (x : CaseM) : List Cap := (madeR x).map (barr (madeW x) 64)
theorem regsB_len (x : CaseM) : (regsB x).length = 8 := by unfold regsB; rw [List.length_map]; exact madeRJ_len _ _
theorem thrB (x : CaseM) : (thrCaps (posC x) (madeR x) []).map (barr (madeW x) 64) = thrCaps (posB x) (regsB x) [] := by
  unfold thrCaps posB regsB
  simp
theorem regsB_right (x : CaseM) : ∀ c ∈ regsB x, capRight c = true := by
  intro c hc
  obtain ⟨d, hd, rfl⟩ := List.mem_map.1 hc
  exact barr_right (madeRJ_right x _ d hd)
theorem thrB_right (x : CaseM) : allRight (thrCaps (posB x) (regsB x) []) = true := by
  unfold allRight
  rw [List.all_eq_true]
  intro c hc
  unfold thrCaps at hc
  rcases List.mem_append.1 hc with h | h
  · rcases List.mem_cons.1 h with rfl | h
    · exact barr_right (posC_right x)
    · exact regsB_right x c h
  · cases h
abbrev heldB (x : CaseM) : List Cap := heldL (posB x) (regsB x) [] (madeM x)
theorem held_span {x : CaseM} {c : Cap} (hc : c ∈ heldB x) (ht : c.tag = true) : 0 ≤ c.base ∧ c.base ≤ 4294967295 ∧ c.top ≤ 4294967295 := by
  have key : capRight c = true → 0 ≤ c.base ∧ c.base ≤ 4294967295 ∧ c.top ≤ 4294967295 := fun h => by have := span_ok h; omega
  apply key
  unfold heldB heldL at hc
  rcases List.mem_append.1 hc with h | h
  · exact List.all_eq_true.1 (thrB_right x) c h
  · obtain ⟨p, hp, rfl⟩ := List.mem_map.1 h
    unfold memCap at ht ⊢
    split at ht
    · rename_i hg
      rw [if_pos hg]
      exact (encGet_tag ht).2
    · cases ht
def badC (x : CaseM) (c : Cap) : Bool := (c.tag && decide (c.base < c.top)) && !wholeC x.paint c
theorem manyJ_none {P : List Int} {b n : Nat} (h : manyJ P b n = 0) : ∀ j, j < n → ((b + j : Nat) : Int) ∉ P := by
  intro j hj hm
  have h1 : ((List.range n).filter fun i => decide (((b + i : Nat) : Int) ∈ P)) = [] := List.eq_nil_of_length_eq_zero h
  have h2 : j ∈ ((List.range n).filter fun i => decide (((b + i : Nat) : Int) ∈ P)) := List.mem_filter.2 ⟨List.mem_range.2 hj, decide_eq_true hm⟩
  rw [h1] at h2; cases h2
theorem manyJ_all {P : List Int} {b n : Nat} (h : manyJ P b n = n) : ∀ j, j < n → ((b + j : Nat) : Int) ∈ P := by
  intro j hj
  unfold manyJ at h
  have h1 : ((List.range n).filter fun i => decide (((b + i : Nat) : Int) ∈ P)).length = (List.range n).length := by rw [h, List.length_range]
  have h2 := List.length_filter_eq_length_iff.1 h1 j (List.mem_range.2 hj)
  simpa using h2
theorem whole_P {x : CaseM} (hg : greatC x = false) {c : Cap} (h0 : 0 ≤ c.base ∧ c.base ≤ 4294967295) (h : badC x c = false) : WholeP (madeW x) c := by
  intro ht
  refine ⟨h0, fun hb => ?_⟩
  have hw : wholeC x.paint c = true := by
    unfold badC at h
    rw [ht, decide_eq_true hb] at h
    simpa using h
  unfold wholeC at hw
  rw [Bool.or_eq_true, decide_eq_true_eq, decide_eq_true_eq] at hw
  have hlow : (∀ j, j < wN c → ((wB c + j : Nat) : Int) ∉ x.paint) → ∀ i : Int, c.base ≤ 16 * i + 15 → 16 * i < c.top → painted (madeW x) 64 i = false := by
    intro hn i h1 h2
    rw [made_painted hg (by omega)]
    by_cases h3 : i < 64
    · have h4 := hn (i.toNat - wB c) (by unfold wN wB; omega)
      rw [show ((wB c + (i.toNat - wB c) : Nat) : Int) = i from by unfold wB; omega] at h4
      rw [decide_eq_false h4, Bool.and_false]
    · rw [decide_eq_false h3]; rfl
  rcases hw with hw | hw
  · exact .inl (hlow (manyJ_none hw))
  · by_cases hz : 0 < wN c
    · right
      have h4 := manyJ_all hw 0 hz
      rw [made_painted hg (by omega)]
      have e : ((wB c + 0 : Nat) : Int) = c.base / 16 := by unfold wB; omega
      rw [e] at h4
      rw [decide_eq_true h4, decide_eq_true (by unfold wN at hz; omega)]; rfl
    · exact .inl (hlow fun j hj => absurd hj (by omega))
theorem barr_not {W : List Int} {c : Cap} (h : WholeP W (barr W 64 c)) : NotP W (barr W 64 c) := by
  intro ht
  have ht1 : c.tag = true ∧ shHits W 64 c = false := by
    have : (c.tag && !shHits W 64 c) = true := ht
    simpa using this
  obtain ⟨⟨k1, k0⟩, k2⟩ := h ht
  refine ⟨k0, fun hb i h1 h2 => ?_⟩
  rcases k2 hb with k | k
  · exact k i h1 h2
  · have hx := ht1.2
    unfold shHits shIs at hx
    have k' : painted W 64 (c.base / 16) = true := k
    rw [ht1.1, decide_eq_true (show c.base < c.top from hb), decide_eq_true (show 0 ≤ c.base from k1), k'] at hx
    cases hx
theorem start_all {x : CaseM} (hg : greatC x = false) (h : ∀ c ∈ heldB x, badC x c = false) : AllP (NotP (madeW x)) (WholeP (madeW x)) (posB x) (regsB x) [] (madeM x) := by
  have hw : ∀ c ∈ heldB x, WholeP (madeW x) c := fun c hc ht => whole_P hg ⟨(held_span hc ht).1, (held_span hc ht).2.1⟩ (h c hc) ht
  have hin : ∀ c ∈ thrCaps (posB x) (regsB x) [], c ∈ heldB x := fun c hc => List.mem_append_left _ hc
  refine ⟨barr_not (hw _ (hin _ (.head _))), fun c hc => ?_, (fun f hf => by cases hf), fun p => ?_⟩
  · have h1 := hw c (hin c (List.mem_append_left _ (.tail _ hc)))
    obtain ⟨d, hd, rfl⟩ := List.mem_map.1 hc
    exact barr_not h1
  · intro ht
    have ht0 := ht
    unfold memCap at ht
    split at ht
    · rename_i hgr
      have hp := gran_iff.1 hgr
      refine hw _ (List.mem_append_right _ (List.mem_map.2 ⟨p, ?_, rfl⟩)) ht0
      unfold tagsL tagsJ
      exact List.mem_map.2 ⟨(p / 16).toNat, List.mem_filter.2 ⟨List.mem_range.2 (by omega), (encGet_tag ht).1⟩, by omega⟩
    · cases ht
theorem caps_at {l : List Cap} {j k q : Nat} (h : j < l.length) (hk : k < 6) (hq : q = j * 6 + k) : (capsL l)[q]? = (l.getD j nullC).l[k]? := by
  subst hq
  have e := fm_cut cap_len l j (at_getD h)
  rw [← e]
  unfold cutL
  rw [List.getElem?_take, if_pos hk, List.getElem?_drop]

end Go.Proofs
