/- Contracts of functions: what each computes, and what becomes of the memory that it is given. -/
import Derived.Test.YtfphgpamccbkaaaGreatProg
import Derived.Test.YtfphgpamccbkaaaGreatKp3
set_option linter.unusedVariables false
set_option linter.unusedSimpArgs false
set_option linter.unusedSectionVars false
set_option linter.unnecessarySimpa false
namespace Go.Proofs
open Go Go.Sz
attribute [local irreducible] pt lift exs own emp
theorem Tryz.fo46_0 : fOff Tryz.prog 46 0 = some (0, 1, false) := by kernel_rfl
attribute [local irreducible] refM refW

theorem f7_yes (a b : Cap) (oa : CapI a) (ob : CapI b) (he : enters a b = 0) : Ct Tryz.prog 7 #[a.v, b.v] [] [] (fun _ : Unit => .bool true) (fun _ N => N) := by
  refine ct_intro Tryz.func7 rfl (by kernel_rfl) (n := 123) rfl rfl (E := [(0, a.v), (1, b.v)]) rfl ?_
  intro κ hro
  have hda := refuse_iff oa ob
  refine tc_seq ?_
  refine tc_region ?_
  refine tl_box rfl rfl (fun b2 => ?_)
  refine tl_box rfl rfl (fun b3 => ?_)
  refine tl_p (pr_assign rfl) rfl ?_
  refine tl_next ?_
  refine tc_seq ?_
  refine tc_region ?_
  refine tl_callS (f12_ct) (.nil) rfl (kk := fun _ => ?_)
  refine tl_p (pr_assign rfl) rfl ?_
  refine tl_next ?_
  refine tc_seq ?_
  refine tc_region ?_
  refine tl_p (Tryz.bl33_0_1_2 rfl rfl rfl) rfl ?_
  refine tl_p (Tryz.bl33_ ) rfl ?_
  refine tl_buildS Tryz.sf23 Tryz.z33 rfl (.cons rfl (.cons rfl .nil)) rfl rfl (c := insL refX.code) rfl rfl rfl (kk := fun s16 hs16 ms16 => ?_)
  refine tl_p (Tryz.bl29_0 rfl (o0 := sv_one _ _)) rfl ?_
  refine tl_alloc Tryz.z29 rfl (fun b6 => ?_)
  refine tl_storeW Tryz.sz29 rfl rfl (h1 := by show allOne (caseL ⟨s16, 2, .nil, 0, .nil, 0, .nil, 0⟩ refX) = true; simp only [allOne, sv_one]; rfl) (k := ?_)
  refine tl_next ?_
  refine tc_seq ?_
  refine tc_region ?_
  refine tl_p (by first | exact pr_loadW Tryz.ag29 Tryz.sz29 rfl | exact pr_ldA Tryz.ag29 Tryz.sz29 rfl) rfl ?_
  refine tl_callS (refMade ⟨s16, 2, .nil, 0, .nil, 0, .nil, 0⟩ ⟨hs16.toSok, Sok.nil, Sok.nil, Sok.nil⟩) (.cons rfl .nil) rfl (hro := Rdbs.app (Rdbs.sl (.own (by repeat (first | exact Has.here | apply Has.there)))) .nil) (kk := fun ⟨p20, hm20, hw20⟩ => ?_)
  refine tl_p (pr_move rfl) rfl ?_
  refine tl_p (pr_extract rfl rfl) rfl ?_
  refine tl_p (pr_extract rfl rfl) rfl ?_
  refine tl_p (pr_extract rfl rfl) rfl ?_
  refine tl_p (pr_assign rfl) rfl ?_
  refine tl_p (pr_assign rfl) rfl ?_
  refine tl_p (pr_assign rfl) rfl ?_
  refine tl_next ?_
  refine tc_seq ?_
  refine tc_seq ?_
  refine tc_region ?_
  refine tl_p (pr_move rfl) rfl ?_
  refine tl_p (pr_eqlP Tryz.underlying34 rfl (.inr ⟨_, rfl⟩)) rfl ?_
  refine tl_p (pr_move rfl) rfl ?_
  refine tl_on rfl rfl rfl ?_
  refine tl_p (by first | exact pr_loadW Tryz.ag27 Tryz.sz27 rfl | exact pr_ldA Tryz.ag27 Tryz.sz27 rfl) rfl ?_
  refine tl_on rfl rfl rfl ?_
  refine tl_rdS (f28_ct _) (.cons rfl .nil) rfl (kk := ?_)
  refine tl_on rfl rfl rfl ?_
  refine tl_p (pr_not rfl) rfl ?_
  refine tl_p (pr_pickF rfl rfl) rfl ?_
  refine tl_p (pr_move rfl) rfl ?_
  refine tl_gf rfl rfl (fun h => by first | exact pr_loadW Tryz.ag27 Tryz.sz27 rfl | exact pr_ldA Tryz.ag27 Tryz.sz27 rfl) (by intro _ h; cases h) rfl ?_
  refine tl_rdgfS rfl rfl (fun h => ⟨f28_ct _, .cons (gv rfl h) .nil⟩) rfl (kk := ?_)
  refine tl_gf rfl rfl (fun h => pr_not (gv rfl h)) (by intro _ h; cases h) rfl ?_
  refine tl_p (pr_or rfl rfl rfl) rfl ?_
  refine tl_next ?_
  refine tc_if rfl (fun hc1 => ?_) (fun hc1 => ?_)
  · have hd1 := hc1
    try simp only [Bool.not_eq_true', Bool.not_eq_false', Bool.or_eq_true, Bool.and_eq_true, Bool.or_eq_false_iff, Bool.and_eq_false_iff, decide_eq_true_eq, decide_eq_false_iff_not, Bool.not_true, Bool.not_false, gval, Bool.not_eq_eq_eq_not] at hc1
    refine tc_seq ?_
    refine tc_region ?_
    refine tl_p (pr_move rfl) rfl ?_
    refine tl_p (pr_neqP Tryz.underlying34 rfl (.inr ⟨_, rfl⟩)) rfl ?_
    refine tl_p (pr_move rfl) rfl ?_
    refine tl_on rfl rfl rfl ?_
    refine tl_p (pr_move rfl) rfl ?_
    refine tl_p (pr_pickT rfl rfl) rfl ?_
    refine tl_p (pr_assign rfl) rfl ?_
    refine tl_next ?_
    refine tc_ret (tq_then_ret ?_)
    exact tq_ret1 .ret (.inl rfl) () rfl rfl
  · have hd1 := hc1
    try simp only [Bool.not_eq_true', Bool.not_eq_false', Bool.or_eq_true, Bool.and_eq_true, Bool.or_eq_false_iff, Bool.and_eq_false_iff, decide_eq_true_eq, decide_eq_false_iff_not, Bool.not_true, Bool.not_false, gval, Bool.not_eq_eq_eq_not] at hc1
    have hra : capRight a = true := by rw [← ref_right oa]; revert hd1; cases refRight a <;> simp [gval]
    have hrb : capRight b = true := by rw [← ref_right ob]; revert hd1; cases refRight a <;> cases refRight b <;> simp [gval]
    have hD := hda hra hrb
    refine tc_skip (tq_next ?_)
    refine tc_seq ?_
    refine tc_draw Tryz.mixed [0, 1, 2] (by kernel_rfl) ?_
    refine td_q 0 41 (pm_of rfl rfl rfl (fun _ kq => tl_p (pr_move rfl) rfl kq)) rfl rfl rfl ?_
    refine td_q 1 42 (pm_of rfl rfl rfl (fun _ kq => tl_rdS (f15_ct p20.tb _ p20.rb p20.fb) (.cons rfl .nil) rfl (kk := kq))) rfl rfl rfl ?_
    refine td_q 2 43 (pm_of rfl rfl rfl (fun _ kq => tl_p (by first | exact pr_loadW Tryz.ag27 Tryz.sz27 rfl | exact pr_ldA Tryz.ag27 Tryz.sz27 rfl) rfl kq)) rfl rfl rfl ?_
    refine td_e1 3 (by kernel_rfl) ?_
    refine te rfl ?_
    refine tl_callS (f16_ct p20.rb [nullC, nullC, nullC, nullC, nullC, nullC, nullC, nullC] rfl 0 a) (.cons rfl (.cons rfl (.cons rfl .nil))) rfl (kk := fun _ => ?_)
    rw [ref_r1 hra]
    refine td_next (pd := []) (by kernel_rfl) (.nil) ?_
    refine td_done (by kernel_rfl) ?_
    refine tq_next ?_
    refine tc_seq ?_
    refine tc_draw Tryz.mixed [0, 1, 2] (by kernel_rfl) ?_
    refine td_q 0 45 (pm_of rfl rfl rfl (fun _ kq => tl_p (pr_move rfl) rfl kq)) rfl rfl rfl ?_
    refine td_q 1 46 (pm_of rfl rfl rfl (fun _ kq => tl_rdS (f15_ct p20.tb _ p20.rb p20.fb) (.cons rfl .nil) rfl (kk := kq))) rfl rfl rfl ?_
    refine td_q 2 47 (pm_of rfl rfl rfl (fun _ kq => tl_p (by first | exact pr_loadW Tryz.ag27 Tryz.sz27 rfl | exact pr_ldA Tryz.ag27 Tryz.sz27 rfl) rfl kq)) rfl rfl rfl ?_
    refine td_e1 3 (by kernel_rfl) ?_
    refine te rfl ?_
    refine tl_callS (f16_ct p20.rb [a, nullC, nullC, nullC, nullC, nullC, nullC, nullC] rfl 1 b) (.cons rfl (.cons rfl (.cons rfl .nil))) rfl (kk := fun _ => ?_)
    rw [ref_r2 hrb]
    refine td_next (pd := []) (by kernel_rfl) (.nil) ?_
    refine td_done (by kernel_rfl) ?_
    refine tq_next ?_
    refine tc_seq ?_
    refine tc_region ?_
    refine tl_p (pr_move rfl) rfl ?_
    refine tl_p (pr_move rfl) rfl ?_
    refine tl_p (pr_move rfl) rfl ?_
    obtain ⟨regs, fs, pos, hlr, hst⟩ := ref_yes he
    refine tl_callS (stepE_ct p20 hst rfl hm20 refM_n hw20 refW_len) (.cons rfl (.cons rfl (.cons rfl .nil))) rfl (kk := fun _ => ?_)
    clear hst
    refine tl_alloc Tryz.z46 rfl (fun b10 => ?_)
    refine tl_storeW Tryz.sz46 rfl rfl (k := ?_)
    refine tl_next ?_
    refine tc_seq ?_
    refine tc_region ?_
    refine tl_p (pr_fieldAddr Tryz.fo27_0 rfl) rfl ?_
    refine tl_p (pr_ld Tryz.ag4 rfl) rfl ?_
    refine tl_p (pr_move rfl) rfl ?_
    refine tl_gt rfl rfl (fun h => pr_fieldAddr Tryz.fo27_5 rfl) (by intro _ h; cases h) rfl ?_
    refine tl_gt rfl rfl (fun h => pr_ld Tryz.ag3 (gv rfl h)) (by intro _ h; cases h) rfl ?_
    refine tl_gt rfl rfl (fun h => pr_eql (gv rfl h) rfl) (by intro _ h; cases h) rfl ?_
    refine tl_p (pr_and rfl rfl rfl) rfl ?_
    refine tl_p (pr_move rfl) rfl ?_
    refine tl_gt rfl rfl (fun h => pr_fieldAddr Tryz.fo27_4 rfl) (by intro _ h; cases h) rfl ?_
    refine tl_gt rfl rfl (fun h => pr_ld Tryz.ag3 (gv rfl h)) (by intro _ h; cases h) rfl ?_
    refine tl_gt rfl rfl (fun h => pr_bAnd (gv rfl h) rfl) (by intro _ h; cases h) rfl ?_
    refine tl_gt rfl rfl (fun h => pr_neq (gv rfl h) rfl) (by intro _ h; cases h) rfl ?_
    refine tl_p (pr_and rfl rfl rfl) rfl ?_
    refine tl_p (pr_assign rfl) rfl ?_
    refine tl_next ?_
    refine tc_seq ?_
    refine tc_region ?_
    refine tl_p (pr_fieldAddr Tryz.fo27_0 rfl) rfl ?_
    refine tl_p (pr_ld Tryz.ag4 rfl) rfl ?_
    refine tl_p (pr_move rfl) rfl ?_
    refine tl_gt rfl rfl (fun h => pr_fieldAddr Tryz.fo27_5 rfl) (by intro _ h; cases h) rfl ?_
    refine tl_gt rfl rfl (fun h => pr_ld Tryz.ag3 (gv rfl h)) (by intro _ h; cases h) rfl ?_
    refine tl_gt rfl rfl (fun h => pr_geq (gv rfl h) rfl) (by intro _ h; cases h) rfl ?_
    refine tl_p (pr_and rfl rfl rfl) rfl ?_
    refine tl_p (pr_move rfl) rfl ?_
    refine tl_gt rfl rfl (fun h => pr_fieldAddr Tryz.fo27_4 rfl) (by intro _ h; cases h) rfl ?_
    refine tl_gt rfl rfl (fun h => pr_ld Tryz.ag3 (gv rfl h)) (by intro _ h; cases h) rfl ?_
    refine tl_gt rfl rfl (fun h => pr_bAnd (gv rfl h) rfl) (by intro _ h; cases h) rfl ?_
    refine tl_gt rfl rfl (fun h => pr_neq (gv rfl h) rfl) (by intro _ h; cases h) rfl ?_
    refine tl_p (pr_and rfl rfl rfl) rfl ?_
    refine tl_p (pr_move rfl) rfl ?_
    refine tl_gt rfl rfl (fun h => pr_fieldAddr Tryz.fo27_0 rfl) (by intro _ h; cases h) rfl ?_
    refine tl_gt rfl rfl (fun h => pr_ld Tryz.ag4 (gv rfl h)) (by intro _ h; cases h) rfl ?_
    refine tl_p (pr_and rfl rfl rfl) rfl ?_
    refine tl_p (pr_move rfl) rfl ?_
    refine tl_gt rfl rfl (fun h => pr_fieldAddr Tryz.fo27_5 rfl) (by intro _ h; cases h) rfl ?_
    refine tl_gt rfl rfl (fun h => pr_ld Tryz.ag3 (gv rfl h)) (by intro _ h; cases h) rfl ?_
    refine tl_gt rfl rfl (fun h => pr_fieldAddr Tryz.fo27_5 rfl) (by intro _ h; cases h) rfl ?_
    refine tl_gt rfl rfl (fun h => pr_ld Tryz.ag3 (gv rfl h)) (by intro _ h; cases h) rfl ?_
    refine tl_gt rfl rfl (fun h => pr_eql (gv rfl h) (gv rfl h)) (by intro _ h; cases h) rfl ?_
    refine tl_p (pr_and rfl rfl rfl) rfl ?_
    refine tl_p (pr_move rfl) rfl ?_
    refine tl_gt rfl rfl (fun h => pr_fieldAddr Tryz.fo27_4 rfl) (by intro _ h; cases h) rfl ?_
    refine tl_gt rfl rfl (fun h => pr_ld Tryz.ag3 (gv rfl h)) (by intro _ h; cases h) rfl ?_
    refine tl_gt rfl rfl (fun h => pr_bAnd (gv rfl h) rfl) (by intro _ h; cases h) rfl ?_
    refine tl_gt rfl rfl (fun h => pr_eql (gv rfl h) rfl) (by intro _ h; cases h) rfl ?_
    refine tl_p (pr_and rfl rfl rfl) rfl ?_
    refine tl_p (pr_assign rfl) rfl ?_
    refine tl_next ?_
    refine tc_seq ?_
    refine tc_region ?_
    refine tl_p (pr_move rfl) rfl ?_
    refine tl_p (pr_move rfl) rfl ?_
    refine tl_gt rfl rfl (fun h => pr_fieldAddr Tryz.fo46_0 rfl) (by intro _ h; cases h) rfl ?_
    refine tl_gt rfl rfl (fun h => pr_ld Tryz.ag3 (gv rfl h)) (by intro _ h; cases h) rfl ?_
    refine tl_gt rfl rfl (fun h => pr_eql (gv rfl h) rfl) (by intro _ h; cases h) rfl ?_
    refine tl_gt rfl rfl (fun h => pr_move rfl) (by intro _ h; cases h) rfl ?_
    refine tl_gt rfl rfl (fun h => pr_move (gv rfl h)) (by intro _ h; cases h) rfl ?_
    refine tl_ggf rfl rfl (fun h => pr_move rfl) (by intro _ h; cases h) rfl ?_
    refine tl_gt rfl rfl (fun h => pr_or (gv rfl h) rfl (gv2 rfl h)) (by intro _ h; cases h) rfl ?_
    refine tl_gt rfl rfl (fun h => pr_eq (v' := .bool true) (pr_eqlB Tryz.underlying4 rfl rfl) (by show Value.bool (_ == (aloneC a || pairC a b)) = _; rw [← hD]; simp [he])) (by intro _ h; cases h) rfl ?_
    refine tl_p (pr_and rfl rfl rfl) rfl ?_
    refine tl_p (pr_move rfl) rfl ?_
    refine tl_gt rfl rfl (fun h => pr_fieldAddr Tryz.fo46_0 rfl) (by intro _ h; cases h) rfl ?_
    refine tl_gt rfl rfl (fun h => pr_ld Tryz.ag3 (gv rfl h)) (by intro _ h; cases h) rfl ?_
    refine tl_gt rfl rfl (fun h => pr_eql (gv rfl h) rfl) (by intro _ h; cases h) rfl ?_
    refine tl_gt rfl rfl (fun h => pr_move (gv rfl h)) (by intro _ h; cases h) rfl ?_
    refine tl_ggf rfl rfl (fun h => pr_fieldAddr Tryz.fo46_0 rfl) (by intro _ h; cases h) rfl ?_
    refine tl_ggf rfl rfl (fun h => pr_ld Tryz.ag3 (gv rfl h)) (by intro _ h; cases h) rfl ?_
    refine tl_ggf rfl rfl (fun h => pr_eql (gv rfl h) rfl) (by intro _ h; cases h) rfl ?_
    refine tl_ggf rfl rfl (fun h => pr_move (gv rfl h)) (by intro _ h; cases h) rfl ?_
    refine tl_ggt rfl rfl (fun h => pr_move rfl) (by intro _ h; cases h) rfl ?_
    refine tl_rdggtS rfl rfl (fun h => ⟨f25_ct p20.tb _ p20.rb p20.fb, .cons (gv rfl h) .nil⟩) rfl (kk := ?_)
    refine tl_rdggtS rfl rfl (fun h => ⟨f26_ct _ _, .cons (gv rfl h) .nil⟩) rfl (kk := ?_)
    refine tl_ggt rfl rfl (fun h => pr_eql (gv rfl h) rfl) (by intro _ h; cases h) rfl ?_
    refine tl_ggf rfl rfl (fun h => pr_and (gv rfl h) (gv2 rfl h) rfl) (by intro _ h; cases h) rfl ?_
    refine tl_gt rfl rfl (fun h => pr_or (gv rfl h) rfl (gv2 rfl h)) (by intro _ h; cases h) rfl ?_
    refine tl_p (pr_and rfl rfl rfl) rfl ?_
    refine tl_p (pr_assign rfl) rfl ?_
    refine tl_next ?_
    refine tc_ret ?_
    exact tq_ret1 .ret (.inl rfl) () rfl rfl

theorem f7_no (a b : Cap) (oa : CapI a) (ob : CapI b) (he : ¬ enters a b = 0) : Ct Tryz.prog 7 #[a.v, b.v] [] [] (fun _ : Unit => .bool true) (fun _ N => N) := by
  refine ct_intro Tryz.func7 rfl (by kernel_rfl) (n := 123) rfl rfl (E := [(0, a.v), (1, b.v)]) rfl ?_
  intro κ hro
  have hda := refuse_iff oa ob
  refine tc_seq ?_
  refine tc_region ?_
  refine tl_box rfl rfl (fun b2 => ?_)
  refine tl_box rfl rfl (fun b3 => ?_)
  refine tl_p (pr_assign rfl) rfl ?_
  refine tl_next ?_
  refine tc_seq ?_
  refine tc_region ?_
  refine tl_callS (f12_ct) (.nil) rfl (kk := fun _ => ?_)
  refine tl_p (pr_assign rfl) rfl ?_
  refine tl_next ?_
  refine tc_seq ?_
  refine tc_region ?_
  refine tl_p (Tryz.bl33_0_1_2 rfl rfl rfl) rfl ?_
  refine tl_p (Tryz.bl33_ ) rfl ?_
  refine tl_buildS Tryz.sf23 Tryz.z33 rfl (.cons rfl (.cons rfl .nil)) rfl rfl (c := insL refX.code) rfl rfl rfl (kk := fun s16 hs16 ms16 => ?_)
  refine tl_p (Tryz.bl29_0 rfl (o0 := sv_one _ _)) rfl ?_
  refine tl_alloc Tryz.z29 rfl (fun b6 => ?_)
  refine tl_storeW Tryz.sz29 rfl rfl (h1 := by show allOne (caseL ⟨s16, 2, .nil, 0, .nil, 0, .nil, 0⟩ refX) = true; simp only [allOne, sv_one]; rfl) (k := ?_)
  refine tl_next ?_
  refine tc_seq ?_
  refine tc_region ?_
  refine tl_p (by first | exact pr_loadW Tryz.ag29 Tryz.sz29 rfl | exact pr_ldA Tryz.ag29 Tryz.sz29 rfl) rfl ?_
  refine tl_callS (refMade ⟨s16, 2, .nil, 0, .nil, 0, .nil, 0⟩ ⟨hs16.toSok, Sok.nil, Sok.nil, Sok.nil⟩) (.cons rfl .nil) rfl (hro := Rdbs.app (Rdbs.sl (.own (by repeat (first | exact Has.here | apply Has.there)))) .nil) (kk := fun ⟨p20, hm20, hw20⟩ => ?_)
  refine tl_p (pr_move rfl) rfl ?_
  refine tl_p (pr_extract rfl rfl) rfl ?_
  refine tl_p (pr_extract rfl rfl) rfl ?_
  refine tl_p (pr_extract rfl rfl) rfl ?_
  refine tl_p (pr_assign rfl) rfl ?_
  refine tl_p (pr_assign rfl) rfl ?_
  refine tl_p (pr_assign rfl) rfl ?_
  refine tl_next ?_
  refine tc_seq ?_
  refine tc_seq ?_
  refine tc_region ?_
  refine tl_p (pr_move rfl) rfl ?_
  refine tl_p (pr_eqlP Tryz.underlying34 rfl (.inr ⟨_, rfl⟩)) rfl ?_
  refine tl_p (pr_move rfl) rfl ?_
  refine tl_on rfl rfl rfl ?_
  refine tl_p (by first | exact pr_loadW Tryz.ag27 Tryz.sz27 rfl | exact pr_ldA Tryz.ag27 Tryz.sz27 rfl) rfl ?_
  refine tl_on rfl rfl rfl ?_
  refine tl_rdS (f28_ct _) (.cons rfl .nil) rfl (kk := ?_)
  refine tl_on rfl rfl rfl ?_
  refine tl_p (pr_not rfl) rfl ?_
  refine tl_p (pr_pickF rfl rfl) rfl ?_
  refine tl_p (pr_move rfl) rfl ?_
  refine tl_gf rfl rfl (fun h => by first | exact pr_loadW Tryz.ag27 Tryz.sz27 rfl | exact pr_ldA Tryz.ag27 Tryz.sz27 rfl) (by intro _ h; cases h) rfl ?_
  refine tl_rdgfS rfl rfl (fun h => ⟨f28_ct _, .cons (gv rfl h) .nil⟩) rfl (kk := ?_)
  refine tl_gf rfl rfl (fun h => pr_not (gv rfl h)) (by intro _ h; cases h) rfl ?_
  refine tl_p (pr_or rfl rfl rfl) rfl ?_
  refine tl_next ?_
  refine tc_if rfl (fun hc1 => ?_) (fun hc1 => ?_)
  · have hd1 := hc1
    try simp only [Bool.not_eq_true', Bool.not_eq_false', Bool.or_eq_true, Bool.and_eq_true, Bool.or_eq_false_iff, Bool.and_eq_false_iff, decide_eq_true_eq, decide_eq_false_iff_not, Bool.not_true, Bool.not_false, gval, Bool.not_eq_eq_eq_not] at hc1
    refine tc_seq ?_
    refine tc_region ?_
    refine tl_p (pr_move rfl) rfl ?_
    refine tl_p (pr_neqP Tryz.underlying34 rfl (.inr ⟨_, rfl⟩)) rfl ?_
    refine tl_p (pr_move rfl) rfl ?_
    refine tl_on rfl rfl rfl ?_
    refine tl_p (pr_move rfl) rfl ?_
    refine tl_p (pr_pickT rfl rfl) rfl ?_
    refine tl_p (pr_assign rfl) rfl ?_
    refine tl_next ?_
    refine tc_ret (tq_then_ret ?_)
    exact tq_ret1 .ret (.inl rfl) () rfl rfl
  · have hd1 := hc1
    try simp only [Bool.not_eq_true', Bool.not_eq_false', Bool.or_eq_true, Bool.and_eq_true, Bool.or_eq_false_iff, Bool.and_eq_false_iff, decide_eq_true_eq, decide_eq_false_iff_not, Bool.not_true, Bool.not_false, gval, Bool.not_eq_eq_eq_not] at hc1
    have hra : capRight a = true := by rw [← ref_right oa]; revert hd1; cases refRight a <;> simp [gval]
    have hrb : capRight b = true := by rw [← ref_right ob]; revert hd1; cases refRight a <;> cases refRight b <;> simp [gval]
    have hD := hda hra hrb
    refine tc_skip (tq_next ?_)
    refine tc_seq ?_
    refine tc_draw Tryz.mixed [0, 1, 2] (by kernel_rfl) ?_
    refine td_q 0 41 (pm_of rfl rfl rfl (fun _ kq => tl_p (pr_move rfl) rfl kq)) rfl rfl rfl ?_
    refine td_q 1 42 (pm_of rfl rfl rfl (fun _ kq => tl_rdS (f15_ct p20.tb _ p20.rb p20.fb) (.cons rfl .nil) rfl (kk := kq))) rfl rfl rfl ?_
    refine td_q 2 43 (pm_of rfl rfl rfl (fun _ kq => tl_p (by first | exact pr_loadW Tryz.ag27 Tryz.sz27 rfl | exact pr_ldA Tryz.ag27 Tryz.sz27 rfl) rfl kq)) rfl rfl rfl ?_
    refine td_e1 3 (by kernel_rfl) ?_
    refine te rfl ?_
    refine tl_callS (f16_ct p20.rb [nullC, nullC, nullC, nullC, nullC, nullC, nullC, nullC] rfl 0 a) (.cons rfl (.cons rfl (.cons rfl .nil))) rfl (kk := fun _ => ?_)
    rw [ref_r1 hra]
    refine td_next (pd := []) (by kernel_rfl) (.nil) ?_
    refine td_done (by kernel_rfl) ?_
    refine tq_next ?_
    refine tc_seq ?_
    refine tc_draw Tryz.mixed [0, 1, 2] (by kernel_rfl) ?_
    refine td_q 0 45 (pm_of rfl rfl rfl (fun _ kq => tl_p (pr_move rfl) rfl kq)) rfl rfl rfl ?_
    refine td_q 1 46 (pm_of rfl rfl rfl (fun _ kq => tl_rdS (f15_ct p20.tb _ p20.rb p20.fb) (.cons rfl .nil) rfl (kk := kq))) rfl rfl rfl ?_
    refine td_q 2 47 (pm_of rfl rfl rfl (fun _ kq => tl_p (by first | exact pr_loadW Tryz.ag27 Tryz.sz27 rfl | exact pr_ldA Tryz.ag27 Tryz.sz27 rfl) rfl kq)) rfl rfl rfl ?_
    refine td_e1 3 (by kernel_rfl) ?_
    refine te rfl ?_
    refine tl_callS (f16_ct p20.rb [a, nullC, nullC, nullC, nullC, nullC, nullC, nullC] rfl 1 b) (.cons rfl (.cons rfl (.cons rfl .nil))) rfl (kk := fun _ => ?_)
    rw [ref_r2 hrb]
    refine td_next (pd := []) (by kernel_rfl) (.nil) ?_
    refine td_done (by kernel_rfl) ?_
    refine tq_next ?_
    refine tc_seq ?_
    refine tc_region ?_
    refine tl_p (pr_move rfl) rfl ?_
    refine tl_p (pr_move rfl) rfl ?_
    refine tl_p (pr_move rfl) rfl ?_
    refine tl_callS (stepE_ct p20 (ref_no he) rfl hm20 refM_n hw20 refW_len) (.cons rfl (.cons rfl (.cons rfl .nil))) rfl (kk := fun _ => ?_)
    refine tl_alloc Tryz.z46 rfl (fun b10 => ?_)
    refine tl_storeW Tryz.sz46 rfl rfl (k := ?_)
    refine tl_next ?_
    refine tc_seq ?_
    refine tc_region ?_
    refine tl_p (pr_fieldAddr Tryz.fo27_0 rfl) rfl ?_
    refine tl_p (pr_ld Tryz.ag4 rfl) rfl ?_
    refine tl_p (pr_move rfl) rfl ?_
    refine tl_gt rfl rfl (fun h => pr_fieldAddr Tryz.fo27_5 rfl) (by intro _ h; cases h) rfl ?_
    refine tl_gt rfl rfl (fun h => pr_ld Tryz.ag3 (gv rfl h)) (by intro _ h; cases h) rfl ?_
    refine tl_gt rfl rfl (fun h => pr_eql (gv rfl h) rfl) (by intro _ h; cases h) rfl ?_
    refine tl_p (pr_and rfl rfl rfl) rfl ?_
    refine tl_p (pr_move rfl) rfl ?_
    refine tl_gt rfl rfl (fun h => pr_fieldAddr Tryz.fo27_4 rfl) (by intro _ h; cases h) rfl ?_
    refine tl_gt rfl rfl (fun h => pr_ld Tryz.ag3 (gv rfl h)) (by intro _ h; cases h) rfl ?_
    refine tl_gt rfl rfl (fun h => pr_bAnd (gv rfl h) rfl) (by intro _ h; cases h) rfl ?_
    refine tl_gt rfl rfl (fun h => pr_neq (gv rfl h) rfl) (by intro _ h; cases h) rfl ?_
    refine tl_p (pr_and rfl rfl rfl) rfl ?_
    refine tl_p (pr_assign rfl) rfl ?_
    refine tl_next ?_
    refine tc_seq ?_
    refine tc_region ?_
    refine tl_p (pr_fieldAddr Tryz.fo27_0 rfl) rfl ?_
    refine tl_p (pr_ld Tryz.ag4 rfl) rfl ?_
    refine tl_p (pr_move rfl) rfl ?_
    refine tl_gt rfl rfl (fun h => pr_fieldAddr Tryz.fo27_5 rfl) (by intro _ h; cases h) rfl ?_
    refine tl_gt rfl rfl (fun h => pr_ld Tryz.ag3 (gv rfl h)) (by intro _ h; cases h) rfl ?_
    refine tl_gt rfl rfl (fun h => pr_geq (gv rfl h) rfl) (by intro _ h; cases h) rfl ?_
    refine tl_p (pr_and rfl rfl rfl) rfl ?_
    refine tl_p (pr_move rfl) rfl ?_
    refine tl_gt rfl rfl (fun h => pr_fieldAddr Tryz.fo27_4 rfl) (by intro _ h; cases h) rfl ?_
    refine tl_gt rfl rfl (fun h => pr_ld Tryz.ag3 (gv rfl h)) (by intro _ h; cases h) rfl ?_
    refine tl_gt rfl rfl (fun h => pr_bAnd (gv rfl h) rfl) (by intro _ h; cases h) rfl ?_
    refine tl_gt rfl rfl (fun h => pr_neq (gv rfl h) rfl) (by intro _ h; cases h) rfl ?_
    refine tl_p (pr_and rfl rfl rfl) rfl ?_
    refine tl_p (pr_move rfl) rfl ?_
    refine tl_gt rfl rfl (fun h => pr_fieldAddr Tryz.fo27_0 rfl) (by intro _ h; cases h) rfl ?_
    refine tl_gt rfl rfl (fun h => pr_ld Tryz.ag4 (gv rfl h)) (by intro _ h; cases h) rfl ?_
    refine tl_p (pr_and rfl rfl rfl) rfl ?_
    refine tl_p (pr_move rfl) rfl ?_
    refine tl_gt rfl rfl (fun h => pr_fieldAddr Tryz.fo27_5 rfl) (by intro _ h; cases h) rfl ?_
    refine tl_gt rfl rfl (fun h => pr_ld Tryz.ag3 (gv rfl h)) (by intro _ h; cases h) rfl ?_
    refine tl_gt rfl rfl (fun h => pr_fieldAddr Tryz.fo27_5 rfl) (by intro _ h; cases h) rfl ?_
    refine tl_gt rfl rfl (fun h => pr_ld Tryz.ag3 (gv rfl h)) (by intro _ h; cases h) rfl ?_
    refine tl_gt rfl rfl (fun h => pr_eql (gv rfl h) (gv rfl h)) (by intro _ h; cases h) rfl ?_
    refine tl_p (pr_and rfl rfl rfl) rfl ?_
    refine tl_p (pr_move rfl) rfl ?_
    refine tl_gt rfl rfl (fun h => pr_fieldAddr Tryz.fo27_4 rfl) (by intro _ h; cases h) rfl ?_
    refine tl_gt rfl rfl (fun h => pr_ld Tryz.ag3 (gv rfl h)) (by intro _ h; cases h) rfl ?_
    refine tl_gt rfl rfl (fun h => pr_bAnd (gv rfl h) rfl) (by intro _ h; cases h) rfl ?_
    refine tl_gt rfl rfl (fun h => pr_eql (gv rfl h) rfl) (by intro _ h; cases h) rfl ?_
    refine tl_p (pr_and rfl rfl rfl) rfl ?_
    refine tl_p (pr_assign rfl) rfl ?_
    refine tl_next ?_
    refine tc_seq ?_
    refine tc_region ?_
    refine tl_p (pr_move rfl) rfl ?_
    refine tl_p (pr_move rfl) rfl ?_
    refine tl_gt rfl rfl (fun h => pr_fieldAddr Tryz.fo46_0 rfl) (by intro _ h; cases h) rfl ?_
    refine tl_gt rfl rfl (fun h => pr_ld Tryz.ag3 (gv rfl h)) (by intro _ h; cases h) rfl ?_
    refine tl_gt rfl rfl (fun h => pr_eql (gv rfl h) rfl) (by intro _ h; cases h) rfl ?_
    refine tl_gt rfl rfl (fun h => pr_move rfl) (by intro _ h; cases h) rfl ?_
    refine tl_gt rfl rfl (fun h => pr_move (gv rfl h)) (by intro _ h; cases h) rfl ?_
    refine tl_ggf rfl rfl (fun h => pr_move rfl) (by intro _ h; cases h) rfl ?_
    refine tl_gt rfl rfl (fun h => pr_or (gv rfl h) rfl (gv2 rfl h)) (by intro _ h; cases h) rfl ?_
    refine tl_gt rfl rfl (fun h => pr_eq (v' := .bool true) (pr_eqlB Tryz.underlying4 rfl rfl) (by show Value.bool (_ == (aloneC a || pairC a b)) = _; rw [← hD]; simp [he])) (by intro _ h; cases h) rfl ?_
    refine tl_p (pr_and rfl rfl rfl) rfl ?_
    refine tl_p (pr_move rfl) rfl ?_
    refine tl_gt rfl rfl (fun h => pr_fieldAddr Tryz.fo46_0 rfl) (by intro _ h; cases h) rfl ?_
    refine tl_gt rfl rfl (fun h => pr_ld Tryz.ag3 (gv rfl h)) (by intro _ h; cases h) rfl ?_
    refine tl_gt rfl rfl (fun h => pr_eql (gv rfl h) rfl) (by intro _ h; cases h) rfl ?_
    refine tl_gt rfl rfl (fun h => pr_move (gv rfl h)) (by intro _ h; cases h) rfl ?_
    refine tl_ggf rfl rfl (fun h => pr_fieldAddr Tryz.fo46_0 rfl) (by intro _ h; cases h) rfl ?_
    refine tl_ggf rfl rfl (fun h => pr_ld Tryz.ag3 (gv rfl h)) (by intro _ h; cases h) rfl ?_
    refine tl_ggf rfl rfl (fun h => pr_eql (gv rfl h) rfl) (by intro _ h; cases h) rfl ?_
    refine tl_ggf rfl rfl (fun h => pr_move (gv rfl h)) (by intro _ h; cases h) rfl ?_
    refine tl_ggt rfl rfl (fun h => pr_move rfl) (by intro _ h; cases h) rfl ?_
    refine tl_rdggtS rfl rfl (fun h => ⟨f25_ct p20.tb _ p20.rb p20.fb, .cons (gv rfl h) .nil⟩) rfl (kk := ?_)
    refine tl_rdggtS rfl rfl (fun h => ⟨f26_ct p20.fb [], .cons (gv rfl h) .nil⟩) rfl (kk := ?_)
    refine tl_ggt rfl rfl (fun h => pr_eql (gv rfl h) rfl) (by intro _ h; cases h) rfl ?_
    refine tl_ggf rfl rfl (fun h => pr_and (gv rfl h) (gv2 rfl h) rfl) (by intro _ h; cases h) rfl ?_
    refine tl_gt rfl rfl (fun h => pr_or (gv rfl h) rfl (gv2 rfl h)) (by intro _ h; cases h) rfl ?_
    refine tl_p (pr_and rfl rfl rfl) rfl ?_
    refine tl_p (pr_assign rfl) rfl ?_
    refine tl_next ?_
    refine tc_ret ?_
    exact tq_ret1 .ret (.inl rfl) () rfl rfl

theorem f7_ct (a b : Cap) (oa : CapI a) (ob : CapI b) : Ct Tryz.prog 7 #[a.v, b.v] [] [] (fun _ : Unit => .bool true) (fun _ N => N) := by
  by_cases h : enters a b = 0
  · exact f7_yes a b oa ob h
  · exact f7_no a b oa ob h

end Go.Proofs

namespace Go.Proofs
open Go Go.Sz
attribute [local irreducible] pt lift exs own emp

open Go.RowKit Go.WideShapes Go.ChangeShapes
section
variable {H : Type} {enc : TypeId × Value → H} {w : World}
theorem wf_i64 {i : Int} (h : (Lit.int .i64 i).wf = true) : I64 i := by
  simp [Lit.wf, IntKind.min, IntKind.max, IntKind.signed, IntKind.bits] at h; exact h
theorem rd_i64 : RdT enc Tryz.prog w 3 (fun i : Int => [.int .i64 i]) I64 := fun n cs x h hl => by
  obtain ⟨i, rfl, hw⟩ := rd_int Tryz.underlying3 n cs x h hl
  exact ⟨i, rfl, wf_i64 hw⟩

theorem rd_cap : RdT enc Tryz.prog w 27 Cap.l CapI := fun n cs x h hl => by
  have ht : Tryz.prog.underlying 27 = some (.struct (Tryz.prog.fieldsOf 27)) := by kernel_rfl
  have hlen : cs.length = 6 := (rd_fields ht h hl).1.trans (by kernel_rfl)
  obtain ⟨a0, e0, g0⟩ := rd_field ht h hl 0 (by kernel_rfl : fldOf Tryz.prog 27 0 = some (4, 0, 1)) (rd_bool Tryz.underlying4)
  obtain ⟨a1, e1, g1⟩ := rd_field ht h hl 1 (by kernel_rfl : fldOf Tryz.prog 27 1 = some (3, 1, 1)) rd_i64
  obtain ⟨a2, e2, g2⟩ := rd_field ht h hl 2 (by kernel_rfl : fldOf Tryz.prog 27 2 = some (3, 2, 1)) rd_i64
  obtain ⟨a3, e3, g3⟩ := rd_field ht h hl 3 (by kernel_rfl : fldOf Tryz.prog 27 3 = some (3, 3, 1)) rd_i64
  obtain ⟨a4, e4, g4⟩ := rd_field ht h hl 4 (by kernel_rfl : fldOf Tryz.prog 27 4 = some (3, 4, 1)) rd_i64
  obtain ⟨a5, e5, g5⟩ := rd_field ht h hl 5 (by kernel_rfl : fldOf Tryz.prog 27 5 = some (3, 5, 1)) rd_i64
  match cs, hlen with
  | [c0, c1, c2, c3, c4, c5], _ =>
    simp only [List.drop, List.take] at e0 e1 e2 e3 e4 e5
    simp only [List.cons.injEq, and_true] at e0 e1 e2 e3 e4 e5
    subst e0 e1 e2 e3 e4 e5
    exact ⟨⟨a0, a1, a2, a3, a4, a5⟩, rfl, g1, g2, g3, g4, g5⟩
def InsI (x : Ins) : Prop := I64 x.op ∧ I64 x.a ∧ I64 x.b ∧ I64 x.c

theorem rd_ins : RdT enc Tryz.prog w 33 Ins.l InsI := fun n cs x h hl => by
  have ht : Tryz.prog.underlying 33 = some (.struct (Tryz.prog.fieldsOf 33)) := by kernel_rfl
  have hlen : cs.length = 4 := (rd_fields ht h hl).1.trans (by kernel_rfl)
  obtain ⟨a0, e0, g0⟩ := rd_field ht h hl 0 (by kernel_rfl : fldOf Tryz.prog 33 0 = some (3, 0, 1)) rd_i64
  obtain ⟨a1, e1, g1⟩ := rd_field ht h hl 1 (by kernel_rfl : fldOf Tryz.prog 33 1 = some (3, 1, 1)) rd_i64
  obtain ⟨a2, e2, g2⟩ := rd_field ht h hl 2 (by kernel_rfl : fldOf Tryz.prog 33 2 = some (3, 2, 1)) rd_i64
  obtain ⟨a3, e3, g3⟩ := rd_field ht h hl 3 (by kernel_rfl : fldOf Tryz.prog 33 3 = some (3, 3, 1)) rd_i64
  match cs, hlen with
  | [c0, c1, c2, c3], _ =>
    simp only [List.drop, List.take] at e0 e1 e2 e3
    simp only [List.cons.injEq, and_true] at e0 e1 e2 e3
    subst e0 e1 e2 e3
    exact ⟨⟨a0, a1, a2, a3⟩, rfl, g0, g1, g2, g3⟩
theorem rd_inss : RdT enc Tryz.prog w 23 (fun q : SlA Ins => [sv q.s q.l.length]) (fun q => Sok 4 q.s q.l.length (insL q.l) ∧ (∀ a ∈ q.l, InsI a) ∧ ∀ p ∈ ra q.s (insL q.l), w.heap[p.1]? = some p.2) := rd_slice Tryz.underlying23 (by kernel_rfl) (by kernel_rfl : Tryz.prog.bytesOf 33 = 32) (by omega) (by omega) ins_len rd_ins
theorem rd_caps : RdT enc Tryz.prog w 24 (fun q : SlA Cap => [sv q.s q.l.length]) (fun q => Sok 6 q.s q.l.length (capsL q.l) ∧ (∀ a ∈ q.l, CapI a) ∧ ∀ p ∈ ra q.s (capsL q.l), w.heap[p.1]? = some p.2) := rd_slice Tryz.underlying24 (by kernel_rfl) (by kernel_rfl : Tryz.prog.bytesOf 27 = 48) (by omega) (by omega) cap_len rd_cap
theorem ints_flat (l : List Int) : l.flatMap (fun i : Int => [Value.int .i64 i]) = ints l := by
  induction l with
  | nil => rfl
  | cons i l ih => rw [List.flatMap_cons, ih]; rfl
theorem rd_ints : RdT enc Tryz.prog w 25 (fun q : SlA Int => [sv q.s q.l.length]) (fun q => Sok 1 q.s q.l.length (ints q.l) ∧ (∀ a ∈ q.l, I64 a) ∧ ∀ p ∈ ra q.s (ints q.l), w.heap[p.1]? = some p.2) := fun n cs x h hl => by
  obtain ⟨a, h1, h2⟩ := rd_slice (sz := 1) (L := fun i : Int => [Value.int .i64 i]) Tryz.underlying25 (by kernel_rfl) (by kernel_rfl : Tryz.prog.bytesOf 3 = 8) (by omega) (by omega) (fun _ => rfl) rd_i64 n cs x h hl
  rw [ints_flat] at h2
  exact ⟨a, h1, h2⟩
structure CaseI (x : CaseM) : Prop where
  code : ∀ y ∈ x.code, InsI y
  regs : ∀ c ∈ x.regs, CapI c
  mem : ∀ c ∈ x.mem, CapI c
  paint : ∀ p ∈ x.paint, I64 p
  pos : CapI x.pos
theorem rd_case : RdT enc Tryz.prog w 29 (fun p : CaseS × CaseM => caseL p.1 p.2) (fun p => CaseOk p.1 p.2 ∧ CaseI p.2 ∧ ∀ y ∈ caseRo p.1 p.2, w.heap[y.1]? = some y.2) := fun n cs x h hl => by
  have ht : Tryz.prog.underlying 29 = some (.struct (Tryz.prog.fieldsOf 29)) := by kernel_rfl
  have hlen : cs.length = 10 := (rd_fields ht h hl).1.trans (by kernel_rfl)
  obtain ⟨a0, e0, g0⟩ := rd_field ht h hl 0 (by kernel_rfl : fldOf Tryz.prog 29 0 = some (23, 0, 1)) rd_inss
  obtain ⟨a1, e1, g1⟩ := rd_field ht h hl 1 (by kernel_rfl : fldOf Tryz.prog 29 1 = some (24, 1, 1)) rd_caps
  obtain ⟨a2, e2, g2⟩ := rd_field ht h hl 2 (by kernel_rfl : fldOf Tryz.prog 29 2 = some (24, 2, 1)) rd_caps
  obtain ⟨a3, e3, g3⟩ := rd_field ht h hl 3 (by kernel_rfl : fldOf Tryz.prog 29 3 = some (25, 3, 1)) rd_ints
  obtain ⟨a4, e4, g4⟩ := rd_field ht h hl 4 (by kernel_rfl : fldOf Tryz.prog 29 4 = some (27, 4, 6)) rd_cap
  match cs, hlen with
  | [c0, c1, c2, c3, c4, c5, c6, c7, c8, c9], _ =>
    simp only [List.drop, List.take] at e0 e1 e2 e3 e4
    simp only [List.cons.injEq, and_true] at e0 e1 e2 e3
    simp only [Cap.l, List.cons.injEq, and_true] at e4
    obtain ⟨f0, f1, f2, f3, f4, f5⟩ := e4
    subst e0 e1 e2 e3 f0 f1 f2 f3 f4 f5
    refine ⟨(⟨a0.s, a0.l.length, a1.s, a1.l.length, a2.s, a2.l.length, a3.s, a3.l.length⟩, ⟨a0.l, a1.l, a2.l, a3.l, a4⟩), rfl, ⟨g0.1, g1.1, g2.1, g3.1⟩, ⟨g0.2.1, g1.2.1, g2.2.1, g3.2.1, g4⟩, fun y hy => ?_⟩
    rcases List.mem_append.1 hy with hy | hy
    · exact g0.2.2 y hy
    · rcases List.mem_append.1 hy with hy | hy
      · exact g1.2.2 y hy
      · rcases List.mem_append.1 hy with hy | hy
        · exact g2.2.2 y hy
        · exact g3.2.2 y hy
end

end Go.Proofs
