/- Contracts of functions: what each computes, and what becomes of the memory that it is given. -/
import Derived.Test.YtfphgpamccbkaaaGreatProg
import Derived.Test.YtfphgpamccbkaaaGreatKp4
set_option linter.unusedVariables false
set_option linter.unusedSimpArgs false
set_option linter.unusedSectionVars false
set_option linter.unnecessarySimpa false
namespace Go.Proofs
open Go Go.Sz
attribute [local irreducible] pt lift exs own emp

abbrev stPt (x : CaseM) : Stp := ⟨(0, 0, 0), posB x, regsB x, [], madeM x⟩
theorem posB_len (x : CaseM) : (thrCaps (posC x) (madeR x) []).length = 9 := by unfold thrCaps; simp; exact madeRJ_len _ _
theorem right_base {l : List Cap} (h : ∀ c ∈ l, capRight c = true) (i : Nat) : (l.getD i nullC).base ≤ 9223372036854775807 := by
  by_cases hi : i < l.length
  · rw [← some_getD hi]; have := span_ok (h _ (List.getElem_mem hi)); omega
  · rw [List.getD_eq_getElem?_getD, List.getElem?_eq_none (by omega)]; show (0 : Int) ≤ _; omega
theorem made_base (x : CaseM) (i : Nat) : ((thrCaps (posC x) (madeR x) []).getD i nullC).base ≤ 9223372036854775807 := by
  refine right_base (fun c hc => ?_) i
  unfold thrCaps at hc
  rcases List.mem_append.1 hc with h | h
  · rcases List.mem_cons.1 h with rfl | h
    · exact posC_right x
    · exact madeRJ_right x _ c h
  · cases h
theorem allB (p : Pl) (x : CaseM) (s1 : Shp) (hw : ShOk p.ps (madeW x) 64) (hs1 : Sok 6 s1 (9 + 5 * ([] : List Fr).length) (capsL (thrCaps (posC x) (madeR x) []))) :
    Ct Tryz.prog 40 #[ad p.sb 0, sv s1 (9 + 5 * ([] : List Fr).length)] ([(p.sb, swO p.mb p.pb false (.slice none 0 0) 0), (p.pb, shO p.ps 1 64)] ++ (ra p.ps (u64s (madeW x)) ++ ra s1 (capsL (thrCaps (posC x) (madeR x) [])))) []
      (X := {s : Shp // Sow 6 s (9 + 5 * ([] : List Fr).length) (capsL (thrCaps (posB x) (regsB x) []))}) (fun y => sv y.1 (9 + 5 * ([] : List Fr).length)) (fun y N => sl y.1 (capsL (thrCaps (posB x) (regsB x) [])) :: N) := by
  have h := f40_ct p.sb p.mb false (.slice none 0 0) 0 p.pb p.ps (madeW x) 64 hw s1 _ (thrCaps (posC x) (madeR x) []) hs1 (made_base x) (by show 9 + 5 * 0 ≤ _; omega)
  rw [thrB, show (madeW x).length = 1 from madeWJ_len _ _] at h
  exact h
theorem barrB (p : Pl) (x : CaseM) (hw : ShOk p.ps (madeW x) 64) (c : Cap) (hc : c.base ≤ 9223372036854775807) (h : NotP (madeW x) c) : Rd Tryz.prog 44 #[ad p.sb 0, c.v] ([(p.sb, swO p.mb p.pb false (.slice none 0 0) 0), (p.pb, shO p.ps 1 64)] ++ ra p.ps (u64s (madeW x))) [] c.v := by
  have k := f44_ct p.sb p.mb false (.slice none 0 0) 0 p.pb p.ps (madeW x) 64 hw c hc
  rw [notP_barr h, show (madeW x).length = 1 from madeWJ_len _ _] at k
  exact k
attribute [local irreducible] posB regsB heldL

theorem getD_mem {l : List Cap} {j : Nat} (h : j < l.length) : l.getD j nullC ∈ l := by rw [← some_getD h]; exact List.getElem_mem h
theorem thr_all {P Q : Cap → Prop} {pos : Cap} {regs : List Cap} {fs : List Fr} {m : MemM} (A : AllP P Q pos regs fs m) : ∀ c ∈ thrCaps pos regs fs, P c := by
  intro c hc
  unfold thrCaps at hc
  rcases List.mem_append.1 hc with h | h
  · rcases List.mem_cons.1 h with rfl | h
    · exact A.pos
    · exact A.regs c h
  · obtain ⟨f, hf, h2⟩ := List.mem_flatMap.1 h
    exact A.fs f hf c h2

theorem f10_ct (q : CaseS) (x : CaseM) (a1 : Int) (hq : CaseOk q x) (h1 : 0 ≤ a1 ∧ a1 ≤ 255) : Ct Tryz.prog 10 #[caseV q x, .int .u8 a1] (caseRo q x) [] (fun _ : Unit => .bool true) (fun _ N => N) := by
  refine ct_intro Tryz.func10 rfl (by kernel_rfl) (n := 123) rfl rfl (E := [(0, caseV q x), (1, .int .u8 a1)]) rfl ?_
  intro κ hro
  refine tc_seq ?_
  refine tc_region ?_
  refine tl_box rfl rfl (fun b2 => ?_)
  refine tl_p (pr_assign rfl) rfl ?_
  refine tl_next ?_
  refine tc_seq ?_
  refine tc_region ?_
  refine tl_callS (f12_ct) (.nil) rfl (kk := fun _ => ?_)
  refine tl_p (pr_assign rfl) rfl ?_
  refine tl_next ?_
  refine tc_seq ?_
  refine tc_seq ?_
  refine tc_region ?_
  refine tl_p (by first | exact pr_loadW Tryz.ag29 Tryz.sz29 rfl | exact pr_ldA Tryz.ag29 Tryz.sz29 rfl) rfl ?_
  refine tl_rdS (f13_ct q x hq) (.cons rfl .nil) rfl (kk := ?_)
  refine tl_next ?_
  refine tc_if rfl (fun hc1 => ?_) (fun hc1 => ?_)
  · have hd1 := hc1
    try simp only [Bool.not_eq_true', Bool.not_eq_false', Bool.or_eq_true, Bool.and_eq_true, Bool.or_eq_false_iff, Bool.and_eq_false_iff, decide_eq_true_eq, decide_eq_false_iff_not, Bool.not_true, Bool.not_false, gval, Bool.not_eq_eq_eq_not] at hc1
    refine tc_seq ?_
    refine tc_region ?_
    refine tl_p (pr_move rfl) rfl ?_
    refine tl_p (pr_assign rfl) rfl ?_
    refine tl_next ?_
    refine tc_ret (tq_then_ret ?_)
    exact tq_ret1 .ret (.inl rfl) () rfl rfl
  · have hd1 := hc1
    try simp only [Bool.not_eq_true', Bool.not_eq_false', Bool.or_eq_true, Bool.and_eq_true, Bool.or_eq_false_iff, Bool.and_eq_false_iff, decide_eq_true_eq, decide_eq_false_iff_not, Bool.not_true, Bool.not_false, gval, Bool.not_eq_eq_eq_not] at hc1
    have hg : greatC x = false := hd1
    refine tc_skip (tq_next ?_)
    refine tc_seq ?_
    refine tc_region ?_
    refine tl_p (by first | exact pr_loadW Tryz.ag29 Tryz.sz29 rfl | exact pr_ldA Tryz.ag29 Tryz.sz29 rfl) rfl ?_
    refine tl_callS (f14_ct q x hq hg) (.cons rfl .nil) rfl (hro := Rdbs.of hro) (kk := fun ⟨p21, hm21, hw21⟩ => ?_)
    refine tl_p (pr_move rfl) rfl ?_
    refine tl_p (pr_extract rfl rfl) rfl ?_
    refine tl_p (pr_extract rfl rfl) rfl ?_
    refine tl_p (pr_extract rfl rfl) rfl ?_
    refine tl_p (pr_assign rfl) rfl ?_
    refine tl_p (pr_assign rfl) rfl ?_
    refine tl_p (pr_assign rfl) rfl ?_
    refine tl_next ?_
    refine tc_seq ?_
    refine tc_seq ?_
    refine tc_region ?_
    refine tl_p (pr_move rfl) rfl ?_
    refine tl_p (pr_eqlP Tryz.underlying34 rfl (.inr ⟨_, rfl⟩)) rfl ?_
    refine tl_next ?_
    refine tc_if_false rfl rfl ?_
    refine tc_skip (tq_next ?_)
    refine tc_seq ?_
    refine tc_region ?_
    refine tl_p (pr_move rfl) rfl ?_
    refine tl_p (pr_move rfl) rfl ?_
    refine tl_callS (f29_ct p21.tb (posC x) p21.rb p21.fb (madeR x) (madeRJ_len _ _) []) (.cons rfl .nil) rfl (kk := fun ⟨s29, hs29, hb29⟩ => ?_)
    refine tl_callS (allB p21 x s29 hw21 hs29.toSok) (.cons rfl (.cons rfl .nil)) rfl (kk := fun ⟨s30, hs30⟩ => ?_)
    refine tl_p (pr_assign rfl) rfl ?_
    refine tl_next ?_
    refine tc_seq ?_
    refine tc_seq ?_
    refine tc_region ?_
    refine tl_p (pr_move rfl) rfl ?_
    refine tl_p (pr_move rfl) rfl ?_
    refine tl_callS (f41_ct p21.tb (posC x) p21.rb p21.fb (madeR x) (madeRJ_len _ _) [] (posB x) (regsB x) [] s30 (regsB_len x) rfl (thrB_right x) hs30.toSok) (.cons rfl (.cons rfl .nil)) rfl (kk := fun _ => ?_)
    refine tl_p (pr_not rfl) rfl ?_
    refine tl_next ?_
    refine tc_if_false rfl rfl ?_
    refine tc_skip (tq_next ?_)
    refine tc_seq ?_
    refine tc_region ?_
    refine tl_p (pr_move rfl) rfl ?_
    refine tl_p (pr_move rfl) rfl ?_
    refine tl_callS ((f42_ct p21.tb (posB x) p21.rb p21.fb (regsB x) (regsB_len x) [] p21.mb p21.ms (madeM x) hm21).cast rfl (by rw [madeM_n])) (.cons rfl (.cons rfl .nil)) rfl (kk := fun ⟨s37, hs37, hb37⟩ => ?_)
    refine tl_p (pr_assign rfl) rfl ?_
    refine tl_next ?_
    refine tc_seq ?_
    refine tc_seq ?_
    refine tc_region ?_
    refine tl_p (pr_assign rfl) rfl ?_
    refine tl_next ?_
    refine tc_block ?_
    have hHn : (heldB x).length = 9 + 5 * ([] : List Fr).length + (tagsL (madeM x)).length := caps_n hs37.toSok
    have htl := tagsL_le (madeM x)
    rw [madeM_n] at htl
    refine tc_loopP (X := Nat) (fun j => j ≤ 9 + 5 * ([] : List Fr).length + (tagsL (madeM x)).length ∧ ∀ i, i < j → badC x ((heldB x).getD i nullC) = false) (fun j => [(1, .int .u8 a1), (2, ad b2 0), (5, .bool true), (6, ad p21.tb 0), (7, ad p21.mb 0), (8, ad p21.sb 0), (10, sv s37 (9 + 5 * ([] : List Fr).length + (tagsL (madeM x)).length)), (11, .int .i64 (j : Int))]) (fun j => sl s37 (capsL (heldB x)) :: pt b2 (.cells (List.toArray (caseL q x)) 29 (0, 0)) :: worldI p21 (stPt x) (madeW x)) (fun j => 9 + 5 * ([] : List Fr).length + (tagsL (madeM x)).length - j) 0 ⟨by omega, fun i hi => absurd hi (by omega)⟩ (.cons rfl (.cons rfl (.cons rfl (.cons rfl (.cons rfl (.cons rfl (.cons rfl (.cons rfl .nil)))))))) (fun j hj => ?_)
    have hj1 := hj.1
    have hj2 := hj.2
    refine tc_seq ?_
    refine tc_seq ?_
    refine tc_region ?_
    refine tl_p (pr_move rfl) rfl ?_
    refine tl_p (pr_move rfl) rfl ?_
    refine tl_p (pr_lenS Tryz.sf24 rfl hs37.toSok) rfl ?_
    refine tl_p (pr_lss rfl rfl) rfl ?_
    refine tl_next ?_
    refine tc_if rfl (fun hc4 => ?_) (fun hc4 => ?_)
    · have hd4 := hc4
      try simp only [Bool.not_eq_true', Bool.not_eq_false', Bool.or_eq_true, Bool.and_eq_true, Bool.or_eq_false_iff, Bool.and_eq_false_iff, decide_eq_true_eq, decide_eq_false_iff_not, Bool.not_true, Bool.not_false, gval, Bool.not_eq_eq_eq_not] at hc4
      refine tc_skip (tq_next ?_)
      refine tc_seq ?_
      refine tc_block ?_
      refine tc_seq ?_
      refine tc_draw Tryz.mixed [0, 1, 2, 3, 4, 5, 6, 7, 8, 9, 10, 11, 12, 13, 14, 15, 16, 17, 18, 19, 20, 21, 22, 23, 24, 25, 26] (by kernel_rfl) ?_
      refine td_q 0 44 (pm_of rfl rfl rfl (fun _ kq => tl_p (pr_move rfl) rfl kq)) rfl rfl rfl ?_
      refine td_q 1 45 (pm_of rfl rfl rfl (fun _ kq => tl_p (pr_move rfl) rfl kq)) rfl rfl rfl ?_
      refine td_q 2 46 (pm_of rfl rfl rfl (fun _ kq => tl_p (pr_ixE Tryz.sl24 rfl rfl (by omega) (by omega) hs37.toSok) rfl kq)) rfl rfl rfl ?_
      refine td_q 3 47 (pm_of rfl rfl rfl (fun _ kq => tl_p (pr_faE Tryz.fo27_0 rfl (s := s37) (j := (j : Int).toNat * 6) (hs37.toSok.isM (by omega))) rfl kq)) rfl rfl rfl ?_
      refine td_q 4 48 (pm_of rfl rfl rfl (fun _ kq => tl_p (pr_ldE Tryz.ag4 rfl (s := s37) (j := (j : Int).toNat * 6 + 0) (c := capsL (heldB x)) (v := .bool ((heldB x).getD j nullC).tag) (by rw [caps_at (j := j) (k := 0) (by omega) (by omega) (by omega)]; rfl) (hs37.toSok.isM (by omega))) rfl kq)) rfl rfl rfl ?_
      refine td_q 5 49 (pm_of rfl rfl rfl (fun _ kq => tl_p (pr_move rfl) rfl kq)) rfl rfl rfl ?_
      refine td_q 6 50 (pm_of rfl rfl rfl (fun _ kq => tl_gt rfl rfl (fun h => pr_move rfl) (by intro _ h; cases h) rfl kq)) rfl rfl rfl ?_
      refine td_q 7 51 (pm_of rfl rfl rfl (fun _ kq => tl_gt rfl rfl (fun h => pr_move rfl) (by intro _ h; cases h) rfl kq)) rfl rfl rfl ?_
      refine td_q 8 52 (pm_of rfl rfl rfl (fun _ kq => tl_gt rfl rfl (fun h => pr_ixE Tryz.sl24 (gv rfl h) (gv rfl h) (by omega) (by omega) hs37.toSok) (by intro _ h; cases h) rfl kq)) rfl rfl rfl ?_
      refine td_q 9 53 (pm_of rfl rfl rfl (fun _ kq => tl_gt rfl rfl (fun h => pr_faE Tryz.fo27_1 (gv rfl h) (s := s37) (j := (j : Int).toNat * 6) (hs37.toSok.isM (by omega))) (by intro _ h; cases h) rfl kq)) rfl rfl rfl ?_
      refine td_q 10 54 (pm_of rfl rfl rfl (fun _ kq => tl_gt rfl rfl (fun h => pr_ldE Tryz.ag3 (gv rfl h) (s := s37) (j := (j : Int).toNat * 6 + 1) (c := capsL (heldB x)) (v := .int .i64 ((heldB x).getD j nullC).base) (by rw [caps_at (j := j) (k := 1) (by omega) (by omega) (by omega)]; rfl) (hs37.toSok.isM (by omega))) (by intro _ h; cases h) rfl kq)) rfl rfl rfl ?_
      refine td_q 11 55 (pm_of rfl rfl rfl (fun _ kq => tl_gt rfl rfl (fun h => pr_move rfl) (by intro _ h; cases h) rfl kq)) rfl rfl rfl ?_
      refine td_q 12 56 (pm_of rfl rfl rfl (fun _ kq => tl_gt rfl rfl (fun h => pr_move rfl) (by intro _ h; cases h) rfl kq)) rfl rfl rfl ?_
      refine td_q 13 57 (pm_of rfl rfl rfl (fun _ kq => tl_gt rfl rfl (fun h => pr_ixE Tryz.sl24 (gv rfl h) (gv rfl h) (by omega) (by omega) hs37.toSok) (by intro _ h; cases h) rfl kq)) rfl rfl rfl ?_
      refine td_q 14 58 (pm_of rfl rfl rfl (fun _ kq => tl_gt rfl rfl (fun h => pr_faE Tryz.fo27_2 (gv rfl h) (s := s37) (j := (j : Int).toNat * 6) (hs37.toSok.isM (by omega))) (by intro _ h; cases h) rfl kq)) rfl rfl rfl ?_
      refine td_q 15 59 (pm_of rfl rfl rfl (fun _ kq => tl_gt rfl rfl (fun h => pr_ldE Tryz.ag3 (gv rfl h) (s := s37) (j := (j : Int).toNat * 6 + 2) (c := capsL (heldB x)) (v := .int .i64 ((heldB x).getD j nullC).top) (by rw [caps_at (j := j) (k := 2) (by omega) (by omega) (by omega)]; rfl) (hs37.toSok.isM (by omega))) (by intro _ h; cases h) rfl kq)) rfl rfl rfl ?_
      refine td_q 16 60 (pm_of rfl rfl rfl (fun _ kq => tl_gt rfl rfl (fun h => pr_lss (gv rfl h) (gv rfl h)) (by intro _ h; cases h) rfl kq)) rfl rfl rfl ?_
      refine td_q 17 61 (pm_of rfl rfl rfl (fun _ kq => tl_p (pr_and rfl rfl rfl) rfl kq)) rfl rfl rfl ?_
      refine td_q 18 62 (pm_of rfl rfl rfl (fun _ kq => tl_p (pr_move rfl) rfl kq)) rfl rfl rfl ?_
      refine td_q 19 63 (pm_of rfl rfl rfl (fun _ kq => tl_gt rfl rfl (fun h => by first | exact pr_loadW Tryz.ag29 Tryz.sz29 rfl | exact pr_ldA Tryz.ag29 Tryz.sz29 rfl) (by intro _ h; cases h) rfl kq)) rfl rfl rfl ?_
      refine td_q 20 64 (pm_of rfl rfl rfl (fun _ kq => tl_gt rfl rfl (fun h => pr_move rfl) (by intro _ h; cases h) rfl kq)) rfl rfl rfl ?_
      refine td_q 21 65 (pm_of rfl rfl rfl (fun _ kq => tl_gt rfl rfl (fun h => pr_move rfl) (by intro _ h; cases h) rfl kq)) rfl rfl rfl ?_
      refine td_q 22 66 (pm_of rfl rfl rfl (fun _ kq => tl_gt rfl rfl (fun h => pr_ixE Tryz.sl24 (gv rfl h) (gv rfl h) (by omega) (by omega) hs37.toSok) (by intro _ h; cases h) rfl kq)) rfl rfl rfl ?_
      refine td_q 23 67 (pm_of rfl rfl rfl (fun _ kq => tl_gt rfl rfl (fun h => pr_ldEA Tryz.ag27 Tryz.sz27 (gv rfl h) (c := capsL (heldB x)) (m := Cap.l ((heldB x).getD j nullC)) (fm_le cap_len (heldB x) j (by omega)) (fm_cut cap_len (heldB x) j (at_getD (by omega))) (hs37.toSok.isM (by omega))) (by intro _ h; cases h) rfl kq)) rfl rfl rfl ?_
      refine td_q 24 68 (pm_of rfl rfl rfl (fun _ kq => tl_rdgtS rfl rfl (fun h => ⟨f43_ct q x hq _ (by have h2 : (((heldB x).getD j nullC).tag && decide (((heldB x).getD j nullC).base < ((heldB x).getD j nullC).top)) = true := (by simpa using h); rw [Bool.and_eq_true] at h2; exact held_span (getD_mem (by omega)) h2.1), .cons (gv rfl h) (.cons (gv rfl h) .nil)⟩) rfl (kk := kq))) rfl rfl rfl ?_
      refine td_q 25 69 (pm_of rfl rfl rfl (fun _ kq => tl_gt rfl rfl (fun h => pr_not (gv rfl h)) (by intro _ h; cases h) rfl kq)) rfl rfl rfl ?_
      refine td_q 26 70 (pm_of rfl rfl rfl (fun _ kq => tl_p (pr_and rfl rfl rfl) rfl kq)) rfl rfl rfl ?_
      refine td_done (by kernel_rfl) ?_
      refine tq_next ?_
      refine tc_if rfl (fun hc5 => ?_) (fun hc5 => ?_)
      · have hd5 := hc5
        try simp only [Bool.not_eq_true', Bool.not_eq_false', Bool.or_eq_true, Bool.and_eq_true, Bool.or_eq_false_iff, Bool.and_eq_false_iff, decide_eq_true_eq, decide_eq_false_iff_not, Bool.not_true, Bool.not_false, gval, Bool.not_eq_eq_eq_not] at hc5
        refine tc_seq ?_
        refine tc_region ?_
        refine tl_p (pr_move rfl) rfl ?_
        refine tl_p (pr_assign rfl) rfl ?_
        refine tl_next ?_
        refine tc_ret (tq_blk_ret (tq_then_ret (tq_then_ret (tq_blk_ret (tq_then_ret ?_)))))
        exact tq_ret1 .ret (.inl rfl) () rfl rfl
      · have hd5 := hc5
        try simp only [Bool.not_eq_true', Bool.not_eq_false', Bool.or_eq_true, Bool.and_eq_true, Bool.or_eq_false_iff, Bool.and_eq_false_iff, decide_eq_true_eq, decide_eq_false_iff_not, Bool.not_true, Bool.not_false, gval, Bool.not_eq_eq_eq_not] at hc5
        refine tc_skip (tq_blk_normal (tq_next ?_))
        refine tc_region ?_
        refine tl_p (pr_move rfl) rfl ?_
        refine tl_p (pr_addN rfl rfl (by omega)) rfl ?_
        refine tl_p (pr_assign rfl) rfl ?_
        refine tl_nil ?_
        exact tq_roundP (j + 1) ⟨by omega, fun i hi => by by_cases e : i = j; (· subst e; exact hd5); (· exact hj2 i (by omega))⟩ (by omega) (.cons rfl (.cons rfl (.cons rfl (.cons rfl (.cons rfl (.cons rfl (.cons rfl (.cons rfl .nil))))))))
    · have hd4 := hc4
      try simp only [Bool.not_eq_true', Bool.not_eq_false', Bool.or_eq_true, Bool.and_eq_true, Bool.or_eq_false_iff, Bool.and_eq_false_iff, decide_eq_true_eq, decide_eq_false_iff_not, Bool.not_true, Bool.not_false, gval, Bool.not_eq_eq_eq_not] at hc4
      refine tc_exit (tq_then_exit (tq_then_exit (tq_blk_here ?_)))
      refine tq_next ?_
      refine tc_seq ?_
      refine tc_seq ?_
      refine tc_region ?_
      refine tl_p (pr_assign rfl) rfl ?_
      refine tl_next ?_
      refine tc_block ?_
      have hAll : AllP (NotP (madeW x)) (WholeP (madeW x)) (posB x) (regsB x) [] (madeM x) := start_all hg fun c hc => by
        obtain ⟨i, hi, e⟩ := List.getElem_of_mem hc
        rw [← e, some_getD hi nullC]; exact hj2 i (by omega)
      refine tc_loopP (X := Nat × Stp) (fun j => (j.1 : Int) ≤ a1 % 64 ∧ j.2.regs.length = 8 ∧ j.2.m.n = 4 ∧ AllP (NotP (madeW x)) (WholeP (madeW x)) j.2.pos j.2.regs j.2.fs j.2.m) (fun j => [(1, .int .u8 a1), (2, ad b2 0), (5, .bool true), (6, ad p21.tb 0), (7, ad p21.mb 0), (8, ad p21.sb 0), (12, .int .i64 (j.1 : Int))]) (fun j => pt b2 (.cells (List.toArray (caseL q x)) 29 (0, 0)) :: worldI p21 j.2 (madeW x)) (fun j => (a1 % 64 - (j.1 : Int)).toNat) (0, stPt x) ⟨by show ((0 : Nat) : Int) ≤ _; omega, regsB_len x, madeM_n x, hAll⟩ (.cons rfl (.cons rfl (.cons rfl (.cons rfl (.cons rfl (.cons rfl (.cons rfl .nil))))))) (fun j hj => ?_)
      obtain ⟨S, hS⟩ : ∃ S, stepF j.2.pos j.2.regs j.2.fs j.2.m (madeW x) 64 = S := ⟨_, rfl⟩
      have hj1 := hj.1
      have hjl := hj.2.1
      have hjn := hj.2.2.1
      have hSl : S.regs.length = 8 := by rw [← hS]; exact stepF_len hjl
      have hSn : S.m.n = 4 := by rw [← hS]; exact stepF_n.trans hjn
      have hjm : MOk p21.ms j.2.m := hm21.of (hjn.trans (madeM_n x).symm)
      have hSm : MOk p21.ms S.m := hm21.of (hSn.trans (madeM_n x).symm)
      have hWl : (madeW x).length = 1 := madeWJ_len _ _
      have hjA := hj.2.2.2
      have hSA : AllP (NotP (madeW x)) (WholeP (madeW x)) S.pos S.regs S.fs S.m := by rw [← hS]; exact step_keeps (notP_keeps _) (notP_call _) hjA
      refine tc_seq ?_
      refine tc_seq ?_
      refine tc_region ?_
      refine tl_p (pr_move rfl) rfl ?_
      refine tl_p (pr_move rfl) rfl ?_
      refine tl_p (pr_eq (v' := .int .u8 (a1 % 64)) (pr_rem rfl rfl (by decide)) (by rw [mod_u8 h1.1])) rfl ?_
      refine tl_p (pr_eqI (j := a1 % 64) (pr_conv Tryz.it3 Tryz.underlying5 rfl) (wI_of (by omega))) rfl ?_
      refine tl_p (pr_lss rfl rfl) rfl ?_
      refine tl_next ?_
      refine tc_if rfl (fun hc6 => ?_) (fun hc6 => ?_)
      · have hd6 := hc6
        try simp only [Bool.not_eq_true', Bool.not_eq_false', Bool.or_eq_true, Bool.and_eq_true, Bool.or_eq_false_iff, Bool.and_eq_false_iff, decide_eq_true_eq, decide_eq_false_iff_not, Bool.not_true, Bool.not_false, gval, Bool.not_eq_eq_eq_not] at hc6
        refine tc_skip (tq_next ?_)
        refine tc_seq ?_
        refine tc_block ?_
        refine tc_seq ?_
        refine tc_region ?_
        refine tl_p (pr_move rfl) rfl ?_
        refine tl_p (pr_move rfl) rfl ?_
        refine tl_p (pr_move rfl) rfl ?_
        refine tl_callS (stepE_ct p21 hS hjl hjm hjn hw21 hWl) (.cons rfl (.cons rfl (.cons rfl .nil))) rfl (kk := fun _ => ?_)
        refine tl_next ?_
        refine tc_seq ?_
        refine tc_region ?_
        refine tl_p (pr_move rfl) rfl ?_
        refine tl_callS (f29_ct p21.tb S.pos p21.rb p21.fb S.regs hSl S.fs) (.cons rfl .nil) rfl (kk := fun ⟨s84, hs84, hb84⟩ => ?_)
        refine tl_p (pr_assign rfl) rfl ?_
        refine tl_next ?_
        refine tc_seq ?_
        refine tc_region ?_
        refine tl_p (pr_assign rfl) rfl ?_
        refine tl_next ?_
        refine tc_block ?_
        have hTn : (thrCaps S.pos S.regs S.fs).length = 9 + 5 * S.fs.length := caps_n hs84.toSok
        refine tc_loopP (X := Nat) (fun k => k ≤ 9 + 5 * S.fs.length) (fun k => [(1, .int .u8 a1), (2, ad b2 0), (5, .bool true), (6, ad p21.tb 0), (7, ad p21.mb 0), (8, ad p21.sb 0), (12, .int .i64 (j.1 : Int)), (13, sv s84 (9 + 5 * S.fs.length)), (14, .int .i64 (k : Int))]) (fun k => sl s84 (capsL (thrCaps S.pos S.regs S.fs)) :: pt b2 (.cells (List.toArray (caseL q x)) 29 (0, 0)) :: worldI p21 S (madeW x)) (fun k => 9 + 5 * S.fs.length - k) 0 (by omega) (.cons rfl (.cons rfl (.cons rfl (.cons rfl (.cons rfl (.cons rfl (.cons rfl (.cons rfl (.cons rfl .nil))))))))) (fun k hj => ?_)
        have hk1 := hj
        have hkc : NotP (madeW x) ((thrCaps S.pos S.regs S.fs).getD k nullC) := (notP_keeps (madeW x)).getD (thr_all hSA) k
        refine tc_seq ?_
        refine tc_seq ?_
        refine tc_region ?_
        refine tl_p (pr_move rfl) rfl ?_
        refine tl_p (pr_move rfl) rfl ?_
        refine tl_p (pr_lenS Tryz.sf24 rfl hs84.toSok) rfl ?_
        refine tl_p (pr_lss rfl rfl) rfl ?_
        refine tl_next ?_
        refine tc_if rfl (fun hc7 => ?_) (fun hc7 => ?_)
        · have hd7 := hc7
          try simp only [Bool.not_eq_true', Bool.not_eq_false', Bool.or_eq_true, Bool.and_eq_true, Bool.or_eq_false_iff, Bool.and_eq_false_iff, decide_eq_true_eq, decide_eq_false_iff_not, Bool.not_true, Bool.not_false, gval, Bool.not_eq_eq_eq_not] at hc7
          refine tc_skip (tq_next ?_)
          refine tc_seq ?_
          refine tc_block ?_
          refine tc_seq ?_
          refine tc_draw Tryz.mixed [0, 1, 2, 3, 4, 5, 6, 7, 8, 9, 10, 11, 12, 13, 14, 15, 16, 17, 18, 19, 20, 21, 22, 23, 24, 25, 26, 27, 28, 29, 30] (by kernel_rfl) ?_
          refine td_q 0 91 (pm_of rfl rfl rfl (fun _ kq => tl_p (pr_move rfl) rfl kq)) rfl rfl rfl ?_
          refine td_q 1 92 (pm_of rfl rfl rfl (fun _ kq => tl_p (pr_move rfl) rfl kq)) rfl rfl rfl ?_
          refine td_q 2 93 (pm_of rfl rfl rfl (fun _ kq => tl_p (pr_ixE Tryz.sl24 rfl rfl (by omega) (by omega) hs84.toSok) rfl kq)) rfl rfl rfl ?_
          refine td_q 3 94 (pm_of rfl rfl rfl (fun _ kq => tl_p (pr_faE Tryz.fo27_0 rfl (s := s84) (j := (k : Int).toNat * 6) (hs84.toSok.isM (by omega))) rfl kq)) rfl rfl rfl ?_
          refine td_q 4 95 (pm_of rfl rfl rfl (fun _ kq => tl_p (pr_ldE Tryz.ag4 rfl (s := s84) (j := (k : Int).toNat * 6 + 0) (c := capsL (thrCaps S.pos S.regs S.fs)) (v := .bool ((thrCaps S.pos S.regs S.fs).getD k nullC).tag) (by rw [caps_at (j := k) (k := 0) (by omega) (by omega) (by omega)]; rfl) (hs84.toSok.isM (by omega))) rfl kq)) rfl rfl rfl ?_
          refine td_q 5 96 (pm_of rfl rfl rfl (fun _ kq => tl_p (pr_move rfl) rfl kq)) rfl rfl rfl ?_
          refine td_q 6 97 (pm_of rfl rfl rfl (fun _ kq => tl_gt rfl rfl (fun h => pr_move rfl) (by intro _ h; cases h) rfl kq)) rfl rfl rfl ?_
          refine td_q 7 98 (pm_of rfl rfl rfl (fun _ kq => tl_gt rfl rfl (fun h => pr_move rfl) (by intro _ h; cases h) rfl kq)) rfl rfl rfl ?_
          refine td_q 8 99 (pm_of rfl rfl rfl (fun _ kq => tl_gt rfl rfl (fun h => pr_ixE Tryz.sl24 (gv rfl h) (gv rfl h) (by omega) (by omega) hs84.toSok) (by intro _ h; cases h) rfl kq)) rfl rfl rfl ?_
          refine td_q 9 100 (pm_of rfl rfl rfl (fun _ kq => tl_gt rfl rfl (fun h => pr_faE Tryz.fo27_1 (gv rfl h) (s := s84) (j := (k : Int).toNat * 6) (hs84.toSok.isM (by omega))) (by intro _ h; cases h) rfl kq)) rfl rfl rfl ?_
          refine td_q 10 101 (pm_of rfl rfl rfl (fun _ kq => tl_gt rfl rfl (fun h => pr_ldE Tryz.ag3 (gv rfl h) (s := s84) (j := (k : Int).toNat * 6 + 1) (c := capsL (thrCaps S.pos S.regs S.fs)) (v := .int .i64 ((thrCaps S.pos S.regs S.fs).getD k nullC).base) (by rw [caps_at (j := k) (k := 1) (by omega) (by omega) (by omega)]; rfl) (hs84.toSok.isM (by omega))) (by intro _ h; cases h) rfl kq)) rfl rfl rfl ?_
          refine td_q 11 102 (pm_of rfl rfl rfl (fun _ kq => tl_gt rfl rfl (fun h => pr_move rfl) (by intro _ h; cases h) rfl kq)) rfl rfl rfl ?_
          refine td_q 12 103 (pm_of rfl rfl rfl (fun _ kq => tl_gt rfl rfl (fun h => pr_move rfl) (by intro _ h; cases h) rfl kq)) rfl rfl rfl ?_
          refine td_q 13 104 (pm_of rfl rfl rfl (fun _ kq => tl_gt rfl rfl (fun h => pr_ixE Tryz.sl24 (gv rfl h) (gv rfl h) (by omega) (by omega) hs84.toSok) (by intro _ h; cases h) rfl kq)) rfl rfl rfl ?_
          refine td_q 14 105 (pm_of rfl rfl rfl (fun _ kq => tl_gt rfl rfl (fun h => pr_faE Tryz.fo27_2 (gv rfl h) (s := s84) (j := (k : Int).toNat * 6) (hs84.toSok.isM (by omega))) (by intro _ h; cases h) rfl kq)) rfl rfl rfl ?_
          refine td_q 15 106 (pm_of rfl rfl rfl (fun _ kq => tl_gt rfl rfl (fun h => pr_ldE Tryz.ag3 (gv rfl h) (s := s84) (j := (k : Int).toNat * 6 + 2) (c := capsL (thrCaps S.pos S.regs S.fs)) (v := .int .i64 ((thrCaps S.pos S.regs S.fs).getD k nullC).top) (by rw [caps_at (j := k) (k := 2) (by omega) (by omega) (by omega)]; rfl) (hs84.toSok.isM (by omega))) (by intro _ h; cases h) rfl kq)) rfl rfl rfl ?_
          refine td_q 16 107 (pm_of rfl rfl rfl (fun _ kq => tl_gt rfl rfl (fun h => pr_lss (gv rfl h) (gv rfl h)) (by intro _ h; cases h) rfl kq)) rfl rfl rfl ?_
          refine td_q 17 108 (pm_of rfl rfl rfl (fun _ kq => tl_p (pr_and rfl rfl rfl) rfl kq)) rfl rfl rfl ?_
          refine td_q 18 109 (pm_of rfl rfl rfl (fun _ kq => tl_p (pr_move rfl) rfl kq)) rfl rfl rfl ?_
          refine td_q 19 110 (pm_of rfl rfl rfl (fun _ kq => tl_gt rfl rfl (fun h => pr_move rfl) (by intro _ h; cases h) rfl kq)) rfl rfl rfl ?_
          refine td_q 20 111 (pm_of rfl rfl rfl (fun _ kq => tl_gt rfl rfl (fun h => pr_move rfl) (by intro _ h; cases h) rfl kq)) rfl rfl rfl ?_
          refine td_q 21 112 (pm_of rfl rfl rfl (fun _ kq => tl_gt rfl rfl (fun h => pr_move rfl) (by intro _ h; cases h) rfl kq)) rfl rfl rfl ?_
          refine td_q 22 113 (pm_of rfl rfl rfl (fun _ kq => tl_gt rfl rfl (fun h => pr_ixE Tryz.sl24 (gv rfl h) (gv rfl h) (by omega) (by omega) hs84.toSok) (by intro _ h; cases h) rfl kq)) rfl rfl rfl ?_
          refine td_q 23 114 (pm_of rfl rfl rfl (fun _ kq => tl_gt rfl rfl (fun h => pr_ldEA Tryz.ag27 Tryz.sz27 (gv rfl h) (c := capsL (thrCaps S.pos S.regs S.fs)) (m := Cap.l ((thrCaps S.pos S.regs S.fs).getD k nullC)) (fm_le cap_len (thrCaps S.pos S.regs S.fs) k (by omega)) (fm_cut cap_len (thrCaps S.pos S.regs S.fs) k (at_getD (by omega))) (hs84.toSok.isM (by omega))) (by intro _ h; cases h) rfl kq)) rfl rfl rfl ?_
          refine td_q 24 115 (pm_of rfl rfl rfl (fun _ kq => tl_rdgtS rfl rfl (fun h => ⟨barrB p21 x hw21 ((thrCaps S.pos S.regs S.fs).getD k nullC) (by have h2 : (((thrCaps S.pos S.regs S.fs).getD k nullC).tag && decide (((thrCaps S.pos S.regs S.fs).getD k nullC).base < ((thrCaps S.pos S.regs S.fs).getD k nullC).top)) = true := (by simpa using h); rw [Bool.and_eq_true] at h2; have h3 := (hkc h2.1).1; omega) hkc, .cons (gv rfl h) (.cons (gv rfl h) .nil)⟩) rfl (kk := kq))) rfl rfl rfl ?_
          refine td_q 25 116 (pm_of rfl rfl rfl (fun _ kq => tl_gt rfl rfl (fun h => pr_move rfl) (by intro _ h; cases h) rfl kq)) rfl rfl rfl ?_
          refine td_q 26 117 (pm_of rfl rfl rfl (fun _ kq => tl_gt rfl rfl (fun h => pr_move rfl) (by intro _ h; cases h) rfl kq)) rfl rfl rfl ?_
          refine td_q 27 118 (pm_of rfl rfl rfl (fun _ kq => tl_gt rfl rfl (fun h => pr_ixE Tryz.sl24 (gv rfl h) (gv rfl h) (by omega) (by omega) hs84.toSok) (by intro _ h; cases h) rfl kq)) rfl rfl rfl ?_
          refine td_q 28 119 (pm_of rfl rfl rfl (fun _ kq => tl_gt rfl rfl (fun h => pr_ldEA Tryz.ag27 Tryz.sz27 (gv rfl h) (c := capsL (thrCaps S.pos S.regs S.fs)) (m := Cap.l ((thrCaps S.pos S.regs S.fs).getD k nullC)) (fm_le cap_len (thrCaps S.pos S.regs S.fs) k (by omega)) (fm_cut cap_len (thrCaps S.pos S.regs S.fs) k (at_getD (by omega))) (hs84.toSok.isM (by omega))) (by intro _ h; cases h) rfl kq)) rfl rfl rfl ?_
          refine td_q 29 120 (pm_of rfl rfl rfl (fun _ kq => tl_gt rfl rfl (fun h => pr_neqF Tryz.eqg27 Tryz.ff27 (gv rfl h) (gv rfl h) (b := true) ((capEq _ _).trans (by simp))) (by intro _ h; cases h) rfl kq)) rfl rfl rfl ?_
          refine td_q 30 121 (pm_of rfl rfl rfl (fun _ kq => tl_p (pr_and rfl rfl rfl) rfl kq)) rfl rfl rfl ?_
          refine td_done (by kernel_rfl) ?_
          refine tq_next ?_
          refine tc_if rfl (fun hc8 => ?_) (fun hc8 => ?_)
          · have hd8 := hc8
            try simp only [Bool.not_eq_true', Bool.not_eq_false', Bool.or_eq_true, Bool.and_eq_true, Bool.or_eq_false_iff, Bool.and_eq_false_iff, decide_eq_true_eq, decide_eq_false_iff_not, Bool.not_true, Bool.not_false, gval, Bool.not_eq_eq_eq_not] at hc8
            refine tc_seq ?_
            refine tc_region ?_
            refine tl_p (pr_assign rfl) rfl ?_
            refine tl_next ?_
            refine tc_ret (tq_blk_ret (tq_then_ret (tq_then_ret (tq_blk_ret (tq_blk_ret (tq_then_ret (tq_then_ret (tq_blk_ret (tq_then_ret ?_)))))))))
            exact absurd hd8 (by simp)
          · have hd8 := hc8
            try simp only [Bool.not_eq_true', Bool.not_eq_false', Bool.or_eq_true, Bool.and_eq_true, Bool.or_eq_false_iff, Bool.and_eq_false_iff, decide_eq_true_eq, decide_eq_false_iff_not, Bool.not_true, Bool.not_false, gval, Bool.not_eq_eq_eq_not] at hc8
            refine tc_skip (tq_blk_normal (tq_next ?_))
            refine tc_region ?_
            refine tl_p (pr_move rfl) rfl ?_
            refine tl_p (pr_addN rfl rfl (by omega)) rfl ?_
            refine tl_p (pr_assign rfl) rfl ?_
            refine tl_nil ?_
            exact tq_roundP (k + 1) (by omega) (by omega) (.cons rfl (.cons rfl (.cons rfl (.cons rfl (.cons rfl (.cons rfl (.cons rfl (.cons rfl (.cons rfl .nil)))))))))
        · have hd7 := hc7
          try simp only [Bool.not_eq_true', Bool.not_eq_false', Bool.or_eq_true, Bool.and_eq_true, Bool.or_eq_false_iff, Bool.and_eq_false_iff, decide_eq_true_eq, decide_eq_false_iff_not, Bool.not_true, Bool.not_false, gval, Bool.not_eq_eq_eq_not] at hc7
          refine tc_exit (tq_then_exit (tq_then_exit (tq_blk_here ?_)))
          refine tq_blk_normal (tq_next ?_)
          refine tc_region ?_
          refine tl_p (pr_move rfl) rfl ?_
          refine tl_p (pr_addN rfl rfl (by omega)) rfl ?_
          refine tl_p (pr_assign rfl) rfl ?_
          refine tl_nil ?_
          exact tq_roundP (j.1 + 1, S) ⟨by show ((j.1 + 1 : Nat) : Int) ≤ _; omega, hSl, hSn, hSA⟩ (by show (a1 % 64 - ((j.1 + 1 : Nat) : Int)).toNat < _; omega) (.cons rfl (.cons rfl (.cons rfl (.cons rfl (.cons rfl (.cons rfl (.cons rfl .nil)))))))
      · have hd6 := hc6
        try simp only [Bool.not_eq_true', Bool.not_eq_false', Bool.or_eq_true, Bool.and_eq_true, Bool.or_eq_false_iff, Bool.and_eq_false_iff, decide_eq_true_eq, decide_eq_false_iff_not, Bool.not_true, Bool.not_false, gval, Bool.not_eq_eq_eq_not] at hc6
        refine tc_exit (tq_then_exit (tq_then_exit (tq_blk_here ?_)))
        refine tq_next ?_
        refine tc_seq ?_
        refine tc_region ?_
        refine tl_p (pr_move rfl) rfl ?_
        refine tl_p (pr_assign rfl) rfl ?_
        refine tl_next ?_
        refine tc_ret ?_
        exact tq_ret1 .ret (.inl rfl) () rfl rfl

end Go.Proofs
