/- Contracts of functions: what each computes, and what becomes of the memory that it is given. -/
import Derived.Test.YtfphgpamccbkaaaGreatProg
import Derived.Test.YtfphgpamccbkaaaGreatKp0
set_option linter.unusedVariables false
set_option linter.unusedSimpArgs false
set_option linter.unusedSectionVars false
set_option linter.unnecessarySimpa false
namespace Go.Proofs
open Go Go.Sz
attribute [local irreducible] pt lift exs own emp
theorem Tryz.ag39 : aggB Tryz.prog 39 = some false := by kernel_rfl
theorem Tryz.ag57 : aggB Tryz.prog 57 = some false := by kernel_rfl
theorem Tryz.bld100 : bldS Tryz.prog 100 = some ([(0, 6), (6, 1), (7, 1)], (.agg #[.bool false, .int .i64 0, .int .i64 0, .int .i64 0, .int .i64 0, .int .i64 0, .pointer none, .pointer none] : Value).cells) := by kernel_rfl
theorem Tryz.fo100_0 : fOff Tryz.prog 100 0 = some (0, 6, true) := by kernel_rfl
theorem Tryz.fo100_1 : fOff Tryz.prog 100 1 = some (6, 1, false) := by kernel_rfl
theorem Tryz.fo100_2 : fOff Tryz.prog 100 2 = some (7, 1, false) := by kernel_rfl
theorem Tryz.z24 : zeroV Tryz.prog 24 = some (.slice none 0 0) := by kernel_rfl
theorem Tryz.bl100_0_1_2 {n : Nat} {D : List Deferred} {E : Env} {L : List HProp} {κ : Ctx} {T : TypeId} {x0 x1 x2 : Operand} {a0_0 a0_1 a0_2 a0_3 a0_4 a0_5 a1 a2 : Value} (h0 : E.ev x0 = some (.agg #[a0_0, a0_1, a0_2, a0_3, a0_4, a0_5])) (h1 : E.ev x1 = some a1) (h2 : E.ev x2 = some a2) (o1 : oneV a1 = true := by rfl) (o2 : oneV a2 = true := by rfl) :
    PR Tryz.prog (.build 100 #[(0, x0), (1, x1), (2, x2)]) T n D E L κ (.agg #[a0_0, a0_1, a0_2, a0_3, a0_4, a0_5, a1, a2]) := by
  refine pr_buildS Tryz.bld100 (.cons h0 (.cons h1 (.cons h2 .nil))) ?_
  simp [Instr.fill, cells_agg, cells_one o1, cells_one o2]
theorem rdbs_ss {L : List HProp} {κ : Ctx} {ss : SS} (h : ∀ x ∈ ss, RdS L κ x.1 (capsL x.2.2)) : Rdbs L κ (ss.flatMap fun x => ra x.1 (capsL x.2.2)) := by
  induction ss with
  | nil => exact .nil
  | cons x l ih => exact Rdbs.app (Rdbs.sl (h x List.mem_cons_self)) (ih fun y hy => h y (List.mem_cons_of_mem _ hy))

theorem f52_ct (c : Cap) : Ct Tryz.prog 52 #[c.v] [] [] (X := Nat × Nat × Nat) (fun x => ad x.1 0) (fun x N => pt x.1 (thrO c x.2.1 x.2.2) :: fileA x.2.1 (List.replicate 8 nullC) :: stkA x.2.2 [] :: N) := by
  refine ct_intro Tryz.func52 rfl (by kernel_rfl) (n := 8) rfl rfl (E := [(0, c.v)]) rfl ?_
  intro κ hro
  refine tc_seq ?_
  refine tc_region ?_
  refine tl_box rfl rfl (fun b1 => ?_)
  refine tl_p (pr_assign rfl) rfl ?_
  refine tl_next ?_
  refine tc_seq ?_
  refine tc_draw Tryz.mixed [0, 3] (by kernel_rfl) ?_
  refine td_q 0 3 (pm_of rfl rfl rfl (fun _ kq => tl_p (by first | exact pr_loadW Tryz.ag27 Tryz.sz27 rfl | exact pr_ldA Tryz.ag27 Tryz.sz27 rfl) rfl kq)) rfl rfl rfl ?_
  refine td_e1 1 (by kernel_rfl) ?_
  refine te rfl ?_
  refine tl_callS (f113_ct ) (.nil) rfl (kk := fun b4 => ?_)
  refine td_next (pd := [0]) (by kernel_rfl) (.cons rfl (pm_of rfl rfl rfl (fun _ kq => tl_p (by first | exact pr_loadW Tryz.ag27 Tryz.sz27 rfl | exact pr_ldA Tryz.ag27 Tryz.sz27 rfl) rfl kq)) .nil) ?_
  refine td_e1 2 (by kernel_rfl) ?_
  refine te rfl ?_
  refine tl_callS (f114_ct ) (.nil) rfl (kk := fun b5 => ?_)
  refine td_next (pd := [0]) (by kernel_rfl) (.cons rfl (pm_of rfl rfl rfl (fun _ kq => tl_p (by first | exact pr_loadW Tryz.ag27 Tryz.sz27 rfl | exact pr_ldA Tryz.ag27 Tryz.sz27 rfl) rfl kq)) .nil) ?_
  refine td_q 3 6 (pm_of rfl rfl rfl (fun _ kq => tl_p (Tryz.bl100_0_1_2 rfl rfl rfl) rfl kq)) rfl rfl rfl ?_
  refine td_e1 4 (by kernel_rfl) ?_
  refine te rfl ?_
  refine tl_box rfl rfl (fun b7 => ?_)
  refine td_next (pd := []) (by kernel_rfl) (.nil) ?_
  refine td_e1 5 (by kernel_rfl) ?_
  refine te rfl ?_
  refine tl_p (pr_assign rfl) rfl ?_
  refine td_next (pd := []) (by kernel_rfl) (.nil) ?_
  refine td_done (by kernel_rfl) ?_
  refine tq_next ?_
  refine tc_ret ?_
  exact tq_ret1 .ret (.inl rfl) ⟨b7, b4, b5⟩ rfl rfl

theorem f15_ct (tb : Nat) (pos : Cap) (rb fb : Nat) : Rd Tryz.prog 15 #[ad tb 0] [(tb, thrO pos rb fb)] [] (ad rb 0) := by
  refine ct_intro Tryz.func15 rfl (by kernel_rfl) (n := 7) rfl rfl (E := [(0, ad tb 0)]) rfl ?_
  intro κ hro
  have hq : κ.frame tb = some (thrO pos rb fb) := hro _ (List.Mem.head _)
  refine tc_seq ?_
  refine tc_region ?_
  refine tl_p (pr_assign rfl) rfl ?_
  refine tl_next ?_
  refine tc_seq ?_
  refine tc_region ?_
  refine tl_p (pr_move rfl) rfl ?_
  refine tl_p (pr_nilCheck rfl) rfl ?_
  refine tl_p (pr_fieldAddr Tryz.fo100_1 rfl) rfl ?_
  refine tl_p (pr_ld Tryz.ag39 rfl) rfl ?_
  refine tl_p (pr_assign rfl) rfl ?_
  refine tl_next ?_
  refine tc_ret ?_
  exact tq_ret1 .ret (.inl rfl) () rfl rfl

theorem f25_ct (tb : Nat) (pos : Cap) (rb fb : Nat) : Rd Tryz.prog 25 #[ad tb 0] [(tb, thrO pos rb fb)] [] (ad fb 0) := by
  refine ct_intro Tryz.func25 rfl (by kernel_rfl) (n := 7) rfl rfl (E := [(0, ad tb 0)]) rfl ?_
  intro κ hro
  have hq : κ.frame tb = some (thrO pos rb fb) := hro _ (List.Mem.head _)
  refine tc_seq ?_
  refine tc_region ?_
  refine tl_p (pr_assign rfl) rfl ?_
  refine tl_next ?_
  refine tc_seq ?_
  refine tc_region ?_
  refine tl_p (pr_move rfl) rfl ?_
  refine tl_p (pr_nilCheck rfl) rfl ?_
  refine tl_p (pr_fieldAddr Tryz.fo100_2 rfl) rfl ?_
  refine tl_p (pr_ld Tryz.ag57 rfl) rfl ?_
  refine tl_p (pr_assign rfl) rfl ?_
  refine tl_next ?_
  refine tc_ret ?_
  exact tq_ret1 .ret (.inl rfl) () rfl rfl

theorem f21_ct (tb : Nat) (pos : Cap) (rb fb : Nat) : Rd Tryz.prog 21 #[ad tb 0] [(tb, thrO pos rb fb)] [] (pos.v) := by
  refine ct_intro Tryz.func21 rfl (by kernel_rfl) (n := 7) rfl rfl (E := [(0, ad tb 0)]) rfl ?_
  intro κ hro
  have hq : κ.frame tb = some (thrO pos rb fb) := hro _ (List.Mem.head _)
  refine tc_seq ?_
  refine tc_region ?_
  refine tl_alloc Tryz.z27 rfl (fun b2 => ?_)
  refine tl_next ?_
  refine tc_seq ?_
  refine tc_region ?_
  refine tl_p (pr_move rfl) rfl ?_
  refine tl_p (pr_nilCheck rfl) rfl ?_
  refine tl_p (pr_fieldAddr Tryz.fo100_0 rfl) rfl ?_
  refine tl_p (pr_ldA Tryz.ag27 Tryz.sz27 rfl) rfl ?_
  refine tl_storeW Tryz.sz27 rfl rfl (k := ?_)
  refine tl_next ?_
  refine tc_ret ?_
  exact tq_retG .ret (.inl rfl) () rfl (.cellA Tryz.ag27 Tryz.sz27 rfl .nil) rfl

theorem f29_ct (tb : Nat) (pos : Cap) (rb fb : Nat) (regs : List Cap) (hl : regs.length = 8) (fs : List Fr) : Ct Tryz.prog 29 #[ad tb 0] ([(tb, thrO pos rb fb)] ++ ra (.mem (fileS rb)) (capsL regs)) [stkA fb fs] (X := {s : Shp // Sow 6 s (9 + 5 * fs.length) (capsL (thrCaps pos regs fs)) ∧ fs.length ≤ 16}) (fun x => sv x.1 (9 + 5 * fs.length)) (fun x N => sl x.1 (capsL (thrCaps pos regs fs)) :: stkA fb fs :: N) := by
  refine ct_intro Tryz.func29 rfl (by kernel_rfl) (n := 20) rfl rfl (E := [(0, ad tb 0)]) rfl ?_
  intro κ hro
  obtain ⟨hr1, hr2⟩ := Reads.app hro
  have hq : κ.frame tb = some (thrO pos rb fb) := hr1 _ (List.Mem.head _)
  refine tc_seq ?_
  refine tc_region ?_
  refine tl_p (pr_assign rfl) rfl ?_
  refine tl_next ?_
  refine tc_seq ?_
  refine tc_draw Tryz.mixed [0, 1, 2, 3, 5, 6, 7, 8, 10, 11, 12, 13] (by kernel_rfl) ?_
  refine td_q 0 3 (pm_of rfl rfl rfl (fun _ kq => tl_p (pr_move rfl) rfl kq)) rfl rfl rfl ?_
  refine td_q 1 4 (pm_of rfl rfl rfl (fun _ kq => tl_p (pr_nilCheck rfl) rfl kq)) rfl rfl rfl ?_
  refine td_q 2 5 (pm_of rfl rfl rfl (fun _ kq => tl_p (pr_fieldAddr Tryz.fo100_0 rfl) rfl kq)) rfl rfl rfl ?_
  refine td_q 3 6 (pm_of rfl rfl rfl (fun _ kq => tl_p (pr_ldA Tryz.ag27 Tryz.sz27 rfl) rfl kq)) rfl rfl rfl ?_
  refine td_q 5 8 (pm_of rfl rfl rfl (fun _ kq => tl_p (pr_move rfl) rfl kq)) rfl rfl rfl ?_
  refine td_q 6 9 (pm_of rfl rfl rfl (fun _ kq => tl_p (pr_nilCheck rfl) rfl kq)) rfl rfl rfl ?_
  refine td_q 7 10 (pm_of rfl rfl rfl (fun _ kq => tl_p (pr_fieldAddr Tryz.fo100_1 rfl) rfl kq)) rfl rfl rfl ?_
  refine td_q 8 11 (pm_of rfl rfl rfl (fun _ kq => tl_p (pr_ld Tryz.ag39 rfl) rfl kq)) rfl rfl rfl ?_
  refine td_q 10 13 (pm_of rfl rfl rfl (fun _ kq => tl_p (pr_move rfl) rfl kq)) rfl rfl rfl ?_
  refine td_q 11 14 (pm_of rfl rfl rfl (fun _ kq => tl_p (pr_nilCheck rfl) rfl kq)) rfl rfl rfl ?_
  refine td_q 12 15 (pm_of rfl rfl rfl (fun _ kq => tl_p (pr_fieldAddr Tryz.fo100_2 rfl) rfl kq)) rfl rfl rfl ?_
  refine td_q 13 16 (pm_of rfl rfl rfl (fun _ kq => tl_p (pr_ld Tryz.ag57 rfl) rfl kq)) rfl rfl rfl ?_
  refine td_e2 4 9 (by kernel_rfl) ?_ ?_
  · skip
    refine te rfl ?_
    refine tl_buildS Tryz.sf24 Tryz.z27 rfl (.cons rfl .nil) rfl rfl (c := capsL [pos]) rfl rfl rfl (kk := fun s7 hs7 ms7 => ?_)
    refine td_next (pd := [13, 12, 11, 10, 8, 7, 6, 5]) (by kernel_rfl) (.cons rfl (pm_of rfl rfl rfl (fun _ kq => tl_p (pr_ld Tryz.ag57 rfl) rfl kq)) (.cons rfl (pm_of rfl rfl rfl (fun _ kq => tl_p (pr_fieldAddr Tryz.fo100_2 rfl) rfl kq)) (.cons rfl (pm_of rfl rfl rfl (fun _ kq => tl_p (pr_nilCheck rfl) rfl kq)) (.cons rfl (pm_of rfl rfl rfl (fun _ kq => tl_p (pr_move rfl) rfl kq)) (.cons rfl (pm_of rfl rfl rfl (fun _ kq => tl_p (pr_ld Tryz.ag39 rfl) rfl kq)) (.cons rfl (pm_of rfl rfl rfl (fun _ kq => tl_p (pr_fieldAddr Tryz.fo100_1 rfl) rfl kq)) (.cons rfl (pm_of rfl rfl rfl (fun _ kq => tl_p (pr_nilCheck rfl) rfl kq)) (.cons rfl (pm_of rfl rfl rfl (fun _ kq => tl_p (pr_move rfl) rfl kq)) .nil)))))))) ?_
    refine td_e1 9 (by kernel_rfl) ?_
    refine te rfl ?_
    refine tl_callS (f18_ct rb regs hl) (.cons rfl .nil) rfl (kk := fun ⟨s12, hs12⟩ => ?_)
    refine td_next (pd := [13, 12, 11, 10, 3, 2, 1, 0]) (by kernel_rfl) (.cons rfl (pm_of rfl rfl rfl (fun _ kq => tl_p (pr_ld Tryz.ag57 rfl) rfl kq)) (.cons rfl (pm_of rfl rfl rfl (fun _ kq => tl_p (pr_fieldAddr Tryz.fo100_2 rfl) rfl kq)) (.cons rfl (pm_of rfl rfl rfl (fun _ kq => tl_p (pr_nilCheck rfl) rfl kq)) (.cons rfl (pm_of rfl rfl rfl (fun _ kq => tl_p (pr_move rfl) rfl kq)) (.cons rfl (pm_of rfl rfl rfl (fun _ kq => tl_p (pr_ldA Tryz.ag27 Tryz.sz27 rfl) rfl kq)) (.cons rfl (pm_of rfl rfl rfl (fun _ kq => tl_p (pr_fieldAddr Tryz.fo100_0 rfl) rfl kq)) (.cons rfl (pm_of rfl rfl rfl (fun _ kq => tl_p (pr_nilCheck rfl) rfl kq)) (.cons rfl (pm_of rfl rfl rfl (fun _ kq => tl_p (pr_move rfl) rfl kq)) .nil)))))))) ?_
    refine td_e1 14 (by kernel_rfl) ?_
    refine te rfl ?_
    refine tl_callS (f72_ct fb fs) (.cons rfl .nil) rfl (kk := fun ⟨s17, hs17, hb17⟩ => ?_)
    refine td_next (pd := [3, 2, 1, 0]) (by kernel_rfl) (.cons rfl (pm_of rfl rfl rfl (fun _ kq => tl_p (pr_ldA Tryz.ag27 Tryz.sz27 rfl) rfl kq)) (.cons rfl (pm_of rfl rfl rfl (fun _ kq => tl_p (pr_fieldAddr Tryz.fo100_0 rfl) rfl kq)) (.cons rfl (pm_of rfl rfl rfl (fun _ kq => tl_p (pr_nilCheck rfl) rfl kq)) (.cons rfl (pm_of rfl rfl rfl (fun _ kq => tl_p (pr_move rfl) rfl kq)) .nil)))) ?_
    refine td_e1 15 (by kernel_rfl) ?_
    refine te rfl ?_
    refine tl_buildS Tryz.sf185 Tryz.z24 rfl (.cons rfl (.cons rfl (.cons rfl .nil))) rfl (allSz_one (by simp [allOne, sv_one])) (flat_one (by simp [allOne, sv_one])) rfl rfl (kk := fun s18 hs18 ms18 => ?_)
    refine td_next (pd := []) (by kernel_rfl) (.nil) ?_
    refine td_e1 16 (by kernel_rfl) ?_
    refine te rfl ?_
    refine tl_callS (f71_ct _ 3 [(s7, 1, [pos]), (s12, 8, regs), (s17, 5 * fs.length, fs.flatMap Fr.caps)] (Sow.toSok hs18) (List.forall_mem_cons.2 ⟨hs7.toSok, List.forall_mem_cons.2 ⟨hs12.toSok, List.forall_mem_cons.2 ⟨hs17.toSok, by simp⟩⟩⟩) (by simp [tot]; omega)) (.cons rfl .nil) rfl (hro := Rdbs.app (Rdbs.sl (.own (by repeat (first | exact Has.here | apply Has.there)))) (rdbs_ss (List.forall_mem_cons.2 ⟨.own (by repeat (first | exact Has.here | apply Has.there)), List.forall_mem_cons.2 ⟨.own (by repeat (first | exact Has.here | apply Has.there)), List.forall_mem_cons.2 ⟨.own (by repeat (first | exact Has.here | apply Has.there)), by simp⟩⟩⟩))) (kk := fun ⟨s19, hs19⟩ => ?_)
    refine td_next (pd := []) (by kernel_rfl) (.nil) ?_
    refine td_e1 17 (by kernel_rfl) ?_
    refine te rfl ?_
    refine tl_p (pr_assign rfl) rfl ?_
    refine td_next (pd := []) (by kernel_rfl) (.nil) ?_
    refine td_done (by kernel_rfl) ?_
    refine tq_next ?_
    refine tc_ret ?_
    have e1 : tot [(s7, 1, [pos]), (s12, 8, regs), (s17, 5 * fs.length, fs.flatMap Fr.caps)] = 9 + 5 * fs.length := by simp [tot]; omega
    have e2 : capsL (allC [(s7, 1, [pos]), (s12, 8, regs), (s17, 5 * fs.length, fs.flatMap Fr.caps)]) = capsL (thrCaps pos regs fs) := by simp [allC, thrCaps]
    rw [e1, e2] at hs19
    simp only [e1, e2]
    exact tq_ret1 .ret (.inl rfl) ⟨s19, hs19, hb17⟩ rfl rfl
  · skip
    refine te rfl ?_
    refine tl_callS (f18_ct rb regs hl) (.cons rfl .nil) rfl (kk := fun ⟨s12, hs12⟩ => ?_)
    refine td_next (pd := [13, 12, 11, 10, 3, 2, 1, 0]) (by kernel_rfl) (.cons rfl (pm_of rfl rfl rfl (fun _ kq => tl_p (pr_ld Tryz.ag57 rfl) rfl kq)) (.cons rfl (pm_of rfl rfl rfl (fun _ kq => tl_p (pr_fieldAddr Tryz.fo100_2 rfl) rfl kq)) (.cons rfl (pm_of rfl rfl rfl (fun _ kq => tl_p (pr_nilCheck rfl) rfl kq)) (.cons rfl (pm_of rfl rfl rfl (fun _ kq => tl_p (pr_move rfl) rfl kq)) (.cons rfl (pm_of rfl rfl rfl (fun _ kq => tl_p (pr_ldA Tryz.ag27 Tryz.sz27 rfl) rfl kq)) (.cons rfl (pm_of rfl rfl rfl (fun _ kq => tl_p (pr_fieldAddr Tryz.fo100_0 rfl) rfl kq)) (.cons rfl (pm_of rfl rfl rfl (fun _ kq => tl_p (pr_nilCheck rfl) rfl kq)) (.cons rfl (pm_of rfl rfl rfl (fun _ kq => tl_p (pr_move rfl) rfl kq)) .nil)))))))) ?_
    refine td_e2 4 14 (by kernel_rfl) ?_ ?_
    · skip
      refine te rfl ?_
      refine tl_buildS Tryz.sf24 Tryz.z27 rfl (.cons rfl .nil) rfl rfl (c := capsL [pos]) rfl rfl rfl (kk := fun s7 hs7 ms7 => ?_)
      refine td_next (pd := [13, 12, 11, 10, 8, 7, 6, 5]) (by kernel_rfl) (.cons rfl (pm_of rfl rfl rfl (fun _ kq => tl_p (pr_ld Tryz.ag57 rfl) rfl kq)) (.cons rfl (pm_of rfl rfl rfl (fun _ kq => tl_p (pr_fieldAddr Tryz.fo100_2 rfl) rfl kq)) (.cons rfl (pm_of rfl rfl rfl (fun _ kq => tl_p (pr_nilCheck rfl) rfl kq)) (.cons rfl (pm_of rfl rfl rfl (fun _ kq => tl_p (pr_move rfl) rfl kq)) (.cons rfl (pm_of rfl rfl rfl (fun _ kq => tl_p (pr_ld Tryz.ag39 rfl) rfl kq)) (.cons rfl (pm_of rfl rfl rfl (fun _ kq => tl_p (pr_fieldAddr Tryz.fo100_1 rfl) rfl kq)) (.cons rfl (pm_of rfl rfl rfl (fun _ kq => tl_p (pr_nilCheck rfl) rfl kq)) (.cons rfl (pm_of rfl rfl rfl (fun _ kq => tl_p (pr_move rfl) rfl kq)) .nil)))))))) ?_
      refine td_e1 14 (by kernel_rfl) ?_
      refine te rfl ?_
      refine tl_callS (f72_ct fb fs) (.cons rfl .nil) rfl (kk := fun ⟨s17, hs17, hb17⟩ => ?_)
      refine td_next (pd := [3, 2, 1, 0]) (by kernel_rfl) (.cons rfl (pm_of rfl rfl rfl (fun _ kq => tl_p (pr_ldA Tryz.ag27 Tryz.sz27 rfl) rfl kq)) (.cons rfl (pm_of rfl rfl rfl (fun _ kq => tl_p (pr_fieldAddr Tryz.fo100_0 rfl) rfl kq)) (.cons rfl (pm_of rfl rfl rfl (fun _ kq => tl_p (pr_nilCheck rfl) rfl kq)) (.cons rfl (pm_of rfl rfl rfl (fun _ kq => tl_p (pr_move rfl) rfl kq)) .nil)))) ?_
      refine td_e1 15 (by kernel_rfl) ?_
      refine te rfl ?_
      refine tl_buildS Tryz.sf185 Tryz.z24 rfl (.cons rfl (.cons rfl (.cons rfl .nil))) rfl (allSz_one (by simp [allOne, sv_one])) (flat_one (by simp [allOne, sv_one])) rfl rfl (kk := fun s18 hs18 ms18 => ?_)
      refine td_next (pd := []) (by kernel_rfl) (.nil) ?_
      refine td_e1 16 (by kernel_rfl) ?_
      refine te rfl ?_
      refine tl_callS (f71_ct _ 3 [(s7, 1, [pos]), (s12, 8, regs), (s17, 5 * fs.length, fs.flatMap Fr.caps)] (Sow.toSok hs18) (List.forall_mem_cons.2 ⟨hs7.toSok, List.forall_mem_cons.2 ⟨hs12.toSok, List.forall_mem_cons.2 ⟨hs17.toSok, by simp⟩⟩⟩) (by simp [tot]; omega)) (.cons rfl .nil) rfl (hro := Rdbs.app (Rdbs.sl (.own (by repeat (first | exact Has.here | apply Has.there)))) (rdbs_ss (List.forall_mem_cons.2 ⟨.own (by repeat (first | exact Has.here | apply Has.there)), List.forall_mem_cons.2 ⟨.own (by repeat (first | exact Has.here | apply Has.there)), List.forall_mem_cons.2 ⟨.own (by repeat (first | exact Has.here | apply Has.there)), by simp⟩⟩⟩))) (kk := fun ⟨s19, hs19⟩ => ?_)
      refine td_next (pd := []) (by kernel_rfl) (.nil) ?_
      refine td_e1 17 (by kernel_rfl) ?_
      refine te rfl ?_
      refine tl_p (pr_assign rfl) rfl ?_
      refine td_next (pd := []) (by kernel_rfl) (.nil) ?_
      refine td_done (by kernel_rfl) ?_
      refine tq_next ?_
      refine tc_ret ?_
      have e1 : tot [(s7, 1, [pos]), (s12, 8, regs), (s17, 5 * fs.length, fs.flatMap Fr.caps)] = 9 + 5 * fs.length := by simp [tot]; omega
      have e2 : capsL (allC [(s7, 1, [pos]), (s12, 8, regs), (s17, 5 * fs.length, fs.flatMap Fr.caps)]) = capsL (thrCaps pos regs fs) := by simp [allC, thrCaps]
      rw [e1, e2] at hs19
      simp only [e1, e2]
      exact tq_ret1 .ret (.inl rfl) ⟨s19, hs19, hb17⟩ rfl rfl
    · skip
      refine te rfl ?_
      refine tl_callS (f72_ct fb fs) (.cons rfl .nil) rfl (kk := fun ⟨s17, hs17, hb17⟩ => ?_)
      refine td_next (pd := [3, 2, 1, 0]) (by kernel_rfl) (.cons rfl (pm_of rfl rfl rfl (fun _ kq => tl_p (pr_ldA Tryz.ag27 Tryz.sz27 rfl) rfl kq)) (.cons rfl (pm_of rfl rfl rfl (fun _ kq => tl_p (pr_fieldAddr Tryz.fo100_0 rfl) rfl kq)) (.cons rfl (pm_of rfl rfl rfl (fun _ kq => tl_p (pr_nilCheck rfl) rfl kq)) (.cons rfl (pm_of rfl rfl rfl (fun _ kq => tl_p (pr_move rfl) rfl kq)) .nil)))) ?_
      refine td_e1 4 (by kernel_rfl) ?_
      refine te rfl ?_
      refine tl_buildS Tryz.sf24 Tryz.z27 rfl (.cons rfl .nil) rfl rfl (c := capsL [pos]) rfl rfl rfl (kk := fun s7 hs7 ms7 => ?_)
      refine td_next (pd := [13, 12, 11, 10, 8, 7, 6, 5]) (by kernel_rfl) (.cons rfl (pm_of rfl rfl rfl (fun _ kq => tl_p (pr_ld Tryz.ag57 rfl) rfl kq)) (.cons rfl (pm_of rfl rfl rfl (fun _ kq => tl_p (pr_fieldAddr Tryz.fo100_2 rfl) rfl kq)) (.cons rfl (pm_of rfl rfl rfl (fun _ kq => tl_p (pr_nilCheck rfl) rfl kq)) (.cons rfl (pm_of rfl rfl rfl (fun _ kq => tl_p (pr_move rfl) rfl kq)) (.cons rfl (pm_of rfl rfl rfl (fun _ kq => tl_p (pr_ld Tryz.ag39 rfl) rfl kq)) (.cons rfl (pm_of rfl rfl rfl (fun _ kq => tl_p (pr_fieldAddr Tryz.fo100_1 rfl) rfl kq)) (.cons rfl (pm_of rfl rfl rfl (fun _ kq => tl_p (pr_nilCheck rfl) rfl kq)) (.cons rfl (pm_of rfl rfl rfl (fun _ kq => tl_p (pr_move rfl) rfl kq)) .nil)))))))) ?_
      refine td_e1 15 (by kernel_rfl) ?_
      refine te rfl ?_
      refine tl_buildS Tryz.sf185 Tryz.z24 rfl (.cons rfl (.cons rfl (.cons rfl .nil))) rfl (allSz_one (by simp [allOne, sv_one])) (flat_one (by simp [allOne, sv_one])) rfl rfl (kk := fun s18 hs18 ms18 => ?_)
      refine td_next (pd := []) (by kernel_rfl) (.nil) ?_
      refine td_e1 16 (by kernel_rfl) ?_
      refine te rfl ?_
      refine tl_callS (f71_ct _ 3 [(s7, 1, [pos]), (s12, 8, regs), (s17, 5 * fs.length, fs.flatMap Fr.caps)] (Sow.toSok hs18) (List.forall_mem_cons.2 ⟨hs7.toSok, List.forall_mem_cons.2 ⟨hs12.toSok, List.forall_mem_cons.2 ⟨hs17.toSok, by simp⟩⟩⟩) (by simp [tot]; omega)) (.cons rfl .nil) rfl (hro := Rdbs.app (Rdbs.sl (.own (by repeat (first | exact Has.here | apply Has.there)))) (rdbs_ss (List.forall_mem_cons.2 ⟨.own (by repeat (first | exact Has.here | apply Has.there)), List.forall_mem_cons.2 ⟨.own (by repeat (first | exact Has.here | apply Has.there)), List.forall_mem_cons.2 ⟨.own (by repeat (first | exact Has.here | apply Has.there)), by simp⟩⟩⟩))) (kk := fun ⟨s19, hs19⟩ => ?_)
      refine td_next (pd := []) (by kernel_rfl) (.nil) ?_
      refine td_e1 17 (by kernel_rfl) ?_
      refine te rfl ?_
      refine tl_p (pr_assign rfl) rfl ?_
      refine td_next (pd := []) (by kernel_rfl) (.nil) ?_
      refine td_done (by kernel_rfl) ?_
      refine tq_next ?_
      refine tc_ret ?_
      have e1 : tot [(s7, 1, [pos]), (s12, 8, regs), (s17, 5 * fs.length, fs.flatMap Fr.caps)] = 9 + 5 * fs.length := by simp [tot]; omega
      have e2 : capsL (allC [(s7, 1, [pos]), (s12, 8, regs), (s17, 5 * fs.length, fs.flatMap Fr.caps)]) = capsL (thrCaps pos regs fs) := by simp [allC, thrCaps]
      rw [e1, e2] at hs19
      simp only [e1, e2]
      exact tq_ret1 .ret (.inl rfl) ⟨s19, hs19, hb17⟩ rfl rfl

def word4 (n : Int) : List Int := [IntKind.u8.wrap ((n).fdiv (2 ^ min (24 : Int).toNat 64)), IntKind.u8.wrap ((n).fdiv (2 ^ min (16 : Int).toNat 64)), IntKind.u8.wrap ((n).fdiv (2 ^ min (8 : Int).toNat 64)), IntKind.u8.wrap (n)]
theorem word_len (n : Int) : (u8s (word4 n)).length = 4 := rfl
def words (l : List Int) : List Int := l.flatMap word4
theorem words_take {l : List Int} {j : Nat} (h : j < l.length) : u8s (words (l.take (j + 1))) = u8s (words (l.take j)) ++ u8s (word4 l[j]) := by
  rw [List.take_succ_eq_append_getElem h, words, words]; simp only [u8s, List.flatMap_append, List.flatMap_cons, List.flatMap_nil, List.append_nil, List.map_append]
def encCap (c : Cap) : List Int := words [c.pos, c.base, c.top] ++ [0, IntKind.u8.wrap c.perms, 0, IntKind.u8.wrap c.typ]
def encPut (c : Cap) : List Int := if capRight c then encCap c else []

theorem f192_ct (s : Shp) (n : Nat) (ns : List Int) (hs : Sok 1 s n (ints ns)) (hb : n ≤ 1048576) : Ct Tryz.prog 192 #[sv s n] (ra s (ints ns)) [] (X := {s : Shp // Sow 1 s (4 * n) (u8s (words ns))}) (fun x => sv x.1 (4 * n)) (fun x N => sl x.1 (u8s (words ns)) :: N) := by
  refine ct_intro Tryz.func192 rfl (by kernel_rfl) (n := 28) rfl rfl (E := [(0, sv s n)]) rfl ?_
  intro κ hro
  have hn : ns.length = n := by have := hs.len; simp at this; omega
  refine tc_seq ?_
  refine tc_region ?_
  refine tl_p (pr_assign rfl) rfl ?_
  refine tl_next ?_
  refine tc_seq ?_
  refine tc_region ?_
  refine tl_p (pr_assign rfl) rfl ?_
  refine tl_next ?_
  refine tc_seq ?_
  refine tc_seq ?_
  refine tc_region ?_
  refine tl_p (pr_move rfl) rfl ?_
  refine tl_p (pr_lenS Tryz.sf25 rfl) rfl ?_
  refine tl_p (pr_move rfl) rfl ?_
  refine tl_next ?_
  refine tc_block ?_
  refine tc_imp (fun w s => s.emp_mk) ?_
  refine tc_loopP (X := Nat × Shp) (fun j => j.1 ≤ n ∧ Sow 1 j.2 (4 * j.1) (u8s (words (ns.take j.1)))) (fun j => [(6, sv s n), (7, .int .i64 n), (8, .int .i64 (j.1 : Int)), (3, sv j.2 (4 * j.1))]) (fun j => [sl j.2 (u8s (words (ns.take j.1)))]) (fun j => n - j.1) (0, .nil) ⟨by omega, Sow.nil⟩ (.cons rfl (.cons rfl (.cons rfl (.cons rfl .nil)))) (fun j hj => ?_)
  have hj1 := hj.1
  have hj2 := hj.2
  refine tc_seq ?_
  refine tc_region ?_
  refine tl_p (pr_lss rfl rfl) rfl ?_
  refine tl_next ?_
  refine tc_seq ?_
  refine tc_if rfl (fun hc1 => ?_) (fun hc1 => ?_)
  · have hd1 := hc1
    try simp only [Bool.not_eq_true', Bool.not_eq_false', Bool.or_eq_true, Bool.and_eq_true, Bool.or_eq_false_iff, Bool.and_eq_false_iff, decide_eq_true_eq, decide_eq_false_iff_not, Bool.not_true, Bool.not_false, gval, Bool.not_eq_eq_eq_not] at hc1
    refine tc_skip (tq_next ?_)
    refine tc_seq ?_
    refine tc_block ?_
    refine tc_seq ?_
    refine tc_region ?_
    refine tl_p (pr_ixE Tryz.sl25 rfl rfl) rfl ?_
    refine tl_p (pr_ldE Tryz.ag3 rfl (c := ints ns) (v := .int .i64 (ns[j.1]'(by omega))) (map_at (by omega))) rfl ?_
    refine tl_p (pr_assign rfl) rfl ?_
    refine tl_next ?_
    refine tc_region ?_
    refine tl_p (pr_move rfl) rfl ?_
    refine tl_p (pr_move rfl) rfl ?_
    refine tl_p (pr_shr rfl rfl (by decide)) rfl ?_
    refine tl_p (pr_conv Tryz.it5 Tryz.underlying3 rfl) rfl ?_
    refine tl_p (pr_move rfl) rfl ?_
    refine tl_p (pr_shr rfl rfl (by decide)) rfl ?_
    refine tl_p (pr_conv Tryz.it5 Tryz.underlying3 rfl) rfl ?_
    refine tl_p (pr_move rfl) rfl ?_
    refine tl_p (pr_shr rfl rfl (by decide)) rfl ?_
    refine tl_p (pr_conv Tryz.it5 Tryz.underlying3 rfl) rfl ?_
    refine tl_p (pr_move rfl) rfl ?_
    refine tl_p (pr_conv Tryz.it5 Tryz.underlying3 rfl) rfl ?_
    refine tl_buildS Tryz.sf64 Tryz.z5 rfl (.cons rfl (.cons rfl (.cons rfl (.cons rfl .nil)))) rfl rfl (c := u8s (word4 (ns[j.1]'(by omega)))) rfl rfl rfl (kk := fun s24 hs24 ms24 => ?_)
    refine tl_append Tryz.sf64 Tryz.z5 rfl rfl rfl hj2 (Sow.toSok (by assumption)) u8s_ok (by omega) rfl (kk := fun s25 hs25 => ?_)
    refine tl_p (pr_assign rfl) rfl ?_
    refine tl_nil (tq_blk_normal (tq_next ?_))
    refine tc_region ?_
    refine tl_p (pr_addN rfl rfl (by omega)) rfl ?_
    refine tl_p (pr_move rfl) rfl ?_
    refine tl_nil ?_
    rw [← words_take (by omega)]
    exact tq_roundP (j.1 + 1, s25) ⟨by omega, by rw [words_take (by omega)]; exact hs25⟩ (by show n - (j.1 + 1) < _; omega) (.cons rfl (.cons rfl (.cons rfl (.cons (by rw [show 4 * (j.1 + 1) = 4 * j.1 + 4 from by omega]; rfl) .nil))))
  · have hd1 := hc1
    try simp only [Bool.not_eq_true', Bool.not_eq_false', Bool.or_eq_true, Bool.and_eq_true, Bool.or_eq_false_iff, Bool.and_eq_false_iff, decide_eq_true_eq, decide_eq_false_iff_not, Bool.not_true, Bool.not_false, gval, Bool.not_eq_eq_eq_not] at hc1
    refine tc_exit (tq_then_exit (tq_then_exit (tq_blk_here ?_)))
    refine tq_next ?_
    refine tc_seq ?_
    refine tc_region ?_
    refine tl_p (pr_move rfl) rfl ?_
    refine tl_p (pr_assign rfl) rfl ?_
    refine tl_next ?_
    refine tc_ret ?_
    have e : j.1 = ns.length := by omega
    rw [e, List.take_length] at hj2
    rw [e, List.take_length]
    subst hn
    exact tq_ret1 .ret (.inl rfl) ⟨j.2, hj2⟩ rfl rfl

theorem f116_ct (c : Cap) (hc : capRight c = true) : Ct Tryz.prog 116 #[c.v] [] [] (X := {s : Shp // Sow 1 s 16 (u8s (encCap c))}) (fun x => sv x.1 16) (fun x N => sl x.1 (u8s (encCap c)) :: N) := by
  refine ct_intro Tryz.func116 rfl (by kernel_rfl) (n := 22) rfl rfl (E := [(0, c.v)]) rfl ?_
  intro κ hro
  refine tc_seq ?_
  refine tc_region ?_
  refine tl_box rfl rfl (fun b1 => ?_)
  refine tl_p (pr_assign rfl) rfl ?_
  refine tl_next ?_
  refine tc_seq ?_
  refine tc_seq ?_
  refine tc_region ?_
  refine tl_p (by first | exact pr_loadW Tryz.ag27 Tryz.sz27 rfl | exact pr_ldA Tryz.ag27 Tryz.sz27 rfl) rfl ?_
  refine tl_rdS (f59_ct _) (.cons rfl .nil) rfl (kk := ?_)
  refine tl_p (pr_not rfl) rfl ?_
  refine tl_next ?_
  refine tc_if_false rfl (by simp [hc]) ?_
  refine tc_skip (tq_next ?_)
  refine tc_seq ?_
  refine tc_draw Tryz.mixed [0, 1, 2, 3, 4, 5, 8, 9, 10, 11, 12, 13] (by kernel_rfl) ?_
  refine td_q 0 6 (pm_of rfl rfl rfl (fun _ kq => tl_p (pr_fieldAddr Tryz.fo27_3 rfl) rfl kq)) rfl rfl rfl ?_
  refine td_q 1 7 (pm_of rfl rfl rfl (fun _ kq => tl_p (pr_ld Tryz.ag3 rfl) rfl kq)) rfl rfl rfl ?_
  refine td_q 2 8 (pm_of rfl rfl rfl (fun _ kq => tl_p (pr_fieldAddr Tryz.fo27_1 rfl) rfl kq)) rfl rfl rfl ?_
  refine td_q 3 9 (pm_of rfl rfl rfl (fun _ kq => tl_p (pr_ld Tryz.ag3 rfl) rfl kq)) rfl rfl rfl ?_
  refine td_q 4 10 (pm_of rfl rfl rfl (fun _ kq => tl_p (pr_fieldAddr Tryz.fo27_2 rfl) rfl kq)) rfl rfl rfl ?_
  refine td_q 5 11 (pm_of rfl rfl rfl (fun _ kq => tl_p (pr_ld Tryz.ag3 rfl) rfl kq)) rfl rfl rfl ?_
  refine td_q 8 14 (pm_of rfl rfl rfl (fun _ kq => tl_p (pr_fieldAddr Tryz.fo27_4 rfl) rfl kq)) rfl rfl rfl ?_
  refine td_q 9 15 (pm_of rfl rfl rfl (fun _ kq => tl_p (pr_ld Tryz.ag3 rfl) rfl kq)) rfl rfl rfl ?_
  refine td_q 10 16 (pm_of rfl rfl rfl (fun _ kq => tl_p (pr_conv Tryz.it5 Tryz.underlying3 rfl) rfl kq)) rfl rfl rfl ?_
  refine td_q 11 17 (pm_of rfl rfl rfl (fun _ kq => tl_p (pr_fieldAddr Tryz.fo27_5 rfl) rfl kq)) rfl rfl rfl ?_
  refine td_q 12 18 (pm_of rfl rfl rfl (fun _ kq => tl_p (pr_ld Tryz.ag3 rfl) rfl kq)) rfl rfl rfl ?_
  refine td_q 13 19 (pm_of rfl rfl rfl (fun _ kq => tl_p (pr_conv Tryz.it5 Tryz.underlying3 rfl) rfl kq)) rfl rfl rfl ?_
  refine td_e2 6 14 (by kernel_rfl) ?_ ?_
  · skip
    refine te rfl ?_
    refine tl_buildS Tryz.sf25 Tryz.z3 rfl (.cons rfl (.cons rfl (.cons rfl .nil))) rfl rfl rfl rfl rfl (kk := fun s12 hs12 ms12 => ?_)
    refine td_next (pd := [13, 12, 11, 10, 9, 8]) (by kernel_rfl) (.cons rfl (pm_of rfl rfl rfl (fun _ kq => tl_p (pr_conv Tryz.it5 Tryz.underlying3 rfl) rfl kq)) (.cons rfl (pm_of rfl rfl rfl (fun _ kq => tl_p (pr_ld Tryz.ag3 rfl) rfl kq)) (.cons rfl (pm_of rfl rfl rfl (fun _ kq => tl_p (pr_fieldAddr Tryz.fo27_5 rfl) rfl kq)) (.cons rfl (pm_of rfl rfl rfl (fun _ kq => tl_p (pr_conv Tryz.it5 Tryz.underlying3 rfl) rfl kq)) (.cons rfl (pm_of rfl rfl rfl (fun _ kq => tl_p (pr_ld Tryz.ag3 rfl) rfl kq)) (.cons rfl (pm_of rfl rfl rfl (fun _ kq => tl_p (pr_fieldAddr Tryz.fo27_4 rfl) rfl kq)) .nil)))))) ?_
    refine td_e2 7 14 (by kernel_rfl) ?_ ?_
    · skip
      refine te rfl ?_
      refine tl_callS (f192_ct _ 3 [c.pos, c.base, c.top] (Sow.toSok (by assumption)) (by omega)) (.cons rfl .nil) rfl (kk := fun ⟨s13, hs13⟩ => ?_)
      refine td_next (pd := [13, 12, 11, 10, 9, 8]) (by kernel_rfl) (.cons rfl (pm_of rfl rfl rfl (fun _ kq => tl_p (pr_conv Tryz.it5 Tryz.underlying3 rfl) rfl kq)) (.cons rfl (pm_of rfl rfl rfl (fun _ kq => tl_p (pr_ld Tryz.ag3 rfl) rfl kq)) (.cons rfl (pm_of rfl rfl rfl (fun _ kq => tl_p (pr_fieldAddr Tryz.fo27_5 rfl) rfl kq)) (.cons rfl (pm_of rfl rfl rfl (fun _ kq => tl_p (pr_conv Tryz.it5 Tryz.underlying3 rfl) rfl kq)) (.cons rfl (pm_of rfl rfl rfl (fun _ kq => tl_p (pr_ld Tryz.ag3 rfl) rfl kq)) (.cons rfl (pm_of rfl rfl rfl (fun _ kq => tl_p (pr_fieldAddr Tryz.fo27_4 rfl) rfl kq)) .nil)))))) ?_
      refine td_e1 14 (by kernel_rfl) ?_
      refine te rfl ?_
      refine tl_buildS Tryz.sf64 Tryz.z5 rfl (.cons rfl (.cons rfl (.cons rfl (.cons rfl .nil)))) rfl rfl (c := u8s [0, IntKind.u8.wrap c.perms, 0, IntKind.u8.wrap c.typ]) rfl rfl rfl (kk := fun s20 hs20 ms20 => ?_)
      refine td_next (pd := [5, 4, 3, 2, 1, 0]) (by kernel_rfl) (.cons rfl (pm_of rfl rfl rfl (fun _ kq => tl_p (pr_ld Tryz.ag3 rfl) rfl kq)) (.cons rfl (pm_of rfl rfl rfl (fun _ kq => tl_p (pr_fieldAddr Tryz.fo27_2 rfl) rfl kq)) (.cons rfl (pm_of rfl rfl rfl (fun _ kq => tl_p (pr_ld Tryz.ag3 rfl) rfl kq)) (.cons rfl (pm_of rfl rfl rfl (fun _ kq => tl_p (pr_fieldAddr Tryz.fo27_1 rfl) rfl kq)) (.cons rfl (pm_of rfl rfl rfl (fun _ kq => tl_p (pr_ld Tryz.ag3 rfl) rfl kq)) (.cons rfl (pm_of rfl rfl rfl (fun _ kq => tl_p (pr_fieldAddr Tryz.fo27_3 rfl) rfl kq)) .nil)))))) ?_
      refine td_e1 15 (by kernel_rfl) ?_
      refine te rfl ?_
      refine tl_append Tryz.sf64 Tryz.z5 rfl rfl rfl (by assumption) (Sow.toSok (by assumption)) (u8s_ok (ns := [0, IntKind.u8.wrap c.perms, 0, IntKind.u8.wrap c.typ])) (by omega) rfl (kk := fun s21 hs21 => ?_)
      refine td_next (pd := []) (by kernel_rfl) (.nil) ?_
      refine td_e1 16 (by kernel_rfl) ?_
      refine te rfl ?_
      refine tl_p (pr_assign rfl) rfl ?_
      refine td_next (pd := []) (by kernel_rfl) (.nil) ?_
      refine td_done (by kernel_rfl) ?_
      refine tq_next ?_
      refine tc_ret ?_
      exact tq_ret1 .ret (.inl rfl) ⟨s21, hs21⟩ rfl rfl
    · skip
      refine te rfl ?_
      refine tl_buildS Tryz.sf64 Tryz.z5 rfl (.cons rfl (.cons rfl (.cons rfl (.cons rfl .nil)))) rfl rfl (c := u8s [0, IntKind.u8.wrap c.perms, 0, IntKind.u8.wrap c.typ]) rfl rfl rfl (kk := fun s20 hs20 ms20 => ?_)
      refine td_next (pd := [5, 4, 3, 2, 1, 0]) (by kernel_rfl) (.cons rfl (pm_of rfl rfl rfl (fun _ kq => tl_p (pr_ld Tryz.ag3 rfl) rfl kq)) (.cons rfl (pm_of rfl rfl rfl (fun _ kq => tl_p (pr_fieldAddr Tryz.fo27_2 rfl) rfl kq)) (.cons rfl (pm_of rfl rfl rfl (fun _ kq => tl_p (pr_ld Tryz.ag3 rfl) rfl kq)) (.cons rfl (pm_of rfl rfl rfl (fun _ kq => tl_p (pr_fieldAddr Tryz.fo27_1 rfl) rfl kq)) (.cons rfl (pm_of rfl rfl rfl (fun _ kq => tl_p (pr_ld Tryz.ag3 rfl) rfl kq)) (.cons rfl (pm_of rfl rfl rfl (fun _ kq => tl_p (pr_fieldAddr Tryz.fo27_3 rfl) rfl kq)) .nil)))))) ?_
      refine td_e1 7 (by kernel_rfl) ?_
      refine te rfl ?_
      refine tl_callS (f192_ct _ 3 [c.pos, c.base, c.top] (Sow.toSok (by assumption)) (by omega)) (.cons rfl .nil) rfl (kk := fun ⟨s13, hs13⟩ => ?_)
      refine td_next (pd := [13, 12, 11, 10, 9, 8]) (by kernel_rfl) (.cons rfl (pm_of rfl rfl rfl (fun _ kq => tl_p (pr_conv Tryz.it5 Tryz.underlying3 rfl) rfl kq)) (.cons rfl (pm_of rfl rfl rfl (fun _ kq => tl_p (pr_ld Tryz.ag3 rfl) rfl kq)) (.cons rfl (pm_of rfl rfl rfl (fun _ kq => tl_p (pr_fieldAddr Tryz.fo27_5 rfl) rfl kq)) (.cons rfl (pm_of rfl rfl rfl (fun _ kq => tl_p (pr_conv Tryz.it5 Tryz.underlying3 rfl) rfl kq)) (.cons rfl (pm_of rfl rfl rfl (fun _ kq => tl_p (pr_ld Tryz.ag3 rfl) rfl kq)) (.cons rfl (pm_of rfl rfl rfl (fun _ kq => tl_p (pr_fieldAddr Tryz.fo27_4 rfl) rfl kq)) .nil)))))) ?_
      refine td_e1 15 (by kernel_rfl) ?_
      refine te rfl ?_
      refine tl_append Tryz.sf64 Tryz.z5 rfl rfl rfl (by assumption) (Sow.toSok (by assumption)) (u8s_ok (ns := [0, IntKind.u8.wrap c.perms, 0, IntKind.u8.wrap c.typ])) (by omega) rfl (kk := fun s21 hs21 => ?_)
      refine td_next (pd := []) (by kernel_rfl) (.nil) ?_
      refine td_e1 16 (by kernel_rfl) ?_
      refine te rfl ?_
      refine tl_p (pr_assign rfl) rfl ?_
      refine td_next (pd := []) (by kernel_rfl) (.nil) ?_
      refine td_done (by kernel_rfl) ?_
      refine tq_next ?_
      refine tc_ret ?_
      exact tq_ret1 .ret (.inl rfl) ⟨s21, hs21⟩ rfl rfl
  · skip
    refine te rfl ?_
    refine tl_buildS Tryz.sf64 Tryz.z5 rfl (.cons rfl (.cons rfl (.cons rfl (.cons rfl .nil)))) rfl rfl (c := u8s [0, IntKind.u8.wrap c.perms, 0, IntKind.u8.wrap c.typ]) rfl rfl rfl (kk := fun s20 hs20 ms20 => ?_)
    refine td_next (pd := [5, 4, 3, 2, 1, 0]) (by kernel_rfl) (.cons rfl (pm_of rfl rfl rfl (fun _ kq => tl_p (pr_ld Tryz.ag3 rfl) rfl kq)) (.cons rfl (pm_of rfl rfl rfl (fun _ kq => tl_p (pr_fieldAddr Tryz.fo27_2 rfl) rfl kq)) (.cons rfl (pm_of rfl rfl rfl (fun _ kq => tl_p (pr_ld Tryz.ag3 rfl) rfl kq)) (.cons rfl (pm_of rfl rfl rfl (fun _ kq => tl_p (pr_fieldAddr Tryz.fo27_1 rfl) rfl kq)) (.cons rfl (pm_of rfl rfl rfl (fun _ kq => tl_p (pr_ld Tryz.ag3 rfl) rfl kq)) (.cons rfl (pm_of rfl rfl rfl (fun _ kq => tl_p (pr_fieldAddr Tryz.fo27_3 rfl) rfl kq)) .nil)))))) ?_
    refine td_e1 6 (by kernel_rfl) ?_
    refine te rfl ?_
    refine tl_buildS Tryz.sf25 Tryz.z3 rfl (.cons rfl (.cons rfl (.cons rfl .nil))) rfl rfl rfl rfl rfl (kk := fun s12 hs12 ms12 => ?_)
    refine td_next (pd := [13, 12, 11, 10, 9, 8]) (by kernel_rfl) (.cons rfl (pm_of rfl rfl rfl (fun _ kq => tl_p (pr_conv Tryz.it5 Tryz.underlying3 rfl) rfl kq)) (.cons rfl (pm_of rfl rfl rfl (fun _ kq => tl_p (pr_ld Tryz.ag3 rfl) rfl kq)) (.cons rfl (pm_of rfl rfl rfl (fun _ kq => tl_p (pr_fieldAddr Tryz.fo27_5 rfl) rfl kq)) (.cons rfl (pm_of rfl rfl rfl (fun _ kq => tl_p (pr_conv Tryz.it5 Tryz.underlying3 rfl) rfl kq)) (.cons rfl (pm_of rfl rfl rfl (fun _ kq => tl_p (pr_ld Tryz.ag3 rfl) rfl kq)) (.cons rfl (pm_of rfl rfl rfl (fun _ kq => tl_p (pr_fieldAddr Tryz.fo27_4 rfl) rfl kq)) .nil)))))) ?_
    refine td_e1 7 (by kernel_rfl) ?_
    refine te rfl ?_
    refine tl_callS (f192_ct _ 3 [c.pos, c.base, c.top] (Sow.toSok (by assumption)) (by omega)) (.cons rfl .nil) rfl (kk := fun ⟨s13, hs13⟩ => ?_)
    refine td_next (pd := [13, 12, 11, 10, 9, 8]) (by kernel_rfl) (.cons rfl (pm_of rfl rfl rfl (fun _ kq => tl_p (pr_conv Tryz.it5 Tryz.underlying3 rfl) rfl kq)) (.cons rfl (pm_of rfl rfl rfl (fun _ kq => tl_p (pr_ld Tryz.ag3 rfl) rfl kq)) (.cons rfl (pm_of rfl rfl rfl (fun _ kq => tl_p (pr_fieldAddr Tryz.fo27_5 rfl) rfl kq)) (.cons rfl (pm_of rfl rfl rfl (fun _ kq => tl_p (pr_conv Tryz.it5 Tryz.underlying3 rfl) rfl kq)) (.cons rfl (pm_of rfl rfl rfl (fun _ kq => tl_p (pr_ld Tryz.ag3 rfl) rfl kq)) (.cons rfl (pm_of rfl rfl rfl (fun _ kq => tl_p (pr_fieldAddr Tryz.fo27_4 rfl) rfl kq)) .nil)))))) ?_
    refine td_e1 15 (by kernel_rfl) ?_
    refine te rfl ?_
    refine tl_append Tryz.sf64 Tryz.z5 rfl rfl rfl (by assumption) (Sow.toSok (by assumption)) (u8s_ok (ns := [0, IntKind.u8.wrap c.perms, 0, IntKind.u8.wrap c.typ])) (by omega) rfl (kk := fun s21 hs21 => ?_)
    refine td_next (pd := []) (by kernel_rfl) (.nil) ?_
    refine td_e1 16 (by kernel_rfl) ?_
    refine te rfl ?_
    refine tl_p (pr_assign rfl) rfl ?_
    refine td_next (pd := []) (by kernel_rfl) (.nil) ?_
    refine td_done (by kernel_rfl) ?_
    refine tq_next ?_
    refine tc_ret ?_
    exact tq_ret1 .ret (.inl rfl) ⟨s21, hs21⟩ rfl rfl

end Go.Proofs

namespace Go.Proofs
open Go Go.Sz
attribute [local irreducible] pt lift exs own emp
theorem Tryz.ag230 : aggB Tryz.prog 230 = some true := by kernel_rfl
theorem Tryz.ar230 : arrOf Tryz.prog 230 = some (16, 1, false) := by kernel_rfl
theorem Tryz.sz230 : szOf Tryz.prog 230 = some 16 := by kernel_rfl
theorem Tryz.sz4 : szOf Tryz.prog 4 = some 1 := by kernel_rfl
theorem Tryz.z230 : zeroV Tryz.prog 230 = some (.agg #[.int .u8 0, .int .u8 0, .int .u8 0, .int .u8 0, .int .u8 0, .int .u8 0, .int .u8 0, .int .u8 0, .int .u8 0, .int .u8 0, .int .u8 0, .int .u8 0, .int .u8 0, .int .u8 0, .int .u8 0, .int .u8 0]) := by kernel_rfl
theorem Tryz.bl27_3_1_2_4_5 {n : Nat} {D : List Deferred} {E : Env} {L : List HProp} {κ : Ctx} {T : TypeId} {x3 x1 x2 x4 x5 : Operand} {a3 a1 a2 a4 a5 : Value} (h3 : E.ev x3 = some a3) (h1 : E.ev x1 = some a1) (h2 : E.ev x2 = some a2) (h4 : E.ev x4 = some a4) (h5 : E.ev x5 = some a5) (o3 : oneV a3 = true := by rfl) (o1 : oneV a1 = true := by rfl) (o2 : oneV a2 = true := by rfl) (o4 : oneV a4 = true := by rfl) (o5 : oneV a5 = true := by rfl) :
    PR Tryz.prog (.build 27 #[(3, x3), (1, x1), (2, x2), (4, x4), (5, x5)]) T n D E L κ (.agg #[.bool false, a1, a2, a3, a4, a5]) := by
  refine pr_buildS Tryz.bld27 (.cons h3 (.cons h1 (.cons h2 (.cons h4 (.cons h5 .nil))))) ?_
  simp [Instr.fill, cells_agg, cells_one o3, cells_one o1, cells_one o2, cells_one o4, cells_one o5]
theorem u8_at {g : List Int} {q i : Nat} (h : q = i) (hi : i < g.length) : (u8s g)[q]? = some (.int .u8 (g.getD i 0)) := by
  subst h; simp [hi]
def sh (a k : Int) : Int := IntKind.i64.wrap (IntKind.i64.wrap a * 2 ^ min k.toNat IntKind.i64.bits)
def wordOf (a b c d : Int) : Int := bOr .i64 (bOr .i64 (bOr .i64 (sh a 24) (sh b 16)) (sh c 8)) (IntKind.i64.wrap d)
def wordAt (g : List Int) (i : Nat) : Int := wordOf (g.getD i 0) (g.getD (i + 1) 0) (g.getD (i + 2) 0) (g.getD (i + 3) 0)
def plainG (g : List Int) : Bool := decide (bOr .u8 (g.getD 12 0) (g.getD 14 0) = 0) && decide (g.getD 13 0 ≤ 127)
def encRaw (g : List Int) (t : Bool) : Cap := ⟨t, wordAt g 4, wordAt g 8, wordAt g 0, bAnd .i64 (IntKind.i64.wrap (g.getD 13 0)) 127, IntKind.i64.wrap (g.getD 15 0)⟩
def encGet (g : List Int) (t : Bool) : Cap := encRaw g (t && plainG g && capRight (encRaw g true))
abbrev arrV (g : List Int) : Value := .agg (List.toArray (u8s g))
theorem u8_full {g : List Int} {n : Nat} (h : g.length = n) : cutL (u8s g) 0 n = u8s g := by
  unfold cutL; rw [List.drop_zero, List.take_of_length_le]; simp; omega
theorem boxed {g : List Int} (hg : g.length = 16) : (Value.cells (arrV g)).size = 16 := by simp [Value.cells, hg]

theorem f233_ct (g : List Int) (hg : g.length = 16) (i : Nat) (hi : i ≤ 12) : Rd Tryz.prog 233 #[arrV g, .int .i64 (i : Int)] [] [] (.int .i64 (wordAt g i)) := by
  refine ct_intro Tryz.func233 rfl (by kernel_rfl) (n := 30) rfl rfl (E := [(0, arrV g), (1, .int .i64 (i : Int))]) rfl ?_
  intro κ hro
  refine tc_seq ?_
  refine tc_region ?_
  refine tl_box rfl rfl (fun b2 => ?_)
  refine tl_p (pr_assign rfl) rfl ?_
  refine tl_next ?_
  refine tc_seq ?_
  refine tc_draw Tryz.mixed [0, 1, 2, 3, 4, 5, 6, 7, 8, 9, 10, 11, 12, 13, 14, 15, 16, 17, 18, 19, 20, 21, 22, 23, 24] (by kernel_rfl) ?_
  refine td_q 0 5 (pm_of rfl rfl rfl (fun _ kq => tl_p (pr_move rfl) rfl kq)) rfl rfl rfl ?_
  refine td_q 1 6 (pm_of rfl rfl rfl (fun _ kq => tl_p (pr_indexA Tryz.ar230 rfl rfl (by omega) (by omega)) rfl kq)) rfl rfl rfl ?_
  refine td_q 2 7 (pm_of rfl rfl rfl (fun _ kq => tl_p (pr_ld Tryz.ag5 rfl (l := u8s g) (hv := GetL.of (u8_at (i := i) (by omega) (by omega)))) rfl kq)) rfl rfl rfl ?_
  refine td_q 3 8 (pm_of rfl rfl rfl (fun _ kq => tl_p (pr_conv Tryz.it3 Tryz.underlying5 rfl) rfl kq)) rfl rfl rfl ?_
  refine td_q 4 9 (pm_of rfl rfl rfl (fun _ kq => tl_p (pr_shl rfl rfl (by decide)) rfl kq)) rfl rfl rfl ?_
  refine td_q 5 10 (pm_of rfl rfl rfl (fun _ kq => tl_p (pr_move rfl) rfl kq)) rfl rfl rfl ?_
  refine td_q 6 11 (pm_of rfl rfl rfl (fun _ kq => tl_p (pr_addN rfl rfl (by omega)) rfl kq)) rfl rfl rfl ?_
  refine td_q 7 12 (pm_of rfl rfl rfl (fun _ kq => tl_p (pr_indexA Tryz.ar230 rfl rfl (by omega) (by omega)) rfl kq)) rfl rfl rfl ?_
  refine td_q 8 13 (pm_of rfl rfl rfl (fun _ kq => tl_p (pr_ld Tryz.ag5 rfl (l := u8s g) (hv := GetL.of (u8_at (i := i + 1) (by omega) (by omega)))) rfl kq)) rfl rfl rfl ?_
  refine td_q 9 14 (pm_of rfl rfl rfl (fun _ kq => tl_p (pr_conv Tryz.it3 Tryz.underlying5 rfl) rfl kq)) rfl rfl rfl ?_
  refine td_q 10 15 (pm_of rfl rfl rfl (fun _ kq => tl_p (pr_shl rfl rfl (by decide)) rfl kq)) rfl rfl rfl ?_
  refine td_q 11 16 (pm_of rfl rfl rfl (fun _ kq => tl_p (pr_bOr rfl rfl) rfl kq)) rfl rfl rfl ?_
  refine td_q 12 17 (pm_of rfl rfl rfl (fun _ kq => tl_p (pr_move rfl) rfl kq)) rfl rfl rfl ?_
  refine td_q 13 18 (pm_of rfl rfl rfl (fun _ kq => tl_p (pr_addN rfl rfl (by omega)) rfl kq)) rfl rfl rfl ?_
  refine td_q 14 19 (pm_of rfl rfl rfl (fun _ kq => tl_p (pr_indexA Tryz.ar230 rfl rfl (by omega) (by omega)) rfl kq)) rfl rfl rfl ?_
  refine td_q 15 20 (pm_of rfl rfl rfl (fun _ kq => tl_p (pr_ld Tryz.ag5 rfl (l := u8s g) (hv := GetL.of (u8_at (i := i + 2) (by omega) (by omega)))) rfl kq)) rfl rfl rfl ?_
  refine td_q 16 21 (pm_of rfl rfl rfl (fun _ kq => tl_p (pr_conv Tryz.it3 Tryz.underlying5 rfl) rfl kq)) rfl rfl rfl ?_
  refine td_q 17 22 (pm_of rfl rfl rfl (fun _ kq => tl_p (pr_shl rfl rfl (by decide)) rfl kq)) rfl rfl rfl ?_
  refine td_q 18 23 (pm_of rfl rfl rfl (fun _ kq => tl_p (pr_bOr rfl rfl) rfl kq)) rfl rfl rfl ?_
  refine td_q 19 24 (pm_of rfl rfl rfl (fun _ kq => tl_p (pr_move rfl) rfl kq)) rfl rfl rfl ?_
  refine td_q 20 25 (pm_of rfl rfl rfl (fun _ kq => tl_p (pr_addN rfl rfl (by omega)) rfl kq)) rfl rfl rfl ?_
  refine td_q 21 26 (pm_of rfl rfl rfl (fun _ kq => tl_p (pr_indexA Tryz.ar230 rfl rfl (by omega) (by omega)) rfl kq)) rfl rfl rfl ?_
  refine td_q 22 27 (pm_of rfl rfl rfl (fun _ kq => tl_p (pr_ld Tryz.ag5 rfl (l := u8s g) (hv := GetL.of (u8_at (i := i + 3) (by omega) (by omega)))) rfl kq)) rfl rfl rfl ?_
  refine td_q 23 28 (pm_of rfl rfl rfl (fun _ kq => tl_p (pr_conv Tryz.it3 Tryz.underlying5 rfl) rfl kq)) rfl rfl rfl ?_
  refine td_q 24 29 (pm_of rfl rfl rfl (fun _ kq => tl_p (pr_bOr rfl rfl) rfl kq)) rfl rfl rfl ?_
  refine td_e1 25 (by kernel_rfl) ?_
  refine te rfl ?_
  refine tl_p (pr_assign rfl) rfl ?_
  refine td_next (pd := []) (by kernel_rfl) (.nil) ?_
  refine td_done (by kernel_rfl) ?_
  refine tq_next ?_
  refine tc_ret ?_
  exact tq_ret1 .ret (.inl rfl) () rfl rfl

theorem f234_ct (g : List Int) (hg : g.length = 16) : Rd Tryz.prog 234 #[arrV g] [] [] (.bool (plainG g)) := by
  refine ct_intro Tryz.func234 rfl (by kernel_rfl) (n := 14) rfl rfl (E := [(0, arrV g)]) rfl ?_
  intro κ hro
  refine tc_seq ?_
  refine tc_region ?_
  refine tl_box rfl rfl (fun b1 => ?_)
  refine tl_p (pr_assign rfl) rfl ?_
  refine tl_next ?_
  refine tc_seq ?_
  refine tc_region ?_
  refine tl_p (pr_indexA Tryz.ar230 rfl rfl (by omega) (by omega)) rfl ?_
  refine tl_p (pr_ld Tryz.ag5 rfl (l := u8s g) (hv := GetL.of (u8_at (i := 12) (by omega) (by omega)))) rfl ?_
  refine tl_p (pr_indexA Tryz.ar230 rfl rfl (by omega) (by omega)) rfl ?_
  refine tl_p (pr_ld Tryz.ag5 rfl (l := u8s g) (hv := GetL.of (u8_at (i := 14) (by omega) (by omega)))) rfl ?_
  refine tl_p (pr_bOr rfl rfl) rfl ?_
  refine tl_p (pr_eql rfl rfl) rfl ?_
  refine tl_p (pr_move rfl) rfl ?_
  refine tl_gt rfl rfl (fun h => pr_indexA Tryz.ar230 rfl rfl (by omega) (by omega)) (by intro _ h; cases h) rfl ?_
  refine tl_gt rfl rfl (fun h => pr_ld Tryz.ag5 (gv rfl h) (l := u8s g) (hv := GetL.of (u8_at (i := 13) (by omega) (by omega)))) (by intro _ h; cases h) rfl ?_
  refine tl_gt rfl rfl (fun h => pr_leq (gv rfl h) rfl) (by intro _ h; cases h) rfl ?_
  refine tl_p (pr_and rfl rfl rfl) rfl ?_
  refine tl_p (pr_assign rfl) rfl ?_
  refine tl_next ?_
  refine tc_ret ?_
  exact tq_ret1 .ret (.inl rfl) () rfl rfl

theorem f184_ct (s : Shp) (g : List Int) (t : Bool) (hs : Sok 1 s 16 (u8s g)) : Rd Tryz.prog 184 #[sv s 16, .bool t] (ra s (u8s g)) [] (cb (encGet g t, true)) := by
  refine ct_intro Tryz.func184 rfl (by kernel_rfl) (n := 41) rfl rfl (E := [(0, sv s 16), (1, .bool t)]) rfl ?_
  intro κ hro
  have hg : g.length = 16 := u8s_n hs
  have hm := hs.isM (by omega)
  refine tc_seq ?_
  refine tc_region ?_
  refine tl_alloc Tryz.z27 rfl (fun b4 => ?_)
  refine tl_p (pr_assign rfl) rfl ?_
  refine tl_next ?_
  refine tc_seq ?_
  refine tc_seq ?_
  refine tc_region ?_
  refine tl_p (pr_move rfl) rfl ?_
  refine tl_p (pr_lenS Tryz.sf64 rfl) rfl ?_
  refine tl_p (pr_neq rfl rfl) rfl ?_
  refine tl_next ?_
  refine tc_if_false rfl (by simp) ?_
  refine tc_skip (tq_next ?_)
  refine tc_seq ?_
  refine tc_region ?_
  refine tl_p (pr_move rfl) rfl ?_
  refine tl_p (pr_arrayAt Tryz.ar230 rfl hs (by omega) hm) rfl ?_
  refine tl_p (pr_ldEA Tryz.ag230 Tryz.sz230 rfl (c := u8s g) (m := u8s g) (by simp; omega) (u8_full hg)) rfl ?_
  refine tl_alloc Tryz.z230 rfl (fun b6 => ?_)
  refine tl_storeW Tryz.sz230 rfl rfl (hsz := boxed hg) (h1 := u8s_ok (ns := g)) (k := ?_)
  refine tl_next ?_
  refine tc_seq ?_
  refine tc_draw Tryz.mixed [0, 1, 2, 3, 4, 5, 6, 7, 8, 9, 10, 11, 12, 13] (by kernel_rfl) ?_
  refine td_q 0 15 (pm_of rfl rfl rfl (fun _ kq => tl_p (pr_loadW Tryz.ag230 Tryz.sz230 rfl (hle := boxed hg)) rfl kq)) rfl rfl rfl ?_
  refine td_q 1 16 (pm_of rfl rfl rfl (fun _ kq => tl_rdS (f233_ct g hg 0 (by omega)) (.cons rfl (.cons rfl .nil)) rfl (kk := kq))) rfl rfl rfl ?_
  refine td_q 2 17 (pm_of rfl rfl rfl (fun _ kq => tl_p (pr_loadW Tryz.ag230 Tryz.sz230 rfl (hle := boxed hg)) rfl kq)) rfl rfl rfl ?_
  refine td_q 3 18 (pm_of rfl rfl rfl (fun _ kq => tl_rdS (f233_ct g hg 4 (by omega)) (.cons rfl (.cons rfl .nil)) rfl (kk := kq))) rfl rfl rfl ?_
  refine td_q 4 19 (pm_of rfl rfl rfl (fun _ kq => tl_p (pr_loadW Tryz.ag230 Tryz.sz230 rfl (hle := boxed hg)) rfl kq)) rfl rfl rfl ?_
  refine td_q 5 20 (pm_of rfl rfl rfl (fun _ kq => tl_rdS (f233_ct g hg 8 (by omega)) (.cons rfl (.cons rfl .nil)) rfl (kk := kq))) rfl rfl rfl ?_
  refine td_q 6 21 (pm_of rfl rfl rfl (fun _ kq => tl_p (pr_indexA Tryz.ar230 rfl rfl (by omega) (by omega)) rfl kq)) rfl rfl rfl ?_
  refine td_q 7 22 (pm_of rfl rfl rfl (fun _ kq => tl_p (pr_ld Tryz.ag5 rfl (l := u8s g) (hv := GetL.of (u8_at (i := 13) (by omega) (by omega)))) rfl kq)) rfl rfl rfl ?_
  refine td_q 8 23 (pm_of rfl rfl rfl (fun _ kq => tl_p (pr_conv Tryz.it3 Tryz.underlying5 rfl) rfl kq)) rfl rfl rfl ?_
  refine td_q 9 24 (pm_of rfl rfl rfl (fun _ kq => tl_p (pr_bAnd rfl rfl) rfl kq)) rfl rfl rfl ?_
  refine td_q 10 25 (pm_of rfl rfl rfl (fun _ kq => tl_p (pr_indexA Tryz.ar230 rfl rfl (by omega) (by omega)) rfl kq)) rfl rfl rfl ?_
  refine td_q 11 26 (pm_of rfl rfl rfl (fun _ kq => tl_p (pr_ld Tryz.ag5 rfl (l := u8s g) (hv := GetL.of (u8_at (i := 15) (by omega) (by omega)))) rfl kq)) rfl rfl rfl ?_
  refine td_q 12 27 (pm_of rfl rfl rfl (fun _ kq => tl_p (pr_conv Tryz.it3 Tryz.underlying5 rfl) rfl kq)) rfl rfl rfl ?_
  refine td_q 13 28 (pm_of rfl rfl rfl (fun _ kq => tl_p (Tryz.bl27_3_1_2_4_5 rfl rfl rfl rfl rfl) rfl kq)) rfl rfl rfl ?_
  refine td_e1 14 (by kernel_rfl) ?_
  refine te rfl ?_
  refine tl_alloc Tryz.z27 rfl (fun b7 => ?_)
  refine td_next (pd := [13, 12, 11, 10, 9, 8, 7, 6, 5, 4, 3, 2, 1, 0]) (by kernel_rfl) (.cons rfl (pm_of rfl rfl rfl (fun _ kq => tl_p (Tryz.bl27_3_1_2_4_5 rfl rfl rfl rfl rfl) rfl kq)) (.cons rfl (pm_of rfl rfl rfl (fun _ kq => tl_p (pr_conv Tryz.it3 Tryz.underlying5 rfl) rfl kq)) (.cons rfl (pm_of rfl rfl rfl (fun _ kq => tl_p (pr_ld Tryz.ag5 rfl (l := u8s g) (hv := GetL.of (u8_at (i := 15) (by omega) (by omega)))) rfl kq)) (.cons rfl (pm_of rfl rfl rfl (fun _ kq => tl_p (pr_indexA Tryz.ar230 rfl rfl (by omega) (by omega)) rfl kq)) (.cons rfl (pm_of rfl rfl rfl (fun _ kq => tl_p (pr_bAnd rfl rfl) rfl kq)) (.cons rfl (pm_of rfl rfl rfl (fun _ kq => tl_p (pr_conv Tryz.it3 Tryz.underlying5 rfl) rfl kq)) (.cons rfl (pm_of rfl rfl rfl (fun _ kq => tl_p (pr_ld Tryz.ag5 rfl (l := u8s g) (hv := GetL.of (u8_at (i := 13) (by omega) (by omega)))) rfl kq)) (.cons rfl (pm_of rfl rfl rfl (fun _ kq => tl_p (pr_indexA Tryz.ar230 rfl rfl (by omega) (by omega)) rfl kq)) (.cons rfl (pm_of rfl rfl rfl (fun _ kq => tl_rdS (f233_ct g hg 8 (by omega)) (.cons rfl (.cons rfl .nil)) rfl (kk := kq))) (.cons rfl (pm_of rfl rfl rfl (fun _ kq => tl_p (pr_loadW Tryz.ag230 Tryz.sz230 rfl (hle := boxed hg)) rfl kq)) (.cons rfl (pm_of rfl rfl rfl (fun _ kq => tl_rdS (f233_ct g hg 4 (by omega)) (.cons rfl (.cons rfl .nil)) rfl (kk := kq))) (.cons rfl (pm_of rfl rfl rfl (fun _ kq => tl_p (pr_loadW Tryz.ag230 Tryz.sz230 rfl (hle := boxed hg)) rfl kq)) (.cons rfl (pm_of rfl rfl rfl (fun _ kq => tl_rdS (f233_ct g hg 0 (by omega)) (.cons rfl (.cons rfl .nil)) rfl (kk := kq))) (.cons rfl (pm_of rfl rfl rfl (fun _ kq => tl_p (pr_loadW Tryz.ag230 Tryz.sz230 rfl (hle := boxed hg)) rfl kq)) .nil)))))))))))))) ?_
  refine td_e1 15 (by kernel_rfl) ?_
  refine te rfl ?_
  refine tl_storeW Tryz.sz27 rfl rfl (k := ?_)
  refine td_next (pd := []) (by kernel_rfl) (.nil) ?_
  refine td_done (by kernel_rfl) ?_
  refine tq_next ?_
  refine tc_seq ?_
  refine tc_region ?_
  refine tl_p (pr_fieldAddr Tryz.fo27_0 rfl) rfl ?_
  refine tl_st Tryz.sz4 rfl rfl (k := ?_)
  refine tl_next ?_
  refine tc_seq ?_
  refine tc_region ?_
  refine tl_p (pr_move rfl) rfl ?_
  refine tl_p (pr_move rfl) rfl ?_
  refine tl_gt rfl rfl (fun h => pr_loadW Tryz.ag230 Tryz.sz230 rfl (hle := boxed hg)) (by intro _ h; cases h) rfl ?_
  refine tl_rdgtS rfl rfl (fun h => ⟨f234_ct g hg, .cons (gv rfl h) .nil⟩) rfl (kk := ?_)
  refine tl_p (pr_and rfl rfl rfl) rfl ?_
  refine tl_p (pr_move rfl) rfl ?_
  refine tl_gt rfl rfl (fun h => by first | exact pr_loadW Tryz.ag27 Tryz.sz27 rfl | exact pr_ldA Tryz.ag27 Tryz.sz27 rfl) (by intro _ h; cases h) rfl ?_
  refine tl_rdgtS rfl rfl (fun h => ⟨f59_ct (encRaw g true), .cons (gv rfl h) .nil⟩) rfl (kk := ?_)
  refine tl_p (pr_and rfl rfl rfl) rfl ?_
  refine tl_p (pr_fieldAddr Tryz.fo27_0 rfl) rfl ?_
  refine tl_st Tryz.sz4 rfl rfl (k := ?_)
  refine tl_next ?_
  refine tc_seq ?_
  refine tc_region ?_
  refine tl_p (by first | exact pr_loadW Tryz.ag27 Tryz.sz27 rfl | exact pr_ldA Tryz.ag27 Tryz.sz27 rfl) rfl ?_
  refine tl_storeW Tryz.sz27 rfl rfl (k := ?_)
  refine tl_p (pr_assign rfl) rfl ?_
  refine tl_next ?_
  refine tc_ret ?_
  exact tq_retG .ret (.inl rfl) () rfl (.cellA Tryz.ag27 Tryz.sz27 rfl (.tmp rfl .nil)) rfl

end Go.Proofs

namespace Go.Proofs
open Go Go.Sz
attribute [local irreducible] pt lift exs own emp
theorem Tryz.ag163 : aggB Tryz.prog 163 = some false := by kernel_rfl
theorem Tryz.fo165_0 : fOff Tryz.prog 165 0 = some (0, 1, false) := by kernel_rfl
theorem Tryz.sf163 : slcF Tryz.prog 163 = some (128, 273, 273) := by kernel_rfl
theorem Tryz.sl163 : slcOf Tryz.prog 163 = some (128, 273) := by kernel_rfl
/-! memory -/
structure MemM where
  n : Nat
  B : Nat → Int
  T : Nat → Bool
  D : Nat → Bool
def MemM.bs (m : MemM) (a k : Nat) : List Int := (List.range k).map fun q => m.B (a + q)
def MemM.page (m : MemM) (i : Nat) : List Value := u8s (m.bs (256 * i) 256) ++ ((List.range 16).map fun q => .bool (m.T (16 * i + q))) ++ [.bool (m.D i)]
def MemM.l (m : MemM) : List Value := (List.range m.n).flatMap m.page
theorem MemM.page_len (m : MemM) (i : Nat) : (m.page i).length = 273 := by simp [MemM.page, MemM.bs]
theorem MemM.l_len (m : MemM) : m.l.length = m.n * 273 := by rw [MemM.l, fm_len m.page_len]; simp
theorem MemM.cut {m : MemM} {i off k : Nat} (hi : i < m.n) (ho : off + k ≤ 273) : cutL m.l (i * 273 + off) k = cutL (m.page i) off k := by
  have h := fm_cut m.page_len (List.range m.n) i (x := i) (by simp [hi])
  have e : cutL m.l (i * 273 + off) k = cutL (cutL m.l (i * 273) 273) off k := by
    unfold cutL
    rw [List.drop_take, List.drop_drop, List.take_take, Nat.min_eq_left (by omega)]
  rw [e]; rw [show cutL m.l (i * 273) 273 = m.page i from h]
theorem MemM.at {m : MemM} {i off : Nat} (hi : i < m.n) (ho : off < 273) : m.l[i * 273 + off]? = (m.page i)[off]? := by
  have h := MemM.cut (off := off) (k := 1) hi (by omega)
  have h1 : ∀ (l : List Value) (q : Nat), l[q]? = (cutL l q 1)[0]? := by intro l q; simp [cutL]
  rw [h1, h, ← h1]
theorem fm_congr {α : Type} {f g : α → List Value} : ∀ {l : List α}, (∀ x ∈ l, f x = g x) → l.flatMap f = l.flatMap g
  | [], _ => rfl
  | x :: l, h => by rw [List.flatMap_cons, List.flatMap_cons, h x List.mem_cons_self, fm_congr fun y hy => h y (List.mem_cons_of_mem _ hy)]
theorem MemM.put {m m' : MemM} {i off : Nat} {vs : List Value} (hi : i < m.n) (ho : off + vs.length ≤ 273) (hn : m'.n = m.n) (h1 : ∀ j, j ≠ i → m'.page j = m.page j) (h2 : m'.page i = putAt (m.page i) off vs) : putAt m.l (i * 273 + off) vs = m'.l := by
  have key : ∀ (a b : List Value) (p q : List Value), a.length = i * 273 → p.length = 273 → putAt (a ++ (p ++ b)) (i * 273 + off) vs = a ++ (putAt p off vs ++ b) := by
    intro a b p q ha hp
    have := putAt_pre a (p ++ b) off vs
    rw [ha] at this
    rw [this, putAt_post _ _ _ _ (by omega)]
  have hs : List.range m.n = List.range i ++ (i :: List.range' (i + 1) (m.n - i - 1)) := by
    rw [List.range_eq_range', List.range_eq_range', show m.n = i + ((m.n - i - 1) + 1) from by omega, ← List.range'_append_1]
    simp [List.range'_succ]
  unfold MemM.l
  rw [hn, hs]
  simp only [List.flatMap_append, List.flatMap_cons]
  rw [key _ _ _ [] (by rw [fm_len m.page_len]; simp) (m.page_len i), h2]
  congr 1
  · apply fm_congr; intro j hj; exact (h1 j (by simp at hj; omega)).symm
  · congr 1
    apply fm_congr; intro j hj; exact (h1 j (by simp [List.mem_range'] at hj; omega)).symm
theorem MemM.page_bytes (m : MemM) (i off k : Nat) (h : off + k ≤ 256) : cutL (m.page i) off k = u8s (m.bs (256 * i + off) k) := by
  unfold MemM.page cutL
  rw [List.append_assoc, List.drop_append_of_le_length (by simp [MemM.bs]; omega), List.take_append_of_le_length (by simp [MemM.bs]; omega)]
  unfold MemM.bs u8s
  apply List.ext_getElem
  · simp; omega
  · intro q h1 h2; simp [Nat.add_assoc]
theorem MemM.page_tag (m : MemM) (i q : Nat) (h : q < 16) : (m.page i)[256 + q]? = some (.bool (m.T (16 * i + q))) := by
  unfold MemM.page
  rw [List.append_assoc, List.getElem?_append_right (by simp [MemM.bs])]
  simp [MemM.bs, h, List.getElem?_append]
theorem MemM.page_dirty (m : MemM) (i : Nat) : (m.page i)[272]? = some (.bool (m.D i)) := by
  unfold MemM.page
  rw [List.getElem?_append_right (by simp [MemM.bs])]
  simp [MemM.bs]
structure MOk (s : Shp) (m : MemM) : Prop where
  own : Sow 273 s m.n m.l
  mem : IsM s
  lim : m.n ≤ 65536
theorem MOk.of {s : Shp} {m m' : MemM} (h : MOk s m) (hn : m'.n = m.n) : MOk s m' :=
  ⟨⟨⟨by rw [m'.l_len], by rw [hn]; exact h.own.far, by rw [hn]; exact h.own.cap, by rw [hn]; exact h.own.bnd⟩, h.own.tame, by rw [hn]; exact h.own.room⟩, h.mem, by rw [hn]; exact h.lim⟩
abbrev memO (s : Shp) (n : Nat) : Obj := .cells #[sv s n] 165 (0, 0)
/-- where a granule is -/
def gran (m : MemM) (p : Int) : Bool := !(decide (p < 0) || decide ((m.n : Int) * 256 ≤ p) || !decide (p % 16 = 0))
def granV (s : Shp) (m : MemM) (p : Int) : Value := .tuple #[if gran m p then ea s ((p / 256).toNat * 273) else .pointer none, .int .i64 (if gran m p then p % 256 / 16 else 0)]
def memIn (m : MemM) (p k : Int) : Bool := decide (0 ≤ p) && decide (0 ≤ k) && decide (p ≤ (m.n : Int) * 256) && decide (k ≤ (m.n : Int) * 256 - p)
theorem gran_iff {m : MemM} {p : Int} : gran m p = true ↔ 0 ≤ p ∧ p < m.n * 256 ∧ p % 16 = 0 := by
  simp [gran, and_assoc]

theorem f75_ct (mb : Nat) (s : Shp) (m : MemM) (hm : MOk s m) : Rd Tryz.prog 75 #[ad mb 0] [(mb, memO s m.n)] [] (.int .i64 ((m.n : Int) * 256)) := by
  refine ct_intro Tryz.func75 rfl (by kernel_rfl) (n := 9) rfl rfl (E := [(0, ad mb 0)]) rfl ?_
  intro κ hro
  have hq : κ.frame mb = some (memO s m.n) := hro _ (List.Mem.head _)
  have hs := hm.own
  have ms := hm.mem
  have hl := hm.lim
  refine tc_seq ?_
  refine tc_region ?_
  refine tl_p (pr_assign rfl) rfl ?_
  refine tl_next ?_
  refine tc_seq ?_
  refine tc_region ?_
  refine tl_p (pr_move rfl) rfl ?_
  refine tl_p (pr_nilCheck rfl) rfl ?_
  refine tl_p (pr_fieldAddr Tryz.fo165_0 rfl) rfl ?_
  refine tl_p (pr_ld Tryz.ag163 rfl) rfl ?_
  refine tl_p (pr_lenS Tryz.sf163 rfl) rfl ?_
  refine tl_p (pr_mulN rfl rfl (by omega)) rfl ?_
  refine tl_p (pr_assign rfl) rfl ?_
  refine tl_next ?_
  refine tc_ret ?_
  exact tq_ret1 .ret (.inl rfl) () rfl rfl

theorem f73_ct (mb : Nat) (s : Shp) (m : MemM) (hm : MOk s m) (p k : Int) : Rd Tryz.prog 73 #[ad mb 0, .int .i64 p, .int .i64 k] [(mb, memO s m.n)] [] (.bool (memIn m p k)) := by
  refine ct_intro Tryz.func73 rfl (by kernel_rfl) (n := 27) rfl rfl (E := [(0, ad mb 0), (1, .int .i64 p), (2, .int .i64 k)]) rfl ?_
  intro κ hro
  have hq : κ.frame mb = some (memO s m.n) := hro _ (List.Mem.head _)
  have hs := hm.own
  have ms := hm.mem
  have hl := hm.lim
  refine tc_seq ?_
  refine tc_region ?_
  refine tl_p (pr_assign rfl) rfl ?_
  refine tl_next ?_
  refine tc_seq ?_
  refine tc_region ?_
  refine tl_p (pr_move rfl) rfl ?_
  refine tl_p (pr_geq rfl rfl) rfl ?_
  refine tl_p (pr_move rfl) rfl ?_
  refine tl_gt rfl rfl (fun h => pr_move rfl) (by intro _ h; cases h) rfl ?_
  refine tl_gt rfl rfl (fun h => pr_geq (gv rfl h) rfl) (by intro _ h; cases h) rfl ?_
  refine tl_p (pr_and rfl rfl rfl) rfl ?_
  refine tl_p (pr_move rfl) rfl ?_
  refine tl_gt rfl rfl (fun h => pr_move rfl) (by intro _ h; cases h) rfl ?_
  refine tl_gt rfl rfl (fun h => pr_move rfl) (by intro _ h; cases h) rfl ?_
  refine tl_rdgtS rfl rfl (fun h => ⟨f75_ct _ _ _ hm, .cons (gv rfl h) .nil⟩) rfl (kk := ?_)
  refine tl_gt rfl rfl (fun h => pr_leq (gv rfl h) (gv rfl h)) (by intro _ h; cases h) rfl ?_
  refine tl_p (pr_and rfl rfl rfl) rfl ?_
  refine tl_p (pr_move rfl) rfl ?_
  refine tl_gt rfl rfl (fun h => pr_move rfl) (by intro _ h; cases h) rfl ?_
  refine tl_gt rfl rfl (fun h => pr_move rfl) (by intro _ h; cases h) rfl ?_
  refine tl_rdgtS rfl rfl (fun h => ⟨f75_ct _ _ _ hm, .cons (gv rfl h) .nil⟩) rfl (kk := ?_)
  refine tl_gt rfl rfl (fun h => pr_move rfl) (by intro _ h; cases h) rfl ?_
  refine tl_gt rfl rfl (fun h => pr_subN (gv rfl h) (gv rfl h) (by simp at h; omega)) (by intro _ h; cases h) rfl ?_
  refine tl_gt rfl rfl (fun h => pr_leq (gv rfl h) (gv rfl h)) (by intro _ h; cases h) rfl ?_
  refine tl_p (pr_and rfl rfl rfl) rfl ?_
  refine tl_p (pr_assign rfl) rfl ?_
  refine tl_next ?_
  refine tc_ret ?_
  exact tq_ret1 .ret (.inl rfl) () rfl rfl

theorem f112_ct (mb : Nat) (s : Shp) (m : MemM) (hm : MOk s m) (p : Int) (hp : p ≤ 9223372036854775807) : Rd Tryz.prog 112 #[ad mb 0, .int .i64 p] [(mb, memO s m.n)] [] (granV s m p) := by
  refine ct_intro Tryz.func112 rfl (by kernel_rfl) (n := 29) rfl rfl (E := [(0, ad mb 0), (1, .int .i64 p)]) rfl ?_
  intro κ hro
  have hq : κ.frame mb = some (memO s m.n) := hro _ (List.Mem.head _)
  have hs := hm.own
  have ms := hm.mem
  have hl := hm.lim
  refine tc_seq ?_
  refine tc_region ?_
  refine tl_p (pr_assign rfl) rfl ?_
  refine tl_p (pr_assign rfl) rfl ?_
  refine tl_next ?_
  refine tc_seq ?_
  refine tc_seq ?_
  refine tc_region ?_
  refine tl_p (pr_move rfl) rfl ?_
  refine tl_p (pr_lss rfl rfl) rfl ?_
  refine tl_p (pr_move rfl) rfl ?_
  refine tl_gf rfl rfl (fun h => pr_move rfl) (by intro _ h; cases h) rfl ?_
  refine tl_gf rfl rfl (fun h => pr_move rfl) (by intro _ h; cases h) rfl ?_
  refine tl_rdgfS rfl rfl (fun h => ⟨f75_ct _ _ _ hm, .cons (gv rfl h) .nil⟩) rfl (kk := ?_)
  refine tl_gf rfl rfl (fun h => pr_geq (gv rfl h) (gv rfl h)) (by intro _ h; cases h) rfl ?_
  refine tl_p (pr_or rfl rfl rfl) rfl ?_
  refine tl_p (pr_move rfl) rfl ?_
  refine tl_gf rfl rfl (fun h => pr_move rfl) (by intro _ h; cases h) rfl ?_
  refine tl_gf rfl rfl (fun h => pr_remN (gv rfl h) rfl (by simp at h; omega) (by omega)) (by intro _ h; cases h) rfl ?_
  refine tl_gf rfl rfl (fun h => pr_neq (gv rfl h) rfl) (by intro _ h; cases h) rfl ?_
  refine tl_p (pr_or rfl rfl rfl) rfl ?_
  refine tl_next ?_
  refine tc_if rfl (fun hc1 => ?_) (fun hc1 => ?_)
  · have hd1 := hc1
    try simp only [Bool.not_eq_true', Bool.not_eq_false', Bool.or_eq_true, Bool.and_eq_true, Bool.or_eq_false_iff, Bool.and_eq_false_iff, decide_eq_true_eq, decide_eq_false_iff_not, Bool.not_true, Bool.not_false, gval, Bool.not_eq_eq_eq_not] at hc1
    refine tc_seq ?_
    refine tc_region ?_
    refine tl_p (pr_assign rfl) rfl ?_
    refine tl_p (pr_assign rfl) rfl ?_
    refine tl_next ?_
    refine tc_ret (tq_then_ret ?_)
    have hg : gran m p = false := by unfold gran; rw [hd1]; rfl
    exact tq_ret2 .ret (.inl rfl) () rfl rfl rfl (by unfold granV; rw [hg]; rfl)
  · have hd1 := hc1
    try simp only [Bool.not_eq_true', Bool.not_eq_false', Bool.or_eq_true, Bool.and_eq_true, Bool.or_eq_false_iff, Bool.and_eq_false_iff, decide_eq_true_eq, decide_eq_false_iff_not, Bool.not_true, Bool.not_false, gval, Bool.not_eq_eq_eq_not] at hc1
    have hg : gran m p = true := by unfold gran; rw [hd1]; rfl
    have hg2 := gran_iff.1 hg
    refine tc_skip (tq_next ?_)
    refine tc_seq ?_
    refine tc_region ?_
    refine tl_p (pr_move rfl) rfl ?_
    refine tl_p (pr_nilCheck rfl) rfl ?_
    refine tl_p (pr_fieldAddr Tryz.fo165_0 rfl) rfl ?_
    refine tl_p (pr_ld Tryz.ag163 rfl) rfl ?_
    refine tl_p (pr_move rfl) rfl ?_
    refine tl_p (pr_quoN rfl rfl (by omega) (by omega) (by omega)) rfl ?_
    refine tl_p (pr_ixE Tryz.sl163 rfl rfl) rfl ?_
    refine tl_p (pr_move rfl) rfl ?_
    refine tl_p (pr_remN rfl rfl (by omega) (by omega)) rfl ?_
    refine tl_p (pr_quoN rfl rfl (by omega) (by omega) (by omega)) rfl ?_
    refine tl_p (pr_assign rfl) rfl ?_
    refine tl_p (pr_assign rfl) rfl ?_
    refine tl_next ?_
    refine tc_ret ?_
    exact tq_ret2 .ret (.inl rfl) () rfl rfl rfl (by unfold granV; rw [hg]; rfl)

end Go.Proofs

namespace Go.Proofs
open Go Go.Sz
attribute [local irreducible] pt lift exs own emp
theorem Tryz.ar126 : arrOf Tryz.prog 126 = some (16, 1, false) := by kernel_rfl
theorem Tryz.fo128_1 : fOff Tryz.prog 128 1 = some (256, 16, true) := by kernel_rfl
def MemM.putB (m : MemM) (a : Nat) (bs : List Int) : MemM := { m with B := fun x => if a ≤ x ∧ x < a + bs.length then bs.getD (x - a) 0 else m.B x }
def MemM.putT (m : MemM) (q : Nat) (b : Bool) : MemM := { m with T := fun x => if x = q then b else m.T x }
def MemM.putD (m : MemM) (i : Nat) (b : Bool) : MemM := { m with D := fun x => if x = i then b else m.D x }
theorem putAt_app {a b vs : List Value} {k n : Nat} (hn : a.length = n) (hk : k + vs.length ≤ n) : putAt (a ++ b) k vs = putAt a k vs ++ b := putAt_post a b k vs (by omega)
theorem MemM.put_B {m : MemM} {i off : Nat} {bs : List Int} (hi : i < m.n) (ho : off + bs.length ≤ 256) : putAt m.l (i * 273 + off) (u8s bs) = (m.putB (256 * i + off) bs).l := by
  refine MemM.put hi (by simp; omega) rfl (fun j hj => ?_) ?_
  · have e : (m.putB (256 * i + off) bs).bs (256 * j) 256 = m.bs (256 * j) 256 := by
      unfold MemM.bs MemM.putB
      apply List.map_congr_left
      intro q hq
      simp at hq ⊢
      intro h1 h2
      omega
    unfold MemM.page; rw [e]; rfl
  · unfold MemM.page
    rw [List.append_assoc, List.append_assoc, putAt_app (n := 256) (by simp [MemM.bs]) (by simp; omega)]
    congr 1
    unfold MemM.bs MemM.putB u8s putAt
    apply List.ext_getElem
    · simp; omega
    · intro q h1 h2
      simp at h1
      simp only [List.getElem_map, List.getElem_range, List.getElem_append, List.length_take, List.length_map, List.length_range, List.length_append, List.getElem_take, List.getElem_drop]
      by_cases c1 : q < off
      · have e1 : q < min off 256 := by omega
        simp [e1, show q < min off 256 + bs.length by omega, show ¬ (256 * i + off ≤ 256 * i + q ∧ 256 * i + q < 256 * i + off + bs.length) by omega]
        intro h3; omega
      · by_cases c2 : q < off + bs.length
        · have e1 : ¬ q < min off 256 := by omega
          have e2 : q < min off 256 + bs.length := by omega
          have e3 : 256 * i + off ≤ 256 * i + q ∧ 256 * i + q < 256 * i + off + bs.length := by omega
          have e4 : 256 * i + q - (256 * i + off) = q - min off 256 := by omega
          rw [if_pos e3, dif_pos e2, dif_neg e1, e4]
          simp [show q - min off 256 < bs.length by omega]
        · have e2 : ¬ q < min off 256 + bs.length := by omega
          have e3 : ¬ (256 * i + off ≤ 256 * i + q ∧ 256 * i + q < 256 * i + off + bs.length) := by omega
          rw [if_neg e3, dif_neg e2]
          congr 2
          omega
theorem MemM.put_T {m : MemM} {i k : Nat} {b : Bool} (hi : i < m.n) (hk : k < 16) : putAt m.l (i * 273 + (256 + k)) [.bool b] = (m.putT (16 * i + k) b).l := by
  refine MemM.put hi (by simp; omega) rfl (fun j hj => ?_) ?_
  · have e : ((List.range 16).map fun q => Value.bool ((m.putT (16 * i + k) b).T (16 * j + q))) = ((List.range 16).map fun q => Value.bool (m.T (16 * j + q))) := by
      apply List.map_congr_left
      intro q hq
      simp [MemM.putT] at hq ⊢
      intro h; omega
    unfold MemM.page; rw [e]; rfl
  · rw [put_one (by rw [m.page_len]; omega)]
    unfold MemM.page
    apply List.ext_getElem
    · simp [MemM.bs]
    · intro q h1 h2
      simp [MemM.bs] at h1
      rw [List.getElem_set]
      simp only [List.getElem_append, List.length_append, List.length_map, List.length_range, MemM.bs, List.getElem_map, List.getElem_range]
      by_cases c1 : q < 256
      · simp [c1, show q < 256 + 16 by omega, show ¬ 256 + k = q by omega]; rfl
      · by_cases c2 : q < 256 + 16
        · simp only [c1, c2, dif_pos, dif_neg, not_false_eq_true]
          by_cases c3 : 256 + k = q
          · subst c3; simp [MemM.putT]
          · simp [c3, MemM.putT]; intro h; omega
        · simp [c1, c2, show ¬ 256 + k = q by omega]; rfl
theorem MemM.put_D {m : MemM} {i : Nat} {b : Bool} (hi : i < m.n) : putAt m.l (i * 273 + 272) [.bool b] = (m.putD i b).l := by
  refine MemM.put hi (by simp) rfl (fun j hj => ?_) ?_
  · unfold MemM.page MemM.putD; simp [hj]; rfl
  · rw [put_one (by rw [m.page_len]; omega)]
    unfold MemM.page
    rw [List.set_append_right _ _ (by simp [MemM.bs])]
    simp [MemM.bs, MemM.putD]
theorem granV_yes {s : Shp} {m : MemM} {i k : Nat} (hi : i < m.n) (hk : k < 16) : granV s m ((256 * i + 16 * k : Nat) : Int) = .tuple #[ea s (i * 273), .int .i64 (k : Int)] := by
  have hg : gran m ((256 * i + 16 * k : Nat) : Int) = true := gran_iff.2 ⟨by omega, by omega, by omega⟩
  unfold granV
  rw [hg, if_pos rfl, if_pos rfl, show (((256 * i + 16 * k : Nat) : Int) / 256).toNat = i from by omega, show ((256 * i + 16 * k : Nat) : Int) % 256 / 16 = (k : Int) from by omega]
theorem granV_no {s : Shp} {m : MemM} {p : Int} (h : gran m p = false) : granV s m p = .tuple #[.pointer none, .int .i64 0] := by
  unfold granV; rw [h]; rfl
theorem gran_ik {m : MemM} {p : Int} (h : gran m p = true) : ∃ i k, i < m.n ∧ k < 16 ∧ p = ((256 * i + 16 * k : Nat) : Int) := by
  have := gran_iff.1 h
  exact ⟨(p / 256).toNat, (p % 256 / 16).toNat, by omega, by omega, by omega⟩
theorem MemM.ok_cut {s : Shp} {m : MemM} (hm : MOk s m) {i off q j cap : Nat} (hi : i < m.n) (ho : off + q ≤ 256) (hj : j = i * 273 + off) (hc : q ≤ cap) : Sok 1 (cutS m.l j (q * 1) cap s) q (u8s (m.bs (256 * i + off) q)) := by
  subst hj
  have h := Sok.cut (sz := 1) (k := q) (j := i * 273 + off) (cap := cap) (c := m.l) hm.mem (by rw [m.l_len]; have := Nat.mul_le_mul_right 273 (show i + 1 ≤ m.n from hi); omega) hc (by omega)
  have e : cutL m.l (i * 273 + off) (q * 1) = u8s (m.bs (256 * i + off) q) := by rw [Nat.mul_one, MemM.cut hi (by omega), MemM.page_bytes _ _ _ _ ho]
  rwa [e] at h
theorem MemM.rd_cut {L : List HProp} {κ : Ctx} {s : Shp} {m : MemM} (hr : RdS L κ s m.l) {i off q j cap : Nat} (hi : i < m.n) (ho : off + q ≤ 256) (hj : j = i * 273 + off) : RdS L κ (cutS m.l j (q * 1) cap s) (u8s (m.bs (256 * i + off) q)) := by
  subst hj
  have h := hr.cut (j := i * 273 + off) (m := q * 1) (cap := cap) (by rw [m.l_len]; have := Nat.mul_le_mul_right 273 (show i + 1 ≤ m.n from hi); omega)
  have e : cutL m.l (i * 273 + off) (q * 1) = u8s (m.bs (256 * i + off) q) := by rw [Nat.mul_one, MemM.cut hi (by omega), MemM.page_bytes _ _ _ _ ho]
  rwa [e] at h
theorem MemM.tag_at {m : MemM} {i k j : Nat} (hi : i < m.n) (hk : k < 16) (hj : j = i * 273 + (256 + k)) : m.l[j]? = some (.bool (m.T (16 * i + k))) := by
  subst hj; rw [MemM.at hi (by omega), MemM.page_tag _ _ _ hk]
theorem MemM.dirty_at {m : MemM} {i j : Nat} (hi : i < m.n) (hj : j = i * 273 + 272) : m.l[j]? = some (.bool (m.D i)) := by
  subst hj; rw [MemM.at hi (by omega), MemM.page_dirty]
def memTag (m : MemM) (p : Int) : Bool := gran m p && m.T (p / 16).toNat
def memCap (m : MemM) (p : Int) : Cap × Bool := if gran m p then (encGet (m.bs p.toNat 16) (m.T (p / 16).toNat), true) else (nullC, false)
def memPutC (m : MemM) (p : Int) (c : Cap) : MemM := if gran m p && capRight c then ((m.putB p.toNat (encCap c)).putT (p / 16).toNat c.tag).putD (p / 256).toNat (m.D (p / 256).toNat || c.tag) else m

theorem f48_yes (mb : Nat) (s : Shp) (m : MemM) (hm : MOk s m) (i k : Nat) (hi : i < m.n) (hk : k < 16) : Rd Tryz.prog 48 #[ad mb 0, .int .i64 ((256 * i + 16 * k : Nat) : Int)] ([(mb, memO s m.n)] ++ ra s m.l) [] (.bool (m.T (16 * i + k))) := by
  refine ct_intro Tryz.func48 rfl (by kernel_rfl) (n := 23) rfl rfl (E := [(0, ad mb 0), (1, .int .i64 ((256 * i + 16 * k : Nat) : Int))]) rfl ?_
  intro κ hro
  obtain ⟨hr1, hr2⟩ := Reads.app hro
  have hq : κ.frame mb = some (memO s m.n) := hr1 _ (List.Mem.head _)
  have hs := hm.own
  have ms := hm.mem
  have hl := hm.lim
  obtain ⟨g, hg⟩ := ms
  subst hg
  refine tc_seq ?_
  refine tc_region ?_
  refine tl_p (pr_assign rfl) rfl ?_
  refine tl_next ?_
  refine tc_seq ?_
  refine tc_region ?_
  refine tl_p (pr_move rfl) rfl ?_
  refine tl_p (pr_move rfl) rfl ?_
  refine tl_rdS ((f112_ct mb _ m hm _ (by omega)).val (granV_yes hi hk)) (.cons rfl (.cons rfl .nil)) rfl (kk := ?_)
  refine tl_p (pr_move rfl) rfl ?_
  refine tl_p (pr_extract rfl rfl) rfl ?_
  refine tl_p (pr_extract rfl rfl) rfl ?_
  refine tl_p (pr_assign rfl) rfl ?_
  refine tl_p (pr_assign rfl) rfl ?_
  refine tl_next ?_
  refine tc_seq ?_
  refine tc_region ?_
  refine tl_p (pr_move rfl) rfl ?_
  refine tl_p (pr_neqP Tryz.underlying123 rfl (.inr ⟨_, rfl⟩)) rfl ?_
  refine tl_p (pr_move rfl) rfl ?_
  refine tl_on rfl rfl rfl ?_
  refine tl_p (pr_move rfl) rfl ?_
  refine tl_on rfl rfl rfl ?_
  refine tl_p (pr_move rfl) rfl ?_
  refine tl_on rfl rfl rfl ?_
  refine tl_p (pr_ncE (s := .mem g) (j := i * 273) rfl) rfl ?_
  refine tl_on rfl rfl rfl ?_
  refine tl_p (pr_faE (s := .mem g) (j := i * 273) Tryz.fo128_1 rfl) rfl ?_
  refine tl_on rfl rfl rfl ?_
  refine tl_p (pr_ixAE (s := .mem g) (j := i * 273 + 256) Tryz.ar126 rfl rfl (by omega) (by omega)) rfl ?_
  refine tl_on rfl rfl rfl ?_
  refine tl_p (pr_ldE (s := .mem g) (j := i * 273 + 256 + (k : Int).toNat * 1) Tryz.ag4 rfl (c := m.l) (MemM.tag_at hi hk (by omega))) rfl ?_
  refine tl_p (pr_pickT rfl rfl) rfl ?_
  refine tl_p (pr_assign rfl) rfl ?_
  refine tl_next ?_
  refine tc_ret ?_
  exact tq_ret1 .ret (.inl rfl) () rfl rfl

theorem f48_no (mb : Nat) (s : Shp) (m : MemM) (hm : MOk s m) (p : Int) (hp : p ≤ 9223372036854775807) (hg : gran m p = false) : Rd Tryz.prog 48 #[ad mb 0, .int .i64 p] ([(mb, memO s m.n)] ++ ra s m.l) [] (.bool false) := by
  refine ct_intro Tryz.func48 rfl (by kernel_rfl) (n := 23) rfl rfl (E := [(0, ad mb 0), (1, .int .i64 p)]) rfl ?_
  intro κ hro
  obtain ⟨hr1, hr2⟩ := Reads.app hro
  have hq : κ.frame mb = some (memO s m.n) := hr1 _ (List.Mem.head _)
  have hs := hm.own
  have ms := hm.mem
  have hl := hm.lim
  refine tc_seq ?_
  refine tc_region ?_
  refine tl_p (pr_assign rfl) rfl ?_
  refine tl_next ?_
  refine tc_seq ?_
  refine tc_region ?_
  refine tl_p (pr_move rfl) rfl ?_
  refine tl_p (pr_move rfl) rfl ?_
  refine tl_rdS ((f112_ct mb _ m hm p (by omega)).val (granV_no hg)) (.cons rfl (.cons rfl .nil)) rfl (kk := ?_)
  refine tl_p (pr_move rfl) rfl ?_
  refine tl_p (pr_extract rfl rfl) rfl ?_
  refine tl_p (pr_extract rfl rfl) rfl ?_
  refine tl_p (pr_assign rfl) rfl ?_
  refine tl_p (pr_assign rfl) rfl ?_
  refine tl_next ?_
  refine tc_seq ?_
  refine tc_region ?_
  refine tl_p (pr_move rfl) rfl ?_
  refine tl_p (pr_neqP Tryz.underlying123 rfl (.inl rfl)) rfl ?_
  refine tl_p (pr_move rfl) rfl ?_
  refine tl_off rfl rfl rfl rfl ?_
  refine tl_off rfl rfl rfl rfl ?_
  refine tl_off rfl rfl rfl rfl ?_
  refine tl_off rfl rfl rfl rfl ?_
  refine tl_off rfl rfl rfl rfl ?_
  refine tl_off rfl rfl rfl rfl ?_
  refine tl_p (pr_pickF rfl rfl) rfl ?_
  refine tl_p (pr_assign rfl) rfl ?_
  refine tl_next ?_
  refine tc_ret ?_
  exact tq_ret1 .ret (.inl rfl) () rfl rfl

end Go.Proofs

namespace Go.Proofs
open Go Go.Sz
attribute [local irreducible] pt lift exs own emp
theorem Tryz.ar125 : arrOf Tryz.prog 125 = some (256, 1, false) := by kernel_rfl
theorem Tryz.fo128_0 : fOff Tryz.prog 128 0 = some (0, 256, true) := by kernel_rfl
theorem Tryz.fo128_2 : fOff Tryz.prog 128 2 = some (272, 1, false) := by kernel_rfl
theorem f102_yes (mb : Nat) (s : Shp) (m : MemM) (hm : MOk s m) (i k : Nat) (hi : i < m.n) (hk : k < 16) : Rd Tryz.prog 102 #[ad mb 0, .int .i64 ((256 * i + 16 * k : Nat) : Int)] ([(mb, memO s m.n)] ++ ra s m.l) [] (cb (encGet (m.bs (256 * i + 16 * k) 16) (m.T (16 * i + k)), true)) := by
  refine ct_intro Tryz.func102 rfl (by kernel_rfl) (n := 35) rfl rfl (E := [(0, ad mb 0), (1, .int .i64 ((256 * i + 16 * k : Nat) : Int))]) rfl ?_
  intro κ hro
  obtain ⟨hr1, hr2⟩ := Reads.app hro
  have hq : κ.frame mb = some (memO s m.n) := hr1 _ (List.Mem.head _)
  have hs := hm.own
  have ms := hm.mem
  have hl := hm.lim
  obtain ⟨g, hg⟩ := ms
  subst hg
  refine tc_seq ?_
  refine tc_region ?_
  refine tl_alloc Tryz.z27 rfl (fun b4 => ?_)
  refine tl_p (pr_assign rfl) rfl ?_
  refine tl_next ?_
  refine tc_seq ?_
  refine tc_region ?_
  refine tl_p (pr_move rfl) rfl ?_
  refine tl_p (pr_move rfl) rfl ?_
  refine tl_rdS ((f112_ct mb _ m hm _ (by omega)).val (granV_yes hi hk)) (.cons rfl (.cons rfl .nil)) rfl (kk := ?_)
  refine tl_p (pr_move rfl) rfl ?_
  refine tl_p (pr_extract rfl rfl) rfl ?_
  refine tl_p (pr_extract rfl rfl) rfl ?_
  refine tl_p (pr_assign rfl) rfl ?_
  refine tl_p (pr_assign rfl) rfl ?_
  refine tl_next ?_
  refine tc_seq ?_
  refine tc_seq ?_
  refine tc_region ?_
  refine tl_p (pr_move rfl) rfl ?_
  refine tl_p (pr_eqlP Tryz.underlying123 rfl (.inr ⟨_, rfl⟩)) rfl ?_
  refine tl_next ?_
  refine tc_if_false rfl rfl ?_
  refine tc_skip (tq_next ?_)
  refine tc_seq ?_
  refine tc_draw Tryz.mixed [0, 1, 2, 3, 4, 5, 6, 7, 8, 9, 10, 11, 12, 13, 14, 15, 16, 17] (by kernel_rfl) ?_
  refine td_q 0 17 (pm_of rfl rfl rfl (fun _ kq => tl_p (pr_move rfl) rfl kq)) rfl rfl rfl ?_
  refine td_q 1 18 (pm_of rfl rfl rfl (fun _ kq => tl_p (pr_ncE (s := .mem g) (j := i * 273) rfl) rfl kq)) rfl rfl rfl ?_
  refine td_q 2 19 (pm_of rfl rfl rfl (fun _ kq => tl_p (pr_faE (s := .mem g) (j := i * 273) Tryz.fo128_0 rfl) rfl kq)) rfl rfl rfl ?_
  refine td_q 3 20 (pm_of rfl rfl rfl (fun _ kq => tl_p (pr_move rfl) rfl kq)) rfl rfl rfl ?_
  refine td_q 4 21 (pm_of rfl rfl rfl (fun _ kq => tl_p (pr_mulN rfl rfl (by omega)) rfl kq)) rfl rfl rfl ?_
  refine td_q 5 22 (pm_of rfl rfl rfl (fun _ kq => tl_p (pr_move rfl) rfl kq)) rfl rfl rfl ?_
  refine td_q 6 23 (pm_of rfl rfl rfl (fun _ kq => tl_p (pr_addN rfl rfl (by omega)) rfl kq)) rfl rfl rfl ?_
  refine td_q 7 24 (pm_of rfl rfl rfl (fun _ kq => tl_p (pr_mulN rfl rfl (by omega)) rfl kq)) rfl rfl rfl ?_
  refine td_q 8 25 (pm_of rfl rfl rfl (fun _ kq => tl_p (pr_sliceC (l := 16 * k) (q := 16) (h := 16 * k + 16) (j := i * 273 + 0) (.mem g) m.l Tryz.ar125 rfl (.yes rfl (by omega)) (.yes rfl (by omega)) (by omega) (by omega) (by omega) (by rw [m.l_len]; omega)) rfl kq)) rfl rfl rfl ?_
  refine td_q 9 26 (pm_of rfl rfl rfl (fun _ kq => tl_p (pr_move rfl) rfl kq)) rfl rfl rfl ?_
  refine td_q 10 27 (pm_of rfl rfl rfl (fun _ kq => tl_p (pr_move rfl) rfl kq)) rfl rfl rfl ?_
  refine td_q 11 28 (pm_of rfl rfl rfl (fun _ kq => tl_p (pr_ncE (s := .mem g) (j := i * 273) rfl) rfl kq)) rfl rfl rfl ?_
  refine td_q 12 29 (pm_of rfl rfl rfl (fun _ kq => tl_p (pr_faE (s := .mem g) (j := i * 273) Tryz.fo128_1 rfl) rfl kq)) rfl rfl rfl ?_
  refine td_q 13 30 (pm_of rfl rfl rfl (fun _ kq => tl_p (pr_ixAE (s := .mem g) (j := i * 273 + 256) Tryz.ar126 rfl rfl (by omega) (by omega)) rfl kq)) rfl rfl rfl ?_
  refine td_q 14 31 (pm_of rfl rfl rfl (fun _ kq => tl_p (pr_ldE (s := .mem g) (j := i * 273 + 256 + (k : Int).toNat * 1) Tryz.ag4 rfl (c := m.l) (MemM.tag_at hi hk (by omega))) rfl kq)) rfl rfl rfl ?_
  refine td_q 15 32 (pm_of rfl rfl rfl (fun _ kq => tl_rdS (f184_ct _ (m.bs (256 * i + 16 * k) 16) (m.T (16 * i + k)) (MemM.ok_cut hm (off := 16 * k) hi (by omega) (by omega) (by omega))) (.cons rfl (.cons rfl .nil)) rfl (hro := Rdbs.sl (MemM.rd_cut (Reads.sl hr2) (off := 16 * k) hi (by omega) (by omega))) (kk := kq))) rfl rfl rfl ?_
  refine td_q 16 33 (pm_of rfl rfl rfl (fun _ kq => tl_p (pr_extract rfl rfl) rfl kq)) rfl rfl rfl ?_
  refine td_q 17 34 (pm_of rfl rfl rfl (fun _ kq => tl_p (pr_extract rfl rfl) rfl kq)) rfl rfl rfl ?_
  refine td_e1 18 (by kernel_rfl) ?_
  refine te rfl ?_
  refine tl_storeW Tryz.sz27 rfl rfl (k := ?_)
  refine td_next (pd := []) (by kernel_rfl) (.nil) ?_
  refine td_e1 19 (by kernel_rfl) ?_
  refine te rfl ?_
  refine tl_p (pr_assign rfl) rfl ?_
  refine td_next (pd := []) (by kernel_rfl) (.nil) ?_
  refine td_done (by kernel_rfl) ?_
  refine tq_next ?_
  refine tc_ret ?_
  exact tq_retG .ret (.inl rfl) () rfl (.cellA Tryz.ag27 Tryz.sz27 rfl (.tmp rfl .nil)) rfl

theorem f102_no (mb : Nat) (s : Shp) (m : MemM) (hm : MOk s m) (p : Int) (hp : p ≤ 9223372036854775807) (hg : gran m p = false) : Rd Tryz.prog 102 #[ad mb 0, .int .i64 p] ([(mb, memO s m.n)] ++ ra s m.l) [] (cb (nullC, false)) := by
  refine ct_intro Tryz.func102 rfl (by kernel_rfl) (n := 35) rfl rfl (E := [(0, ad mb 0), (1, .int .i64 p)]) rfl ?_
  intro κ hro
  obtain ⟨hr1, hr2⟩ := Reads.app hro
  have hq : κ.frame mb = some (memO s m.n) := hr1 _ (List.Mem.head _)
  have hs := hm.own
  have ms := hm.mem
  have hl := hm.lim
  refine tc_seq ?_
  refine tc_region ?_
  refine tl_alloc Tryz.z27 rfl (fun b4 => ?_)
  refine tl_p (pr_assign rfl) rfl ?_
  refine tl_next ?_
  refine tc_seq ?_
  refine tc_region ?_
  refine tl_p (pr_move rfl) rfl ?_
  refine tl_p (pr_move rfl) rfl ?_
  refine tl_rdS ((f112_ct mb _ m hm p (by omega)).val (granV_no hg)) (.cons rfl (.cons rfl .nil)) rfl (kk := ?_)
  refine tl_p (pr_move rfl) rfl ?_
  refine tl_p (pr_extract rfl rfl) rfl ?_
  refine tl_p (pr_extract rfl rfl) rfl ?_
  refine tl_p (pr_assign rfl) rfl ?_
  refine tl_p (pr_assign rfl) rfl ?_
  refine tl_next ?_
  refine tc_seq ?_
  refine tc_seq ?_
  refine tc_region ?_
  refine tl_p (pr_move rfl) rfl ?_
  refine tl_p (pr_eqlP Tryz.underlying123 rfl (.inl rfl)) rfl ?_
  refine tl_next ?_
  refine tc_if_true rfl rfl ?_
  refine tc_seq ?_
  refine tc_region ?_
  refine tl_p (Tryz.bl27_ ) rfl ?_
  refine tl_storeW Tryz.sz27 rfl rfl (k := ?_)
  refine tl_p (pr_assign rfl) rfl ?_
  refine tl_next ?_
  refine tc_ret (tq_then_ret ?_)
  exact tq_retG .ret (.inl rfl) () rfl (.cellA Tryz.ag27 Tryz.sz27 rfl (.tmp rfl .nil)) rfl

theorem encCap_len (c : Cap) : (encCap c).length = 16 := rfl

theorem f56_yes (mb : Nat) (s : Shp) (m : MemM) (hm : MOk s m) (i k : Nat) (hi : i < m.n) (hk : k < 16) (c : Cap) (hc : capRight c = true) : Ct Tryz.prog 56 #[ad mb 0, .int .i64 ((256 * i + 16 * k : Nat) : Int), c.v] [(mb, memO s m.n)] [sl s m.l] (fun _ : Unit => .bool true) (fun _ N => sl s (((m.putB (256 * i + 16 * k) (encCap c)).putT (16 * i + k) c.tag).putD i (m.D i || c.tag)).l :: N) := by
  refine ct_intro Tryz.func56 rfl (by kernel_rfl) (n := 49) rfl rfl (E := [(0, ad mb 0), (1, .int .i64 ((256 * i + 16 * k : Nat) : Int)), (2, c.v)]) rfl ?_
  intro κ hro
  have hq : κ.frame mb = some (memO s m.n) := hro _ (List.Mem.head _)
  have hs := hm.own
  have ms := hm.mem
  have hl := hm.lim
  obtain ⟨g, hg⟩ := ms
  subst hg
  have hf : ∀ g2, Shp.mem g = .mem g2 → g2.fr = (0, 0) := fun g2 e => (hs.room g2 e).1
  refine tc_seq ?_
  refine tc_region ?_
  refine tl_box rfl rfl (fun b5 => ?_)
  refine tl_p (pr_assign rfl) rfl ?_
  refine tl_next ?_
  refine tc_seq ?_
  refine tc_region ?_
  refine tl_p (pr_move rfl) rfl ?_
  refine tl_p (pr_move rfl) rfl ?_
  refine tl_rdS ((f112_ct mb _ m hm _ (by omega)).val (granV_yes hi hk)) (.cons rfl (.cons rfl .nil)) rfl (kk := ?_)
  refine tl_p (pr_move rfl) rfl ?_
  refine tl_p (pr_extract rfl rfl) rfl ?_
  refine tl_p (pr_extract rfl rfl) rfl ?_
  refine tl_p (pr_assign rfl) rfl ?_
  refine tl_p (pr_assign rfl) rfl ?_
  refine tl_next ?_
  refine tc_seq ?_
  refine tc_seq ?_
  refine tc_region ?_
  refine tl_p (pr_move rfl) rfl ?_
  refine tl_p (pr_eqlP Tryz.underlying123 rfl (.inr ⟨_, rfl⟩)) rfl ?_
  refine tl_p (pr_move rfl) rfl ?_
  refine tl_on rfl rfl rfl ?_
  refine tl_p (by first | exact pr_loadW Tryz.ag27 Tryz.sz27 rfl | exact pr_ldA Tryz.ag27 Tryz.sz27 rfl) rfl ?_
  refine tl_on rfl rfl rfl ?_
  refine tl_rdS (f59_ct _) (.cons rfl .nil) rfl (kk := ?_)
  refine tl_on rfl rfl rfl ?_
  refine tl_p (pr_not rfl) rfl ?_
  refine tl_p (pr_pickF rfl rfl) rfl ?_
  refine tl_next ?_
  refine tc_if_false rfl (by simp [hc, isNil, ea, ad, gval]) ?_
  refine tc_skip (tq_next ?_)
  refine tc_seq ?_
  refine tc_draw Tryz.mixed [0, 1, 2, 3, 4, 5, 6] (by kernel_rfl) ?_
  refine td_q 0 22 (pm_of rfl rfl rfl (fun _ kq => tl_p (pr_move rfl) rfl kq)) rfl rfl rfl ?_
  refine td_q 1 23 (pm_of rfl rfl rfl (fun _ kq => tl_p (pr_ncE (s := .mem g) (j := i * 273) rfl) rfl kq)) rfl rfl rfl ?_
  refine td_q 2 24 (pm_of rfl rfl rfl (fun _ kq => tl_p (pr_faE (s := .mem g) (j := i * 273) Tryz.fo128_0 rfl) rfl kq)) rfl rfl rfl ?_
  refine td_q 3 25 (pm_of rfl rfl rfl (fun _ kq => tl_p (pr_move rfl) rfl kq)) rfl rfl rfl ?_
  refine td_q 4 26 (pm_of rfl rfl rfl (fun _ kq => tl_p (pr_mulN rfl rfl (by omega)) rfl kq)) rfl rfl rfl ?_
  refine td_q 5 27 (pm_of rfl rfl rfl (fun _ kq => tl_p (pr_sliceC (l := 16 * k) (q := 256 - 16 * k) (h := 256) (j := i * 273 + 0) (.mem g) m.l Tryz.ar125 rfl (.yes rfl (by omega)) .no (by omega) (by omega) (by omega) (by rw [m.l_len]; omega)) rfl kq)) rfl rfl rfl ?_
  refine td_q 6 28 (pm_of rfl rfl rfl (fun _ kq => tl_p (by first | exact pr_loadW Tryz.ag27 Tryz.sz27 rfl | exact pr_ldA Tryz.ag27 Tryz.sz27 rfl) rfl kq)) rfl rfl rfl ?_
  refine td_e1 7 (by kernel_rfl) ?_
  refine te rfl ?_
  refine tl_callS (f116_ct _ (by assumption)) (.cons rfl .nil) rfl (kk := fun ⟨s29, hs29⟩ => ?_)
  refine td_next (pd := [5, 4, 3, 2, 1, 0]) (by kernel_rfl) (.cons rfl (pm_of rfl rfl rfl (fun _ kq => tl_p (pr_sliceC (l := 16 * k) (q := 256 - 16 * k) (h := 256) (j := i * 273 + 0) (.mem g) m.l Tryz.ar125 rfl (.yes rfl (by omega)) .no (by omega) (by omega) (by omega) (by rw [m.l_len]; omega)) rfl kq)) (.cons rfl (pm_of rfl rfl rfl (fun _ kq => tl_p (pr_mulN rfl rfl (by omega)) rfl kq)) (.cons rfl (pm_of rfl rfl rfl (fun _ kq => tl_p (pr_move rfl) rfl kq)) (.cons rfl (pm_of rfl rfl rfl (fun _ kq => tl_p (pr_faE (s := .mem g) (j := i * 273) Tryz.fo128_0 rfl) rfl kq)) (.cons rfl (pm_of rfl rfl rfl (fun _ kq => tl_p (pr_ncE (s := .mem g) (j := i * 273) rfl) rfl kq)) (.cons rfl (pm_of rfl rfl rfl (fun _ kq => tl_p (pr_move rfl) rfl kq)) .nil)))))) ?_
  refine td_e1 8 (by kernel_rfl) ?_
  refine te rfl ?_
  refine tl_copyC (s := .mem g) (q := 16) (c := m.l) (c2 := u8s (encCap c)) (c' := (m.putB (256 * i + 16 * k) (encCap c)).l) Tryz.sf64 rfl rfl (Sow.toSok hs29) (by rw [m.l_len]; omega) (by omega) (by omega) (by omega) u8s_ok (by rw [show i * 273 + 0 + 16 * k * 1 = i * 273 + 16 * k from by omega, List.take_of_length_le (by rw [List.length_map, encCap_len]; omega)]; exact m.put_B (bs := encCap c) (off := 16 * k) hi (by rw [encCap_len]; omega)) hf rfl (kk := ?_)
  refine td_next (pd := []) (by kernel_rfl) (.nil) ?_
  refine td_done (by kernel_rfl) ?_
  refine tq_next ?_
  refine tc_seq ?_
  refine tc_draw Tryz.mixed [0, 1, 2, 3, 4, 5, 6] (by kernel_rfl) ?_
  refine td_q 0 31 (pm_of rfl rfl rfl (fun _ kq => tl_p (pr_move rfl) rfl kq)) rfl rfl rfl ?_
  refine td_q 1 32 (pm_of rfl rfl rfl (fun _ kq => tl_p (pr_move rfl) rfl kq)) rfl rfl rfl ?_
  refine td_q 2 33 (pm_of rfl rfl rfl (fun _ kq => tl_p (pr_fieldAddr Tryz.fo27_0 rfl) rfl kq)) rfl rfl rfl ?_
  refine td_q 3 34 (pm_of rfl rfl rfl (fun _ kq => tl_p (pr_ld Tryz.ag4 rfl) rfl kq)) rfl rfl rfl ?_
  refine td_q 4 35 (pm_of rfl rfl rfl (fun _ kq => tl_p (pr_ncE (s := .mem g) (j := i * 273) rfl) rfl kq)) rfl rfl rfl ?_
  refine td_q 5 36 (pm_of rfl rfl rfl (fun _ kq => tl_p (pr_faE (s := .mem g) (j := i * 273) Tryz.fo128_1 rfl) rfl kq)) rfl rfl rfl ?_
  refine td_q 6 37 (pm_of rfl rfl rfl (fun _ kq => tl_p (pr_ixAE (s := .mem g) (j := i * 273 + 256) Tryz.ar126 rfl rfl (by omega) (by omega)) rfl kq)) rfl rfl rfl ?_
  refine td_e1 7 (by kernel_rfl) ?_
  refine te rfl ?_
  refine tl_stE (s := .mem g) (j := i * 273 + 256 + (k : Int).toNat * 1) (c := (m.putB (256 * i + 16 * k) (encCap c)).l) (c' := ((m.putB (256 * i + 16 * k) (encCap c)).putT (16 * i + k) c.tag).l) Tryz.sz4 rfl rfl (by rw [MemM.l_len]; show _ ≤ m.n * 273; omega) (by rw [show i * 273 + 256 + (k : Int).toNat * 1 = i * 273 + (256 + k) from by omega]; exact (m.putB (256 * i + 16 * k) (encCap c)).put_T (b := c.tag) hi hk) hf (k := ?_)
  refine td_next (pd := []) (by kernel_rfl) (.nil) ?_
  refine td_done (by kernel_rfl) ?_
  refine tq_next ?_
  refine tc_seq ?_
  refine tc_region ?_
  refine tl_p (pr_move rfl) rfl ?_
  refine tl_p (pr_move rfl) rfl ?_
  refine tl_p (pr_ncE (s := .mem g) (j := i * 273) rfl) rfl ?_
  refine tl_p (pr_faE (s := .mem g) (j := i * 273) Tryz.fo128_2 rfl) rfl ?_
  refine tl_p (pr_ldE (s := .mem g) (j := i * 273 + 272) Tryz.ag4 rfl (c := ((m.putB (256 * i + 16 * k) (encCap c)).putT (16 * i + k) c.tag).l) (v := .bool (m.D i)) (MemM.dirty_at (m := ((m.putB (256 * i + 16 * k) (encCap c)).putT (16 * i + k) c.tag)) hi rfl)) rfl ?_
  refine tl_p (pr_move rfl) rfl ?_
  refine tl_gf rfl rfl (fun h => pr_fieldAddr Tryz.fo27_0 rfl) (by intro _ h; cases h) rfl ?_
  refine tl_gf rfl rfl (fun h => pr_ld Tryz.ag4 (gv rfl h)) (by intro _ h; cases h) rfl ?_
  refine tl_p (pr_or rfl rfl rfl) rfl ?_
  refine tl_p (pr_ncE (s := .mem g) (j := i * 273) rfl) rfl ?_
  refine tl_p (pr_faE (s := .mem g) (j := i * 273) Tryz.fo128_2 rfl) rfl ?_
  refine tl_stE (s := .mem g) (j := i * 273 + 272) (c := ((m.putB (256 * i + 16 * k) (encCap c)).putT (16 * i + k) c.tag).l) (c' := (((m.putB (256 * i + 16 * k) (encCap c)).putT (16 * i + k) c.tag).putD i (m.D i || c.tag)).l) Tryz.sz4 rfl rfl (by rw [MemM.l_len]; show _ ≤ m.n * 273; omega) (((m.putB (256 * i + 16 * k) (encCap c)).putT (16 * i + k) c.tag).put_D (b := (m.D i || c.tag)) hi) hf (k := ?_)
  refine tl_next ?_
  refine tc_seq ?_
  refine tc_region ?_
  refine tl_p (pr_assign rfl) rfl ?_
  refine tl_next ?_
  refine tc_ret ?_
  exact tq_ret1 .ret (.inl rfl) () rfl rfl

theorem f56_no (mb : Nat) (s : Shp) (m : MemM) (hm : MOk s m) (p : Int) (hp : p ≤ 9223372036854775807) (hg : gran m p = false) (c : Cap) : Rd Tryz.prog 56 #[ad mb 0, .int .i64 p, c.v] [(mb, memO s m.n)] [] (.bool false) := by
  refine ct_intro Tryz.func56 rfl (by kernel_rfl) (n := 49) rfl rfl (E := [(0, ad mb 0), (1, .int .i64 p), (2, c.v)]) rfl ?_
  intro κ hro
  have hq : κ.frame mb = some (memO s m.n) := hro _ (List.Mem.head _)
  have hs := hm.own
  have ms := hm.mem
  have hl := hm.lim
  refine tc_seq ?_
  refine tc_region ?_
  refine tl_box rfl rfl (fun b5 => ?_)
  refine tl_p (pr_assign rfl) rfl ?_
  refine tl_next ?_
  refine tc_seq ?_
  refine tc_region ?_
  refine tl_p (pr_move rfl) rfl ?_
  refine tl_p (pr_move rfl) rfl ?_
  refine tl_rdS ((f112_ct mb _ m hm p (by omega)).val (granV_no hg)) (.cons rfl (.cons rfl .nil)) rfl (kk := ?_)
  refine tl_p (pr_move rfl) rfl ?_
  refine tl_p (pr_extract rfl rfl) rfl ?_
  refine tl_p (pr_extract rfl rfl) rfl ?_
  refine tl_p (pr_assign rfl) rfl ?_
  refine tl_p (pr_assign rfl) rfl ?_
  refine tl_next ?_
  refine tc_seq ?_
  refine tc_seq ?_
  refine tc_region ?_
  refine tl_p (pr_move rfl) rfl ?_
  refine tl_p (pr_eqlP Tryz.underlying123 rfl (.inl rfl)) rfl ?_
  refine tl_p (pr_move rfl) rfl ?_
  refine tl_off rfl rfl rfl rfl ?_
  refine tl_off rfl rfl rfl rfl ?_
  refine tl_off rfl rfl rfl rfl ?_
  refine tl_p (pr_pickT rfl rfl) rfl ?_
  refine tl_next ?_
  refine tc_if_true rfl rfl ?_
  refine tc_seq ?_
  refine tc_region ?_
  refine tl_p (pr_assign rfl) rfl ?_
  refine tl_next ?_
  refine tc_ret (tq_then_ret ?_)
  exact tq_ret1 .ret (.inl rfl) () rfl rfl

theorem f56_nor (mb : Nat) (s : Shp) (m : MemM) (hm : MOk s m) (p : Int) (hp : p ≤ 9223372036854775807) (c : Cap) (hc : capRight c = false) : Rd Tryz.prog 56 #[ad mb 0, .int .i64 p, c.v] [(mb, memO s m.n)] [] (.bool false) := by
  refine ct_intro Tryz.func56 rfl (by kernel_rfl) (n := 49) rfl rfl (E := [(0, ad mb 0), (1, .int .i64 p), (2, c.v)]) rfl ?_
  intro κ hro
  have hq : κ.frame mb = some (memO s m.n) := hro _ (List.Mem.head _)
  have hs := hm.own
  have ms := hm.mem
  have hl := hm.lim
  refine tc_seq ?_
  refine tc_region ?_
  refine tl_box rfl rfl (fun b5 => ?_)
  refine tl_p (pr_assign rfl) rfl ?_
  refine tl_next ?_
  refine tc_seq ?_
  refine tc_region ?_
  refine tl_p (pr_move rfl) rfl ?_
  refine tl_p (pr_move rfl) rfl ?_
  refine tl_rdS ((f112_ct mb _ m hm p (by omega))) (.cons rfl (.cons rfl .nil)) rfl (kk := ?_)
  refine tl_p (pr_move rfl) rfl ?_
  refine tl_p (pr_extract rfl rfl) rfl ?_
  refine tl_p (pr_extract rfl rfl) rfl ?_
  refine tl_p (pr_assign rfl) rfl ?_
  refine tl_p (pr_assign rfl) rfl ?_
  refine tl_next ?_
  refine tc_seq ?_
  refine tc_seq ?_
  refine tc_region ?_
  refine tl_p (pr_move rfl) rfl ?_
  refine tl_p (pr_eqlP Tryz.underlying123 rfl (by split; (· obtain ⟨g, rfl⟩ := ms; exact .inr ⟨_, rfl⟩); (· exact .inl rfl))) rfl ?_
  refine tl_p (pr_move rfl) rfl ?_
  refine tl_gf rfl rfl (fun h => by first | exact pr_loadW Tryz.ag27 Tryz.sz27 rfl | exact pr_ldA Tryz.ag27 Tryz.sz27 rfl) (by intro _ h; cases h) rfl ?_
  refine tl_rdgfS rfl rfl (fun h => ⟨f59_ct _, .cons (gv rfl h) .nil⟩) rfl (kk := ?_)
  refine tl_gf rfl rfl (fun h => pr_not (gv rfl h)) (by intro _ h; cases h) rfl ?_
  refine tl_p (pr_or rfl rfl rfl) rfl ?_
  refine tl_next ?_
  refine tc_if_true rfl (by simp [hc, gval]) ?_
  refine tc_seq ?_
  refine tc_region ?_
  refine tl_p (pr_assign rfl) rfl ?_
  refine tl_next ?_
  refine tc_ret (tq_then_ret ?_)
  exact tq_ret1 .ret (.inl rfl) () rfl rfl

end Go.Proofs

namespace Go.Proofs
open Go Go.Sz
attribute [local irreducible] pt lift exs own emp
theorem Tryz.ag35 : aggB Tryz.prog 35 = some false := by kernel_rfl
theorem Tryz.bld124 : bldA Tryz.prog 124 = some (1, (.agg #[.int .i64 0, .int .i64 0] : Value).cells) := by kernel_rfl
theorem Tryz.bl124_0_1 {n : Nat} {D : List Deferred} {E : Env} {L : List HProp} {κ : Ctx} {T : TypeId} {x0 x1 : Operand} {a0 a1 : Value} (h0 : E.ev x0 = some a0) (h1 : E.ev x1 = some a1) (o0 : oneV a0 = true := by rfl) (o1 : oneV a1 = true := by rfl) :
    PR Tryz.prog (.build 124 #[(0, x0), (1, x1)]) T n D E L κ (.agg #[a0, a1]) := by
  refine pr_buildA Tryz.bld124 (.cons h0 (.cons h1 .nil)) ?_
  simp [Instr.fill, cells_agg, cells_one o0, cells_one o1]
abbrev ptrO (b : Nat) : Obj := .cells #[ad b 0] 35 (0, 0)
def rFrom (a k : Nat) : Nat := (a + k) % 256
def rTo (a n k : Nat) : Nat := min ((a + k) % 256 + (n - k)) 256
def rNext (a n k : Nat) : Nat := k + (rTo a n k - rFrom a k)
def RunS (s : Shp) (a n : Nat) (k : Nat) (args : List Value) (k' : Nat) : Prop := k < n ∧ args = [ea s ((a + k) / 256 * 273), .agg #[.int .i64 (rFrom a k : Int), .int .i64 (rTo a n k : Int)]] ∧ k' = rNext a n k
theorem rNext_lt {a n k : Nat} (h : k < n) : k < rNext a n k ∧ rNext a n k ≤ n ∧ rFrom a k < rTo a n k ∧ rTo a n k ≤ 256 ∧ rFrom a k < 256 := by
  unfold rNext rTo rFrom; omega
theorem MemM.bs_app (m : MemM) (a k q : Nat) : m.bs a k ++ m.bs (a + k) q = m.bs a (k + q) := by
  unfold MemM.bs
  rw [List.range_add, List.map_append, List.map_map]
  congr 1
  apply List.map_congr_left
  intro x _
  simp [Nat.add_assoc]

theorem f74_ct (mb : Nat) (a n : Int) : Ct Tryz.prog 74 #[ad mb 0, .int .i64 a, .int .i64 n] [] [] (X := Nat × Nat × Nat) (fun x => .func (.func 151) #[] #[ad x.1 0, ad x.2.1 0, ad x.2.2 0]) (fun x N => pt x.1 (intO n) :: pt x.2.1 (intO a) :: pt x.2.2 (ptrO mb) :: N) := by
  refine ct_intro Tryz.func74 rfl (by kernel_rfl) (n := 8) rfl rfl (E := [(0, ad mb 0), (1, .int .i64 a), (2, .int .i64 n)]) rfl ?_
  intro κ hro
  refine tc_seq ?_
  refine tc_region ?_
  refine tl_box rfl rfl (fun b3 => ?_)
  refine tl_box rfl rfl (fun b4 => ?_)
  refine tl_box rfl rfl (fun b5 => ?_)
  refine tl_p (pr_assign rfl) rfl ?_
  refine tl_next ?_
  refine tc_seq ?_
  refine tc_region ?_
  refine tl_p (pr_mkf (.nil) (.cons rfl (.cons rfl (.cons rfl .nil)))) rfl ?_
  refine tl_p (pr_assign rfl) rfl ?_
  refine tl_next ?_
  refine tc_ret ?_
  exact tq_ret1 .ret (.inl rfl) ⟨b5, b4, b3⟩ rfl rfl

theorem f151_ct (mb : Nat) (s : Shp) (m : MemM) (hm : MOk s m) (a n : Nat) (hn : a + n ≤ m.n * 256) (nb ab tb l : Nat) (rec : Loop) (J : Nat → HProp) (ro : List (Nat × Obj)) (hmb : (mb, memO s m.n) ∈ ro) (hY : YieldOk Tryz.prog l rec ro J (RunS s a n)) : Ct Tryz.prog 151 #[.func (.yield l) #[] #[], ad nb 0, ad ab 0, ad tb 0] ro [pt l (.loop rec), J 0, pt nb (intO (n : Int)), pt ab (intO (a : Int)), pt tb (ptrO mb)] (fun _ : Unit => .tuple #[]) (fun _ N => pt l (.loop rec) :: J n :: ([] ++ N)) := by
  refine ct_intro Tryz.func151 rfl (by kernel_rfl) (n := 38) rfl rfl (E := [(0, .func (.yield l) #[] #[]), (1, ad nb 0), (2, ad ab 0), (3, ad tb 0)]) rfl ?_
  intro κ hro
  have hq : κ.frame mb = some (memO s m.n) := hro _ hmb
  have hs := hm.own
  have ms := hm.mem
  have hl := hm.lim
  refine tc_block ?_
  refine tc_loopP (X := Nat) (fun k => k ≤ n) (fun k => [(0, .func (.yield l) #[] #[]), (1, ad nb 0), (2, ad ab 0), (3, ad tb 0)]) (fun k => [pt l (.loop rec), J k, pt nb (intO ((n - k : Nat) : Int)), pt ab (intO ((a + k : Nat) : Int)), pt tb (ptrO mb)]) (fun k => n - k) 0 (by omega) (.cons rfl (.cons rfl (.cons rfl (.cons rfl .nil)))) (fun k hj => ?_)
  refine tc_seq ?_
  refine tc_seq ?_
  refine tc_region ?_
  refine tl_p (pr_ld Tryz.ag3 rfl) rfl ?_
  refine tl_p (pr_gtr rfl rfl) rfl ?_
  refine tl_next ?_
  refine tc_if rfl (fun hc1 => ?_) (fun hc1 => ?_)
  · have hd1 := hc1
    try simp only [Bool.not_eq_true', Bool.not_eq_false', Bool.or_eq_true, Bool.and_eq_true, Bool.or_eq_false_iff, Bool.and_eq_false_iff, decide_eq_true_eq, decide_eq_false_iff_not, Bool.not_true, Bool.not_false, gval, Bool.not_eq_eq_eq_not] at hc1
    have hk : k < n := by omega
    have hx := rNext_lt (a := a) hk
    refine tc_skip (tq_next ?_)
    refine tc_block ?_
    refine tc_seq ?_
    refine tc_region ?_
    refine tl_p (pr_ld Tryz.ag3 rfl) rfl ?_
    refine tl_p (pr_eqI (j := (rFrom a k : Int)) (pr_remN rfl rfl (by omega) (by omega)) (by unfold rFrom; omega)) rfl ?_
    refine tl_p (pr_assign rfl) rfl ?_
    refine tl_next ?_
    refine tc_seq ?_
    refine tc_region ?_
    refine tl_p (pr_move rfl) rfl ?_
    refine tl_p (pr_ld Tryz.ag3 rfl) rfl ?_
    refine tl_p (pr_addN rfl rfl (by omega)) rfl ?_
    refine tl_p (pr_eqI (j := (rTo a n k : Int)) (pr_min rfl rfl) (by unfold rTo rFrom; omega)) rfl ?_
    refine tl_p (pr_assign rfl) rfl ?_
    refine tl_next ?_
    refine tc_seq ?_
    refine tc_seq ?_
    refine tc_draw Tryz.mixed [0, 1, 2, 3, 4, 5, 6, 7, 8, 9, 10, 12] (by kernel_rfl) ?_
    refine td_q 0 15 (pm_of rfl rfl rfl (fun _ kq => tl_p (pr_move rfl) rfl kq)) rfl rfl rfl ?_
    refine td_q 1 16 (pm_of rfl rfl rfl (fun _ kq => tl_p (pr_ld Tryz.ag35 rfl) rfl kq)) rfl rfl rfl ?_
    refine td_q 2 17 (pm_of rfl rfl rfl (fun _ kq => tl_p (pr_nilCheck rfl) rfl kq)) rfl rfl rfl ?_
    refine td_q 3 18 (pm_of rfl rfl rfl (fun _ kq => tl_p (pr_fieldAddr Tryz.fo165_0 rfl) rfl kq)) rfl rfl rfl ?_
    refine td_q 4 19 (pm_of rfl rfl rfl (fun _ kq => tl_p (pr_ld Tryz.ag163 rfl) rfl kq)) rfl rfl rfl ?_
    refine td_q 5 20 (pm_of rfl rfl rfl (fun _ kq => tl_p (pr_ld Tryz.ag3 rfl) rfl kq)) rfl rfl rfl ?_
    refine td_q 6 21 (pm_of rfl rfl rfl (fun _ kq => tl_p (pr_eqI (j := ((a + k) / 256 : Nat)) (pr_quoN rfl rfl (by omega) (by omega) (by omega)) (by omega)) rfl kq)) rfl rfl rfl ?_
    refine td_q 7 22 (pm_of rfl rfl rfl (fun _ kq => tl_p (pr_ixE Tryz.sl163 rfl rfl (by omega) (by omega)) rfl kq)) rfl rfl rfl ?_
    refine td_q 8 23 (pm_of rfl rfl rfl (fun _ kq => tl_p (pr_move rfl) rfl kq)) rfl rfl rfl ?_
    refine td_q 9 24 (pm_of rfl rfl rfl (fun _ kq => tl_p (pr_move rfl) rfl kq)) rfl rfl rfl ?_
    refine td_q 10 25 (pm_of rfl rfl rfl (fun _ kq => tl_p (Tryz.bl124_0_1 rfl rfl) rfl kq)) rfl rfl rfl ?_
    refine td_e1 11 (by kernel_rfl) ?_
    refine te rfl ?_
    refine tl_yield hY rfl (.cons rfl (.cons rfl .nil)) ⟨hk, rfl, rfl⟩ rfl (Rdbs.of hro) (kk := ?_)
    refine td_next (pd := []) (by kernel_rfl) (.nil) ?_
    refine td_q 12 27 (pm_of rfl rfl rfl (fun _ kq => tl_p (pr_not rfl) rfl kq)) rfl rfl rfl ?_
    refine td_done (by kernel_rfl) ?_
    refine tq_next ?_
    refine tc_if_false rfl (rfl) ?_
    refine tc_skip (tq_next ?_)
    refine tc_draw Tryz.mixed [0, 1, 2, 3, 4, 5, 6, 7, 8, 9] (by kernel_rfl) ?_
    refine td_q 0 28 (pm_of rfl rfl rfl (fun _ kq => tl_p (pr_ld Tryz.ag3 rfl) rfl kq)) rfl rfl rfl ?_
    refine td_q 1 29 (pm_of rfl rfl rfl (fun _ kq => tl_p (pr_move rfl) rfl kq)) rfl rfl rfl ?_
    refine td_q 2 30 (pm_of rfl rfl rfl (fun _ kq => tl_p (pr_addN rfl rfl (by omega)) rfl kq)) rfl rfl rfl ?_
    refine td_q 3 31 (pm_of rfl rfl rfl (fun _ kq => tl_p (pr_move rfl) rfl kq)) rfl rfl rfl ?_
    refine td_q 4 32 (pm_of rfl rfl rfl (fun _ kq => tl_p (pr_eqI (j := ((a + rNext a n k : Nat) : Int)) (pr_subN rfl rfl (by omega)) (by unfold rNext; omega)) rfl kq)) rfl rfl rfl ?_
    refine td_q 5 33 (pm_of rfl rfl rfl (fun _ kq => tl_p (pr_ld Tryz.ag3 rfl) rfl kq)) rfl rfl rfl ?_
    refine td_q 6 34 (pm_of rfl rfl rfl (fun _ kq => tl_p (pr_move rfl) rfl kq)) rfl rfl rfl ?_
    refine td_q 7 35 (pm_of rfl rfl rfl (fun _ kq => tl_p (pr_move rfl) rfl kq)) rfl rfl rfl ?_
    refine td_q 8 36 (pm_of rfl rfl rfl (fun _ kq => tl_p (pr_subN rfl rfl (by omega)) rfl kq)) rfl rfl rfl ?_
    refine td_q 9 37 (pm_of rfl rfl rfl (fun _ kq => tl_p (pr_eqI (j := ((n - rNext a n k : Nat) : Int)) (pr_subN rfl rfl (by unfold rNext at hx; omega)) (by unfold rNext at *; omega)) rfl kq)) rfl rfl rfl ?_
    refine td_e1 10 (by kernel_rfl) ?_
    refine te rfl ?_
    refine tl_st Tryz.sz3 rfl rfl (k := ?_)
    refine td_next (pd := [9, 8, 7, 6, 5]) (by kernel_rfl) (.cons rfl (pm_of rfl rfl rfl (fun _ kq => tl_p (pr_eqI (j := ((n - rNext a n k : Nat) : Int)) (pr_subN rfl rfl (by unfold rNext at hx; omega)) (by unfold rNext at *; omega)) rfl kq)) (.cons rfl (pm_of rfl rfl rfl (fun _ kq => tl_p (pr_subN rfl rfl (by omega)) rfl kq)) (.cons rfl (pm_of rfl rfl rfl (fun _ kq => tl_p (pr_move rfl) rfl kq)) (.cons rfl (pm_of rfl rfl rfl (fun _ kq => tl_p (pr_move rfl) rfl kq)) (.cons rfl (pm_of rfl rfl rfl (fun _ kq => tl_p (pr_ld Tryz.ag3 rfl) rfl kq)) .nil))))) ?_
    refine td_e1 11 (by kernel_rfl) ?_
    refine te rfl ?_
    refine tl_st Tryz.sz3 rfl rfl (k := ?_)
    refine td_next (pd := []) (by kernel_rfl) (.nil) ?_
    refine td_done (by kernel_rfl) ?_
    refine tq_blk_normal ?_
    exact tq_roundP (rNext a n k) (rNext_lt (a := a) (by omega)).2.1 (by have := rNext_lt (a := a) (n := n) (k := k) (by omega); omega) (.cons rfl (.cons rfl (.cons rfl (.cons rfl .nil))))
  · have hd1 := hc1
    try simp only [Bool.not_eq_true', Bool.not_eq_false', Bool.or_eq_true, Bool.and_eq_true, Bool.or_eq_false_iff, Bool.and_eq_false_iff, decide_eq_true_eq, decide_eq_false_iff_not, Bool.not_true, Bool.not_false, gval, Bool.not_eq_eq_eq_not] at hc1
    have hk : k = n := by omega
    subst hk
    refine tc_exit (tq_then_exit (tq_then_exit (tq_blk_here ?_)))
    exact tq_ret0 .normal (.inr rfl) () rfl rfl

end Go.Proofs

namespace Go.Proofs
open Go Go.Sz
attribute [local irreducible] pt lift exs own emp
theorem Tryz.ag64 : aggB Tryz.prog 64 = some false := by kernel_rfl
theorem Tryz.ar124 : arrOf Tryz.prog 124 = some (2, 1, false) := by kernel_rfl
theorem Tryz.sz124 : szOf Tryz.prog 124 = some 2 := by kernel_rfl
theorem Tryz.sz64 : szOf Tryz.prog 64 = some 1 := by kernel_rfl
theorem Tryz.z124 : zeroV Tryz.prog 124 = some (.agg #[.int .i64 0, .int .i64 0]) := by kernel_rfl
theorem Tryz.z64 : zeroV Tryz.prog 64 = some (.slice none 0 0) := by kernel_rfl
def bufJ (b : Nat) (m : MemM) (a k : Nat) : HProp := exs fun s => own [lift (Sow 1 s k (u8s (m.bs a k))), pt b (.cells #[sv s k] 64 (0, 0)), sl s (u8s (m.bs a k))]
theorem buf_mk {b : Nat} {m : MemM} {a k : Nat} {s : Shp} (h : Sow 1 s k (u8s (m.bs a k))) : ∀ κ w R, St ([pt b (.cells #[sv s k] 64 (0, 0)), sl s (u8s (m.bs a k))] ++ R) κ w → St (bufJ b m a k :: R) κ w := fun κ w R s0 => by
  unfold bufJ
  exact St.exs_mk s (St.own_mk (St.lift_mk h s0))
theorem memIn_of {m : MemM} {a n : Nat} (h : a + n ≤ m.n * 256) : memIn m (a : Int) (n : Int) = true := by
  simp [memIn]; omega

theorem f30_yes (mb : Nat) (s : Shp) (m : MemM) (hm : MOk s m) (a n : Nat) (hn : a + n ≤ m.n * 256) : Ct Tryz.prog 30 #[ad mb 0, .int .i64 (a : Int), .int .i64 (n : Int)] ([(mb, memO s m.n)] ++ ra s m.l) [] (X := {s : Shp // Sow 1 s n (u8s (m.bs a n))}) (fun x => .tuple #[sv x.1 n, .bool true]) (fun x N => sl x.1 (u8s (m.bs a n)) :: N) := by
  refine ct_intro Tryz.func30 rfl (by kernel_rfl) (n := 33) rfl rfl (E := [(0, ad mb 0), (1, .int .i64 (a : Int)), (2, .int .i64 (n : Int))]) rfl ?_
  intro κ hro
  obtain ⟨hr1, hr2⟩ := Reads.app hro
  have hq : κ.frame mb = some (memO s m.n) := hr1 _ (List.Mem.head _)
  have hs := hm.own
  have ms := hm.mem
  have hl := hm.lim
  obtain ⟨g, hg⟩ := ms
  subst hg
  refine tc_seq ?_
  refine tc_region ?_
  refine tl_p (pr_assign rfl) rfl ?_
  refine tl_p (pr_assign rfl) rfl ?_
  refine tl_next ?_
  refine tc_seq ?_
  refine tc_seq ?_
  refine tc_region ?_
  refine tl_p (pr_move rfl) rfl ?_
  refine tl_p (pr_move rfl) rfl ?_
  refine tl_p (pr_move rfl) rfl ?_
  refine tl_rdS ((f73_ct mb _ m hm _ _).val (by rw [memIn_of hn])) (.cons rfl (.cons rfl (.cons rfl .nil))) rfl (kk := ?_)
  refine tl_p (pr_not rfl) rfl ?_
  refine tl_next ?_
  refine tc_if_false rfl (rfl) ?_
  refine tc_skip (tq_next ?_)
  refine tc_seq ?_
  refine tc_region ?_
  refine tl_alloc Tryz.z64 rfl (fun b8 => ?_)
  refine tl_next ?_
  refine tc_seq ?_
  refine tc_seq ?_
  refine tc_region ?_
  refine tl_p (pr_move rfl) rfl ?_
  refine tl_p (pr_move rfl) rfl ?_
  refine tl_p (pr_move rfl) rfl ?_
  refine tl_callS (f74_ct _ _ _) (.cons rfl (.cons rfl (.cons rfl .nil))) rfl (kk := fun ⟨nb, ab, tb⟩ => ?_)
  refine tl_next ?_
  refine tc_block ?_
  refine tc_imp (fun w s => s.emp_mk) ?_
  refine tc_mk (buf_mk (b := b8) (m := m) (a := a) (k := 0) (s := .nil) Sow.nil) ?_
  refine tc_rangeFunc (fun k => bufJ b8 m a k) (RunS (.mem g) a n) ([(mb, memO (.mem g) m.n)] ++ ra (.mem g) m.l) 0 n rfl rfl (fun l rec hp hY => f151_ct mb _ m hm a n hn nb ab tb l rec _ _ (List.Mem.head _) hY) (fun i args j h => by rw [h.2.1]; rfl) (fun l κ1 hr1 k args j hS => ?_) (Rdbs.of hro) (kk := fun db => ?_)
  · skip
    obtain ⟨hk, rfl, rfl⟩ := hS
    refine tc_seq ?_
    refine tc_region ?_
    refine tl_p (pr_assign rfl) rfl ?_
    refine tl_next ?_
    refine tc_region ?_
    refine tl_alloc Tryz.z124 rfl (fun b10 => ?_)
    refine tl_storeW Tryz.sz124 rfl rfl (k := ?_)
    refine tl_nil ?_
    refine tq_asg (fun κ2 hr2 => ?_)
    obtain ⟨hrA, hrB⟩ := Reads.app hr2
    have hx := rNext_lt (a := a) hk
    unfold bufJ
    refine tc_ex (by repeat (first | exact Rem.here | apply Rem.there)) fun s9 => tc_own (by repeat (first | exact Rem.here | apply Rem.there)) (tc_lift (by repeat (first | exact Rem.here | apply Rem.there)) fun hs9 => ?_)
    refine tc_block ?_
    refine tc_draw Tryz.mixed [0, 1, 2, 3, 4, 5, 6, 7, 8] (by kernel_rfl) ?_
    refine td_q 0 22 (pm_of rfl rfl rfl (fun _ kq => tl_p (pr_ld Tryz.ag64 rfl) rfl kq)) rfl rfl rfl ?_
    refine td_q 1 23 (pm_of rfl rfl rfl (fun _ kq => tl_p (pr_move rfl) rfl kq)) rfl rfl rfl ?_
    refine td_q 2 24 (pm_of rfl rfl rfl (fun _ kq => tl_p (pr_ncE (s := .mem g) (j := ((a + k) / 256 * 273)) rfl) rfl kq)) rfl rfl rfl ?_
    refine td_q 3 25 (pm_of rfl rfl rfl (fun _ kq => tl_p (pr_faE (s := .mem g) (j := ((a + k) / 256 * 273)) Tryz.fo128_0 rfl) rfl kq)) rfl rfl rfl ?_
    refine td_q 4 26 (pm_of rfl rfl rfl (fun _ kq => tl_p (pr_indexA Tryz.ar124 rfl rfl (by omega) (by omega)) rfl kq)) rfl rfl rfl ?_
    refine td_q 5 27 (pm_of rfl rfl rfl (fun _ kq => tl_p (pr_ld Tryz.ag3 rfl) rfl kq)) rfl rfl rfl ?_
    refine td_q 6 28 (pm_of rfl rfl rfl (fun _ kq => tl_p (pr_indexA Tryz.ar124 rfl rfl (by omega) (by omega)) rfl kq)) rfl rfl rfl ?_
    refine td_q 7 29 (pm_of rfl rfl rfl (fun _ kq => tl_p (pr_ld Tryz.ag3 rfl) rfl kq)) rfl rfl rfl ?_
    refine td_q 8 30 (pm_of rfl rfl rfl (fun _ kq => tl_p (pr_sliceC (l := rFrom a k) (q := rTo a n k - rFrom a k) (h := rTo a n k) (j := ((a + k) / 256 * 273) + 0) (.mem g) m.l Tryz.ar125 rfl (.yes rfl rfl) (.yes rfl rfl) (by omega) (by omega) (by omega) (by rw [m.l_len]; omega)) rfl kq)) rfl rfl rfl ?_
    refine td_e1 9 (by kernel_rfl) ?_
    refine te rfl ?_
    refine tl_append Tryz.sf64 Tryz.z5 rfl rfl rfl hs9 (MemM.ok_cut hm (i := (a + k) / 256) (off := rFrom a k) (q := rTo a n k - rFrom a k) (by omega) (by omega) (by omega) (by omega)) u8s_ok (by omega) (h2 := MemM.rd_cut (Reads.sl hrB) (i := (a + k) / 256) (off := rFrom a k) (q := rTo a n k - rFrom a k) (by omega) (by omega) (by omega)) rfl (kk := fun s31 hs31 => ?_)
    refine td_next (pd := []) (by kernel_rfl) (.nil) ?_
    refine td_e1 10 (by kernel_rfl) ?_
    refine te rfl ?_
    refine tl_st Tryz.sz64 rfl rfl (h1 := by first | rfl | exact sv_one _ _) (k := ?_)
    refine td_next (pd := []) (by kernel_rfl) (.nil) ?_
    refine td_done (by kernel_rfl) ?_
    refine tq_blk_normal ?_
    have e : u8s (m.bs a k) ++ u8s (m.bs (256 * ((a + k) / 256) + rFrom a k) (rTo a n k - rFrom a k)) = u8s (m.bs a (rNext a n k)) := by rw [← List.map_append, show 256 * ((a + k) / 256) + rFrom a k = a + k from by unfold rFrom; omega, MemM.bs_app]; rfl
    rw [e] at hs31 ⊢
    refine tq_mk (buf_mk (k := rNext a n k) hs31) ?_
    exact tq_body
  · skip
    unfold bufJ
    refine tq_ex (by repeat (first | exact Rem.here | apply Rem.there)) fun s9 => tq_own (by repeat (first | exact Rem.here | apply Rem.there)) (tq_lift (by repeat (first | exact Rem.here | apply Rem.there)) fun hs9 => ?_)
    refine tq_blk_normal (tq_next ?_)
    refine tc_seq ?_
    refine tc_region ?_
    refine tl_p (pr_ld Tryz.ag64 rfl) rfl ?_
    refine tl_p (pr_assign rfl) rfl ?_
    refine tl_p (pr_assign rfl) rfl ?_
    refine tl_next ?_
    refine tc_ret ?_
    refine tq_mark (.inl rfl) ?_
    exact tq_ret2 .ret (.inl rfl) ⟨s9, hs9⟩ rfl rfl rfl rfl

end Go.Proofs

namespace Go.Proofs
open Go Go.Sz
attribute [local irreducible] pt lift exs own emp

theorem memIn_no {m : MemM} {p k : Int} (h : memIn m p k = false) : memIn m p k = false := h
theorem ra_sub {sz n l h : Nat} {s : Shp} {c : List Value} (ok : Sok sz s n c) (h1 : l ≤ h) (h2 : h ≤ n) : ra (subS sz c l h s) (subL sz c l h) = ra s c := by
  cases s with
  | mem g =>
    by_cases e : g.cap = l
    · rw [subS_full e, sub_full ok h1 h2 e]
      simp [ra, Sh.obj]
    · rw [subS_cut e]
      have hc := cut_eq (sub_le ok h1 h2)
      unfold putAt at hc
      rw [cutL_len (sub_le ok h1 h2)] at hc
      simp only [cutS, ra, Sh.obj]
      congr 4
      simp only [List.append_assoc] at hc ⊢
      rw [← List.append_assoc (cutL c (l * sz) ((h - l) * sz)), ← List.append_assoc (c.take (l * sz)), hc]
  | nil => rfl
  | wild a k => rfl
def MemM.sto (m : MemM) (a : Nat) (bs : List Int) : MemM := { m with B := fun x => if a ≤ x ∧ x < a + bs.length then bs.getD (x - a) 0 else m.B x, T := fun q => if 0 < bs.length ∧ a ≤ 16 * q + 15 ∧ 16 * q < a + bs.length then false else m.T q }
def MemM.clr (m : MemM) (lo hi : Nat) : MemM := { m with T := fun q => if lo ≤ q ∧ q < hi then false else m.T q }
theorem MemM.clr_zero (m : MemM) (lo : Nat) : m.clr lo lo = m := by
  unfold MemM.clr
  cases m; congr; funext q; rw [if_neg (by omega)]
theorem MemM.clr_succ (m : MemM) {lo hi : Nat} (h : lo ≤ hi) : (m.clr lo hi).putT hi false = m.clr lo (hi + 1) := by
  unfold MemM.clr MemM.putT
  cases m; congr; funext q
  simp only
  by_cases e : q = hi
  · subst e; rw [if_pos rfl, if_pos (by omega)]
  · rw [if_neg e]
    by_cases c : lo ≤ q ∧ q < hi
    · rw [if_pos c, if_pos (by omega)]
    · rw [if_neg c, if_neg (by omega)]
theorem MemM.sto_nil (m : MemM) (a : Nat) : m.sto a [] = m := by
  unfold MemM.sto
  cases m; congr
  funext x; rw [if_neg (by simp)]
theorem MemM.sto_step (m : MemM) {a n k : Nat} {bs : List Int} (hb : bs.length = n) (hk : k < n) :
    (((m.sto a (bs.take k)).putB (256 * ((a + k) / 256) + rFrom a k) ((bs.drop k).take (rTo a n k - rFrom a k))).clr (16 * ((a + k) / 256) + rFrom a k / 16) (16 * ((a + k) / 256) + ((rTo a n k - 1) / 16 + 1))) = m.sto a (bs.take (rNext a n k)) := by
  have hx := rNext_lt (a := a) hk
  have e0 : 256 * ((a + k) / 256) + rFrom a k = a + k := by unfold rFrom; omega
  have hq : ((bs.drop k).take (rTo a n k - rFrom a k)).length = rTo a n k - rFrom a k := by simp; unfold rNext at hx; omega
  have hkl : (bs.take k).length = k := by simp; omega
  have hnl : (bs.take (rNext a n k)).length = rNext a n k := by simp; omega
  have hnx : rNext a n k = k + (rTo a n k - rFrom a k) := rfl
  rw [e0]
  unfold MemM.clr MemM.putB MemM.sto
  cases m with
  | mk n0 B T D =>
    congr
    · funext x
      simp only [hq, hkl, hnl]
      by_cases c1 : a + k ≤ x ∧ x < a + k + (rTo a n k - rFrom a k)
      · rw [if_pos c1, if_pos (by omega)]
        simp only [List.getD_eq_getElem?_getD]
        rw [List.getElem?_take_of_lt (by omega), List.getElem?_drop, List.getElem?_take_of_lt (by omega), show k + (x - (a + k)) = x - a from by omega]
      · rw [if_neg c1]
        by_cases c2 : a ≤ x ∧ x < a + k
        · rw [if_pos c2, if_pos (by omega)]
          simp only [List.getD_eq_getElem?_getD]
          rw [List.getElem?_take_of_lt (by omega), List.getElem?_take_of_lt (by omega)]
        · rw [if_neg c2, if_neg (by omega)]
    · funext q
      simp only [hkl, hnl]
      have hf : rFrom a k = (a + k) % 256 := rfl
      by_cases c1 : 16 * ((a + k) / 256) + rFrom a k / 16 ≤ q ∧ q < 16 * ((a + k) / 256) + ((rTo a n k - 1) / 16 + 1)
      · rw [if_pos c1, if_pos (by omega)]
      · rw [if_neg c1]
        by_cases c2 : 0 < k ∧ a ≤ 16 * q + 15 ∧ 16 * q < a + k
        · rw [if_pos c2, if_pos (by omega)]
        · rw [if_neg c2, if_neg (by omega)]
def stoJ (b : Nat) (s s2 : Shp) (m : MemM) (a n : Nat) (bs : List Int) (k : Nat) : HProp :=
  exs fun s9 => own [lift (Sok 1 s9 (n - k) (u8s (bs.drop k)) ∧ ra s9 (u8s (bs.drop k)) = ra s2 (u8s bs)), pt b (.cells #[sv s9 (n - k)] 64 (0, 0)), sl s (m.sto a (bs.take k)).l]
theorem sto_mk {b : Nat} {s s2 : Shp} {m : MemM} {a n : Nat} {bs : List Int} {k : Nat} {s9 : Shp} (h : Sok 1 s9 (n - k) (u8s (bs.drop k))) (h2 : ra s9 (u8s (bs.drop k)) = ra s2 (u8s bs)) :
    ∀ κ w R, St ([pt b (.cells #[sv s9 (n - k)] 64 (0, 0)), sl s (m.sto a (bs.take k)).l] ++ R) κ w → St (stoJ b s s2 m a n bs k :: R) κ w := fun κ w R s0 => by
  unfold stoJ
  exact St.exs_mk s9 (St.own_mk (St.lift_mk ⟨h, h2⟩ s0))
theorem sto_mk0 {b : Nat} {s s2 : Shp} {m : MemM} {a n : Nat} {bs : List Int} (h : Sok 1 s2 n (u8s bs)) : ∀ κ w R, St ([pt b (.cells #[sv s2 n] 64 (0, 0)), sl s m.l] ++ R) κ w → St (stoJ b s s2 m a n bs 0 :: R) κ w := fun κ w R s0 => by
  refine sto_mk (k := 0) (s9 := s2) h rfl κ w R ?_
  rw [List.take_zero, m.sto_nil]
  exact s0
theorem drop_sub {bs : List Int} {k q n : Nat} (hb : bs.length = n) : subL 1 (u8s (bs.drop k)) q (n - k) = u8s (bs.drop (k + q)) := by
  show cutL _ (q * 1) ((n - k - q) * 1) = _
  unfold cutL
  rw [List.take_of_length_le (by simp; omega), Nat.mul_one]
  show List.drop q ((bs.drop k).map _) = (bs.drop (k + q)).map _
  rw [← List.map_drop, List.drop_drop]
theorem MOk.sto {s : Shp} {m : MemM} (h : MOk s m) (a : Nat) (bs : List Int) : MOk s (m.sto a bs) := h.of rfl

theorem f54_yes (mb : Nat) (s : Shp) (m : MemM) (hm : MOk s m) (a n : Nat) (hn : a + n ≤ m.n * 256) (s2 : Shp) (bs : List Int) (hs2 : Sok 1 s2 n (u8s bs)) : Ct Tryz.prog 54 #[ad mb 0, .int .i64 (a : Int), sv s2 n] ([(mb, memO s m.n)] ++ ra s2 (u8s bs)) [sl s m.l] (fun _ : Unit => .bool true) (fun _ N => sl s (m.sto a bs).l :: N) := by
  refine ct_intro Tryz.func54 rfl (by kernel_rfl) (n := 51) rfl rfl (E := [(0, ad mb 0), (1, .int .i64 (a : Int)), (2, sv s2 n)]) rfl ?_
  intro κ hro
  obtain ⟨hr1, hr2⟩ := Reads.app hro
  have hq : κ.frame mb = some (memO s m.n) := hr1 _ (List.Mem.head _)
  have hs := hm.own
  have ms := hm.mem
  have hl := hm.lim
  obtain ⟨g, hg⟩ := ms
  subst hg
  have hb := u8s_n hs2
  have hf : ∀ g2, Shp.mem g = .mem g2 → g2.fr = (0, 0) := fun g2 e => (hs.room g2 e).1
  refine tc_seq ?_
  refine tc_region ?_
  refine tl_box1 rfl (by first | rfl | exact sv_one _ _) rfl (fun b5 => ?_)
  refine tl_p (pr_assign rfl) rfl ?_
  refine tl_next ?_
  refine tc_seq ?_
  refine tc_seq ?_
  refine tc_region ?_
  refine tl_p (pr_move rfl) rfl ?_
  refine tl_p (pr_move rfl) rfl ?_
  refine tl_p (pr_ld Tryz.ag64 rfl) rfl ?_
  refine tl_p (pr_lenS Tryz.sf64 rfl) rfl ?_
  refine tl_rdS ((f73_ct mb _ m hm _ _).val (by rw [memIn_of hn])) (.cons rfl (.cons rfl (.cons rfl .nil))) rfl (kk := ?_)
  refine tl_p (pr_not rfl) rfl ?_
  refine tl_next ?_
  refine tc_if_false rfl (rfl) ?_
  refine tc_skip (tq_next ?_)
  refine tc_seq ?_
  refine tc_seq ?_
  refine tc_region ?_
  refine tl_p (pr_move rfl) rfl ?_
  refine tl_p (pr_move rfl) rfl ?_
  refine tl_p (pr_ld Tryz.ag64 rfl) rfl ?_
  refine tl_p (pr_lenS Tryz.sf64 rfl) rfl ?_
  refine tl_callS (f74_ct _ _ _) (.cons rfl (.cons rfl (.cons rfl .nil))) rfl (kk := fun ⟨nb, ab, tb⟩ => ?_)
  refine tl_next ?_
  refine tc_block ?_
  refine tc_mk (sto_mk0 (b := b5) (s := .mem g) (s2 := s2) (m := m) (a := a) (n := n) (bs := bs) hs2) ?_
  refine tc_rangeFunc (fun k => stoJ b5 (.mem g) s2 m a n bs k) (RunS (.mem g) a n) ([(mb, memO (.mem g) m.n)] ++ ra s2 (u8s bs)) 0 n rfl rfl (fun l rec hp hY => f151_ct mb _ m hm a n hn nb ab tb l rec _ _ (List.Mem.head _) hY) (fun i args j h => by rw [h.2.1]; rfl) (fun l κ1 hr1 k args j hS => ?_) (Rdbs.of hro) (kk := fun db => ?_)
  · skip
    obtain ⟨hk, rfl, rfl⟩ := hS
    refine tc_seq ?_
    refine tc_region ?_
    refine tl_p (pr_assign rfl) rfl ?_
    refine tl_next ?_
    refine tc_region ?_
    refine tl_alloc Tryz.z124 rfl (fun b8 => ?_)
    refine tl_storeW Tryz.sz124 rfl rfl (k := ?_)
    refine tl_nil ?_
    refine tq_asg (fun κ2 hr2 => ?_)
    obtain ⟨hrA, hrB⟩ := Reads.app hr2
    have hx := rNext_lt (a := a) hk
    have hnx : rNext a n k = k + (rTo a n k - rFrom a k) := rfl
    unfold stoJ
    refine tc_ex (by repeat (first | exact Rem.here | apply Rem.there)) fun s9 => tc_own (by repeat (first | exact Rem.here | apply Rem.there)) (tc_lift (by repeat (first | exact Rem.here | apply Rem.there)) fun hs9 => ?_)
    have hrS : ∀ L, RdS L κ2 s9 (u8s (bs.drop k)) := fun L => Reads.sl (by rw [hs9.2]; exact hrB)
    have hrS1 := hrS [sl (.mem g) (m.sto a (bs.take k)).l]
    refine tc_block ?_
    refine tc_seq ?_
    refine tc_draw Tryz.mixed [0, 1, 2, 3, 4, 5, 6, 7, 8, 9, 11] (by kernel_rfl) ?_
    refine td_q 0 23 (pm_of rfl rfl rfl (fun _ kq => tl_p (pr_ld Tryz.ag64 rfl) rfl kq)) rfl rfl rfl ?_
    refine td_q 1 24 (pm_of rfl rfl rfl (fun _ kq => tl_p (pr_move rfl) rfl kq)) rfl rfl rfl ?_
    refine td_q 2 25 (pm_of rfl rfl rfl (fun _ kq => tl_p (pr_ncE (s := .mem g) (j := ((a + k) / 256 * 273)) rfl) rfl kq)) rfl rfl rfl ?_
    refine td_q 3 26 (pm_of rfl rfl rfl (fun _ kq => tl_p (pr_faE (s := .mem g) (j := ((a + k) / 256 * 273)) Tryz.fo128_0 rfl) rfl kq)) rfl rfl rfl ?_
    refine td_q 4 27 (pm_of rfl rfl rfl (fun _ kq => tl_p (pr_indexA Tryz.ar124 rfl rfl (by omega) (by omega)) rfl kq)) rfl rfl rfl ?_
    refine td_q 5 28 (pm_of rfl rfl rfl (fun _ kq => tl_p (pr_ld Tryz.ag3 rfl) rfl kq)) rfl rfl rfl ?_
    refine td_q 6 29 (pm_of rfl rfl rfl (fun _ kq => tl_p (pr_indexA Tryz.ar124 rfl rfl (by omega) (by omega)) rfl kq)) rfl rfl rfl ?_
    refine td_q 7 30 (pm_of rfl rfl rfl (fun _ kq => tl_p (pr_ld Tryz.ag3 rfl) rfl kq)) rfl rfl rfl ?_
    refine td_q 8 31 (pm_of rfl rfl rfl (fun _ kq => tl_p (pr_sliceC (l := rFrom a k) (q := rTo a n k - rFrom a k) (h := rTo a n k) (j := ((a + k) / 256 * 273) + 0) (.mem g) (m.sto a (bs.take k)).l Tryz.ar125 rfl (.yes rfl rfl) (.yes rfl rfl) (by omega) (by omega) (by omega) (by rw [MemM.l_len]; show _ ≤ m.n * 273; omega)) rfl kq)) rfl rfl rfl ?_
    refine td_q 9 32 (pm_of rfl rfl rfl (fun _ kq => tl_p (pr_ld Tryz.ag64 rfl) rfl kq)) rfl rfl rfl ?_
    refine td_e1 10 (by kernel_rfl) ?_
    refine te rfl ?_
    refine tl_copyC (s := .mem g) (q := rTo a n k - rFrom a k) (c := (m.sto a (bs.take k)).l) (c2 := u8s (bs.drop k)) (c' := ((m.sto a (bs.take k)).putB (256 * ((a + k) / 256) + rFrom a k) ((bs.drop k).take (rTo a n k - rFrom a k))).l) Tryz.sf64 rfl rfl hs9.1 (by rw [MemM.l_len]; show _ ≤ m.n * 273; omega) (by omega) (by omega) (by omega) u8s_ok (by simp only [Nat.mul_one, Nat.add_zero]; rw [← List.map_take]; exact MemM.put_B (show (a + k) / 256 < m.n by omega) (by simp; omega)) hf rfl (h2 := hrS _) (kk := ?_)
    refine td_next (pd := [0]) (by kernel_rfl) (.cons rfl (pm_of rfl rfl rfl (fun _ kq => tl_p (pr_ld Tryz.ag64 rfl) rfl kq)) .nil) ?_
    refine td_q 11 34 (pm_of rfl rfl rfl (fun _ kq => tl_p (pr_sliceS (s := s9) (c := u8s (bs.drop k)) Tryz.sf64 rfl (.yes rfl rfl) .no (l := rTo a n k - rFrom a k) (h := n - k) (by omega) (by omega) hs9.1) rfl kq)) rfl rfl rfl ?_
    refine td_e1 12 (by kernel_rfl) ?_
    refine te rfl ?_
    refine tl_st Tryz.sz64 rfl rfl (h1 := by first | rfl | exact sv_one _ _) (k := ?_)
    refine td_next (pd := []) (by kernel_rfl) (.nil) ?_
    refine td_done (by kernel_rfl) ?_
    refine tq_next ?_
    refine tc_seq ?_
    refine tc_region ?_
    refine tl_p (pr_indexA Tryz.ar124 rfl rfl (by omega) (by omega)) rfl ?_
    refine tl_p (pr_ld Tryz.ag3 rfl) rfl ?_
    refine tl_p (pr_eqI (j := ((rFrom a k / 16 : Nat) : Int)) (pr_quoN rfl rfl (by omega) (by omega) (by omega)) (by omega)) rfl ?_
    refine tl_p (pr_assign rfl) rfl ?_
    refine tl_next ?_
    refine tc_block ?_
    have h10 : Sok 1 (subS 1 (u8s (bs.drop k)) (rTo a n k - rFrom a k) (n - k) s9) (n - k - (rTo a n k - rFrom a k)) (subL 1 (u8s (bs.drop k)) (rTo a n k - rFrom a k) (n - k)) := hs9.1.sub (by omega) (by omega)
    have h10r := ra_sub (l := rTo a n k - rFrom a k) (h := n - k) hs9.1 (by omega) (by omega)
    obtain ⟨s10, hs10⟩ : ∃ s10, subS 1 (u8s (bs.drop k)) (rTo a n k - rFrom a k) (n - k) s9 = s10 := ⟨_, rfl⟩
    rw [drop_sub hb] at h10 h10r
    have hnn : n - k - (rTo a n k - rFrom a k) = n - rNext a n k := by unfold rNext; omega
    rw [hnn] at h10
    rw [hs10] at h10 h10r ⊢
    rw [hnn]
    rw [← MemM.clr_zero ((m.sto a (bs.take k)).putB (256 * ((a + k) / 256) + rFrom a k) ((bs.drop k).take (rTo a n k - rFrom a k))) (16 * ((a + k) / 256) + rFrom a k / 16)]
    refine tc_loopP (X := Nat) (fun j => rFrom a k / 16 ≤ j ∧ j ≤ (rTo a n k - 1) / 16 + 1) (fun j => [(9, .int .i64 (j : Int)), (7, ea (.mem g) ((a + k) / 256 * 273)), (8, ad b8 0), (5, ad b5 0)]) (fun j => [sl (.mem g) (((m.sto a (bs.take k)).putB (256 * ((a + k) / 256) + rFrom a k) ((bs.drop k).take (rTo a n k - rFrom a k))).clr (16 * ((a + k) / 256) + rFrom a k / 16) (16 * ((a + k) / 256) + j)).l, pt b8 (.cells #[.int .i64 (rFrom a k : Int), .int .i64 (rTo a n k : Int)] 124 (0, 0)), pt b5 (.cells #[sv s10 (n - rNext a n k)] 64 (0, 0))]) (fun j => (rTo a n k - 1) / 16 + 1 - j) (rFrom a k / 16) (by omega) (.cons rfl (.cons rfl (.cons rfl (.cons rfl .nil)))) (fun j hj => ?_)
    have hj1 := hj.1
    have hj2 := hj.2
    refine tc_seq ?_
    refine tc_seq ?_
    refine tc_region ?_
    refine tl_p (pr_move rfl) rfl ?_
    refine tl_p (pr_indexA Tryz.ar124 rfl rfl (by omega) (by omega)) rfl ?_
    refine tl_p (pr_ld Tryz.ag3 rfl) rfl ?_
    refine tl_p (pr_subN rfl rfl (by omega)) rfl ?_
    refine tl_p (pr_eqI (j := (((rTo a n k - 1) / 16 : Nat) : Int)) (pr_quoN rfl rfl (by omega) (by omega) (by omega)) (by omega)) rfl ?_
    refine tl_p (pr_leq rfl rfl) rfl ?_
    refine tl_next ?_
    refine tc_if rfl (fun hc2 => ?_) (fun hc2 => ?_)
    · have hd2 := hc2
      try simp only [Bool.not_eq_true', Bool.not_eq_false', Bool.or_eq_true, Bool.and_eq_true, Bool.or_eq_false_iff, Bool.and_eq_false_iff, decide_eq_true_eq, decide_eq_false_iff_not, Bool.not_true, Bool.not_false, gval, Bool.not_eq_eq_eq_not] at hc2
      refine tc_skip (tq_next ?_)
      refine tc_seq ?_
      refine tc_block ?_
      refine tc_region ?_
      refine tl_p (pr_move rfl) rfl ?_
      refine tl_p (pr_move rfl) rfl ?_
      refine tl_p (pr_ncE (s := .mem g) (j := ((a + k) / 256 * 273)) rfl) rfl ?_
      refine tl_p (pr_faE (s := .mem g) (j := ((a + k) / 256 * 273)) Tryz.fo128_1 rfl) rfl ?_
      refine tl_p (pr_ixAE (s := .mem g) (j := ((a + k) / 256 * 273) + 256) Tryz.ar126 rfl rfl (by omega) (by omega)) rfl ?_
      refine tl_stE (s := .mem g) (j := ((a + k) / 256 * 273) + 256 + (j : Int).toNat * 1) (c := (((m.sto a (bs.take k)).putB (256 * ((a + k) / 256) + rFrom a k) ((bs.drop k).take (rTo a n k - rFrom a k))).clr (16 * ((a + k) / 256) + rFrom a k / 16) (16 * ((a + k) / 256) + j)).l) (c' := (((m.sto a (bs.take k)).putB (256 * ((a + k) / 256) + rFrom a k) ((bs.drop k).take (rTo a n k - rFrom a k))).clr (16 * ((a + k) / 256) + rFrom a k / 16) (16 * ((a + k) / 256) + (j + 1))).l) Tryz.sz4 rfl rfl (by rw [MemM.l_len]; show _ ≤ m.n * 273; have e : ((j : Int)).toNat = j := rfl; omega) (by rw [show 16 * ((a + k) / 256) + (j + 1) = 16 * ((a + k) / 256) + j + 1 from by omega, ← MemM.clr_succ ((m.sto a (bs.take k)).putB (256 * ((a + k) / 256) + rFrom a k) ((bs.drop k).take (rTo a n k - rFrom a k))) (lo := 16 * ((a + k) / 256) + rFrom a k / 16) (hi := 16 * ((a + k) / 256) + j) (by omega), show ((a + k) / 256 * 273) + 256 + (j : Int).toNat * 1 = ((a + k) / 256 * 273) + (256 + j) from by have e : ((j : Int)).toNat = j := rfl; omega]; exact MemM.put_T (b := false) (show (a + k) / 256 < m.n by omega) (show j < 16 by omega)) hf (k := ?_)
      refine tl_nil (tq_blk_normal (tq_next ?_))
      refine tc_region ?_
      refine tl_p (pr_move rfl) rfl ?_
      refine tl_p (pr_addN rfl rfl (by omega)) rfl ?_
      refine tl_p (pr_assign rfl) rfl ?_
      refine tl_nil ?_
      exact tq_roundP (j + 1) (by omega) (by omega) (.cons rfl (.cons rfl (.cons rfl (.cons rfl .nil))))
    · have hd2 := hc2
      try simp only [Bool.not_eq_true', Bool.not_eq_false', Bool.or_eq_true, Bool.and_eq_true, Bool.or_eq_false_iff, Bool.and_eq_false_iff, decide_eq_true_eq, decide_eq_false_iff_not, Bool.not_true, Bool.not_false, gval, Bool.not_eq_eq_eq_not] at hc2
      refine tc_exit (tq_then_exit (tq_then_exit (tq_blk_here ?_)))
      refine tq_blk_normal ?_
      have e : j = (rTo a n k - 1) / 16 + 1 := by omega
      rw [e, MemM.sto_step m hb hk]
      refine tq_mk (sto_mk (k := rNext a n k) h10 (h10r.trans hs9.2)) ?_
      exact tq_body
  · skip
    unfold stoJ
    refine tq_ex (by repeat (first | exact Rem.here | apply Rem.there)) fun s9 => tq_own (by repeat (first | exact Rem.here | apply Rem.there)) (tq_lift (by repeat (first | exact Rem.here | apply Rem.there)) fun hs9 => ?_)
    refine tq_blk_normal (tq_next ?_)
    refine tc_seq ?_
    refine tc_region ?_
    refine tl_p (pr_assign rfl) rfl ?_
    refine tl_next ?_
    refine tc_ret ?_
    refine tq_mark (.inl rfl) ?_
    have e0 : bs.take n = bs := List.take_of_length_le (by omega)
    rw [e0]
    exact tq_retE1 .ret (.inl rfl) () rfl rfl rfl

end Go.Proofs

namespace Go.Proofs
open Go Go.Sz
attribute [local irreducible] pt lift exs own emp
theorem Tryz.bld165 : bldS Tryz.prog 165 = some ([(0, 1)], (.agg #[.slice none 0 0] : Value).cells) := by kernel_rfl
theorem Tryz.z128 : zeroV Tryz.prog 128 = some (.agg (Array.replicate 256 (.int .u8 0) ++ Array.replicate 17 (.bool false))) := by kernel_rfl
theorem Tryz.bl165_0 {n : Nat} {D : List Deferred} {E : Env} {L : List HProp} {κ : Ctx} {T : TypeId} {x0 : Operand} {a0 : Value} (h0 : E.ev x0 = some a0) (o0 : oneV a0 = true := by rfl) :
    PR Tryz.prog (.build 165 #[(0, x0)]) T n D E L κ (.agg #[a0]) := by
  refine pr_buildS Tryz.bld165 (.cons h0 .nil) ?_
  simp [Instr.fill, cells_agg, cells_one o0]
def zeroM (p : Nat) : MemM := ⟨p, fun _ => 0, fun _ => false, fun _ => false⟩

theorem made_list (z : Array Value) (n : Nat) : (madeCells z n).toList = (List.range n).map fun i => z[i % z.size]! := by
  simp [madeCells]
theorem made_rep (z : Array Value) (sz : Nat) (hz : z.size = sz) (p : Nat) : (madeCells z (p * sz)).toList = (List.range p).flatMap fun _ => z.toList := by
  rw [made_list]
  induction p with
  | zero => simp
  | succ p ih =>
    rw [Nat.add_mul, Nat.one_mul, List.range_add, List.map_append, ih, List.range_succ, List.flatMap_append]
    congr 1
    simp only [List.flatMap_cons, List.flatMap_nil, List.append_nil, List.map_map]
    apply List.ext_getElem
    · simp [hz]
    · intro i h1 h2
      simp at h1 h2
      simp only [List.getElem_map, List.getElem_range, Function.comp, Array.getElem_toList]
      rw [hz, Nat.mul_comm, Nat.mul_add_mod, Nat.mod_eq_of_lt h1, getElem!_pos]
theorem map_c {α β : Type} (c : β) : ∀ l : List α, l.map (fun _ => c) = List.replicate l.length c
  | [] => rfl
  | _ :: l => by rw [List.map_cons, map_c c l]; rfl
theorem zero_page (p i : Nat) : (zeroM p).page i = List.replicate 256 (.int .u8 0) ++ List.replicate 17 (.bool false) := by
  unfold MemM.page MemM.bs u8s
  rw [List.map_map]
  show (List.range 256).map (fun _ => Value.int .u8 0) ++ (List.range 16).map (fun _ => Value.bool false) ++ List.replicate 1 (Value.bool false) = _
  rw [map_c, map_c, List.length_range, List.length_range, List.append_assoc, List.replicate_append_replicate]
theorem made4 (p : Nat) : (madeCells (.agg (Array.replicate 256 (.int .u8 0) ++ Array.replicate 17 (.bool false)) : Value).cells (p * 273)).toList = (zeroM p).l := by
  rw [made_rep _ 273 (by simp [Value.cells])]
  unfold MemM.l
  exact fm_congr fun i _ => by rw [zero_page]; show (Array.replicate 256 (Value.int .u8 0) ++ Array.replicate 17 (Value.bool false)).toList = _; rw [Array.toList_append, Array.toList_replicate, Array.toList_replicate]

theorem f49_ct  : Ct Tryz.prog 49 #[.int .i64 4] [] [] (X := {x : Nat × Shp // MOk x.2 (zeroM 4)}) (fun x => ad x.1.1 0) (fun x N => pt x.1.1 (memO x.1.2 4) :: sl x.1.2 (zeroM 4).l :: N) := by
  refine ct_intro Tryz.func49 rfl (by kernel_rfl) (n := 13) rfl rfl (E := [(0, .int .i64 4)]) rfl ?_
  intro κ hro
  refine tc_seq ?_
  refine tc_region ?_
  refine tl_p (pr_assign rfl) rfl ?_
  refine tl_next ?_
  refine tc_seq ?_
  refine tc_seq ?_
  refine tc_region ?_
  refine tl_p (pr_move rfl) rfl ?_
  refine tl_p (pr_lss rfl rfl) rfl ?_
  refine tl_p (pr_move rfl) rfl ?_
  refine tl_gf rfl rfl (fun h => pr_move rfl) (by intro _ h; cases h) rfl ?_
  refine tl_gf rfl rfl (fun h => pr_gtr (gv rfl h) rfl) (by intro _ h; cases h) rfl ?_
  refine tl_p (pr_or rfl rfl rfl) rfl ?_
  refine tl_next ?_
  refine tc_if_false rfl (by decide) ?_
  refine tc_skip (tq_next ?_)
  refine tc_seq ?_
  refine tc_region ?_
  refine tl_p (pr_move rfl) rfl ?_
  refine tl_make (k := 4) Tryz.sf163 Tryz.z128 rfl rfl (by omega) (made4 4) rfl (kk := fun s10 hs10 ms10 => ?_)
  refine tl_p (Tryz.bl165_0 rfl (o0 := sv_one _ _)) rfl ?_
  refine tl_box rfl rfl (fun b12 => ?_)
  refine tl_p (pr_assign rfl) rfl ?_
  refine tl_next ?_
  refine tc_ret ?_
  exact tq_ret1 .ret (.inl rfl) ⟨(b12, s10), ⟨hs10, ms10, by decide⟩⟩ rfl rfl

theorem f30_no (mb : Nat) (s : Shp) (m : MemM) (hm : MOk s m) (p k : Int) (hg : memIn m p k = false) : Rd Tryz.prog 30 #[ad mb 0, .int .i64 p, .int .i64 k] ([(mb, memO s m.n)] ++ ra s m.l) [] (.tuple #[.slice none 0 0, .bool false]) := by
  refine ct_intro Tryz.func30 rfl (by kernel_rfl) (n := 33) rfl rfl (E := [(0, ad mb 0), (1, .int .i64 p), (2, .int .i64 k)]) rfl ?_
  intro κ hro
  obtain ⟨hr1, hr2⟩ := Reads.app hro
  have hq : κ.frame mb = some (memO s m.n) := hr1 _ (List.Mem.head _)
  have hs := hm.own
  have ms := hm.mem
  have hl := hm.lim
  refine tc_seq ?_
  refine tc_region ?_
  refine tl_p (pr_assign rfl) rfl ?_
  refine tl_p (pr_assign rfl) rfl ?_
  refine tl_next ?_
  refine tc_seq ?_
  refine tc_seq ?_
  refine tc_region ?_
  refine tl_p (pr_move rfl) rfl ?_
  refine tl_p (pr_move rfl) rfl ?_
  refine tl_p (pr_move rfl) rfl ?_
  refine tl_rdS ((f73_ct mb _ m hm _ _).val (by rw [hg])) (.cons rfl (.cons rfl (.cons rfl .nil))) rfl (kk := ?_)
  refine tl_p (pr_not rfl) rfl ?_
  refine tl_next ?_
  refine tc_if_true rfl (rfl) ?_
  refine tc_seq ?_
  refine tc_region ?_
  refine tl_p (pr_assign rfl) rfl ?_
  refine tl_p (pr_assign rfl) rfl ?_
  refine tl_next ?_
  refine tc_ret (tq_then_ret ?_)
  exact tq_ret2 .ret (.inl rfl) () rfl rfl rfl rfl

end Go.Proofs

namespace Go.Proofs
open Go Go.Sz
attribute [local irreducible] pt lift exs own emp
theorem Tryz.ag166 : aggB Tryz.prog 166 = some false := by kernel_rfl
theorem Tryz.ag171 : aggB Tryz.prog 171 = some false := by kernel_rfl
theorem Tryz.fo168_0 : fOff Tryz.prog 168 0 = some (0, 1, false) := by kernel_rfl
theorem Tryz.fo168_1 : fOff Tryz.prog 168 1 = some (1, 1, false) := by kernel_rfl
theorem Tryz.sl166 : slcOf Tryz.prog 166 = some (171, 1) := by kernel_rfl
abbrev u64s (ns : List Int) : List Value := ns.map (Value.int .u64)
abbrev shO (s : Shp) (k g : Nat) : Obj := .cells #[sv s k, .int .i64 (g : Int)] 168 (0, 0)
/-- is a granule painted: in words -/
def bitAt (W : List Int) (i : Nat) : Bool := decide (bAnd .u64 ((W.getD (i / 64) 0).fdiv (2 ^ min ((i : Int) % 64).toNat IntKind.u64.bits)) 1 = 1)
def painted (W : List Int) (g : Nat) (i : Int) : Bool := decide (i < (g : Int)) && bitAt W i.toNat
def shIs (W : List Int) (g : Nat) (p : Int) : Bool := decide (0 ≤ p) && painted W g (p / 16)
def shHits (W : List Int) (g : Nat) (c : Cap) : Bool := c.tag && decide (c.base < c.top) && shIs W g c.base
theorem u64_at {W : List Int} {j : Nat} (h : j < W.length) : (u64s W)[j * 1]? = some (.int .u64 (W.getD j 0)) := by
  rw [Nat.mul_one]; simp [h]
structure ShOk (s : Shp) (W : List Int) (g : Nat) : Prop where
  own : Sow 1 s W.length (u64s W)
  all : g ≤ 64 * W.length
  lim : g ≤ 1048576

theorem f235_nat (pb : Nat) (s : Shp) (W : List Int) (g : Nat) (hw : ShOk s W g) (i : Nat) : Rd Tryz.prog 235 #[ad pb 0, .int .i64 (i : Int)] ([(pb, shO s W.length g)] ++ ra s (u64s W)) [] (.bool (painted W g (i : Int))) := by
  refine ct_intro Tryz.func235 rfl (by kernel_rfl) (n := 26) rfl rfl (E := [(0, ad pb 0), (1, .int .i64 (i : Int))]) rfl ?_
  intro κ hro
  obtain ⟨hr1, hr2⟩ := Reads.app hro
  have hq : κ.frame pb = some (shO s W.length g) := hr1 _ (List.Mem.head _)
  have hs := hw.own
  have ha := hw.all
  have hl := hw.lim
  refine tc_seq ?_
  refine tc_region ?_
  refine tl_p (pr_assign rfl) rfl ?_
  refine tl_next ?_
  refine tc_seq ?_
  refine tc_region ?_
  refine tl_p (pr_move rfl) rfl ?_
  refine tl_p (pr_move rfl) rfl ?_
  refine tl_p (pr_nilCheck rfl) rfl ?_
  refine tl_p (pr_fieldAddr Tryz.fo168_1 rfl) rfl ?_
  refine tl_p (pr_ld Tryz.ag3 rfl) rfl ?_
  refine tl_p (pr_lss rfl rfl) rfl ?_
  refine tl_p (pr_move rfl) rfl ?_
  refine tl_gt rfl rfl (fun h => pr_move rfl) (by intro _ h; cases h) rfl ?_
  refine tl_gt rfl rfl (fun h => pr_nilCheck (gv rfl h)) (by intro _ h; cases h) rfl ?_
  refine tl_gt rfl rfl (fun h => pr_fieldAddr Tryz.fo168_0 (gv rfl h)) (by intro _ h; cases h) rfl ?_
  refine tl_gt rfl rfl (fun h => pr_ld Tryz.ag166 (gv rfl h)) (by intro _ h; cases h) rfl ?_
  refine tl_gt rfl rfl (fun h => pr_move rfl) (by intro _ h; cases h) rfl ?_
  refine tl_gt rfl rfl (fun h => pr_quoN (gv rfl h) rfl (by omega) (by simp at h; omega) (by omega)) (by intro _ h; cases h) rfl ?_
  refine tl_gt rfl rfl (fun h => by simp only [decide_eq_true_eq] at h; exact pr_ixE Tryz.sl166 (gv rfl (by simpa using h)) (gv rfl (by simpa using h)) (by omega) (by omega)) (by intro _ h; cases h) rfl ?_
  refine tl_gt rfl rfl (fun h => by have h2 := h; simp only [decide_eq_true_eq] at h2; exact pr_ldE Tryz.ag171 (gv rfl h) (s := s) (j := ((i : Int) / 64).toNat * 1) (c := u64s W) (by have e : ((i : Int) / 64).toNat = i / 64 := (by omega); rw [e]; exact u64_at (by omega)) (hs.toSok.isM (by omega))) (by intro _ h; cases h) rfl ?_
  refine tl_gt rfl rfl (fun h => pr_move rfl) (by intro _ h; cases h) rfl ?_
  refine tl_gt rfl rfl (fun h => pr_remN (gv rfl h) rfl (by omega) (by omega)) (by intro _ h; cases h) rfl ?_
  refine tl_gt rfl rfl (fun h => pr_shr (gv rfl h) (gv rfl h) (by omega)) (by intro _ h; cases h) rfl ?_
  refine tl_gt rfl rfl (fun h => pr_bAnd (gv rfl h) rfl) (by intro _ h; cases h) rfl ?_
  refine tl_gt rfl rfl (fun h => pr_eql (gv rfl h) rfl) (by intro _ h; cases h) rfl ?_
  refine tl_p (pr_and rfl rfl rfl) rfl ?_
  refine tl_p (pr_assign rfl) rfl ?_
  refine tl_next ?_
  refine tc_ret ?_
  exact tq_ret1 .ret (.inl rfl) () rfl rfl

end Go.Proofs

namespace Go.Proofs
open Go Go.Sz
attribute [local irreducible] pt lift exs own emp
theorem Tryz.ag91 : aggB Tryz.prog 91 = some false := by kernel_rfl
theorem Tryz.bld153 : bldS Tryz.prog 153 = some ([(0, 1), (1, 1), (2, 1), (3, 1), (4, 1)], (.agg #[.pointer none, .pointer none, .bool false, .slice none 0 0, .int .i64 0] : Value).cells) := by kernel_rfl
theorem Tryz.fo153_1 : fOff Tryz.prog 153 1 = some (1, 1, false) := by kernel_rfl
theorem Tryz.bl153_0_1 {n : Nat} {D : List Deferred} {E : Env} {L : List HProp} {κ : Ctx} {T : TypeId} {x0 x1 : Operand} {a0 a1 : Value} (h0 : E.ev x0 = some a0) (h1 : E.ev x1 = some a1) (o0 : oneV a0 = true := by rfl) (o1 : oneV a1 = true := by rfl) :
    PR Tryz.prog (.build 153 #[(0, x0), (1, x1)]) T n D E L κ (.agg #[a0, a1, .bool false, .slice none 0 0, .int .i64 0]) := by
  refine pr_buildS Tryz.bld153 (.cons h0 (.cons h1 .nil)) ?_
  simp [Instr.fill, cells_agg, cells_one o0, cells_one o1]
theorem f235_int (pb : Nat) (s : Shp) (W : List Int) (g : Nat) (hw : ShOk s W g) (i : Int) (h0 : 0 ≤ i) : Rd Tryz.prog 235 #[ad pb 0, .int .i64 i] ([(pb, shO s W.length g)] ++ ra s (u64s W)) [] (.bool (painted W g i)) := by
  have := f235_nat pb s W g hw i.toNat
  rwa [Int.toNat_of_nonneg h0] at this
abbrev swO (mb pb : Nat) (r : Bool) (l : Value) (n : Int) : Obj := .cells #[ad mb 0, ad pb 0, .bool r, l, .int .i64 n] 153 (0, 0)
def barr (W : List Int) (g : Nat) (c : Cap) : Cap := { c with tag := c.tag && !shHits W g c }

theorem f185_ct (pb : Nat) (s : Shp) (W : List Int) (g : Nat) (hw : ShOk s W g) (p : Int) (hp : p ≤ 9223372036854775807) : Rd Tryz.prog 185 #[ad pb 0, .int .i64 p] ([(pb, shO s W.length g)] ++ ra s (u64s W)) [] (.bool (shIs W g p)) := by
  refine ct_intro Tryz.func185 rfl (by kernel_rfl) (n := 13) rfl rfl (E := [(0, ad pb 0), (1, .int .i64 p)]) rfl ?_
  intro κ hro
  obtain ⟨hr1, hr2⟩ := Reads.app hro
  have hq : κ.frame pb = some (shO s W.length g) := hr1 _ (List.Mem.head _)
  have hs := hw.own
  have ha := hw.all
  have hl := hw.lim
  refine tc_seq ?_
  refine tc_region ?_
  refine tl_p (pr_assign rfl) rfl ?_
  refine tl_next ?_
  refine tc_seq ?_
  refine tc_region ?_
  refine tl_p (pr_move rfl) rfl ?_
  refine tl_p (pr_geq rfl rfl) rfl ?_
  refine tl_p (pr_move rfl) rfl ?_
  refine tl_gt rfl rfl (fun h => pr_move rfl) (by intro _ h; cases h) rfl ?_
  refine tl_gt rfl rfl (fun h => pr_move rfl) (by intro _ h; cases h) rfl ?_
  refine tl_gt rfl rfl (fun h => pr_quoN (gv rfl h) rfl (by simp at h; omega) (by omega) (by omega)) (by intro _ h; cases h) rfl ?_
  refine tl_rdgtS rfl rfl (fun h => ⟨f235_int pb s W g hw _ (by simp only [decide_eq_true_eq] at h; omega), .cons (gv rfl h) (.cons (gv rfl h) .nil)⟩) rfl (kk := ?_)
  refine tl_p (pr_and rfl rfl rfl) rfl ?_
  refine tl_p (pr_assign rfl) rfl ?_
  refine tl_next ?_
  refine tc_ret ?_
  exact tq_ret1 .ret (.inl rfl) () rfl rfl

theorem f103_ct (pb : Nat) (s : Shp) (W : List Int) (g : Nat) (hw : ShOk s W g) (c : Cap) (hc : c.base ≤ 9223372036854775807) : Rd Tryz.prog 103 #[ad pb 0, c.v] ([(pb, shO s W.length g)] ++ ra s (u64s W)) [] (.bool (shHits W g c)) := by
  refine ct_intro Tryz.func103 rfl (by kernel_rfl) (n := 20) rfl rfl (E := [(0, ad pb 0), (1, c.v)]) rfl ?_
  intro κ hro
  obtain ⟨hr1, hr2⟩ := Reads.app hro
  have hq : κ.frame pb = some (shO s W.length g) := hr1 _ (List.Mem.head _)
  have hs := hw.own
  have ha := hw.all
  have hl := hw.lim
  refine tc_seq ?_
  refine tc_region ?_
  refine tl_box rfl rfl (fun b3 => ?_)
  refine tl_p (pr_assign rfl) rfl ?_
  refine tl_next ?_
  refine tc_seq ?_
  refine tc_region ?_
  refine tl_p (pr_fieldAddr Tryz.fo27_0 rfl) rfl ?_
  refine tl_p (pr_ld Tryz.ag4 rfl) rfl ?_
  refine tl_p (pr_move rfl) rfl ?_
  refine tl_gt rfl rfl (fun h => pr_fieldAddr Tryz.fo27_1 rfl) (by intro _ h; cases h) rfl ?_
  refine tl_gt rfl rfl (fun h => pr_ld Tryz.ag3 (gv rfl h)) (by intro _ h; cases h) rfl ?_
  refine tl_gt rfl rfl (fun h => pr_fieldAddr Tryz.fo27_2 rfl) (by intro _ h; cases h) rfl ?_
  refine tl_gt rfl rfl (fun h => pr_ld Tryz.ag3 (gv rfl h)) (by intro _ h; cases h) rfl ?_
  refine tl_gt rfl rfl (fun h => pr_lss (gv rfl h) (gv rfl h)) (by intro _ h; cases h) rfl ?_
  refine tl_p (pr_and rfl rfl rfl) rfl ?_
  refine tl_p (pr_move rfl) rfl ?_
  refine tl_gt rfl rfl (fun h => pr_move rfl) (by intro _ h; cases h) rfl ?_
  refine tl_gt rfl rfl (fun h => pr_fieldAddr Tryz.fo27_1 rfl) (by intro _ h; cases h) rfl ?_
  refine tl_gt rfl rfl (fun h => pr_ld Tryz.ag3 (gv rfl h)) (by intro _ h; cases h) rfl ?_
  refine tl_rdgtS rfl rfl (fun h => ⟨f185_ct pb s W g hw _ hc, .cons (gv rfl h) (.cons (gv rfl h) .nil)⟩) rfl (kk := ?_)
  refine tl_p (pr_and rfl rfl rfl) rfl ?_
  refine tl_p (pr_assign rfl) rfl ?_
  refine tl_next ?_
  refine tc_ret ?_
  exact tq_ret1 .ret (.inl rfl) () rfl rfl

theorem f51_ct (mb pb : Nat) : Ct Tryz.prog 51 #[ad mb 0, ad pb 0] [] [] (X := Nat) (fun b => ad b 0) (fun b N => pt b (swO mb pb false (.slice none 0 0) 0) :: N) := by
  refine ct_intro Tryz.func51 rfl (by kernel_rfl) (n := 9) rfl rfl (E := [(0, ad mb 0), (1, ad pb 0)]) rfl ?_
  intro κ hro
  refine tc_seq ?_
  refine tc_region ?_
  refine tl_p (pr_assign rfl) rfl ?_
  refine tl_next ?_
  refine tc_seq ?_
  refine tc_region ?_
  refine tl_p (pr_move rfl) rfl ?_
  refine tl_p (pr_move rfl) rfl ?_
  refine tl_p (Tryz.bl153_0_1 rfl rfl) rfl ?_
  refine tl_box rfl rfl (fun b8 => ?_)
  refine tl_p (pr_assign rfl) rfl ?_
  refine tl_next ?_
  refine tc_ret ?_
  exact tq_ret1 .ret (.inl rfl) b8 rfl rfl

theorem f44_ct (sb mb : Nat) (r : Bool) (lv : Value) (nn : Int) (pb : Nat) (s : Shp) (W : List Int) (g : Nat) (hw : ShOk s W g) (c : Cap) (hc : c.base ≤ 9223372036854775807) : Rd Tryz.prog 44 #[ad sb 0, c.v] ([(sb, swO mb pb r lv nn), (pb, shO s W.length g)] ++ ra s (u64s W)) [] ((barr W g c).v) := by
  refine ct_intro Tryz.func44 rfl (by kernel_rfl) (n := 18) rfl rfl (E := [(0, ad sb 0), (1, c.v)]) rfl ?_
  intro κ hro
  obtain ⟨hr1, hr2⟩ := Reads.app hro
  have hq1 : κ.frame sb = some (swO mb pb r lv nn) := hr1 _ (List.Mem.head _)
  have hq2 : κ.frame pb = some (shO s W.length g) := hr1 _ (List.Mem.tail _ (List.Mem.head _))
  refine tc_seq ?_
  refine tc_region ?_
  refine tl_box rfl rfl (fun b3 => ?_)
  refine tl_alloc Tryz.z27 rfl (fun b4 => ?_)
  refine tl_next ?_
  refine tc_seq ?_
  refine tc_draw Tryz.mixed [0, 1, 2, 3, 4, 5, 6, 7, 8, 9, 10, 11] (by kernel_rfl) ?_
  refine td_q 0 5 (pm_of rfl rfl rfl (fun _ kq => tl_p (pr_fieldAddr Tryz.fo27_0 rfl) rfl kq)) rfl rfl rfl ?_
  refine td_q 1 6 (pm_of rfl rfl rfl (fun _ kq => tl_p (pr_ld Tryz.ag4 rfl) rfl kq)) rfl rfl rfl ?_
  refine td_q 2 7 (pm_of rfl rfl rfl (fun _ kq => tl_p (pr_move rfl) rfl kq)) rfl rfl rfl ?_
  refine td_q 3 8 (pm_of rfl rfl rfl (fun _ kq => tl_gt rfl rfl (fun h => pr_move rfl) (by intro _ h; cases h) rfl kq)) rfl rfl rfl ?_
  refine td_q 4 9 (pm_of rfl rfl rfl (fun _ kq => tl_gt rfl rfl (fun h => pr_nilCheck (gv rfl h)) (by intro _ h; cases h) rfl kq)) rfl rfl rfl ?_
  refine td_q 5 10 (pm_of rfl rfl rfl (fun _ kq => tl_gt rfl rfl (fun h => pr_fieldAddr Tryz.fo153_1 (gv rfl h)) (by intro _ h; cases h) rfl kq)) rfl rfl rfl ?_
  refine td_q 6 11 (pm_of rfl rfl rfl (fun _ kq => tl_gt rfl rfl (fun h => pr_ld Tryz.ag91 (gv rfl h)) (by intro _ h; cases h) rfl kq)) rfl rfl rfl ?_
  refine td_q 7 12 (pm_of rfl rfl rfl (fun _ kq => tl_gt rfl rfl (fun h => by first | exact pr_loadW Tryz.ag27 Tryz.sz27 rfl | exact pr_ldA Tryz.ag27 Tryz.sz27 rfl) (by intro _ h; cases h) rfl kq)) rfl rfl rfl ?_
  refine td_q 8 13 (pm_of rfl rfl rfl (fun _ kq => tl_rdgtS rfl rfl (fun h => ⟨f103_ct pb s W g hw c hc, .cons (gv rfl h) (.cons (gv rfl h) .nil)⟩) rfl (kk := kq))) rfl rfl rfl ?_
  refine td_q 9 14 (pm_of rfl rfl rfl (fun _ kq => tl_gt rfl rfl (fun h => pr_not (gv rfl h)) (by intro _ h; cases h) rfl kq)) rfl rfl rfl ?_
  refine td_q 10 15 (pm_of rfl rfl rfl (fun _ kq => tl_p (pr_and rfl rfl rfl) rfl kq)) rfl rfl rfl ?_
  refine td_q 11 16 (pm_of rfl rfl rfl (fun _ kq => tl_p (pr_fieldAddr Tryz.fo27_0 rfl) rfl kq)) rfl rfl rfl ?_
  refine td_e1 12 (by kernel_rfl) ?_
  refine te rfl ?_
  refine tl_st Tryz.sz4 rfl rfl (k := ?_)
  refine td_next (pd := []) (by kernel_rfl) (.nil) ?_
  refine td_done (by kernel_rfl) ?_
  refine tq_next ?_
  refine tc_seq ?_
  refine tc_region ?_
  refine tl_p (by first | exact pr_loadW Tryz.ag27 Tryz.sz27 rfl | exact pr_ldA Tryz.ag27 Tryz.sz27 rfl) rfl ?_
  refine tl_storeW Tryz.sz27 rfl rfl (k := ?_)
  refine tl_next ?_
  refine tc_ret ?_
  exact tq_retG .ret (.inl rfl) () rfl (.cellA Tryz.ag27 Tryz.sz27 rfl .nil) rfl

end Go.Proofs

namespace Go.Proofs
open Go Go.Sz
attribute [local irreducible] pt lift exs own emp
theorem Tryz.bld168 : bldS Tryz.prog 168 = some ([(0, 1), (1, 1)], (.agg #[.slice none 0 0, .int .i64 0] : Value).cells) := by kernel_rfl
theorem Tryz.sf166 : slcF Tryz.prog 166 = some (171, 1, 8) := by kernel_rfl
theorem Tryz.z171 : zeroV Tryz.prog 171 = some (.int .u64 0) := by kernel_rfl
theorem Tryz.bl168_0_1 {n : Nat} {D : List Deferred} {E : Env} {L : List HProp} {κ : Ctx} {T : TypeId} {x0 x1 : Operand} {a0 a1 : Value} (h0 : E.ev x0 = some a0) (h1 : E.ev x1 = some a1) (o0 : oneV a0 = true := by rfl) (o1 : oneV a1 = true := by rfl) :
    PR Tryz.prog (.build 168 #[(0, x0), (1, x1)]) T n D E L κ (.agg #[a0, a1]) := by
  refine pr_buildS Tryz.bld168 (.cons h0 (.cons h1 .nil)) ?_
  simp [Instr.fill, cells_agg, cells_one o0, cells_one o1]
theorem f50_ct  : Ct Tryz.prog 50 #[.int .i64 64] [] [] (X := {x : Nat × Shp // ShOk x.2 [0] 64}) (fun x => ad x.1.1 0) (fun x N => pt x.1.1 (shO x.1.2 1 64) :: sl x.1.2 (u64s [0]) :: N) := by
  refine ct_intro Tryz.func50 rfl (by kernel_rfl) (n := 17) rfl rfl (E := [(0, .int .i64 64)]) rfl ?_
  intro κ hro
  refine tc_seq ?_
  refine tc_region ?_
  refine tl_p (pr_assign rfl) rfl ?_
  refine tl_next ?_
  refine tc_seq ?_
  refine tc_seq ?_
  refine tc_region ?_
  refine tl_p (pr_move rfl) rfl ?_
  refine tl_p (pr_lss rfl rfl) rfl ?_
  refine tl_p (pr_move rfl) rfl ?_
  refine tl_gf rfl rfl (fun h => pr_move rfl) (by intro _ h; cases h) rfl ?_
  refine tl_gf rfl rfl (fun h => pr_gtr (gv rfl h) rfl) (by intro _ h; cases h) rfl ?_
  refine tl_p (pr_or rfl rfl rfl) rfl ?_
  refine tl_next ?_
  refine tc_if_false rfl (by decide) ?_
  refine tc_skip (tq_next ?_)
  refine tc_seq ?_
  refine tc_region ?_
  refine tl_p (pr_move rfl) rfl ?_
  refine tl_p (pr_addN rfl rfl (by omega)) rfl ?_
  refine tl_p (pr_subN rfl rfl (by omega)) rfl ?_
  refine tl_p (pr_quoN rfl rfl (by omega) (by omega) (by omega)) rfl ?_
  refine tl_make (k := 1) (c := u64s [0]) Tryz.sf166 Tryz.z171 rfl rfl (by omega) (made_one (.int .u64 0) 1) rfl (kk := fun s13 hs13 ms13 => ?_)
  refine tl_p (pr_move rfl) rfl ?_
  refine tl_p (Tryz.bl168_0_1 rfl rfl (o0 := sv_one _ _)) rfl ?_
  refine tl_box rfl rfl (fun b16 => ?_)
  refine tl_p (pr_assign rfl) rfl ?_
  refine tl_next ?_
  refine tc_ret ?_
  exact tq_ret1 .ret (.inl rfl) ⟨(b16, s13), ⟨hs13, by decide, by decide⟩⟩ rfl rfl

theorem f48_ct (mb : Nat) (s : Shp) (m : MemM) (hm : MOk s m) (p : Int) (hp : p ≤ 9223372036854775807) : Rd Tryz.prog 48 #[ad mb 0, .int .i64 p] ([(mb, memO s m.n)] ++ ra s m.l) [] (.bool (memTag m p)) := by
  unfold memTag
  cases h : gran m p with
  | false => exact (f48_no mb s m hm p hp h).val rfl
  | true =>
    obtain ⟨i, k, hi, hk, rfl⟩ := gran_ik h
    refine (f48_yes mb s m hm i k hi hk).val ?_
    rw [show (((256 * i + 16 * k : Nat) : Int) / 16).toNat = 16 * i + k from by omega]
    rfl
theorem f102_ct (mb : Nat) (s : Shp) (m : MemM) (hm : MOk s m) (p : Int) (hp : p ≤ 9223372036854775807) : Rd Tryz.prog 102 #[ad mb 0, .int .i64 p] ([(mb, memO s m.n)] ++ ra s m.l) [] (cb (memCap m p)) := by
  unfold memCap
  cases h : gran m p with
  | false => exact (f102_no mb s m hm p hp h).val rfl
  | true =>
    obtain ⟨i, k, hi, hk, rfl⟩ := gran_ik h
    refine (f102_yes mb s m hm i k hi hk).val ?_
    rw [show (((256 * i + 16 * k : Nat) : Int) / 16).toNat = 16 * i + k from by omega, show ((256 * i + 16 * k : Nat) : Int).toNat = 256 * i + 16 * k from by omega]
    rfl

end Go.Proofs

namespace Go.Proofs
open Go Go.Sz
attribute [local irreducible] pt lift exs own emp

def idxI (v : Int) : Nat → List Int → Int
  | _, [] => -1
  | j, c :: l => if v = c then j else idxI v (j + 1) l
theorem idxI_drop {v : Int} {l : List Int} {j : Nat} (h : j < l.length) : idxI v j (l.drop j) = if v = l[j] then (j : Int) else idxI v (j + 1) (l.drop (j + 1)) := by
  rw [List.drop_eq_getElem_cons h]; rfl
theorem idxI_any {v : Int} : ∀ (l : List Int) (j : Nat), decide (0 ≤ idxI v j l) = l.any (fun c => decide (v = c))
  | [], _ => rfl
  | c :: l, j => by
    simp only [idxI, List.any_cons]
    by_cases e : v = c
    · simp [e]
    · simp only [e, if_false, decide_false, Bool.false_or]; exact idxI_any l (j + 1)
def among (v : Int) (l : List Int) : Bool := l.any fun c => decide (v = c)

theorem f262_ct (s : Shp) (n : Nat) (l : List Int) (v : Int) (hs : Sok 1 s n (ints l)) : Rd Tryz.prog 262 #[sv s n, .int .i64 v] (ra s (ints l)) [] (.int .i64 (idxI v 0 l)) := by
  refine ct_intro Tryz.func262 rfl (by kernel_rfl) (n := 19) rfl rfl (E := [(0, sv s n), (1, .int .i64 v)]) rfl ?_
  intro κ hro
  have hn : l.length = n := by have := hs.len; simp at this; omega
  have hb := hs.bnd
  refine tc_seq ?_
  refine tc_region ?_
  refine tl_p (pr_assign rfl) rfl ?_
  refine tl_next ?_
  refine tc_seq ?_
  refine tc_seq ?_
  refine tc_region ?_
  refine tl_p (pr_move rfl) rfl ?_
  refine tl_p (pr_lenS Tryz.sf25 rfl) rfl ?_
  refine tl_p (pr_move rfl) rfl ?_
  refine tl_next ?_
  refine tc_block ?_
  refine tc_loopP (X := Nat) (fun j => j ≤ n ∧ idxI v j (l.drop j) = idxI v 0 l) (fun j => [(0, sv s n), (1, .int .i64 v), (7, .int .i64 n), (8, .int .i64 (j : Int))]) (fun j => []) (fun j => n - j) 0 ⟨by omega, rfl⟩ (.cons rfl (.cons rfl (.cons rfl (.cons rfl .nil)))) (fun j hj => ?_)
  have hj1 := hj.1
  refine tc_seq ?_
  refine tc_region ?_
  refine tl_p (pr_lss rfl rfl) rfl ?_
  refine tl_next ?_
  refine tc_seq ?_
  refine tc_if rfl (fun hc1 => ?_) (fun hc1 => ?_)
  · have hd1 := hc1
    try simp only [Bool.not_eq_true', Bool.not_eq_false', Bool.or_eq_true, Bool.and_eq_true, Bool.or_eq_false_iff, Bool.and_eq_false_iff, decide_eq_true_eq, decide_eq_false_iff_not, Bool.not_true, Bool.not_false, gval, Bool.not_eq_eq_eq_not] at hc1
    refine tc_skip (tq_next ?_)
    refine tc_seq ?_
    refine tc_block ?_
    refine tc_seq ?_
    refine tc_region ?_
    refine tl_p (pr_move rfl) rfl ?_
    refine tl_p (pr_assign rfl) rfl ?_
    refine tl_next ?_
    refine tc_seq ?_
    refine tc_region ?_
    refine tl_p (pr_move rfl) rfl ?_
    refine tl_p (pr_move rfl) rfl ?_
    refine tl_p (pr_move rfl) rfl ?_
    refine tl_p (pr_ixE Tryz.sl25 rfl rfl) rfl ?_
    refine tl_p (pr_ldE Tryz.ag3 rfl (c := ints l) (v := .int .i64 (l[j]'(by omega))) (map_at (by omega))) rfl ?_
    refine tl_p (pr_eql rfl rfl) rfl ?_
    refine tl_next ?_
    refine tc_if rfl (fun hc2 => ?_) (fun hc2 => ?_)
    · have hd2 := hc2
      try simp only [Bool.not_eq_true', Bool.not_eq_false', Bool.or_eq_true, Bool.and_eq_true, Bool.or_eq_false_iff, Bool.and_eq_false_iff, decide_eq_true_eq, decide_eq_false_iff_not, Bool.not_true, Bool.not_false, gval, Bool.not_eq_eq_eq_not] at hc2
      refine tc_seq ?_
      refine tc_region ?_
      refine tl_p (pr_move rfl) rfl ?_
      refine tl_p (pr_assign rfl) rfl ?_
      refine tl_next ?_
      refine tc_ret (tq_blk_ret (tq_then_ret (tq_then_ret (tq_blk_ret (tq_then_ret ?_)))))
      exact tq_ret1 .ret (.inl rfl) () rfl (by rw [← hj.2, idxI_drop (l := l) (j := j) (by omega), if_pos (by simpa using hd2)]; rfl)
    · have hd2 := hc2
      try simp only [Bool.not_eq_true', Bool.not_eq_false', Bool.or_eq_true, Bool.and_eq_true, Bool.or_eq_false_iff, Bool.and_eq_false_iff, decide_eq_true_eq, decide_eq_false_iff_not, Bool.not_true, Bool.not_false, gval, Bool.not_eq_eq_eq_not] at hc2
      refine tc_skip (tq_blk_normal (tq_next ?_))
      refine tc_region ?_
      refine tl_p (pr_addN rfl rfl (by omega)) rfl ?_
      refine tl_p (pr_move rfl) rfl ?_
      refine tl_nil ?_
      exact tq_roundP (j + 1) ⟨by omega, by rw [← hj.2, idxI_drop (l := l) (j := j) (by omega), if_neg (by simpa using hd2)]⟩ (by omega) (.cons rfl (.cons rfl (.cons rfl (.cons rfl .nil))))
  · have hd1 := hc1
    try simp only [Bool.not_eq_true', Bool.not_eq_false', Bool.or_eq_true, Bool.and_eq_true, Bool.or_eq_false_iff, Bool.and_eq_false_iff, decide_eq_true_eq, decide_eq_false_iff_not, Bool.not_true, Bool.not_false, gval, Bool.not_eq_eq_eq_not] at hc1
    refine tc_exit (tq_then_exit (tq_then_exit (tq_blk_here ?_)))
    refine tq_next ?_
    refine tc_seq ?_
    refine tc_region ?_
    refine tl_p (pr_assign rfl) rfl ?_
    refine tl_next ?_
    refine tc_ret ?_
    exact tq_ret1 .ret (.inl rfl) () rfl (by rw [← hj.2, List.drop_of_length_le (by omega)]; rfl)

theorem f261_ct (s : Shp) (n : Nat) (l : List Int) (v : Int) (hs : Sok 1 s n (ints l)) : Rd Tryz.prog 261 #[sv s n, .int .i64 v] (ra s (ints l)) [] (.bool (among v l)) := by
  refine ct_intro Tryz.func261 rfl (by kernel_rfl) (n := 9) rfl rfl (E := [(0, sv s n), (1, .int .i64 v)]) rfl ?_
  intro κ hro
  refine tc_seq ?_
  refine tc_region ?_
  refine tl_p (pr_assign rfl) rfl ?_
  refine tl_next ?_
  refine tc_seq ?_
  refine tc_region ?_
  refine tl_p (pr_move rfl) rfl ?_
  refine tl_p (pr_move rfl) rfl ?_
  refine tl_rdS (f262_ct _ _ _ _ (by first | assumption | exact Sow.toSok (by assumption))) (.cons rfl (.cons rfl .nil)) rfl (kk := ?_)
  refine tl_p (pr_geq rfl rfl) rfl ?_
  refine tl_p (pr_assign rfl) rfl ?_
  refine tl_next ?_
  refine tc_ret ?_
  exact tq_ret1 .ret (.inl rfl) () rfl (by unfold among; rw [← idxI_any l 0]; rfl)

theorem f259_ct (s : Shp) (n : Nat) (l : List Int) (v : Int) (hs : Sok 1 s n (ints l)) : Rd Tryz.prog 259 #[.int .i64 v, sv s n] (ra s (ints l)) [] (.bool (among v l)) := by
  refine ct_intro Tryz.func259 rfl (by kernel_rfl) (n := 8) rfl rfl (E := [(0, .int .i64 v), (1, sv s n)]) rfl ?_
  intro κ hro
  refine tc_seq ?_
  refine tc_region ?_
  refine tl_p (pr_assign rfl) rfl ?_
  refine tl_next ?_
  refine tc_seq ?_
  refine tc_region ?_
  refine tl_p (pr_move rfl) rfl ?_
  refine tl_p (pr_move rfl) rfl ?_
  refine tl_rdS (f261_ct _ _ _ _ (by first | assumption | exact Sow.toSok (by assumption))) (.cons rfl (.cons rfl .nil)) rfl (kk := ?_)
  refine tl_p (pr_assign rfl) rfl ?_
  refine tl_next ?_
  refine tc_ret ?_
  exact tq_ret1 .ret (.inl rfl) () rfl rfl

end Go.Proofs

namespace Go.Proofs
open Go Go.Sz
attribute [local irreducible] pt lift exs own emp

def kindsS (op : Int) : ByteArray :=
  if op < 0 then ⟨#[]⟩ else if 29 < op then ⟨#[]⟩ else if among op [0, 24] = true then ⟨#[45, 45, 45]⟩ else if among op [1, 10] = true then ⟨#[114, 119, 118]⟩ else if op = 9 then ⟨#[45, 119, 118]⟩ else if op = 29 then ⟨#[105, 45, 45]⟩ else
  if among op [2, 22, 23, 25, 26, 27, 28] = true then ⟨#[114, 114, 45]⟩ else if among op [11, 12, 13, 14, 15, 16, 19] = true then ⟨#[114, 114, 105]⟩ else ⟨#[114, 114, 114]⟩
def boundsK (k : Int) : Int × Int := if k = 114 then (0, 7) else if k = 105 then (0, 255) else if k = 119 then (-32768, 32767) else (0, 0)

theorem f239_ct (op : Int) : Rd Tryz.prog 239 #[.int .i64 op] [] [] (.string (kindsS op)) := by
  refine ct_intro Tryz.func239 rfl (by kernel_rfl) (n := 30) rfl rfl (E := [(0, .int .i64 op)]) rfl ?_
  intro κ hro
  refine tc_seq ?_
  refine tc_region ?_
  refine tl_p (pr_assign rfl) rfl ?_
  refine tl_next ?_
  refine tc_seq ?_
  refine tc_block ?_
  refine tc_seq ?_
  refine tc_seq ?_
  refine tc_region ?_
  refine tl_p (pr_move rfl) rfl ?_
  refine tl_p (pr_lss rfl rfl) rfl ?_
  refine tl_p (pr_assign rfl) rfl ?_
  refine tl_next ?_
  refine tc_if rfl (fun hc1 => ?_) (fun hc1 => ?_)
  · have hd1 := hc1
    try simp only [Bool.not_eq_true', Bool.not_eq_false', Bool.or_eq_true, Bool.and_eq_true, Bool.or_eq_false_iff, Bool.and_eq_false_iff, decide_eq_true_eq, decide_eq_false_iff_not, Bool.not_true, Bool.not_false, gval, Bool.not_eq_eq_eq_not] at hc1
    refine tc_skip (tq_next ?_)
    refine tc_if_true rfl hd1 ?_
    refine tc_seq ?_
    refine tc_region ?_
    refine tl_p (pr_assign rfl) rfl ?_
    refine tl_next ?_
    refine tc_ret (tq_blk_ret (tq_then_ret ?_))
    exact tq_retE1 .ret (.inl rfl) () rfl rfl (by first | rfl | (subst_vars; rfl) | (simp [kindsS, *, cells_agg, resV, Cap.v]; done) | (simp [kindsS, *, cells_agg, resV, Cap.v]; omega) | (unfold kindsS; split <;> first | rfl | (exfalso; simp_all; done) | (exfalso; simp_all [wI]; first | done | omega)))
  · have hd1 := hc1
    try simp only [Bool.not_eq_true', Bool.not_eq_false', Bool.or_eq_true, Bool.and_eq_true, Bool.or_eq_false_iff, Bool.and_eq_false_iff, decide_eq_true_eq, decide_eq_false_iff_not, Bool.not_true, Bool.not_false, gval, Bool.not_eq_eq_eq_not] at hc1
    refine tc_region ?_
    refine tl_p (pr_move rfl) rfl ?_
    refine tl_p (pr_gtr rfl rfl) rfl ?_
    refine tl_p (pr_assign rfl) rfl ?_
    refine tl_next ?_
    refine tc_if rfl (fun hc3 => ?_) (fun hc3 => ?_)
    · have hd3 := hc3
      try simp only [Bool.not_eq_true', Bool.not_eq_false', Bool.or_eq_true, Bool.and_eq_true, Bool.or_eq_false_iff, Bool.and_eq_false_iff, decide_eq_true_eq, decide_eq_false_iff_not, Bool.not_true, Bool.not_false, gval, Bool.not_eq_eq_eq_not] at hc3
      refine tc_seq ?_
      refine tc_region ?_
      refine tl_p (pr_assign rfl) rfl ?_
      refine tl_next ?_
      refine tc_ret (tq_blk_ret (tq_then_ret ?_))
      exact tq_retE1 .ret (.inl rfl) () rfl rfl (by first | rfl | (subst_vars; rfl) | (simp [kindsS, *, cells_agg, resV, Cap.v]; done) | (simp [kindsS, *, cells_agg, resV, Cap.v]; omega) | (unfold kindsS; split <;> first | rfl | (exfalso; simp_all; done) | (exfalso; simp_all [wI]; first | done | omega)))
    · have hd3 := hc3
      try simp only [Bool.not_eq_true', Bool.not_eq_false', Bool.or_eq_true, Bool.and_eq_true, Bool.or_eq_false_iff, Bool.and_eq_false_iff, decide_eq_true_eq, decide_eq_false_iff_not, Bool.not_true, Bool.not_false, gval, Bool.not_eq_eq_eq_not] at hc3
      refine tc_seq ?_
      refine tc_region ?_
      refine tl_p (pr_move rfl) rfl ?_
      refine tl_buildS Tryz.sf25 Tryz.z3 rfl (.cons rfl (.cons rfl .nil)) rfl rfl (c := ints [0, 24]) rfl rfl rfl (kk := fun s10 hs10 ms10 => ?_)
      refine tl_rdS (f259_ct _ _ [0, 24] op (Sow.toSok (by assumption))) (.cons rfl (.cons rfl .nil)) rfl (kk := ?_)
      refine tl_p (pr_assign rfl) rfl ?_
      refine tl_next ?_
      refine tc_if rfl (fun hc4 => ?_) (fun hc4 => ?_)
      · have hd4 := hc4
        try simp only [Bool.not_eq_true', Bool.not_eq_false', Bool.or_eq_true, Bool.and_eq_true, Bool.or_eq_false_iff, Bool.and_eq_false_iff, decide_eq_true_eq, decide_eq_false_iff_not, Bool.not_true, Bool.not_false, gval, Bool.not_eq_eq_eq_not] at hc4
        refine tc_seq ?_
        refine tc_region ?_
        refine tl_p (pr_assign rfl) rfl ?_
        refine tl_next ?_
        refine tc_ret (tq_blk_ret (tq_then_ret ?_))
        exact tq_retE1 .ret (.inl rfl) () rfl rfl (by first | rfl | (subst_vars; rfl) | (simp [kindsS, *, cells_agg, resV, Cap.v]; done) | (simp [kindsS, *, cells_agg, resV, Cap.v]; omega) | (unfold kindsS; split <;> first | rfl | (exfalso; simp_all; done) | (exfalso; simp_all [wI]; first | done | omega)))
      · have hd4 := hc4
        try simp only [Bool.not_eq_true', Bool.not_eq_false', Bool.or_eq_true, Bool.and_eq_true, Bool.or_eq_false_iff, Bool.and_eq_false_iff, decide_eq_true_eq, decide_eq_false_iff_not, Bool.not_true, Bool.not_false, gval, Bool.not_eq_eq_eq_not] at hc4
        refine tc_seq ?_
        refine tc_region ?_
        refine tl_p (pr_move rfl) rfl ?_
        refine tl_buildS Tryz.sf25 Tryz.z3 rfl (.cons rfl (.cons rfl .nil)) rfl rfl (c := ints [1, 10]) rfl rfl rfl (kk := fun s14 hs14 ms14 => ?_)
        refine tl_rdS (f259_ct _ _ [1, 10] op (Sow.toSok (by assumption))) (.cons rfl (.cons rfl .nil)) rfl (kk := ?_)
        refine tl_p (pr_assign rfl) rfl ?_
        refine tl_next ?_
        refine tc_if rfl (fun hc5 => ?_) (fun hc5 => ?_)
        · have hd5 := hc5
          try simp only [Bool.not_eq_true', Bool.not_eq_false', Bool.or_eq_true, Bool.and_eq_true, Bool.or_eq_false_iff, Bool.and_eq_false_iff, decide_eq_true_eq, decide_eq_false_iff_not, Bool.not_true, Bool.not_false, gval, Bool.not_eq_eq_eq_not] at hc5
          refine tc_seq ?_
          refine tc_region ?_
          refine tl_p (pr_assign rfl) rfl ?_
          refine tl_next ?_
          refine tc_ret (tq_blk_ret (tq_then_ret ?_))
          exact tq_retE1 .ret (.inl rfl) () rfl rfl (by first | rfl | (subst_vars; rfl) | (simp [kindsS, *, cells_agg, resV, Cap.v]; done) | (simp [kindsS, *, cells_agg, resV, Cap.v]; omega) | (unfold kindsS; split <;> first | rfl | (exfalso; simp_all; done) | (exfalso; simp_all [wI]; first | done | omega)))
        · have hd5 := hc5
          try simp only [Bool.not_eq_true', Bool.not_eq_false', Bool.or_eq_true, Bool.and_eq_true, Bool.or_eq_false_iff, Bool.and_eq_false_iff, decide_eq_true_eq, decide_eq_false_iff_not, Bool.not_true, Bool.not_false, gval, Bool.not_eq_eq_eq_not] at hc5
          refine tc_seq ?_
          refine tc_region ?_
          refine tl_p (pr_move rfl) rfl ?_
          refine tl_p (pr_eql rfl rfl) rfl ?_
          refine tl_p (pr_assign rfl) rfl ?_
          refine tl_next ?_
          refine tc_if rfl (fun hc6 => ?_) (fun hc6 => ?_)
          · have hd6 := hc6
            try simp only [Bool.not_eq_true', Bool.not_eq_false', Bool.or_eq_true, Bool.and_eq_true, Bool.or_eq_false_iff, Bool.and_eq_false_iff, decide_eq_true_eq, decide_eq_false_iff_not, Bool.not_true, Bool.not_false, gval, Bool.not_eq_eq_eq_not] at hc6
            refine tc_seq ?_
            refine tc_region ?_
            refine tl_p (pr_assign rfl) rfl ?_
            refine tl_next ?_
            refine tc_ret (tq_blk_ret (tq_then_ret ?_))
            exact tq_retE1 .ret (.inl rfl) () rfl rfl (by first | rfl | (subst_vars; rfl) | (simp [kindsS, *, cells_agg, resV, Cap.v]; done) | (simp [kindsS, *, cells_agg, resV, Cap.v]; omega) | (unfold kindsS; split <;> first | rfl | (exfalso; simp_all; done) | (exfalso; simp_all [wI]; first | done | omega)))
          · have hd6 := hc6
            try simp only [Bool.not_eq_true', Bool.not_eq_false', Bool.or_eq_true, Bool.and_eq_true, Bool.or_eq_false_iff, Bool.and_eq_false_iff, decide_eq_true_eq, decide_eq_false_iff_not, Bool.not_true, Bool.not_false, gval, Bool.not_eq_eq_eq_not] at hc6
            refine tc_seq ?_
            refine tc_region ?_
            refine tl_p (pr_move rfl) rfl ?_
            refine tl_p (pr_eql rfl rfl) rfl ?_
            refine tl_p (pr_assign rfl) rfl ?_
            refine tl_next ?_
            refine tc_if rfl (fun hc7 => ?_) (fun hc7 => ?_)
            · have hd7 := hc7
              try simp only [Bool.not_eq_true', Bool.not_eq_false', Bool.or_eq_true, Bool.and_eq_true, Bool.or_eq_false_iff, Bool.and_eq_false_iff, decide_eq_true_eq, decide_eq_false_iff_not, Bool.not_true, Bool.not_false, gval, Bool.not_eq_eq_eq_not] at hc7
              refine tc_seq ?_
              refine tc_region ?_
              refine tl_p (pr_assign rfl) rfl ?_
              refine tl_next ?_
              refine tc_ret (tq_blk_ret (tq_then_ret ?_))
              exact tq_retE1 .ret (.inl rfl) () rfl rfl (by first | rfl | (subst_vars; rfl) | (simp [kindsS, *, cells_agg, resV, Cap.v]; done) | (simp [kindsS, *, cells_agg, resV, Cap.v]; omega) | (unfold kindsS; split <;> first | rfl | (exfalso; simp_all; done) | (exfalso; simp_all [wI]; first | done | omega)))
            · have hd7 := hc7
              try simp only [Bool.not_eq_true', Bool.not_eq_false', Bool.or_eq_true, Bool.and_eq_true, Bool.or_eq_false_iff, Bool.and_eq_false_iff, decide_eq_true_eq, decide_eq_false_iff_not, Bool.not_true, Bool.not_false, gval, Bool.not_eq_eq_eq_not] at hc7
              refine tc_seq ?_
              refine tc_region ?_
              refine tl_p (pr_move rfl) rfl ?_
              refine tl_buildS Tryz.sf25 Tryz.z3 rfl (.cons rfl (.cons rfl (.cons rfl (.cons rfl (.cons rfl (.cons rfl (.cons rfl .nil))))))) rfl rfl (c := ints [2, 22, 23, 25, 26, 27, 28]) rfl rfl rfl (kk := fun s24 hs24 ms24 => ?_)
              refine tl_rdS (f259_ct _ _ [2, 22, 23, 25, 26, 27, 28] op (Sow.toSok (by assumption))) (.cons rfl (.cons rfl .nil)) rfl (kk := ?_)
              refine tl_p (pr_assign rfl) rfl ?_
              refine tl_next ?_
              refine tc_if rfl (fun hc8 => ?_) (fun hc8 => ?_)
              · have hd8 := hc8
                try simp only [Bool.not_eq_true', Bool.not_eq_false', Bool.or_eq_true, Bool.and_eq_true, Bool.or_eq_false_iff, Bool.and_eq_false_iff, decide_eq_true_eq, decide_eq_false_iff_not, Bool.not_true, Bool.not_false, gval, Bool.not_eq_eq_eq_not] at hc8
                refine tc_seq ?_
                refine tc_region ?_
                refine tl_p (pr_assign rfl) rfl ?_
                refine tl_next ?_
                refine tc_ret (tq_blk_ret (tq_then_ret ?_))
                exact tq_retE1 .ret (.inl rfl) () rfl rfl (by first | rfl | (subst_vars; rfl) | (simp [kindsS, *, cells_agg, resV, Cap.v]; done) | (simp [kindsS, *, cells_agg, resV, Cap.v]; omega) | (unfold kindsS; split <;> first | rfl | (exfalso; simp_all; done) | (exfalso; simp_all [wI]; first | done | omega)))
              · have hd8 := hc8
                try simp only [Bool.not_eq_true', Bool.not_eq_false', Bool.or_eq_true, Bool.and_eq_true, Bool.or_eq_false_iff, Bool.and_eq_false_iff, decide_eq_true_eq, decide_eq_false_iff_not, Bool.not_true, Bool.not_false, gval, Bool.not_eq_eq_eq_not] at hc8
                refine tc_seq ?_
                refine tc_region ?_
                refine tl_p (pr_move rfl) rfl ?_
                refine tl_buildS Tryz.sf25 Tryz.z3 rfl (.cons rfl (.cons rfl (.cons rfl (.cons rfl (.cons rfl (.cons rfl (.cons rfl .nil))))))) rfl rfl (c := ints [11, 12, 13, 14, 15, 16, 19]) rfl rfl rfl (kk := fun s28 hs28 ms28 => ?_)
                refine tl_rdS (f259_ct _ _ [11, 12, 13, 14, 15, 16, 19] op (Sow.toSok (by assumption))) (.cons rfl (.cons rfl .nil)) rfl (kk := ?_)
                refine tl_p (pr_assign rfl) rfl ?_
                refine tl_next ?_
                refine tc_if rfl (fun hc9 => ?_) (fun hc9 => ?_)
                · have hd9 := hc9
                  try simp only [Bool.not_eq_true', Bool.not_eq_false', Bool.or_eq_true, Bool.and_eq_true, Bool.or_eq_false_iff, Bool.and_eq_false_iff, decide_eq_true_eq, decide_eq_false_iff_not, Bool.not_true, Bool.not_false, gval, Bool.not_eq_eq_eq_not] at hc9
                  refine tc_seq ?_
                  refine tc_region ?_
                  refine tl_p (pr_assign rfl) rfl ?_
                  refine tl_next ?_
                  refine tc_ret (tq_blk_ret (tq_then_ret ?_))
                  exact tq_retE1 .ret (.inl rfl) () rfl rfl (by first | rfl | (subst_vars; rfl) | (simp [kindsS, *, cells_agg, resV, Cap.v]; done) | (simp [kindsS, *, cells_agg, resV, Cap.v]; omega) | (unfold kindsS; split <;> first | rfl | (exfalso; simp_all; done) | (exfalso; simp_all [wI]; first | done | omega)))
                · have hd9 := hc9
                  try simp only [Bool.not_eq_true', Bool.not_eq_false', Bool.or_eq_true, Bool.and_eq_true, Bool.or_eq_false_iff, Bool.and_eq_false_iff, decide_eq_true_eq, decide_eq_false_iff_not, Bool.not_true, Bool.not_false, gval, Bool.not_eq_eq_eq_not] at hc9
                  refine tc_skip (tq_blk_normal (tq_next ?_))
                  refine tc_seq ?_
                  refine tc_region ?_
                  refine tl_p (pr_assign rfl) rfl ?_
                  refine tl_next ?_
                  refine tc_ret ?_
                  exact tq_retE1 .ret (.inl rfl) () rfl rfl (by first | rfl | (subst_vars; rfl) | (simp [kindsS, *, cells_agg, resV, Cap.v]; done) | (simp [kindsS, *, cells_agg, resV, Cap.v]; omega) | (unfold kindsS; split <;> first | rfl | (exfalso; simp_all; done) | (exfalso; simp_all [wI]; first | done | omega)))

theorem f240_ct (k : Int) : Rd Tryz.prog 240 #[.int .i32 k] [] [] (ii (boundsK k)) := by
  refine ct_intro Tryz.func240 rfl (by kernel_rfl) (n := 11) rfl rfl (E := [(0, .int .i32 k)]) rfl ?_
  intro κ hro
  refine tc_seq ?_
  refine tc_region ?_
  refine tl_p (pr_assign rfl) rfl ?_
  refine tl_p (pr_assign rfl) rfl ?_
  refine tl_next ?_
  refine tc_seq ?_
  refine tc_seq ?_
  refine tc_region ?_
  refine tl_p (pr_move rfl) rfl ?_
  refine tl_next ?_
  refine tc_block ?_
  refine tc_seq ?_
  refine tc_region ?_
  refine tl_p (pr_eql rfl rfl) rfl ?_
  refine tl_p (pr_assign rfl) rfl ?_
  refine tl_next ?_
  refine tc_if rfl (fun hc1 => ?_) (fun hc1 => ?_)
  · have hd1 := hc1
    try simp only [Bool.not_eq_true', Bool.not_eq_false', Bool.or_eq_true, Bool.and_eq_true, Bool.or_eq_false_iff, Bool.and_eq_false_iff, decide_eq_true_eq, decide_eq_false_iff_not, Bool.not_true, Bool.not_false, gval, Bool.not_eq_eq_eq_not] at hc1
    refine tc_seq ?_
    refine tc_region ?_
    refine tl_p (pr_assign rfl) rfl ?_
    refine tl_p (pr_assign rfl) rfl ?_
    refine tl_next ?_
    refine tc_ret (tq_blk_ret (tq_then_ret ?_))
    exact tq_ret2 .ret (.inl rfl) () rfl rfl rfl (by first | rfl | (subst_vars; rfl) | (simp [boundsK, *, cells_agg, resV, Cap.v]; done) | (simp [boundsK, *, cells_agg, resV, Cap.v]; omega) | (unfold boundsK; split <;> first | rfl | (exfalso; simp_all; done) | (exfalso; simp_all [wI]; first | done | omega)))
  · have hd1 := hc1
    try simp only [Bool.not_eq_true', Bool.not_eq_false', Bool.or_eq_true, Bool.and_eq_true, Bool.or_eq_false_iff, Bool.and_eq_false_iff, decide_eq_true_eq, decide_eq_false_iff_not, Bool.not_true, Bool.not_false, gval, Bool.not_eq_eq_eq_not] at hc1
    refine tc_seq ?_
    refine tc_region ?_
    refine tl_p (pr_eql rfl rfl) rfl ?_
    refine tl_p (pr_assign rfl) rfl ?_
    refine tl_next ?_
    refine tc_if rfl (fun hc2 => ?_) (fun hc2 => ?_)
    · have hd2 := hc2
      try simp only [Bool.not_eq_true', Bool.not_eq_false', Bool.or_eq_true, Bool.and_eq_true, Bool.or_eq_false_iff, Bool.and_eq_false_iff, decide_eq_true_eq, decide_eq_false_iff_not, Bool.not_true, Bool.not_false, gval, Bool.not_eq_eq_eq_not] at hc2
      refine tc_seq ?_
      refine tc_region ?_
      refine tl_p (pr_assign rfl) rfl ?_
      refine tl_p (pr_assign rfl) rfl ?_
      refine tl_next ?_
      refine tc_ret (tq_blk_ret (tq_then_ret ?_))
      exact tq_ret2 .ret (.inl rfl) () rfl rfl rfl (by first | rfl | (subst_vars; rfl) | (simp [boundsK, *, cells_agg, resV, Cap.v]; done) | (simp [boundsK, *, cells_agg, resV, Cap.v]; omega) | (unfold boundsK; split <;> first | rfl | (exfalso; simp_all; done) | (exfalso; simp_all [wI]; first | done | omega)))
    · have hd2 := hc2
      try simp only [Bool.not_eq_true', Bool.not_eq_false', Bool.or_eq_true, Bool.and_eq_true, Bool.or_eq_false_iff, Bool.and_eq_false_iff, decide_eq_true_eq, decide_eq_false_iff_not, Bool.not_true, Bool.not_false, gval, Bool.not_eq_eq_eq_not] at hc2
      refine tc_seq ?_
      refine tc_region ?_
      refine tl_p (pr_eql rfl rfl) rfl ?_
      refine tl_p (pr_assign rfl) rfl ?_
      refine tl_next ?_
      refine tc_if rfl (fun hc3 => ?_) (fun hc3 => ?_)
      · have hd3 := hc3
        try simp only [Bool.not_eq_true', Bool.not_eq_false', Bool.or_eq_true, Bool.and_eq_true, Bool.or_eq_false_iff, Bool.and_eq_false_iff, decide_eq_true_eq, decide_eq_false_iff_not, Bool.not_true, Bool.not_false, gval, Bool.not_eq_eq_eq_not] at hc3
        refine tc_seq ?_
        refine tc_region ?_
        refine tl_p (pr_assign rfl) rfl ?_
        refine tl_p (pr_assign rfl) rfl ?_
        refine tl_next ?_
        refine tc_ret (tq_blk_ret (tq_then_ret ?_))
        exact tq_ret2 .ret (.inl rfl) () rfl rfl rfl (by first | rfl | (subst_vars; rfl) | (simp [boundsK, *, cells_agg, resV, Cap.v]; done) | (simp [boundsK, *, cells_agg, resV, Cap.v]; omega) | (unfold boundsK; split <;> first | rfl | (exfalso; simp_all; done) | (exfalso; simp_all [wI]; first | done | omega)))
      · have hd3 := hc3
        try simp only [Bool.not_eq_true', Bool.not_eq_false', Bool.or_eq_true, Bool.and_eq_true, Bool.or_eq_false_iff, Bool.and_eq_false_iff, decide_eq_true_eq, decide_eq_false_iff_not, Bool.not_true, Bool.not_false, gval, Bool.not_eq_eq_eq_not] at hc3
        refine tc_skip (tq_blk_normal (tq_next ?_))
        refine tc_seq ?_
        refine tc_region ?_
        refine tl_p (pr_assign rfl) rfl ?_
        refine tl_p (pr_assign rfl) rfl ?_
        refine tl_next ?_
        refine tc_ret ?_
        exact tq_ret2 .ret (.inl rfl) () rfl rfl rfl (by first | rfl | (subst_vars; rfl) | (simp [boundsK, *, cells_agg, resV, Cap.v]; done) | (simp [boundsK, *, cells_agg, resV, Cap.v]; omega) | (unfold boundsK; split <;> first | rfl | (exfalso; simp_all; done) | (exfalso; simp_all [wI]; first | done | omega)))

end Go.Proofs

namespace Go.Proofs
open Go Go.Sz
attribute [local irreducible] pt lift exs own emp
theorem Tryz.ar232 : arrOf Tryz.prog 232 = some (3, 1, false) := by kernel_rfl
theorem Tryz.bld232 : bldA Tryz.prog 232 = some (1, (.agg #[.int .i64 0, .int .i64 0, .int .i64 0] : Value).cells) := by kernel_rfl
theorem Tryz.fo33_0 : fOff Tryz.prog 33 0 = some (0, 1, false) := by kernel_rfl
theorem Tryz.fo33_1 : fOff Tryz.prog 33 1 = some (1, 1, false) := by kernel_rfl
theorem Tryz.fo33_2 : fOff Tryz.prog 33 2 = some (2, 1, false) := by kernel_rfl
theorem Tryz.fo33_3 : fOff Tryz.prog 33 3 = some (3, 1, false) := by kernel_rfl
theorem Tryz.sz232 : szOf Tryz.prog 232 = some 3 := by kernel_rfl
theorem Tryz.z232 : zeroV Tryz.prog 232 = some (.agg #[.int .i64 0, .int .i64 0, .int .i64 0]) := by kernel_rfl
theorem Tryz.bl232_0_1_2 {n : Nat} {D : List Deferred} {E : Env} {L : List HProp} {κ : Ctx} {T : TypeId} {x0 x1 x2 : Operand} {a0 a1 a2 : Value} (h0 : E.ev x0 = some a0) (h1 : E.ev x1 = some a1) (h2 : E.ev x2 = some a2) (o0 : oneV a0 = true := by rfl) (o1 : oneV a1 = true := by rfl) (o2 : oneV a2 = true := by rfl) :
    PR Tryz.prog (.build 232 #[(0, x0), (1, x1), (2, x2)]) T n D E L κ (.agg #[a0, a1, a2]) := by
  refine pr_buildA Tryz.bld232 (.cons h0 (.cons h1 (.cons h2 .nil))) ?_
  simp [Instr.fill, cells_agg, cells_one o0, cells_one o1, cells_one o2]
structure Ins where
  op : Int
  a : Int
  b : Int
  c : Int
  deriving DecidableEq
def Ins.v (x : Ins) : Value := .agg #[.int .i64 x.op, .int .i64 x.a, .int .i64 x.b, .int .i64 x.c]
def Ins.abc (x : Ins) : List Int := [x.a, x.b, x.c]
def kindAt (u : ByteArray) (i : Nat) : Int := ((u.data.toList.getD i 0).toNat : Int)
def fineAt (u : ByteArray) (l : List Int) (i : Nat) : Bool := !(decide (l.getD i 0 < (boundsK (kindAt u i)).1) || decide ((boundsK (kindAt u i)).2 < l.getD i 0))
def insRight (x : Ins) : Bool := ((List.range (kindsS x.op).size).all (fineAt (kindsS x.op) x.abc)) && (decide (0 ≤ x.op) && decide (x.op ≤ 29))
theorem kinds_size (op : Int) : (kindsS op).size ≤ 3 := by
  unfold kindsS
  repeat' split
  all_goals decide
theorem kinds_ascii (op : Int) : ∀ i, i < (kindsS op).size → ((kindsS op).data.toList.getD i 0).toNat < 128 := by
  unfold kindsS
  repeat' split
  all_goals decide

theorem f195_ct (x : Ins) : Rd Tryz.prog 195 #[x.v] [] [] (.bool (insRight x)) := by
  refine ct_intro Tryz.func195 rfl (by kernel_rfl) (n := 48) rfl rfl (E := [(0, x.v)]) rfl ?_
  intro κ hro
  refine tc_seq ?_
  refine tc_region ?_
  refine tl_box rfl rfl (fun b1 => ?_)
  refine tl_p (pr_assign rfl) rfl ?_
  refine tl_next ?_
  refine tc_seq ?_
  refine tc_region ?_
  refine tl_p (pr_fieldAddr Tryz.fo33_1 rfl) rfl ?_
  refine tl_p (pr_ld Tryz.ag3 rfl) rfl ?_
  refine tl_p (pr_fieldAddr Tryz.fo33_2 rfl) rfl ?_
  refine tl_p (pr_ld Tryz.ag3 rfl) rfl ?_
  refine tl_p (pr_fieldAddr Tryz.fo33_3 rfl) rfl ?_
  refine tl_p (pr_ld Tryz.ag3 rfl) rfl ?_
  refine tl_p (Tryz.bl232_0_1_2 rfl rfl rfl) rfl ?_
  refine tl_alloc Tryz.z232 rfl (fun b3 => ?_)
  refine tl_storeW Tryz.sz232 rfl rfl (k := ?_)
  refine tl_next ?_
  refine tc_seq ?_
  refine tc_seq ?_
  refine tc_region ?_
  refine tl_p (pr_fieldAddr Tryz.fo33_0 rfl) rfl ?_
  refine tl_p (pr_ld Tryz.ag3 rfl) rfl ?_
  refine tl_rdS (f239_ct _) (.cons rfl .nil) rfl (kk := ?_)
  refine tl_rangeStr Tryz.underlying9 rfl rfl (fun b18 => ?_)
  refine tl_next ?_
  refine tc_block ?_
  refine tc_loopP (X := Nat) (fun i => i ≤ (kindsS x.op).size ∧ ∀ j, j < i → fineAt (kindsS x.op) x.abc j = true) (fun i => [(18, ad b18 0), (1, ad b1 0), (3, ad b3 0)]) (fun i => [pt b18 (.stringIter (kindsS x.op) i), pt b1 (.cells #[.int .i64 x.op, .int .i64 x.a, .int .i64 x.b, .int .i64 x.c] 33 (0, 0)), pt b3 (.cells (List.toArray (ints x.abc)) 232 (0, 0))]) (fun i => (kindsS x.op).size - i) 0 ⟨by omega, fun j h => by omega⟩ (.cons rfl (.cons rfl (.cons rfl .nil))) (fun i hj => ?_)
  have hj1 := hj.1
  have hsz := kinds_size x.op
  refine tc_seq ?_
  refine tc_region ?_
  refine tl_next2 rfl (kinds_ascii x.op) rfl (k := ?_)
  refine tl_p (pr_extract rfl (nextT_0 _ _)) rfl ?_
  refine tl_next ?_
  refine tc_seq ?_
  refine tc_if rfl (fun hc1 => ?_) (fun hc1 => ?_)
  · have hd1 := hc1
    try simp only [Bool.not_eq_true', Bool.not_eq_false', Bool.or_eq_true, Bool.and_eq_true, Bool.or_eq_false_iff, Bool.and_eq_false_iff, decide_eq_true_eq, decide_eq_false_iff_not, Bool.not_true, Bool.not_false, gval, Bool.not_eq_eq_eq_not] at hc1
    have hnp : nextP (kindsS x.op) i = i + 1 := if_pos hc1
    rw [hnp]
    refine tc_skip (tq_next ?_)
    refine tc_block ?_
    refine tc_seq ?_
    refine tc_region ?_
    refine tl_p (pr_extract rfl (nextT_1 hc1)) rfl ?_
    refine tl_p (pr_extract rfl (nextT_2 hc1)) rfl ?_
    refine tl_p (pr_assign rfl) rfl ?_
    refine tl_p (pr_assign rfl) rfl ?_
    refine tl_next ?_
    refine tc_seq ?_
    refine tc_region ?_
    refine tl_p (pr_move rfl) rfl ?_
    refine tl_rdS (f240_ct (kindAt (kindsS x.op) i)) (.cons rfl .nil) rfl (kk := ?_)
    refine tl_p (pr_move rfl) rfl ?_
    refine tl_p (pr_extract rfl rfl) rfl ?_
    refine tl_p (pr_extract rfl rfl) rfl ?_
    refine tl_p (pr_assign rfl) rfl ?_
    refine tl_p (pr_assign rfl) rfl ?_
    refine tl_next ?_
    refine tc_seq ?_
    refine tc_region ?_
    refine tl_p (pr_move rfl) rfl ?_
    refine tl_p (pr_indexA Tryz.ar232 rfl rfl (by omega) (by omega)) rfl ?_
    refine tl_p (pr_ld Tryz.ag3 rfl (l := ints x.abc) (v := .int .i64 (x.abc.getD i 0)) (hv := GetL.of (by rw [Nat.zero_add]; show (ints x.abc)[i * 1]? = _; rw [map_at (by show i < 3; omega)]; simp [show i < x.abc.length from by show i < 3; omega]))) rfl ?_
    refine tl_p (pr_move rfl) rfl ?_
    refine tl_p (pr_lss rfl rfl) rfl ?_
    refine tl_p (pr_move rfl) rfl ?_
    refine tl_gf rfl rfl (fun h => pr_move rfl) (by intro _ h; cases h) rfl ?_
    refine tl_gf rfl rfl (fun h => pr_indexA Tryz.ar232 rfl (gv rfl h) (by omega) (by omega)) (by intro _ h; cases h) rfl ?_
    refine tl_gf rfl rfl (fun h => pr_ld Tryz.ag3 (gv rfl h) (l := ints x.abc) (v := .int .i64 (x.abc.getD i 0)) (hv := GetL.of (by rw [Nat.zero_add]; show (ints x.abc)[i * 1]? = _; rw [map_at (by show i < 3; omega)]; simp [show i < x.abc.length from by show i < 3; omega]))) (by intro _ h; cases h) rfl ?_
    refine tl_gf rfl rfl (fun h => pr_move rfl) (by intro _ h; cases h) rfl ?_
    refine tl_gf rfl rfl (fun h => pr_gtr (gv rfl h) (gv rfl h)) (by intro _ h; cases h) rfl ?_
    refine tl_p (pr_or rfl rfl rfl) rfl ?_
    refine tl_next ?_
    refine tc_if rfl (fun hc2 => ?_) (fun hc2 => ?_)
    · have hd2 := hc2
      try simp only [Bool.not_eq_true', Bool.not_eq_false', Bool.or_eq_true, Bool.and_eq_true, Bool.or_eq_false_iff, Bool.and_eq_false_iff, decide_eq_true_eq, decide_eq_false_iff_not, Bool.not_true, Bool.not_false, gval, Bool.not_eq_eq_eq_not] at hc2
      refine tc_seq ?_
      refine tc_region ?_
      refine tl_p (pr_assign rfl) rfl ?_
      refine tl_next ?_
      refine tc_ret (tq_blk_ret (tq_then_ret (tq_blk_ret (tq_then_ret ?_))))
      have e : insRight x = false := by unfold insRight; rw [show (List.range (kindsS x.op).size).all (fineAt (kindsS x.op) x.abc) = false from List.all_eq_false.2 ⟨i, by simpa using hc1, by unfold fineAt; rw [hd2]; simp⟩]; rfl
      exact tq_retE1 .ret (.inl rfl) () rfl rfl (by rw [e])
    · have hd2 := hc2
      try simp only [Bool.not_eq_true', Bool.not_eq_false', Bool.or_eq_true, Bool.and_eq_true, Bool.or_eq_false_iff, Bool.and_eq_false_iff, decide_eq_true_eq, decide_eq_false_iff_not, Bool.not_true, Bool.not_false, gval, Bool.not_eq_eq_eq_not] at hc2
      refine tc_skip (tq_blk_normal ?_)
      exact tq_roundP (i + 1) ⟨by omega, fun j h => by rcases Nat.lt_succ_iff_lt_or_eq.1 h with h | rfl; (· exact hj.2 j h); (· unfold fineAt; rw [hd2]; rfl)⟩ (by omega) (.cons rfl (.cons rfl (.cons rfl .nil)))
  · have hd1 := hc1
    try simp only [Bool.not_eq_true', Bool.not_eq_false', Bool.or_eq_true, Bool.and_eq_true, Bool.or_eq_false_iff, Bool.and_eq_false_iff, decide_eq_true_eq, decide_eq_false_iff_not, Bool.not_true, Bool.not_false, gval, Bool.not_eq_eq_eq_not] at hc1
    refine tc_exit (tq_then_exit (tq_then_exit (tq_blk_here ?_)))
    refine tq_next ?_
    refine tc_seq ?_
    refine tc_region ?_
    refine tl_p (pr_fieldAddr Tryz.fo33_0 rfl) rfl ?_
    refine tl_p (pr_ld Tryz.ag3 rfl) rfl ?_
    refine tl_p (pr_geq rfl rfl) rfl ?_
    refine tl_p (pr_move rfl) rfl ?_
    refine tl_gt rfl rfl (fun h => pr_fieldAddr Tryz.fo33_0 rfl) (by intro _ h; cases h) rfl ?_
    refine tl_gt rfl rfl (fun h => pr_ld Tryz.ag3 (gv rfl h)) (by intro _ h; cases h) rfl ?_
    refine tl_gt rfl rfl (fun h => pr_leq (gv rfl h) rfl) (by intro _ h; cases h) rfl ?_
    refine tl_p (pr_and rfl rfl rfl) rfl ?_
    refine tl_p (pr_assign rfl) rfl ?_
    refine tl_next ?_
    refine tc_ret ?_
    have e : (List.range (kindsS x.op).size).all (fineAt (kindsS x.op) x.abc) = true := List.all_eq_true.2 fun j h => hj.2 j (by simp at h; omega)
    exact tq_retE1 .ret (.inl rfl) () rfl rfl (by unfold insRight; rw [e]; rfl)

end Go.Proofs

namespace Go.Proofs
open Go Go.Sz
attribute [local irreducible] pt lift exs own emp
theorem Tryz.ag33 : aggB Tryz.prog 33 = some true := by kernel_rfl
theorem Tryz.bld33 : bldS Tryz.prog 33 = some ([(0, 1), (1, 1), (2, 1), (3, 1)], (.agg #[.int .i64 0, .int .i64 0, .int .i64 0, .int .i64 0] : Value).cells) := by kernel_rfl
theorem Tryz.it221 : intOfT Tryz.prog 221 = some .i16 := by kernel_rfl
theorem Tryz.it52 : intOfT Tryz.prog 52 = some .u16 := by kernel_rfl
theorem Tryz.sz33 : szOf Tryz.prog 33 = some 4 := by kernel_rfl
theorem Tryz.z33 : zeroV Tryz.prog 33 = some (.agg #[.int .i64 0, .int .i64 0, .int .i64 0, .int .i64 0]) := by kernel_rfl
theorem Tryz.bl33_ {n : Nat} {D : List Deferred} {E : Env} {L : List HProp} {κ : Ctx} {T : TypeId} : PR Tryz.prog (.build 33 #[]) T n D E L κ (.agg #[.int .i64 0, .int .i64 0, .int .i64 0, .int .i64 0]) :=
  pr_buildS (ws := []) Tryz.bld33 .nil rfl
theorem Tryz.bl33_0_1_2_3 {n : Nat} {D : List Deferred} {E : Env} {L : List HProp} {κ : Ctx} {T : TypeId} {x0 x1 x2 x3 : Operand} {a0 a1 a2 a3 : Value} (h0 : E.ev x0 = some a0) (h1 : E.ev x1 = some a1) (h2 : E.ev x2 = some a2) (h3 : E.ev x3 = some a3) (o0 : oneV a0 = true := by rfl) (o1 : oneV a1 = true := by rfl) (o2 : oneV a2 = true := by rfl) (o3 : oneV a3 = true := by rfl) :
    PR Tryz.prog (.build 33 #[(0, x0), (1, x1), (2, x2), (3, x3)]) T n D E L κ (.agg #[a0, a1, a2, a3]) := by
  refine pr_buildS Tryz.bld33 (.cons h0 (.cons h1 (.cons h2 (.cons h3 .nil)))) ?_
  simp [Instr.fill, cells_agg, cells_one o0, cells_one o1, cells_one o2, cells_one o3]
def wideOp (op : Int) : Bool := (kindsS op != ⟨#[]⟩) && decide ((((kindsS op).data.toList.getD 1 0).toNat : Int) = 119)
theorem kinds_1 (op : Int) (h : (kindsS op != ⟨#[]⟩) = true) : (kindsS op)[1]? = some ((kindsS op).data.toList.getD 1 0) := by
  revert h
  unfold kindsS
  repeat' split
  all_goals decide
def w16 (a b : Int) : Int := IntKind.i64.wrap (IntKind.i16.wrap (bOr .u16 (IntKind.u16.wrap (IntKind.u16.wrap a * 2 ^ min (8 : Int).toNat IntKind.u16.bits)) (IntKind.u16.wrap b)))
def insRaw (g : List Int) : Ins :=
  if wideOp (wI (g.getD 0 0)) then ⟨wI (g.getD 0 0), wI (g.getD 1 0), w16 (g.getD 2 0) (g.getD 3 0), 0⟩ else ⟨wI (g.getD 0 0), wI (g.getD 1 0), wI (g.getD 2 0), wI (g.getD 3 0)⟩
abbrev nullI : Ins := ⟨0, 0, 0, 0⟩
def insGet (g : List Int) : Ins × Int := if insRight (insRaw g) then (insRaw g, 0) else (nullI, 151)
abbrev xi (p : Ins × Int) : Value := .tuple #[p.1.v, .int .i64 p.2]

theorem f194_ct (op : Int) : Rd Tryz.prog 194 #[.int .i64 op] [] [] (.bool (wideOp op)) := by
  refine ct_intro Tryz.func194 rfl (by kernel_rfl) (n := 13) rfl rfl (E := [(0, .int .i64 op)]) rfl ?_
  intro κ hro
  refine tc_seq ?_
  refine tc_region ?_
  refine tl_p (pr_assign rfl) rfl ?_
  refine tl_next ?_
  refine tc_seq ?_
  refine tc_region ?_
  refine tl_p (pr_move rfl) rfl ?_
  refine tl_rdS (f239_ct _) (.cons rfl .nil) rfl (kk := ?_)
  refine tl_p (pr_assign rfl) rfl ?_
  refine tl_next ?_
  refine tc_seq ?_
  refine tc_region ?_
  refine tl_p (pr_move rfl) rfl ?_
  refine tl_p (pr_neqStr rfl rfl) rfl ?_
  refine tl_p (pr_move rfl) rfl ?_
  refine tl_gt rfl rfl (fun h => pr_move rfl) (by intro _ h; cases h) rfl ?_
  refine tl_gt rfl rfl (fun h => pr_indexStr Tryz.underlying9 (gv rfl h) (i := 1) rfl (kinds_1 op h)) (by intro _ h; cases h) rfl ?_
  refine tl_gt rfl rfl (fun h => pr_eql (gv rfl h) rfl) (by intro _ h; cases h) rfl ?_
  refine tl_p (pr_and rfl rfl rfl) rfl ?_
  refine tl_p (pr_assign rfl) rfl ?_
  refine tl_next ?_
  refine tc_ret ?_
  exact tq_ret1 .ret (.inl rfl) () rfl rfl

theorem f122_ct (s : Shp) (g : List Int) (hs : Sok 1 s 4 (u8s g)) : Rd Tryz.prog 122 #[sv s 4] (ra s (u8s g)) [] (xi (insGet g)) := by
  refine ct_intro Tryz.func122 rfl (by kernel_rfl) (n := 48) rfl rfl (E := [(0, sv s 4)]) rfl ?_
  intro κ hro
  have hg : g.length = 4 := u8s_n hs
  have hm := hs.isM (by omega)
  refine tc_seq ?_
  refine tc_region ?_
  refine tl_alloc Tryz.z33 rfl (fun b2 => ?_)
  refine tl_p (pr_assign rfl) rfl ?_
  refine tl_next ?_
  refine tc_seq ?_
  refine tc_seq ?_
  refine tc_region ?_
  refine tl_p (pr_move rfl) rfl ?_
  refine tl_p (pr_lenS Tryz.sf64 rfl) rfl ?_
  refine tl_p (pr_neq rfl rfl) rfl ?_
  refine tl_next ?_
  refine tc_if_false rfl (by simp) ?_
  refine tc_skip (tq_next ?_)
  refine tc_seq ?_
  refine tc_draw Tryz.mixed [0, 1, 2, 3, 4, 5, 6, 7, 8, 9, 10, 11, 12, 13, 14, 15, 16] (by kernel_rfl) ?_
  refine td_q 0 9 (pm_of rfl rfl rfl (fun _ kq => tl_p (pr_move rfl) rfl kq)) rfl rfl rfl ?_
  refine td_q 1 10 (pm_of rfl rfl rfl (fun _ kq => tl_p (pr_ixE Tryz.sl64 rfl rfl) rfl kq)) rfl rfl rfl ?_
  refine td_q 2 11 (pm_of rfl rfl rfl (fun _ kq => tl_p (pr_ldE Tryz.ag5 rfl (c := u8s g) (v := .int .u8 (g.getD 0 0)) (u8_at (i := 0) rfl (by omega)) hm (Reads.sl hro)) rfl kq)) rfl rfl rfl ?_
  refine td_q 3 12 (pm_of rfl rfl rfl (fun _ kq => tl_p (pr_conv Tryz.it3 Tryz.underlying5 rfl) rfl kq)) rfl rfl rfl ?_
  refine td_q 4 13 (pm_of rfl rfl rfl (fun _ kq => tl_p (pr_move rfl) rfl kq)) rfl rfl rfl ?_
  refine td_q 5 14 (pm_of rfl rfl rfl (fun _ kq => tl_p (pr_ixE Tryz.sl64 rfl rfl) rfl kq)) rfl rfl rfl ?_
  refine td_q 6 15 (pm_of rfl rfl rfl (fun _ kq => tl_p (pr_ldE Tryz.ag5 rfl (c := u8s g) (v := .int .u8 (g.getD 1 0)) (u8_at (i := 1) rfl (by omega)) hm (Reads.sl hro)) rfl kq)) rfl rfl rfl ?_
  refine td_q 7 16 (pm_of rfl rfl rfl (fun _ kq => tl_p (pr_conv Tryz.it3 Tryz.underlying5 rfl) rfl kq)) rfl rfl rfl ?_
  refine td_q 8 17 (pm_of rfl rfl rfl (fun _ kq => tl_p (pr_move rfl) rfl kq)) rfl rfl rfl ?_
  refine td_q 9 18 (pm_of rfl rfl rfl (fun _ kq => tl_p (pr_ixE Tryz.sl64 rfl rfl) rfl kq)) rfl rfl rfl ?_
  refine td_q 10 19 (pm_of rfl rfl rfl (fun _ kq => tl_p (pr_ldE Tryz.ag5 rfl (c := u8s g) (v := .int .u8 (g.getD 2 0)) (u8_at (i := 2) rfl (by omega)) hm (Reads.sl hro)) rfl kq)) rfl rfl rfl ?_
  refine td_q 11 20 (pm_of rfl rfl rfl (fun _ kq => tl_p (pr_conv Tryz.it3 Tryz.underlying5 rfl) rfl kq)) rfl rfl rfl ?_
  refine td_q 12 21 (pm_of rfl rfl rfl (fun _ kq => tl_p (pr_move rfl) rfl kq)) rfl rfl rfl ?_
  refine td_q 13 22 (pm_of rfl rfl rfl (fun _ kq => tl_p (pr_ixE Tryz.sl64 rfl rfl) rfl kq)) rfl rfl rfl ?_
  refine td_q 14 23 (pm_of rfl rfl rfl (fun _ kq => tl_p (pr_ldE Tryz.ag5 rfl (c := u8s g) (v := .int .u8 (g.getD 3 0)) (u8_at (i := 3) rfl (by omega)) hm (Reads.sl hro)) rfl kq)) rfl rfl rfl ?_
  refine td_q 15 24 (pm_of rfl rfl rfl (fun _ kq => tl_p (pr_conv Tryz.it3 Tryz.underlying5 rfl) rfl kq)) rfl rfl rfl ?_
  refine td_q 16 25 (pm_of rfl rfl rfl (fun _ kq => tl_p (Tryz.bl33_0_1_2_3 rfl rfl rfl rfl) rfl kq)) rfl rfl rfl ?_
  refine td_e1 17 (by kernel_rfl) ?_
  refine te rfl ?_
  refine tl_alloc Tryz.z33 rfl (fun b4 => ?_)
  refine td_next (pd := [16, 15, 14, 13, 12, 11, 10, 9, 8, 7, 6, 5, 4, 3, 2, 1, 0]) (by kernel_rfl) (.cons rfl (pm_of rfl rfl rfl (fun _ kq => tl_p (Tryz.bl33_0_1_2_3 rfl rfl rfl rfl) rfl kq)) (.cons rfl (pm_of rfl rfl rfl (fun _ kq => tl_p (pr_conv Tryz.it3 Tryz.underlying5 rfl) rfl kq)) (.cons rfl (pm_of rfl rfl rfl (fun _ kq => tl_p (pr_ldE Tryz.ag5 rfl (c := u8s g) (v := .int .u8 (g.getD 3 0)) (u8_at (i := 3) rfl (by omega)) hm (Reads.sl hro)) rfl kq)) (.cons rfl (pm_of rfl rfl rfl (fun _ kq => tl_p (pr_ixE Tryz.sl64 rfl rfl) rfl kq)) (.cons rfl (pm_of rfl rfl rfl (fun _ kq => tl_p (pr_move rfl) rfl kq)) (.cons rfl (pm_of rfl rfl rfl (fun _ kq => tl_p (pr_conv Tryz.it3 Tryz.underlying5 rfl) rfl kq)) (.cons rfl (pm_of rfl rfl rfl (fun _ kq => tl_p (pr_ldE Tryz.ag5 rfl (c := u8s g) (v := .int .u8 (g.getD 2 0)) (u8_at (i := 2) rfl (by omega)) hm (Reads.sl hro)) rfl kq)) (.cons rfl (pm_of rfl rfl rfl (fun _ kq => tl_p (pr_ixE Tryz.sl64 rfl rfl) rfl kq)) (.cons rfl (pm_of rfl rfl rfl (fun _ kq => tl_p (pr_move rfl) rfl kq)) (.cons rfl (pm_of rfl rfl rfl (fun _ kq => tl_p (pr_conv Tryz.it3 Tryz.underlying5 rfl) rfl kq)) (.cons rfl (pm_of rfl rfl rfl (fun _ kq => tl_p (pr_ldE Tryz.ag5 rfl (c := u8s g) (v := .int .u8 (g.getD 1 0)) (u8_at (i := 1) rfl (by omega)) hm (Reads.sl hro)) rfl kq)) (.cons rfl (pm_of rfl rfl rfl (fun _ kq => tl_p (pr_ixE Tryz.sl64 rfl rfl) rfl kq)) (.cons rfl (pm_of rfl rfl rfl (fun _ kq => tl_p (pr_move rfl) rfl kq)) (.cons rfl (pm_of rfl rfl rfl (fun _ kq => tl_p (pr_conv Tryz.it3 Tryz.underlying5 rfl) rfl kq)) (.cons rfl (pm_of rfl rfl rfl (fun _ kq => tl_p (pr_ldE Tryz.ag5 rfl (c := u8s g) (v := .int .u8 (g.getD 0 0)) (u8_at (i := 0) rfl (by omega)) hm (Reads.sl hro)) rfl kq)) (.cons rfl (pm_of rfl rfl rfl (fun _ kq => tl_p (pr_ixE Tryz.sl64 rfl rfl) rfl kq)) (.cons rfl (pm_of rfl rfl rfl (fun _ kq => tl_p (pr_move rfl) rfl kq)) .nil))))))))))))))))) ?_
  refine td_e1 18 (by kernel_rfl) ?_
  refine te rfl ?_
  refine tl_storeW Tryz.sz33 rfl rfl (k := ?_)
  refine td_next (pd := []) (by kernel_rfl) (.nil) ?_
  refine td_done (by kernel_rfl) ?_
  refine tq_next ?_
  refine tc_seq ?_
  refine tc_seq ?_
  refine tc_region ?_
  refine tl_p (pr_fieldAddr Tryz.fo33_0 rfl) rfl ?_
  refine tl_p (pr_ld Tryz.ag3 rfl) rfl ?_
  refine tl_rdS (f194_ct (wI (g.getD 0 0))) (.cons rfl .nil) rfl (kk := ?_)
  refine tl_next ?_
  refine tc_if rfl (fun hc2 => ?_) (fun hc2 => ?_)
  · have hd2 := hc2
    try simp only [Bool.not_eq_true', Bool.not_eq_false', Bool.or_eq_true, Bool.and_eq_true, Bool.or_eq_false_iff, Bool.and_eq_false_iff, decide_eq_true_eq, decide_eq_false_iff_not, Bool.not_true, Bool.not_false, gval, Bool.not_eq_eq_eq_not] at hc2
    have hr : insRaw g = ⟨wI (g.getD 0 0), wI (g.getD 1 0), w16 (g.getD 2 0) (g.getD 3 0), 0⟩ := by unfold insRaw; rw [if_pos hd2]
    refine tc_draw Tryz.mixed [0, 1, 2, 3, 4, 5, 6, 7, 8, 9, 10, 11, 12, 14] (by kernel_rfl) ?_
    refine td_q 0 29 (pm_of rfl rfl rfl (fun _ kq => tl_p (pr_move rfl) rfl kq)) rfl rfl rfl ?_
    refine td_q 1 30 (pm_of rfl rfl rfl (fun _ kq => tl_p (pr_ixE Tryz.sl64 rfl rfl) rfl kq)) rfl rfl rfl ?_
    refine td_q 2 31 (pm_of rfl rfl rfl (fun _ kq => tl_p (pr_ldE Tryz.ag5 rfl (c := u8s g) (v := .int .u8 (g.getD 2 0)) (u8_at (i := 2) rfl (by omega)) hm (Reads.sl hro)) rfl kq)) rfl rfl rfl ?_
    refine td_q 3 32 (pm_of rfl rfl rfl (fun _ kq => tl_p (pr_conv Tryz.it52 Tryz.underlying5 rfl) rfl kq)) rfl rfl rfl ?_
    refine td_q 4 33 (pm_of rfl rfl rfl (fun _ kq => tl_p (pr_shl rfl rfl (by decide)) rfl kq)) rfl rfl rfl ?_
    refine td_q 5 34 (pm_of rfl rfl rfl (fun _ kq => tl_p (pr_move rfl) rfl kq)) rfl rfl rfl ?_
    refine td_q 6 35 (pm_of rfl rfl rfl (fun _ kq => tl_p (pr_ixE Tryz.sl64 rfl rfl) rfl kq)) rfl rfl rfl ?_
    refine td_q 7 36 (pm_of rfl rfl rfl (fun _ kq => tl_p (pr_ldE Tryz.ag5 rfl (c := u8s g) (v := .int .u8 (g.getD 3 0)) (u8_at (i := 3) rfl (by omega)) hm (Reads.sl hro)) rfl kq)) rfl rfl rfl ?_
    refine td_q 8 37 (pm_of rfl rfl rfl (fun _ kq => tl_p (pr_conv Tryz.it52 Tryz.underlying5 rfl) rfl kq)) rfl rfl rfl ?_
    refine td_q 9 38 (pm_of rfl rfl rfl (fun _ kq => tl_p (pr_bOr rfl rfl) rfl kq)) rfl rfl rfl ?_
    refine td_q 10 39 (pm_of rfl rfl rfl (fun _ kq => tl_p (pr_conv Tryz.it221 Tryz.underlying52 rfl) rfl kq)) rfl rfl rfl ?_
    refine td_q 11 40 (pm_of rfl rfl rfl (fun _ kq => tl_p (pr_conv Tryz.it3 Tryz.underlying221 rfl) rfl kq)) rfl rfl rfl ?_
    refine td_q 12 41 (pm_of rfl rfl rfl (fun _ kq => tl_p (pr_fieldAddr Tryz.fo33_2 rfl) rfl kq)) rfl rfl rfl ?_
    refine td_e1 13 (by kernel_rfl) ?_
    refine te rfl ?_
    refine tl_st Tryz.sz3 rfl rfl (k := ?_)
    refine td_next (pd := []) (by kernel_rfl) (.nil) ?_
    refine td_q 14 42 (pm_of rfl rfl rfl (fun _ kq => tl_p (pr_fieldAddr Tryz.fo33_3 rfl) rfl kq)) rfl rfl rfl ?_
    refine td_e1 15 (by kernel_rfl) ?_
    refine te rfl ?_
    refine tl_st Tryz.sz3 rfl rfl (k := ?_)
    refine td_next (pd := []) (by kernel_rfl) (.nil) ?_
    refine td_done (by kernel_rfl) ?_
    refine tq_next ?_
    refine tc_seq ?_
    refine tc_seq ?_
    refine tc_region ?_
    refine tl_p (by first | exact pr_loadW Tryz.ag33 Tryz.sz33 rfl | exact pr_ldA Tryz.ag33 Tryz.sz33 rfl) rfl ?_
    refine tl_rdS ((f195_ct (insRaw g)).cast (by rw [hr]; rfl) rfl) (.cons rfl .nil) rfl (kk := ?_)
    refine tl_p (pr_not rfl) rfl ?_
    refine tl_next ?_
    refine tc_if rfl (fun hc3 => ?_) (fun hc3 => ?_)
    · have hd3 := hc3
      try simp only [Bool.not_eq_true', Bool.not_eq_false', Bool.or_eq_true, Bool.and_eq_true, Bool.or_eq_false_iff, Bool.and_eq_false_iff, decide_eq_true_eq, decide_eq_false_iff_not, Bool.not_true, Bool.not_false, gval, Bool.not_eq_eq_eq_not] at hc3
      refine tc_seq ?_
      refine tc_region ?_
      refine tl_p (Tryz.bl33_ ) rfl ?_
      refine tl_storeW Tryz.sz33 rfl rfl (k := ?_)
      refine tl_p (pr_assign rfl) rfl ?_
      refine tl_next ?_
      refine tc_ret (tq_then_ret ?_)
      exact tq_retG .ret (.inl rfl) () rfl (.cellA Tryz.ag33 Tryz.sz33 rfl (.tmp rfl .nil)) (by first | (unfold insGet; rw [if_neg (by simp_all)]; rfl) | (unfold insGet; rw [if_pos (by simp_all), hr]; rfl))
    · have hd3 := hc3
      try simp only [Bool.not_eq_true', Bool.not_eq_false', Bool.or_eq_true, Bool.and_eq_true, Bool.or_eq_false_iff, Bool.and_eq_false_iff, decide_eq_true_eq, decide_eq_false_iff_not, Bool.not_true, Bool.not_false, gval, Bool.not_eq_eq_eq_not] at hc3
      refine tc_skip (tq_next ?_)
      refine tc_seq ?_
      refine tc_region ?_
      refine tl_p (by first | exact pr_loadW Tryz.ag33 Tryz.sz33 rfl | exact pr_ldA Tryz.ag33 Tryz.sz33 rfl) rfl ?_
      refine tl_storeW Tryz.sz33 rfl rfl (k := ?_)
      refine tl_p (pr_assign rfl) rfl ?_
      refine tl_next ?_
      refine tc_ret ?_
      exact tq_retG .ret (.inl rfl) () rfl (.cellA Tryz.ag33 Tryz.sz33 rfl (.tmp rfl .nil)) (by first | (unfold insGet; rw [if_neg (by simp_all)]; rfl) | (unfold insGet; rw [if_pos (by simp_all), hr]; rfl))
  · have hd2 := hc2
    try simp only [Bool.not_eq_true', Bool.not_eq_false', Bool.or_eq_true, Bool.and_eq_true, Bool.or_eq_false_iff, Bool.and_eq_false_iff, decide_eq_true_eq, decide_eq_false_iff_not, Bool.not_true, Bool.not_false, gval, Bool.not_eq_eq_eq_not] at hc2
    have hr : insRaw g = ⟨wI (g.getD 0 0), wI (g.getD 1 0), wI (g.getD 2 0), wI (g.getD 3 0)⟩ := by unfold insRaw; rw [if_neg (by rw [hd2]; exact Bool.false_ne_true)]
    refine tc_skip (tq_next ?_)
    refine tc_seq ?_
    refine tc_seq ?_
    refine tc_region ?_
    refine tl_p (by first | exact pr_loadW Tryz.ag33 Tryz.sz33 rfl | exact pr_ldA Tryz.ag33 Tryz.sz33 rfl) rfl ?_
    refine tl_rdS ((f195_ct (insRaw g)).cast (by rw [hr]; rfl) rfl) (.cons rfl .nil) rfl (kk := ?_)
    refine tl_p (pr_not rfl) rfl ?_
    refine tl_next ?_
    refine tc_if rfl (fun hc4 => ?_) (fun hc4 => ?_)
    · have hd4 := hc4
      try simp only [Bool.not_eq_true', Bool.not_eq_false', Bool.or_eq_true, Bool.and_eq_true, Bool.or_eq_false_iff, Bool.and_eq_false_iff, decide_eq_true_eq, decide_eq_false_iff_not, Bool.not_true, Bool.not_false, gval, Bool.not_eq_eq_eq_not] at hc4
      refine tc_seq ?_
      refine tc_region ?_
      refine tl_p (Tryz.bl33_ ) rfl ?_
      refine tl_storeW Tryz.sz33 rfl rfl (k := ?_)
      refine tl_p (pr_assign rfl) rfl ?_
      refine tl_next ?_
      refine tc_ret (tq_then_ret ?_)
      exact tq_retG .ret (.inl rfl) () rfl (.cellA Tryz.ag33 Tryz.sz33 rfl (.tmp rfl .nil)) (by first | (unfold insGet; rw [if_neg (by simp_all)]; rfl) | (unfold insGet; rw [if_pos (by simp_all), hr]; rfl))
    · have hd4 := hc4
      try simp only [Bool.not_eq_true', Bool.not_eq_false', Bool.or_eq_true, Bool.and_eq_true, Bool.or_eq_false_iff, Bool.and_eq_false_iff, decide_eq_true_eq, decide_eq_false_iff_not, Bool.not_true, Bool.not_false, gval, Bool.not_eq_eq_eq_not] at hc4
      refine tc_skip (tq_next ?_)
      refine tc_seq ?_
      refine tc_region ?_
      refine tl_p (by first | exact pr_loadW Tryz.ag33 Tryz.sz33 rfl | exact pr_ldA Tryz.ag33 Tryz.sz33 rfl) rfl ?_
      refine tl_storeW Tryz.sz33 rfl rfl (k := ?_)
      refine tl_p (pr_assign rfl) rfl ?_
      refine tl_next ?_
      refine tc_ret ?_
      exact tq_retG .ret (.inl rfl) () rfl (.cellA Tryz.ag33 Tryz.sz33 rfl (.tmp rfl .nil)) (by first | (unfold insGet; rw [if_neg (by simp_all)]; rfl) | (unfold insGet; rw [if_pos (by simp_all), hr]; rfl))

end Go.Proofs

namespace Go.Proofs
open Go Go.Sz
attribute [local irreducible] pt lift exs own emp
theorem Tryz.ag34 : aggB Tryz.prog 34 = some false := by kernel_rfl
theorem Tryz.fo109_0 : fOff Tryz.prog 109 0 = some (0, 1, false) := by kernel_rfl
theorem Tryz.fo109_1 : fOff Tryz.prog 109 1 = some (1, 4, true) := by kernel_rfl
abbrev runO (tb : Nat) (x : Ins) (mb sb : Nat) (nx : Cap) : Obj := .cells (List.toArray [ad tb 0, .int .i64 x.op, .int .i64 x.a, .int .i64 x.b, .int .i64 x.c, ad mb 0, ad sb 0, .bool nx.tag, .int .i64 nx.base, .int .i64 nx.top, .int .i64 nx.pos, .int .i64 nx.perms, .int .i64 nx.typ]) 109 (0, 0)
def within (b : Bool) : Int := if b then 0 else 43
def wide (x : Ins) : Int := if x.op = 13 ∨ x.op = 14 then 4 else 1
def enters (a b : Cap) : Int :=
  if a.tag = false then 41 else if a.typ = 0 then 42 else if permHas a.perms 4 = false then 44 else if a.typ = 1 then 0 else if b.tag = false then 41 else if b.typ ≠ a.typ then 45 else if permHas b.perms 4 = true then 44 else 0

theorem f205_ct (r tb : Nat) (x : Ins) (mb sb : Nat) (nx : Cap) (pos : Cap) (rb fb : Nat) (regs : List Cap) (hl : regs.length = 8) : Rd Tryz.prog 205 #[ad r 0] ([(r, runO tb x mb sb nx), (tb, thrO pos rb fb)] ++ ra (.mem (fileS rb)) (capsL regs)) [] ((getR regs x.a).v) := by
  refine ct_intro Tryz.func205 rfl (by kernel_rfl) (n := 16) rfl rfl (E := [(0, ad r 0)]) rfl ?_
  intro κ hro
  obtain ⟨hr1, hr2⟩ := Reads.app hro
  have hq1 : κ.frame r = some (runO tb x mb sb nx) := hr1 _ (List.Mem.head _)
  have hq2 : κ.frame tb = some (thrO pos rb fb) := hr1 _ (List.Mem.tail _ (List.Mem.head _))
  refine tc_seq ?_
  refine tc_region ?_
  refine tl_alloc Tryz.z27 rfl (fun b2 => ?_)
  refine tl_next ?_
  refine tc_seq ?_
  refine tc_draw Tryz.mixed [0, 1, 2, 3, 4, 5, 6, 7, 8, 9, 10, 11, 12] (by kernel_rfl) ?_
  refine td_q 0 3 (pm_of rfl rfl rfl (fun _ kq => tl_p (pr_move rfl) rfl kq)) rfl rfl rfl ?_
  refine td_q 1 4 (pm_of rfl rfl rfl (fun _ kq => tl_p (pr_nilCheck rfl) rfl kq)) rfl rfl rfl ?_
  refine td_q 2 5 (pm_of rfl rfl rfl (fun _ kq => tl_p (pr_fieldAddr Tryz.fo109_0 rfl) rfl kq)) rfl rfl rfl ?_
  refine td_q 3 6 (pm_of rfl rfl rfl (fun _ kq => tl_p (pr_ld Tryz.ag34 rfl) rfl kq)) rfl rfl rfl ?_
  refine td_q 4 7 (pm_of rfl rfl rfl (fun _ kq => tl_p (pr_nilCheck rfl) rfl kq)) rfl rfl rfl ?_
  refine td_q 5 8 (pm_of rfl rfl rfl (fun _ kq => tl_p (pr_fieldAddr Tryz.fo100_1 rfl) rfl kq)) rfl rfl rfl ?_
  refine td_q 6 9 (pm_of rfl rfl rfl (fun _ kq => tl_p (pr_ld Tryz.ag39 rfl) rfl kq)) rfl rfl rfl ?_
  refine td_q 7 10 (pm_of rfl rfl rfl (fun _ kq => tl_p (pr_move rfl) rfl kq)) rfl rfl rfl ?_
  refine td_q 8 11 (pm_of rfl rfl rfl (fun _ kq => tl_p (pr_nilCheck rfl) rfl kq)) rfl rfl rfl ?_
  refine td_q 9 12 (pm_of rfl rfl rfl (fun _ kq => tl_p (pr_fieldAddr Tryz.fo109_1 rfl) rfl kq)) rfl rfl rfl ?_
  refine td_q 10 13 (pm_of rfl rfl rfl (fun _ kq => tl_p (pr_fieldAddr Tryz.fo33_1 rfl) rfl kq)) rfl rfl rfl ?_
  refine td_q 11 14 (pm_of rfl rfl rfl (fun _ kq => tl_p (pr_ld Tryz.ag3 rfl) rfl kq)) rfl rfl rfl ?_
  refine td_q 12 15 (pm_of rfl rfl rfl (fun _ kq => tl_rdS (f23_ct rb regs hl _) (.cons rfl (.cons rfl .nil)) rfl (kk := kq))) rfl rfl rfl ?_
  refine td_e1 13 (by kernel_rfl) ?_
  refine te rfl ?_
  refine tl_storeW Tryz.sz27 rfl rfl (k := ?_)
  refine td_next (pd := []) (by kernel_rfl) (.nil) ?_
  refine td_done (by kernel_rfl) ?_
  refine tq_next ?_
  refine tc_ret ?_
  exact tq_retG .ret (.inl rfl) () rfl (.cellA Tryz.ag27 Tryz.sz27 rfl .nil) rfl

theorem f127_ct (r tb : Nat) (x : Ins) (mb sb : Nat) (nx : Cap) (pos : Cap) (rb fb : Nat) (regs : List Cap) (hl : regs.length = 8) : Rd Tryz.prog 127 #[ad r 0] ([(r, runO tb x mb sb nx), (tb, thrO pos rb fb)] ++ ra (.mem (fileS rb)) (capsL regs)) [] ((getR regs x.b).v) := by
  refine ct_intro Tryz.func127 rfl (by kernel_rfl) (n := 16) rfl rfl (E := [(0, ad r 0)]) rfl ?_
  intro κ hro
  obtain ⟨hr1, hr2⟩ := Reads.app hro
  have hq1 : κ.frame r = some (runO tb x mb sb nx) := hr1 _ (List.Mem.head _)
  have hq2 : κ.frame tb = some (thrO pos rb fb) := hr1 _ (List.Mem.tail _ (List.Mem.head _))
  refine tc_seq ?_
  refine tc_region ?_
  refine tl_alloc Tryz.z27 rfl (fun b2 => ?_)
  refine tl_next ?_
  refine tc_seq ?_
  refine tc_draw Tryz.mixed [0, 1, 2, 3, 4, 5, 6, 7, 8, 9, 10, 11, 12] (by kernel_rfl) ?_
  refine td_q 0 3 (pm_of rfl rfl rfl (fun _ kq => tl_p (pr_move rfl) rfl kq)) rfl rfl rfl ?_
  refine td_q 1 4 (pm_of rfl rfl rfl (fun _ kq => tl_p (pr_nilCheck rfl) rfl kq)) rfl rfl rfl ?_
  refine td_q 2 5 (pm_of rfl rfl rfl (fun _ kq => tl_p (pr_fieldAddr Tryz.fo109_0 rfl) rfl kq)) rfl rfl rfl ?_
  refine td_q 3 6 (pm_of rfl rfl rfl (fun _ kq => tl_p (pr_ld Tryz.ag34 rfl) rfl kq)) rfl rfl rfl ?_
  refine td_q 4 7 (pm_of rfl rfl rfl (fun _ kq => tl_p (pr_nilCheck rfl) rfl kq)) rfl rfl rfl ?_
  refine td_q 5 8 (pm_of rfl rfl rfl (fun _ kq => tl_p (pr_fieldAddr Tryz.fo100_1 rfl) rfl kq)) rfl rfl rfl ?_
  refine td_q 6 9 (pm_of rfl rfl rfl (fun _ kq => tl_p (pr_ld Tryz.ag39 rfl) rfl kq)) rfl rfl rfl ?_
  refine td_q 7 10 (pm_of rfl rfl rfl (fun _ kq => tl_p (pr_move rfl) rfl kq)) rfl rfl rfl ?_
  refine td_q 8 11 (pm_of rfl rfl rfl (fun _ kq => tl_p (pr_nilCheck rfl) rfl kq)) rfl rfl rfl ?_
  refine td_q 9 12 (pm_of rfl rfl rfl (fun _ kq => tl_p (pr_fieldAddr Tryz.fo109_1 rfl) rfl kq)) rfl rfl rfl ?_
  refine td_q 10 13 (pm_of rfl rfl rfl (fun _ kq => tl_p (pr_fieldAddr Tryz.fo33_2 rfl) rfl kq)) rfl rfl rfl ?_
  refine td_q 11 14 (pm_of rfl rfl rfl (fun _ kq => tl_p (pr_ld Tryz.ag3 rfl) rfl kq)) rfl rfl rfl ?_
  refine td_q 12 15 (pm_of rfl rfl rfl (fun _ kq => tl_rdS (f23_ct rb regs hl _) (.cons rfl (.cons rfl .nil)) rfl (kk := kq))) rfl rfl rfl ?_
  refine td_e1 13 (by kernel_rfl) ?_
  refine te rfl ?_
  refine tl_storeW Tryz.sz27 rfl rfl (k := ?_)
  refine td_next (pd := []) (by kernel_rfl) (.nil) ?_
  refine td_done (by kernel_rfl) ?_
  refine tq_next ?_
  refine tc_ret ?_
  exact tq_retG .ret (.inl rfl) () rfl (.cellA Tryz.ag27 Tryz.sz27 rfl .nil) rfl

theorem f128_ct (r tb : Nat) (x : Ins) (mb sb : Nat) (nx : Cap) (pos : Cap) (rb fb : Nat) (regs : List Cap) (hl : regs.length = 8) : Rd Tryz.prog 128 #[ad r 0] ([(r, runO tb x mb sb nx), (tb, thrO pos rb fb)] ++ ra (.mem (fileS rb)) (capsL regs)) [] ((getR regs x.c).v) := by
  refine ct_intro Tryz.func128 rfl (by kernel_rfl) (n := 16) rfl rfl (E := [(0, ad r 0)]) rfl ?_
  intro κ hro
  obtain ⟨hr1, hr2⟩ := Reads.app hro
  have hq1 : κ.frame r = some (runO tb x mb sb nx) := hr1 _ (List.Mem.head _)
  have hq2 : κ.frame tb = some (thrO pos rb fb) := hr1 _ (List.Mem.tail _ (List.Mem.head _))
  refine tc_seq ?_
  refine tc_region ?_
  refine tl_alloc Tryz.z27 rfl (fun b2 => ?_)
  refine tl_next ?_
  refine tc_seq ?_
  refine tc_draw Tryz.mixed [0, 1, 2, 3, 4, 5, 6, 7, 8, 9, 10, 11, 12] (by kernel_rfl) ?_
  refine td_q 0 3 (pm_of rfl rfl rfl (fun _ kq => tl_p (pr_move rfl) rfl kq)) rfl rfl rfl ?_
  refine td_q 1 4 (pm_of rfl rfl rfl (fun _ kq => tl_p (pr_nilCheck rfl) rfl kq)) rfl rfl rfl ?_
  refine td_q 2 5 (pm_of rfl rfl rfl (fun _ kq => tl_p (pr_fieldAddr Tryz.fo109_0 rfl) rfl kq)) rfl rfl rfl ?_
  refine td_q 3 6 (pm_of rfl rfl rfl (fun _ kq => tl_p (pr_ld Tryz.ag34 rfl) rfl kq)) rfl rfl rfl ?_
  refine td_q 4 7 (pm_of rfl rfl rfl (fun _ kq => tl_p (pr_nilCheck rfl) rfl kq)) rfl rfl rfl ?_
  refine td_q 5 8 (pm_of rfl rfl rfl (fun _ kq => tl_p (pr_fieldAddr Tryz.fo100_1 rfl) rfl kq)) rfl rfl rfl ?_
  refine td_q 6 9 (pm_of rfl rfl rfl (fun _ kq => tl_p (pr_ld Tryz.ag39 rfl) rfl kq)) rfl rfl rfl ?_
  refine td_q 7 10 (pm_of rfl rfl rfl (fun _ kq => tl_p (pr_move rfl) rfl kq)) rfl rfl rfl ?_
  refine td_q 8 11 (pm_of rfl rfl rfl (fun _ kq => tl_p (pr_nilCheck rfl) rfl kq)) rfl rfl rfl ?_
  refine td_q 9 12 (pm_of rfl rfl rfl (fun _ kq => tl_p (pr_fieldAddr Tryz.fo109_1 rfl) rfl kq)) rfl rfl rfl ?_
  refine td_q 10 13 (pm_of rfl rfl rfl (fun _ kq => tl_p (pr_fieldAddr Tryz.fo33_3 rfl) rfl kq)) rfl rfl rfl ?_
  refine td_q 11 14 (pm_of rfl rfl rfl (fun _ kq => tl_p (pr_ld Tryz.ag3 rfl) rfl kq)) rfl rfl rfl ?_
  refine td_q 12 15 (pm_of rfl rfl rfl (fun _ kq => tl_rdS (f23_ct rb regs hl _) (.cons rfl (.cons rfl .nil)) rfl (kk := kq))) rfl rfl rfl ?_
  refine td_e1 13 (by kernel_rfl) ?_
  refine te rfl ?_
  refine tl_storeW Tryz.sz27 rfl rfl (k := ?_)
  refine td_next (pd := []) (by kernel_rfl) (.nil) ?_
  refine td_done (by kernel_rfl) ?_
  refine tq_next ?_
  refine tc_ret ?_
  exact tq_retG .ret (.inl rfl) () rfl (.cellA Tryz.ag27 Tryz.sz27 rfl .nil) rfl

theorem f204_ct (b : Bool) : Rd Tryz.prog 204 #[.bool b] [] [] (.int .i64 (within b)) := by
  refine ct_intro Tryz.func204 rfl (by kernel_rfl) (n := 4) rfl rfl (E := [(0, .bool b)]) rfl ?_
  intro κ hro
  refine tc_seq ?_
  refine tc_region ?_
  refine tl_p (pr_assign rfl) rfl ?_
  refine tl_next ?_
  refine tc_seq ?_
  refine tc_seq ?_
  refine tc_region ?_
  refine tl_p (pr_move rfl) rfl ?_
  refine tl_next ?_
  refine tc_if rfl (fun hc1 => ?_) (fun hc1 => ?_)
  · have hd1 := hc1
    try simp only [Bool.not_eq_true', Bool.not_eq_false', Bool.or_eq_true, Bool.and_eq_true, Bool.or_eq_false_iff, Bool.and_eq_false_iff, decide_eq_true_eq, decide_eq_false_iff_not, Bool.not_true, Bool.not_false, gval, Bool.not_eq_eq_eq_not] at hc1
    refine tc_seq ?_
    refine tc_region ?_
    refine tl_p (pr_assign rfl) rfl ?_
    refine tl_next ?_
    refine tc_ret (tq_then_ret ?_)
    exact tq_retE1 .ret (.inl rfl) () rfl rfl (by first | rfl | (subst_vars; rfl) | (simp [within, *, cells_agg, resV, Cap.v]; done) | (simp [within, *, cells_agg, resV, Cap.v]; omega) | (unfold within; split <;> first | rfl | (exfalso; simp_all; done) | (exfalso; simp_all [wI]; first | done | omega)))
  · have hd1 := hc1
    try simp only [Bool.not_eq_true', Bool.not_eq_false', Bool.or_eq_true, Bool.and_eq_true, Bool.or_eq_false_iff, Bool.and_eq_false_iff, decide_eq_true_eq, decide_eq_false_iff_not, Bool.not_true, Bool.not_false, gval, Bool.not_eq_eq_eq_not] at hc1
    refine tc_skip (tq_next ?_)
    refine tc_seq ?_
    refine tc_region ?_
    refine tl_p (pr_assign rfl) rfl ?_
    refine tl_next ?_
    refine tc_ret ?_
    exact tq_retE1 .ret (.inl rfl) () rfl rfl (by first | rfl | (subst_vars; rfl) | (simp [within, *, cells_agg, resV, Cap.v]; done) | (simp [within, *, cells_agg, resV, Cap.v]; omega) | (unfold within; split <;> first | rfl | (exfalso; simp_all; done) | (exfalso; simp_all [wI]; first | done | omega)))

theorem f207_ct (r tb : Nat) (x : Ins) (mb sb : Nat) (nx : Cap) : Rd Tryz.prog 207 #[ad r 0] [(r, runO tb x mb sb nx)] [] (.int .i64 (wide x)) := by
  refine ct_intro Tryz.func207 rfl (by kernel_rfl) (n := 17) rfl rfl (E := [(0, ad r 0)]) rfl ?_
  intro κ hro
  have hq1 : κ.frame r = some (runO tb x mb sb nx) := hro _ (List.Mem.head _)
  refine tc_seq ?_
  refine tc_region ?_
  refine tl_p (pr_assign rfl) rfl ?_
  refine tl_next ?_
  refine tc_seq ?_
  refine tc_seq ?_
  refine tc_region ?_
  refine tl_p (pr_move rfl) rfl ?_
  refine tl_p (pr_nilCheck rfl) rfl ?_
  refine tl_p (pr_fieldAddr Tryz.fo109_1 rfl) rfl ?_
  refine tl_p (pr_fieldAddr Tryz.fo33_0 rfl) rfl ?_
  refine tl_p (pr_ld Tryz.ag3 rfl) rfl ?_
  refine tl_p (pr_eql rfl rfl) rfl ?_
  refine tl_p (pr_move rfl) rfl ?_
  refine tl_gf rfl rfl (fun h => pr_move rfl) (by intro _ h; cases h) rfl ?_
  refine tl_gf rfl rfl (fun h => pr_nilCheck (gv rfl h)) (by intro _ h; cases h) rfl ?_
  refine tl_gf rfl rfl (fun h => pr_fieldAddr Tryz.fo109_1 (gv rfl h)) (by intro _ h; cases h) rfl ?_
  refine tl_gf rfl rfl (fun h => pr_fieldAddr Tryz.fo33_0 (gv rfl h)) (by intro _ h; cases h) rfl ?_
  refine tl_gf rfl rfl (fun h => pr_ld Tryz.ag3 (gv rfl h)) (by intro _ h; cases h) rfl ?_
  refine tl_gf rfl rfl (fun h => pr_eql (gv rfl h) rfl) (by intro _ h; cases h) rfl ?_
  refine tl_p (pr_or rfl rfl rfl) rfl ?_
  refine tl_next ?_
  refine tc_if rfl (fun hc1 => ?_) (fun hc1 => ?_)
  · have hd1 := hc1
    try simp only [Bool.not_eq_true', Bool.not_eq_false', Bool.or_eq_true, Bool.and_eq_true, Bool.or_eq_false_iff, Bool.and_eq_false_iff, decide_eq_true_eq, decide_eq_false_iff_not, Bool.not_true, Bool.not_false, gval, Bool.not_eq_eq_eq_not] at hc1
    refine tc_seq ?_
    refine tc_region ?_
    refine tl_p (pr_assign rfl) rfl ?_
    refine tl_next ?_
    refine tc_ret (tq_then_ret ?_)
    exact tq_retE1 .ret (.inl rfl) () rfl rfl (by first | rfl | (subst_vars; rfl) | (simp [wide, *, cells_agg, resV, Cap.v]; done) | (simp [wide, *, cells_agg, resV, Cap.v]; omega) | (unfold wide; split <;> first | rfl | (exfalso; simp_all; done) | (exfalso; simp_all [wI]; first | done | omega)))
  · have hd1 := hc1
    try simp only [Bool.not_eq_true', Bool.not_eq_false', Bool.or_eq_true, Bool.and_eq_true, Bool.or_eq_false_iff, Bool.and_eq_false_iff, decide_eq_true_eq, decide_eq_false_iff_not, Bool.not_true, Bool.not_false, gval, Bool.not_eq_eq_eq_not] at hc1
    refine tc_skip (tq_next ?_)
    refine tc_seq ?_
    refine tc_region ?_
    refine tl_p (pr_assign rfl) rfl ?_
    refine tl_next ?_
    refine tc_ret ?_
    exact tq_retE1 .ret (.inl rfl) () rfl rfl (by first | rfl | (subst_vars; rfl) | (simp [wide, *, cells_agg, resV, Cap.v]; done) | (simp [wide, *, cells_agg, resV, Cap.v]; omega) | (unfold wide; split <;> first | rfl | (exfalso; simp_all; done) | (exfalso; simp_all [wI]; first | done | omega)))

theorem f219_ct (a b : Cap) : Rd Tryz.prog 219 #[a.v, b.v] [] [] (.int .i64 (enters a b)) := by
  refine ct_intro Tryz.func219 rfl (by kernel_rfl) (n := 36) rfl rfl (E := [(0, a.v), (1, b.v)]) rfl ?_
  intro κ hro
  refine tc_seq ?_
  refine tc_region ?_
  refine tl_box rfl rfl (fun b2 => ?_)
  refine tl_box rfl rfl (fun b3 => ?_)
  refine tl_p (pr_assign rfl) rfl ?_
  refine tl_next ?_
  refine tc_seq ?_
  refine tc_block ?_
  refine tc_seq ?_
  refine tc_region ?_
  refine tl_p (pr_fieldAddr Tryz.fo27_0 rfl) rfl ?_
  refine tl_p (pr_ld Tryz.ag4 rfl) rfl ?_
  refine tl_p (pr_not rfl) rfl ?_
  refine tl_p (pr_assign rfl) rfl ?_
  refine tl_next ?_
  refine tc_if rfl (fun hc1 => ?_) (fun hc1 => ?_)
  · have hd1 := hc1
    try simp only [Bool.not_eq_true', Bool.not_eq_false', Bool.or_eq_true, Bool.and_eq_true, Bool.or_eq_false_iff, Bool.and_eq_false_iff, decide_eq_true_eq, decide_eq_false_iff_not, Bool.not_true, Bool.not_false, gval, Bool.not_eq_eq_eq_not] at hc1
    refine tc_seq ?_
    refine tc_region ?_
    refine tl_p (pr_assign rfl) rfl ?_
    refine tl_next ?_
    refine tc_ret (tq_blk_ret (tq_then_ret ?_))
    exact tq_retE1 .ret (.inl rfl) () rfl rfl (by first | rfl | (subst_vars; rfl) | (simp [enters, *, cells_agg, resV, Cap.v]; done) | (simp [enters, *, cells_agg, resV, Cap.v]; omega) | (unfold enters; split <;> first | rfl | (exfalso; simp_all; done) | (exfalso; simp_all [wI]; first | done | omega)))
  · have hd1 := hc1
    try simp only [Bool.not_eq_true', Bool.not_eq_false', Bool.or_eq_true, Bool.and_eq_true, Bool.or_eq_false_iff, Bool.and_eq_false_iff, decide_eq_true_eq, decide_eq_false_iff_not, Bool.not_true, Bool.not_false, gval, Bool.not_eq_eq_eq_not] at hc1
    refine tc_seq ?_
    refine tc_region ?_
    refine tl_p (pr_fieldAddr Tryz.fo27_5 rfl) rfl ?_
    refine tl_p (pr_ld Tryz.ag3 rfl) rfl ?_
    refine tl_p (pr_eql rfl rfl) rfl ?_
    refine tl_p (pr_assign rfl) rfl ?_
    refine tl_next ?_
    refine tc_if rfl (fun hc2 => ?_) (fun hc2 => ?_)
    · have hd2 := hc2
      try simp only [Bool.not_eq_true', Bool.not_eq_false', Bool.or_eq_true, Bool.and_eq_true, Bool.or_eq_false_iff, Bool.and_eq_false_iff, decide_eq_true_eq, decide_eq_false_iff_not, Bool.not_true, Bool.not_false, gval, Bool.not_eq_eq_eq_not] at hc2
      refine tc_seq ?_
      refine tc_region ?_
      refine tl_p (pr_assign rfl) rfl ?_
      refine tl_next ?_
      refine tc_ret (tq_blk_ret (tq_then_ret ?_))
      exact tq_retE1 .ret (.inl rfl) () rfl rfl (by first | rfl | (subst_vars; rfl) | (simp [enters, *, cells_agg, resV, Cap.v]; done) | (simp [enters, *, cells_agg, resV, Cap.v]; omega) | (unfold enters; split <;> first | rfl | (exfalso; simp_all; done) | (exfalso; simp_all [wI]; first | done | omega)))
    · have hd2 := hc2
      try simp only [Bool.not_eq_true', Bool.not_eq_false', Bool.or_eq_true, Bool.and_eq_true, Bool.or_eq_false_iff, Bool.and_eq_false_iff, decide_eq_true_eq, decide_eq_false_iff_not, Bool.not_true, Bool.not_false, gval, Bool.not_eq_eq_eq_not] at hc2
      refine tc_seq ?_
      refine tc_region ?_
      refine tl_p (pr_fieldAddr Tryz.fo27_4 rfl) rfl ?_
      refine tl_p (pr_ld Tryz.ag3 rfl) rfl ?_
      refine tl_rdS (f110_ct _ _) (.cons rfl (.cons rfl .nil)) rfl (kk := ?_)
      refine tl_p (pr_not rfl) rfl ?_
      refine tl_p (pr_assign rfl) rfl ?_
      refine tl_next ?_
      refine tc_if rfl (fun hc3 => ?_) (fun hc3 => ?_)
      · have hd3 := hc3
        try simp only [Bool.not_eq_true', Bool.not_eq_false', Bool.or_eq_true, Bool.and_eq_true, Bool.or_eq_false_iff, Bool.and_eq_false_iff, decide_eq_true_eq, decide_eq_false_iff_not, Bool.not_true, Bool.not_false, gval, Bool.not_eq_eq_eq_not] at hc3
        refine tc_seq ?_
        refine tc_region ?_
        refine tl_p (pr_assign rfl) rfl ?_
        refine tl_next ?_
        refine tc_ret (tq_blk_ret (tq_then_ret ?_))
        exact tq_retE1 .ret (.inl rfl) () rfl rfl (by first | rfl | (subst_vars; rfl) | (simp [enters, *, cells_agg, resV, Cap.v]; done) | (simp [enters, *, cells_agg, resV, Cap.v]; omega) | (unfold enters; split <;> first | rfl | (exfalso; simp_all; done) | (exfalso; simp_all [wI]; first | done | omega)))
      · have hd3 := hc3
        try simp only [Bool.not_eq_true', Bool.not_eq_false', Bool.or_eq_true, Bool.and_eq_true, Bool.or_eq_false_iff, Bool.and_eq_false_iff, decide_eq_true_eq, decide_eq_false_iff_not, Bool.not_true, Bool.not_false, gval, Bool.not_eq_eq_eq_not] at hc3
        refine tc_seq ?_
        refine tc_region ?_
        refine tl_p (pr_fieldAddr Tryz.fo27_5 rfl) rfl ?_
        refine tl_p (pr_ld Tryz.ag3 rfl) rfl ?_
        refine tl_p (pr_eql rfl rfl) rfl ?_
        refine tl_p (pr_assign rfl) rfl ?_
        refine tl_next ?_
        refine tc_if rfl (fun hc4 => ?_) (fun hc4 => ?_)
        · have hd4 := hc4
          try simp only [Bool.not_eq_true', Bool.not_eq_false', Bool.or_eq_true, Bool.and_eq_true, Bool.or_eq_false_iff, Bool.and_eq_false_iff, decide_eq_true_eq, decide_eq_false_iff_not, Bool.not_true, Bool.not_false, gval, Bool.not_eq_eq_eq_not] at hc4
          refine tc_seq ?_
          refine tc_region ?_
          refine tl_p (pr_assign rfl) rfl ?_
          refine tl_next ?_
          refine tc_ret (tq_blk_ret (tq_then_ret ?_))
          exact tq_retE1 .ret (.inl rfl) () rfl rfl (by first | rfl | (subst_vars; rfl) | (simp [enters, *, cells_agg, resV, Cap.v]; done) | (simp [enters, *, cells_agg, resV, Cap.v]; omega) | (unfold enters; split <;> first | rfl | (exfalso; simp_all; done) | (exfalso; simp_all [wI]; first | done | omega)))
        · have hd4 := hc4
          try simp only [Bool.not_eq_true', Bool.not_eq_false', Bool.or_eq_true, Bool.and_eq_true, Bool.or_eq_false_iff, Bool.and_eq_false_iff, decide_eq_true_eq, decide_eq_false_iff_not, Bool.not_true, Bool.not_false, gval, Bool.not_eq_eq_eq_not] at hc4
          refine tc_seq ?_
          refine tc_region ?_
          refine tl_p (pr_fieldAddr Tryz.fo27_0 rfl) rfl ?_
          refine tl_p (pr_ld Tryz.ag4 rfl) rfl ?_
          refine tl_p (pr_not rfl) rfl ?_
          refine tl_p (pr_assign rfl) rfl ?_
          refine tl_next ?_
          refine tc_if rfl (fun hc5 => ?_) (fun hc5 => ?_)
          · have hd5 := hc5
            try simp only [Bool.not_eq_true', Bool.not_eq_false', Bool.or_eq_true, Bool.and_eq_true, Bool.or_eq_false_iff, Bool.and_eq_false_iff, decide_eq_true_eq, decide_eq_false_iff_not, Bool.not_true, Bool.not_false, gval, Bool.not_eq_eq_eq_not] at hc5
            refine tc_seq ?_
            refine tc_region ?_
            refine tl_p (pr_assign rfl) rfl ?_
            refine tl_next ?_
            refine tc_ret (tq_blk_ret (tq_then_ret ?_))
            exact tq_retE1 .ret (.inl rfl) () rfl rfl (by first | rfl | (subst_vars; rfl) | (simp [enters, *, cells_agg, resV, Cap.v]; done) | (simp [enters, *, cells_agg, resV, Cap.v]; omega) | (unfold enters; split <;> first | rfl | (exfalso; simp_all; done) | (exfalso; simp_all [wI]; first | done | omega)))
          · have hd5 := hc5
            try simp only [Bool.not_eq_true', Bool.not_eq_false', Bool.or_eq_true, Bool.and_eq_true, Bool.or_eq_false_iff, Bool.and_eq_false_iff, decide_eq_true_eq, decide_eq_false_iff_not, Bool.not_true, Bool.not_false, gval, Bool.not_eq_eq_eq_not] at hc5
            refine tc_seq ?_
            refine tc_region ?_
            refine tl_p (pr_fieldAddr Tryz.fo27_5 rfl) rfl ?_
            refine tl_p (pr_ld Tryz.ag3 rfl) rfl ?_
            refine tl_p (pr_fieldAddr Tryz.fo27_5 rfl) rfl ?_
            refine tl_p (pr_ld Tryz.ag3 rfl) rfl ?_
            refine tl_p (pr_neq rfl rfl) rfl ?_
            refine tl_p (pr_assign rfl) rfl ?_
            refine tl_next ?_
            refine tc_if rfl (fun hc6 => ?_) (fun hc6 => ?_)
            · have hd6 := hc6
              try simp only [Bool.not_eq_true', Bool.not_eq_false', Bool.or_eq_true, Bool.and_eq_true, Bool.or_eq_false_iff, Bool.and_eq_false_iff, decide_eq_true_eq, decide_eq_false_iff_not, Bool.not_true, Bool.not_false, gval, Bool.not_eq_eq_eq_not] at hc6
              refine tc_seq ?_
              refine tc_region ?_
              refine tl_p (pr_assign rfl) rfl ?_
              refine tl_next ?_
              refine tc_ret (tq_blk_ret (tq_then_ret ?_))
              exact tq_retE1 .ret (.inl rfl) () rfl rfl (by first | rfl | (subst_vars; rfl) | (simp [enters, *, cells_agg, resV, Cap.v]; done) | (simp [enters, *, cells_agg, resV, Cap.v]; omega) | (unfold enters; split <;> first | rfl | (exfalso; simp_all; done) | (exfalso; simp_all [wI]; first | done | omega)))
            · have hd6 := hc6
              try simp only [Bool.not_eq_true', Bool.not_eq_false', Bool.or_eq_true, Bool.and_eq_true, Bool.or_eq_false_iff, Bool.and_eq_false_iff, decide_eq_true_eq, decide_eq_false_iff_not, Bool.not_true, Bool.not_false, gval, Bool.not_eq_eq_eq_not] at hc6
              refine tc_seq ?_
              refine tc_region ?_
              refine tl_p (pr_fieldAddr Tryz.fo27_4 rfl) rfl ?_
              refine tl_p (pr_ld Tryz.ag3 rfl) rfl ?_
              refine tl_rdS (f110_ct _ _) (.cons rfl (.cons rfl .nil)) rfl (kk := ?_)
              refine tl_p (pr_assign rfl) rfl ?_
              refine tl_next ?_
              refine tc_if rfl (fun hc7 => ?_) (fun hc7 => ?_)
              · have hd7 := hc7
                try simp only [Bool.not_eq_true', Bool.not_eq_false', Bool.or_eq_true, Bool.and_eq_true, Bool.or_eq_false_iff, Bool.and_eq_false_iff, decide_eq_true_eq, decide_eq_false_iff_not, Bool.not_true, Bool.not_false, gval, Bool.not_eq_eq_eq_not] at hc7
                refine tc_seq ?_
                refine tc_region ?_
                refine tl_p (pr_assign rfl) rfl ?_
                refine tl_next ?_
                refine tc_ret (tq_blk_ret (tq_then_ret ?_))
                exact tq_retE1 .ret (.inl rfl) () rfl rfl (by first | rfl | (subst_vars; rfl) | (simp [enters, *, cells_agg, resV, Cap.v]; done) | (simp [enters, *, cells_agg, resV, Cap.v]; omega) | (unfold enters; split <;> first | rfl | (exfalso; simp_all; done) | (exfalso; simp_all [wI]; first | done | omega)))
              · have hd7 := hc7
                try simp only [Bool.not_eq_true', Bool.not_eq_false', Bool.or_eq_true, Bool.and_eq_true, Bool.or_eq_false_iff, Bool.and_eq_false_iff, decide_eq_true_eq, decide_eq_false_iff_not, Bool.not_true, Bool.not_false, gval, Bool.not_eq_eq_eq_not] at hc7
                refine tc_skip (tq_blk_normal (tq_next ?_))
                refine tc_seq ?_
                refine tc_region ?_
                refine tl_p (pr_assign rfl) rfl ?_
                refine tl_next ?_
                refine tc_ret ?_
                exact tq_retE1 .ret (.inl rfl) () rfl rfl (by first | rfl | (subst_vars; rfl) | (simp [enters, *, cells_agg, resV, Cap.v]; done) | (simp [enters, *, cells_agg, resV, Cap.v]; omega) | (unfold enters; split <;> first | rfl | (exfalso; simp_all; done) | (exfalso; simp_all [wI]; first | done | omega)))

end Go.Proofs

namespace Go.Proofs
open Go Go.Sz
attribute [local irreducible] pt lift exs own emp

def setE (regs : List Cap) (r : Int) (c : Cap) (e : Int) : List Cap := if e = 0 then setR regs r c else regs
theorem setE_len (regs : List Cap) (r : Int) (c : Cap) (e : Int) : (setE regs r c e).length = regs.length := by
  unfold setE; split
  · exact setR_len _ _ _
  · rfl

theorem f203_ct (r tb : Nat) (x : Ins) (mb sb : Nat) (nx : Cap) (pos : Cap) (rb fb : Nat) (regs : List Cap) (hl : regs.length = 8) (c : Cap) (e : Int) : Ct Tryz.prog 203 #[ad r 0, c.v, .int .i64 e] [(r, runO tb x mb sb nx), (tb, thrO pos rb fb)] [fileA rb regs] (fun _ : Unit => .int .i64 e) (fun _ N => fileA rb (setE regs x.a c e) :: N) := by
  refine ct_intro Tryz.func203 rfl (by kernel_rfl) (n := 24) rfl rfl (E := [(0, ad r 0), (1, c.v), (2, .int .i64 e)]) rfl ?_
  intro κ hro
  have hq1 : κ.frame r = some (runO tb x mb sb nx) := hro _ (List.Mem.head _)
  have hq2 : κ.frame tb = some (thrO pos rb fb) := hro _ (List.Mem.tail _ (List.Mem.head _))
  refine tc_seq ?_
  refine tc_region ?_
  refine tl_box rfl rfl (fun b4 => ?_)
  refine tl_p (pr_assign rfl) rfl ?_
  refine tl_next ?_
  refine tc_seq ?_
  refine tc_seq ?_
  refine tc_region ?_
  refine tl_p (pr_move rfl) rfl ?_
  refine tl_p (pr_eql rfl rfl) rfl ?_
  refine tl_next ?_
  refine tc_if rfl (fun hc1 => ?_) (fun hc1 => ?_)
  · have hd1 := hc1
    try simp only [Bool.not_eq_true', Bool.not_eq_false', Bool.or_eq_true, Bool.and_eq_true, Bool.or_eq_false_iff, Bool.and_eq_false_iff, decide_eq_true_eq, decide_eq_false_iff_not, Bool.not_true, Bool.not_false, gval, Bool.not_eq_eq_eq_not] at hc1
    refine tc_draw Tryz.mixed [0, 1, 2, 3, 4, 5, 6, 7, 8, 9, 10, 11, 12] (by kernel_rfl) ?_
    refine td_q 0 9 (pm_of rfl rfl rfl (fun _ kq => tl_p (pr_move rfl) rfl kq)) rfl rfl rfl ?_
    refine td_q 1 10 (pm_of rfl rfl rfl (fun _ kq => tl_p (pr_nilCheck rfl) rfl kq)) rfl rfl rfl ?_
    refine td_q 2 11 (pm_of rfl rfl rfl (fun _ kq => tl_p (pr_fieldAddr Tryz.fo109_0 rfl) rfl kq)) rfl rfl rfl ?_
    refine td_q 3 12 (pm_of rfl rfl rfl (fun _ kq => tl_p (pr_ld Tryz.ag34 rfl) rfl kq)) rfl rfl rfl ?_
    refine td_q 4 13 (pm_of rfl rfl rfl (fun _ kq => tl_p (pr_nilCheck rfl) rfl kq)) rfl rfl rfl ?_
    refine td_q 5 14 (pm_of rfl rfl rfl (fun _ kq => tl_p (pr_fieldAddr Tryz.fo100_1 rfl) rfl kq)) rfl rfl rfl ?_
    refine td_q 6 15 (pm_of rfl rfl rfl (fun _ kq => tl_p (pr_ld Tryz.ag39 rfl) rfl kq)) rfl rfl rfl ?_
    refine td_q 7 16 (pm_of rfl rfl rfl (fun _ kq => tl_p (pr_move rfl) rfl kq)) rfl rfl rfl ?_
    refine td_q 8 17 (pm_of rfl rfl rfl (fun _ kq => tl_p (pr_nilCheck rfl) rfl kq)) rfl rfl rfl ?_
    refine td_q 9 18 (pm_of rfl rfl rfl (fun _ kq => tl_p (pr_fieldAddr Tryz.fo109_1 rfl) rfl kq)) rfl rfl rfl ?_
    refine td_q 10 19 (pm_of rfl rfl rfl (fun _ kq => tl_p (pr_fieldAddr Tryz.fo33_1 rfl) rfl kq)) rfl rfl rfl ?_
    refine td_q 11 20 (pm_of rfl rfl rfl (fun _ kq => tl_p (pr_ld Tryz.ag3 rfl) rfl kq)) rfl rfl rfl ?_
    refine td_q 12 21 (pm_of rfl rfl rfl (fun _ kq => tl_p (by first | exact pr_loadW Tryz.ag27 Tryz.sz27 rfl | exact pr_ldA Tryz.ag27 Tryz.sz27 rfl) rfl kq)) rfl rfl rfl ?_
    refine td_e1 13 (by kernel_rfl) ?_
    refine te rfl ?_
    refine tl_callS (f16_ct rb regs hl x.a c) (.cons rfl (.cons rfl (.cons rfl .nil))) rfl (kk := fun _ => ?_)
    refine td_next (pd := []) (by kernel_rfl) (.nil) ?_
    refine td_done (by kernel_rfl) ?_
    refine tq_next ?_
    refine tc_seq ?_
    refine tc_region ?_
    refine tl_p (pr_move rfl) rfl ?_
    refine tl_p (pr_assign rfl) rfl ?_
    refine tl_next ?_
    refine tc_ret ?_
    rw [show setR regs x.a c = setE regs x.a c e from by unfold setE; rw [if_pos (by simpa using hd1)]]
    exact tq_ret1 .ret (.inl rfl) () rfl rfl
  · have hd1 := hc1
    try simp only [Bool.not_eq_true', Bool.not_eq_false', Bool.or_eq_true, Bool.and_eq_true, Bool.or_eq_false_iff, Bool.and_eq_false_iff, decide_eq_true_eq, decide_eq_false_iff_not, Bool.not_true, Bool.not_false, gval, Bool.not_eq_eq_eq_not] at hc1
    refine tc_skip (tq_next ?_)
    refine tc_seq ?_
    refine tc_region ?_
    refine tl_p (pr_move rfl) rfl ?_
    refine tl_p (pr_assign rfl) rfl ?_
    refine tl_next ?_
    refine tc_ret ?_
    have e2 : setE regs x.a c e = regs := by unfold setE; rw [if_neg (by simpa using hd1)]
    exact tq_retE1 .ret (.inl rfl) () rfl rfl rfl (by rw [e2]; repeat (first | exact Pick.nil | exact Rem.here | apply Rem.there | apply Pick.cons))

theorem f125_ct (r tb : Nat) (x : Ins) (mb sb : Nat) (nx : Cap) (pos : Cap) (rb fb : Nat) (regs : List Cap) (hl : regs.length = 8) (n e : Int) : Ct Tryz.prog 125 #[ad r 0, .int .i64 n, .int .i64 e] [(r, runO tb x mb sb nx), (tb, thrO pos rb fb)] [fileA rb regs] (fun _ : Unit => .int .i64 e) (fun _ N => fileA rb (setE regs x.a (intC n) e) :: N) := by
  refine ct_intro Tryz.func125 rfl (by kernel_rfl) (n := 12) rfl rfl (E := [(0, ad r 0), (1, .int .i64 n), (2, .int .i64 e)]) rfl ?_
  intro κ hro
  have hq1 : κ.frame r = some (runO tb x mb sb nx) := hro _ (List.Mem.head _)
  have hq2 : κ.frame tb = some (thrO pos rb fb) := hro _ (List.Mem.tail _ (List.Mem.head _))
  refine tc_seq ?_
  refine tc_region ?_
  refine tl_p (pr_assign rfl) rfl ?_
  refine tl_next ?_
  refine tc_seq ?_
  refine tc_region ?_
  refine tl_p (pr_move rfl) rfl ?_
  refine tl_p (pr_move rfl) rfl ?_
  refine tl_rdS (f149_ct _) (.cons rfl .nil) rfl (kk := ?_)
  refine tl_p (pr_move rfl) rfl ?_
  refine tl_callS (f203_ct r tb x mb sb nx pos rb fb regs hl (intC n) e) (.cons rfl (.cons rfl (.cons rfl .nil))) rfl (kk := fun _ => ?_)
  refine tl_p (pr_assign rfl) rfl ?_
  refine tl_next ?_
  refine tc_ret ?_
  exact tq_ret1 .ret (.inl rfl) () rfl rfl

theorem f129_ct (r tb : Nat) (x : Ins) (mb sb : Nat) (nx : Cap) (pos : Cap) (rb fb : Nat) (regs : List Cap) (hl : regs.length = 8) : Ct Tryz.prog 129 #[ad r 0] [(r, runO tb x mb sb nx), (tb, thrO pos rb fb)] [fileA rb regs] (fun _ : Unit => .int .i64 (0)) (fun _ N => fileA rb (setE regs x.a (intC x.b) (0)) :: N) := by
  refine ct_intro Tryz.func129 rfl (by kernel_rfl) (n := 10) rfl rfl (E := [(0, ad r 0)]) rfl ?_
  intro κ hro
  have hq1 : κ.frame r = some (runO tb x mb sb nx) := hro _ (List.Mem.head _)
  have hq2 : κ.frame tb = some (thrO pos rb fb) := hro _ (List.Mem.tail _ (List.Mem.head _))
  refine tc_seq ?_
  refine tc_region ?_
  refine tl_p (pr_assign rfl) rfl ?_
  refine tl_next ?_
  refine tc_seq ?_
  refine tc_region ?_
  refine tl_p (pr_move rfl) rfl ?_
  refine tl_p (pr_move rfl) rfl ?_
  refine tl_p (pr_nilCheck rfl) rfl ?_
  refine tl_p (pr_fieldAddr Tryz.fo109_1 rfl) rfl ?_
  refine tl_p (pr_fieldAddr Tryz.fo33_2 rfl) rfl ?_
  refine tl_p (pr_ld Tryz.ag3 rfl) rfl ?_
  refine tl_callS (f125_ct r tb x mb sb nx pos rb fb regs hl (x.b) (0)) (.cons rfl (.cons rfl (.cons rfl .nil))) rfl (kk := fun _ => ?_)
  refine tl_p (pr_assign rfl) rfl ?_
  refine tl_next ?_
  refine tc_ret ?_
  exact tq_ret1 .ret (.inl rfl) () rfl rfl

theorem f130_ct (r tb : Nat) (x : Ins) (mb sb : Nat) (nx : Cap) (pos : Cap) (rb fb : Nat) (regs : List Cap) (hl : regs.length = 8) : Ct Tryz.prog 130 #[ad r 0] [(r, runO tb x mb sb nx), (tb, thrO pos rb fb)] [fileA rb regs] (fun _ : Unit => .int .i64 (0)) (fun _ N => fileA rb (setE regs x.a (getR regs x.b) (0)) :: N) := by
  refine ct_intro Tryz.func130 rfl (by kernel_rfl) (n := 7) rfl rfl (E := [(0, ad r 0)]) rfl ?_
  intro κ hro
  have hq1 : κ.frame r = some (runO tb x mb sb nx) := hro _ (List.Mem.head _)
  have hq2 : κ.frame tb = some (thrO pos rb fb) := hro _ (List.Mem.tail _ (List.Mem.head _))
  refine tc_seq ?_
  refine tc_region ?_
  refine tl_p (pr_assign rfl) rfl ?_
  refine tl_next ?_
  refine tc_seq ?_
  refine tc_region ?_
  refine tl_p (pr_move rfl) rfl ?_
  refine tl_p (pr_move rfl) rfl ?_
  refine tl_rdS (f127_ct r tb x mb sb nx pos rb fb regs hl) (.cons rfl .nil) rfl (kk := ?_)
  refine tl_callS (f203_ct r tb x mb sb nx pos rb fb regs hl (getR regs x.b) (0)) (.cons rfl (.cons rfl (.cons rfl .nil))) rfl (kk := fun _ => ?_)
  refine tl_p (pr_assign rfl) rfl ?_
  refine tl_next ?_
  refine tc_ret ?_
  exact tq_ret1 .ret (.inl rfl) () rfl rfl

theorem f65_ct (r tb : Nat) (x : Ins) (mb sb : Nat) (nx : Cap) (pos : Cap) (rb fb : Nat) (regs : List Cap) (hl : regs.length = 8) : Ct Tryz.prog 65 #[ad r 0] [(r, runO tb x mb sb nx), (tb, thrO pos rb fb)] [fileA rb regs] (fun _ : Unit => .int .i64 ((aluDo x.op (getR regs x.b).pos (getR regs x.c).pos).2)) (fun _ N => fileA rb (setE regs x.a (intC (aluDo x.op (getR regs x.b).pos (getR regs x.c).pos).1) ((aluDo x.op (getR regs x.b).pos (getR regs x.c).pos).2)) :: N) := by
  refine ct_intro Tryz.func65 rfl (by kernel_rfl) (n := 19) rfl rfl (E := [(0, ad r 0)]) rfl ?_
  intro κ hro
  have hq1 : κ.frame r = some (runO tb x mb sb nx) := hro _ (List.Mem.head _)
  have hq2 : κ.frame tb = some (thrO pos rb fb) := hro _ (List.Mem.tail _ (List.Mem.head _))
  refine tc_seq ?_
  refine tc_region ?_
  refine tl_p (pr_assign rfl) rfl ?_
  refine tl_next ?_
  refine tc_seq ?_
  refine tc_draw Tryz.mixed [0, 1, 2, 3, 4, 5, 6, 7, 8, 9, 10, 11, 12, 13, 14] (by kernel_rfl) ?_
  refine td_q 0 3 (pm_of rfl rfl rfl (fun _ kq => tl_p (pr_move rfl) rfl kq)) rfl rfl rfl ?_
  refine td_q 1 4 (pm_of rfl rfl rfl (fun _ kq => tl_p (pr_move rfl) rfl kq)) rfl rfl rfl ?_
  refine td_q 2 5 (pm_of rfl rfl rfl (fun _ kq => tl_p (pr_nilCheck rfl) rfl kq)) rfl rfl rfl ?_
  refine td_q 3 6 (pm_of rfl rfl rfl (fun _ kq => tl_p (pr_fieldAddr Tryz.fo109_1 rfl) rfl kq)) rfl rfl rfl ?_
  refine td_q 4 7 (pm_of rfl rfl rfl (fun _ kq => tl_p (pr_fieldAddr Tryz.fo33_0 rfl) rfl kq)) rfl rfl rfl ?_
  refine td_q 5 8 (pm_of rfl rfl rfl (fun _ kq => tl_p (pr_ld Tryz.ag3 rfl) rfl kq)) rfl rfl rfl ?_
  refine td_q 6 9 (pm_of rfl rfl rfl (fun _ kq => tl_p (pr_move rfl) rfl kq)) rfl rfl rfl ?_
  refine td_q 7 10 (pm_of rfl rfl rfl (fun _ kq => tl_rdS (f127_ct r tb x mb sb nx pos rb fb regs hl) (.cons rfl .nil) rfl (kk := kq))) rfl rfl rfl ?_
  refine td_q 8 11 (pm_of rfl rfl rfl (fun _ kq => tl_rdS (f68_ct _) (.cons rfl .nil) rfl (kk := kq))) rfl rfl rfl ?_
  refine td_q 9 12 (pm_of rfl rfl rfl (fun _ kq => tl_p (pr_move rfl) rfl kq)) rfl rfl rfl ?_
  refine td_q 10 13 (pm_of rfl rfl rfl (fun _ kq => tl_rdS (f128_ct r tb x mb sb nx pos rb fb regs hl) (.cons rfl .nil) rfl (kk := kq))) rfl rfl rfl ?_
  refine td_q 11 14 (pm_of rfl rfl rfl (fun _ kq => tl_rdS (f68_ct _) (.cons rfl .nil) rfl (kk := kq))) rfl rfl rfl ?_
  refine td_q 12 15 (pm_of rfl rfl rfl (fun _ kq => tl_rdS (f126_ct _ _ _) (.cons rfl (.cons rfl (.cons rfl .nil))) rfl (kk := kq))) rfl rfl rfl ?_
  refine td_q 13 16 (pm_of rfl rfl rfl (fun _ kq => tl_p (pr_extract rfl rfl) rfl kq)) rfl rfl rfl ?_
  refine td_q 14 17 (pm_of rfl rfl rfl (fun _ kq => tl_p (pr_extract rfl rfl) rfl kq)) rfl rfl rfl ?_
  refine td_e1 15 (by kernel_rfl) ?_
  refine te rfl ?_
  refine tl_callS (f125_ct r tb x mb sb nx pos rb fb regs hl ((aluDo x.op (getR regs x.b).pos (getR regs x.c).pos).1) ((aluDo x.op (getR regs x.b).pos (getR regs x.c).pos).2)) (.cons rfl (.cons rfl (.cons rfl .nil))) rfl (kk := fun _ => ?_)
  refine td_next (pd := []) (by kernel_rfl) (.nil) ?_
  refine td_e1 16 (by kernel_rfl) ?_
  refine te rfl ?_
  refine tl_p (pr_assign rfl) rfl ?_
  refine td_next (pd := []) (by kernel_rfl) (.nil) ?_
  refine td_done (by kernel_rfl) ?_
  refine tq_next ?_
  refine tc_ret ?_
  exact tq_ret1 .ret (.inl rfl) () rfl rfl

theorem f148_ct (r tb : Nat) (x : Ins) (mb sb : Nat) (nx : Cap) (pos : Cap) (rb fb : Nat) (regs : List Cap) (hl : regs.length = 8) : Ct Tryz.prog 148 #[ad r 0] [(r, runO tb x mb sb nx), (tb, thrO pos rb fb)] [fileA rb regs] (fun _ : Unit => .int .i64 (0)) (fun _ N => fileA rb (setE regs x.a (intC (getR regs x.b).pos) (0)) :: N) := by
  refine ct_intro Tryz.func148 rfl (by kernel_rfl) (n := 8) rfl rfl (E := [(0, ad r 0)]) rfl ?_
  intro κ hro
  have hq1 : κ.frame r = some (runO tb x mb sb nx) := hro _ (List.Mem.head _)
  have hq2 : κ.frame tb = some (thrO pos rb fb) := hro _ (List.Mem.tail _ (List.Mem.head _))
  refine tc_seq ?_
  refine tc_region ?_
  refine tl_p (pr_assign rfl) rfl ?_
  refine tl_next ?_
  refine tc_seq ?_
  refine tc_region ?_
  refine tl_p (pr_move rfl) rfl ?_
  refine tl_p (pr_move rfl) rfl ?_
  refine tl_rdS (f127_ct r tb x mb sb nx pos rb fb regs hl) (.cons rfl .nil) rfl (kk := ?_)
  refine tl_rdS (f68_ct _) (.cons rfl .nil) rfl (kk := ?_)
  refine tl_callS (f125_ct r tb x mb sb nx pos rb fb regs hl ((getR regs x.b).pos) (0)) (.cons rfl (.cons rfl (.cons rfl .nil))) rfl (kk := fun _ => ?_)
  refine tl_p (pr_assign rfl) rfl ?_
  refine tl_next ?_
  refine tc_ret ?_
  exact tq_ret1 .ret (.inl rfl) () rfl rfl

theorem f146_ct (r tb : Nat) (x : Ins) (mb sb : Nat) (nx : Cap) (pos : Cap) (rb fb : Nat) (regs : List Cap) (hl : regs.length = 8) : Ct Tryz.prog 146 #[ad r 0] [(r, runO tb x mb sb nx), (tb, thrO pos rb fb)] [fileA rb regs] (fun _ : Unit => .int .i64 (0)) (fun _ N => fileA rb (setE regs x.a (intC (capOff (getR regs x.b))) (0)) :: N) := by
  refine ct_intro Tryz.func146 rfl (by kernel_rfl) (n := 8) rfl rfl (E := [(0, ad r 0)]) rfl ?_
  intro κ hro
  have hq1 : κ.frame r = some (runO tb x mb sb nx) := hro _ (List.Mem.head _)
  have hq2 : κ.frame tb = some (thrO pos rb fb) := hro _ (List.Mem.tail _ (List.Mem.head _))
  refine tc_seq ?_
  refine tc_region ?_
  refine tl_p (pr_assign rfl) rfl ?_
  refine tl_next ?_
  refine tc_seq ?_
  refine tc_region ?_
  refine tl_p (pr_move rfl) rfl ?_
  refine tl_p (pr_move rfl) rfl ?_
  refine tl_rdS (f127_ct r tb x mb sb nx pos rb fb regs hl) (.cons rfl .nil) rfl (kk := ?_)
  refine tl_rdS (f224_ct _) (.cons rfl .nil) rfl (kk := ?_)
  refine tl_callS (f125_ct r tb x mb sb nx pos rb fb regs hl (capOff (getR regs x.b)) (0)) (.cons rfl (.cons rfl (.cons rfl .nil))) rfl (kk := fun _ => ?_)
  refine tl_p (pr_assign rfl) rfl ?_
  refine tl_next ?_
  refine tc_ret ?_
  exact tq_ret1 .ret (.inl rfl) () rfl rfl

end Go.Proofs
