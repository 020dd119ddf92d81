/- Contracts of functions: what each computes, and what becomes of the memory that it is given. -/
import Derived.Test.YtfphgpamccbkaaaGreatProg
import Derived.Test.YtfphgpamccbkaaaGreatKp1
set_option linter.unusedVariables false
set_option linter.unusedSimpArgs false
set_option linter.unusedSectionVars false
set_option linter.unnecessarySimpa false
namespace Go.Proofs
open Go Go.Sz
attribute [local irreducible] pt lift exs own emp

theorem f137_ct (r tb : Nat) (x : Ins) (mb sb : Nat) (nx : Cap) (pos : Cap) (rb fb : Nat) (regs : List Cap) (hl : regs.length = 8) : Ct Tryz.prog 137 #[ad r 0] [(r, runO tb x mb sb nx), (tb, thrO pos rb fb)] [fileA rb regs] (fun _ : Unit => .int .i64 ((dMove (getR regs x.b) (wI ((getR regs x.b).pos + (getR regs x.c).pos))).2)) (fun _ N => fileA rb (setE regs x.a ((dMove (getR regs x.b) (wI ((getR regs x.b).pos + (getR regs x.c).pos))).1) ((dMove (getR regs x.b) (wI ((getR regs x.b).pos + (getR regs x.c).pos))).2)) :: N) := by
  refine ct_intro Tryz.func137 rfl (by kernel_rfl) (n := 17) rfl rfl (E := [(0, ad r 0)]) rfl ?_
  intro κ hro
  have hq1 : κ.frame r = some (runO tb x mb sb nx) := hro _ (List.Mem.head _)
  have hq2 : κ.frame tb = some (thrO pos rb fb) := hro _ (List.Mem.tail _ (List.Mem.head _))
  refine tc_seq ?_
  refine tc_region ?_
  refine tl_p (pr_assign rfl) rfl ?_
  refine tl_next ?_
  refine tc_seq ?_
  refine tc_region ?_
  refine tl_p (pr_move rfl) rfl ?_
  refine tl_p (pr_move rfl) rfl ?_
  refine tl_rdS (f127_ct r tb x mb sb nx pos rb fb regs hl) (.cons rfl .nil) rfl (kk := ?_)
  refine tl_p (pr_move rfl) rfl ?_
  refine tl_rdS (f127_ct r tb x mb sb nx pos rb fb regs hl) (.cons rfl .nil) rfl (kk := ?_)
  refine tl_rdS (f68_ct _) (.cons rfl .nil) rfl (kk := ?_)
  refine tl_p (pr_move rfl) rfl ?_
  refine tl_rdS (f128_ct r tb x mb sb nx pos rb fb regs hl) (.cons rfl .nil) rfl (kk := ?_)
  refine tl_rdS (f68_ct _) (.cons rfl .nil) rfl (kk := ?_)
  refine tl_p (pr_add rfl rfl) rfl ?_
  refine tl_rdS (f213_ct (getR regs x.b) (wI ((getR regs x.b).pos + (getR regs x.c).pos))) (.cons rfl (.cons rfl .nil)) rfl (kk := ?_)
  refine tl_p (pr_extract rfl rfl) rfl ?_
  refine tl_p (pr_extract rfl rfl) rfl ?_
  refine tl_callS (f203_ct r tb x mb sb nx pos rb fb regs hl ((dMove (getR regs x.b) (wI ((getR regs x.b).pos + (getR regs x.c).pos))).1) ((dMove (getR regs x.b) (wI ((getR regs x.b).pos + (getR regs x.c).pos))).2)) (.cons rfl (.cons rfl (.cons rfl .nil))) rfl (kk := fun _ => ?_)
  refine tl_p (pr_assign rfl) rfl ?_
  refine tl_next ?_
  refine tc_ret ?_
  exact tq_ret1 .ret (.inl rfl) () rfl rfl

theorem f138_ct (r tb : Nat) (x : Ins) (mb sb : Nat) (nx : Cap) (pos : Cap) (rb fb : Nat) (regs : List Cap) (hl : regs.length = 8) : Ct Tryz.prog 138 #[ad r 0] [(r, runO tb x mb sb nx), (tb, thrO pos rb fb)] [fileA rb regs] (fun _ : Unit => .int .i64 ((dBounds (getR regs x.b) (getR regs x.c).pos).2)) (fun _ N => fileA rb (setE regs x.a ((dBounds (getR regs x.b) (getR regs x.c).pos).1) ((dBounds (getR regs x.b) (getR regs x.c).pos).2)) :: N) := by
  refine ct_intro Tryz.func138 rfl (by kernel_rfl) (n := 13) rfl rfl (E := [(0, ad r 0)]) rfl ?_
  intro κ hro
  have hq1 : κ.frame r = some (runO tb x mb sb nx) := hro _ (List.Mem.head _)
  have hq2 : κ.frame tb = some (thrO pos rb fb) := hro _ (List.Mem.tail _ (List.Mem.head _))
  refine tc_seq ?_
  refine tc_region ?_
  refine tl_p (pr_assign rfl) rfl ?_
  refine tl_next ?_
  refine tc_seq ?_
  refine tc_region ?_
  refine tl_p (pr_move rfl) rfl ?_
  refine tl_p (pr_move rfl) rfl ?_
  refine tl_rdS (f127_ct r tb x mb sb nx pos rb fb regs hl) (.cons rfl .nil) rfl (kk := ?_)
  refine tl_p (pr_move rfl) rfl ?_
  refine tl_rdS (f128_ct r tb x mb sb nx pos rb fb regs hl) (.cons rfl .nil) rfl (kk := ?_)
  refine tl_rdS (f68_ct _) (.cons rfl .nil) rfl (kk := ?_)
  refine tl_rdS (f214_ct (getR regs x.b) (getR regs x.c).pos) (.cons rfl (.cons rfl .nil)) rfl (kk := ?_)
  refine tl_p (pr_extract rfl rfl) rfl ?_
  refine tl_p (pr_extract rfl rfl) rfl ?_
  refine tl_callS (f203_ct r tb x mb sb nx pos rb fb regs hl ((dBounds (getR regs x.b) (getR regs x.c).pos).1) ((dBounds (getR regs x.b) (getR regs x.c).pos).2)) (.cons rfl (.cons rfl (.cons rfl .nil))) rfl (kk := fun _ => ?_)
  refine tl_p (pr_assign rfl) rfl ?_
  refine tl_next ?_
  refine tc_ret ?_
  exact tq_ret1 .ret (.inl rfl) () rfl rfl

theorem f139_ct (r tb : Nat) (x : Ins) (mb sb : Nat) (nx : Cap) (pos : Cap) (rb fb : Nat) (regs : List Cap) (hl : regs.length = 8) : Ct Tryz.prog 139 #[ad r 0] [(r, runO tb x mb sb nx), (tb, thrO pos rb fb)] [fileA rb regs] (fun _ : Unit => .int .i64 ((dPerms (getR regs x.b) x.c).2)) (fun _ N => fileA rb (setE regs x.a ((dPerms (getR regs x.b) x.c).1) ((dPerms (getR regs x.b) x.c).2)) :: N) := by
  refine ct_intro Tryz.func139 rfl (by kernel_rfl) (n := 15) rfl rfl (E := [(0, ad r 0)]) rfl ?_
  intro κ hro
  have hq1 : κ.frame r = some (runO tb x mb sb nx) := hro _ (List.Mem.head _)
  have hq2 : κ.frame tb = some (thrO pos rb fb) := hro _ (List.Mem.tail _ (List.Mem.head _))
  refine tc_seq ?_
  refine tc_region ?_
  refine tl_p (pr_assign rfl) rfl ?_
  refine tl_next ?_
  refine tc_seq ?_
  refine tc_draw Tryz.mixed [0, 1, 2, 3, 4, 5, 6, 7, 8, 9, 10] (by kernel_rfl) ?_
  refine td_q 0 3 (pm_of rfl rfl rfl (fun _ kq => tl_p (pr_move rfl) rfl kq)) rfl rfl rfl ?_
  refine td_q 1 4 (pm_of rfl rfl rfl (fun _ kq => tl_p (pr_move rfl) rfl kq)) rfl rfl rfl ?_
  refine td_q 2 5 (pm_of rfl rfl rfl (fun _ kq => tl_rdS (f127_ct r tb x mb sb nx pos rb fb regs hl) (.cons rfl .nil) rfl (kk := kq))) rfl rfl rfl ?_
  refine td_q 3 6 (pm_of rfl rfl rfl (fun _ kq => tl_p (pr_move rfl) rfl kq)) rfl rfl rfl ?_
  refine td_q 4 7 (pm_of rfl rfl rfl (fun _ kq => tl_p (pr_nilCheck rfl) rfl kq)) rfl rfl rfl ?_
  refine td_q 5 8 (pm_of rfl rfl rfl (fun _ kq => tl_p (pr_fieldAddr Tryz.fo109_1 rfl) rfl kq)) rfl rfl rfl ?_
  refine td_q 6 9 (pm_of rfl rfl rfl (fun _ kq => tl_p (pr_fieldAddr Tryz.fo33_3 rfl) rfl kq)) rfl rfl rfl ?_
  refine td_q 7 10 (pm_of rfl rfl rfl (fun _ kq => tl_p (pr_ld Tryz.ag3 rfl) rfl kq)) rfl rfl rfl ?_
  refine td_q 8 11 (pm_of rfl rfl rfl (fun _ kq => tl_rdS (f215_ct (getR regs x.b) x.c) (.cons rfl (.cons rfl .nil)) rfl (kk := kq))) rfl rfl rfl ?_
  refine td_q 9 12 (pm_of rfl rfl rfl (fun _ kq => tl_p (pr_extract rfl rfl) rfl kq)) rfl rfl rfl ?_
  refine td_q 10 13 (pm_of rfl rfl rfl (fun _ kq => tl_p (pr_extract rfl rfl) rfl kq)) rfl rfl rfl ?_
  refine td_e1 11 (by kernel_rfl) ?_
  refine te rfl ?_
  refine tl_callS (f203_ct r tb x mb sb nx pos rb fb regs hl ((dPerms (getR regs x.b) x.c).1) ((dPerms (getR regs x.b) x.c).2)) (.cons rfl (.cons rfl (.cons rfl .nil))) rfl (kk := fun _ => ?_)
  refine td_next (pd := []) (by kernel_rfl) (.nil) ?_
  refine td_e1 12 (by kernel_rfl) ?_
  refine te rfl ?_
  refine tl_p (pr_assign rfl) rfl ?_
  refine td_next (pd := []) (by kernel_rfl) (.nil) ?_
  refine td_done (by kernel_rfl) ?_
  refine tq_next ?_
  refine tc_ret ?_
  exact tq_ret1 .ret (.inl rfl) () rfl rfl

theorem f140_ct (r tb : Nat) (x : Ins) (mb sb : Nat) (nx : Cap) (pos : Cap) (rb fb : Nat) (regs : List Cap) (hl : regs.length = 8) : Ct Tryz.prog 140 #[ad r 0] [(r, runO tb x mb sb nx), (tb, thrO pos rb fb)] [fileA rb regs] (fun _ : Unit => .int .i64 ((dSeal (getR regs x.b) (getR regs x.c)).2)) (fun _ N => fileA rb (setE regs x.a ((dSeal (getR regs x.b) (getR regs x.c)).1) ((dSeal (getR regs x.b) (getR regs x.c)).2)) :: N) := by
  refine ct_intro Tryz.func140 rfl (by kernel_rfl) (n := 12) rfl rfl (E := [(0, ad r 0)]) rfl ?_
  intro κ hro
  have hq1 : κ.frame r = some (runO tb x mb sb nx) := hro _ (List.Mem.head _)
  have hq2 : κ.frame tb = some (thrO pos rb fb) := hro _ (List.Mem.tail _ (List.Mem.head _))
  refine tc_seq ?_
  refine tc_region ?_
  refine tl_p (pr_assign rfl) rfl ?_
  refine tl_next ?_
  refine tc_seq ?_
  refine tc_region ?_
  refine tl_p (pr_move rfl) rfl ?_
  refine tl_p (pr_move rfl) rfl ?_
  refine tl_rdS (f127_ct r tb x mb sb nx pos rb fb regs hl) (.cons rfl .nil) rfl (kk := ?_)
  refine tl_p (pr_move rfl) rfl ?_
  refine tl_rdS (f128_ct r tb x mb sb nx pos rb fb regs hl) (.cons rfl .nil) rfl (kk := ?_)
  refine tl_rdS (f216_ct (getR regs x.b) (getR regs x.c)) (.cons rfl (.cons rfl .nil)) rfl (kk := ?_)
  refine tl_p (pr_extract rfl rfl) rfl ?_
  refine tl_p (pr_extract rfl rfl) rfl ?_
  refine tl_callS (f203_ct r tb x mb sb nx pos rb fb regs hl ((dSeal (getR regs x.b) (getR regs x.c)).1) ((dSeal (getR regs x.b) (getR regs x.c)).2)) (.cons rfl (.cons rfl (.cons rfl .nil))) rfl (kk := fun _ => ?_)
  refine tl_p (pr_assign rfl) rfl ?_
  refine tl_next ?_
  refine tc_ret ?_
  exact tq_ret1 .ret (.inl rfl) () rfl rfl

theorem f141_ct (r tb : Nat) (x : Ins) (mb sb : Nat) (nx : Cap) (pos : Cap) (rb fb : Nat) (regs : List Cap) (hl : regs.length = 8) : Ct Tryz.prog 141 #[ad r 0] [(r, runO tb x mb sb nx), (tb, thrO pos rb fb)] [fileA rb regs] (fun _ : Unit => .int .i64 ((dUnseal (getR regs x.b) (getR regs x.c)).2)) (fun _ N => fileA rb (setE regs x.a ((dUnseal (getR regs x.b) (getR regs x.c)).1) ((dUnseal (getR regs x.b) (getR regs x.c)).2)) :: N) := by
  refine ct_intro Tryz.func141 rfl (by kernel_rfl) (n := 12) rfl rfl (E := [(0, ad r 0)]) rfl ?_
  intro κ hro
  have hq1 : κ.frame r = some (runO tb x mb sb nx) := hro _ (List.Mem.head _)
  have hq2 : κ.frame tb = some (thrO pos rb fb) := hro _ (List.Mem.tail _ (List.Mem.head _))
  refine tc_seq ?_
  refine tc_region ?_
  refine tl_p (pr_assign rfl) rfl ?_
  refine tl_next ?_
  refine tc_seq ?_
  refine tc_region ?_
  refine tl_p (pr_move rfl) rfl ?_
  refine tl_p (pr_move rfl) rfl ?_
  refine tl_rdS (f127_ct r tb x mb sb nx pos rb fb regs hl) (.cons rfl .nil) rfl (kk := ?_)
  refine tl_p (pr_move rfl) rfl ?_
  refine tl_rdS (f128_ct r tb x mb sb nx pos rb fb regs hl) (.cons rfl .nil) rfl (kk := ?_)
  refine tl_rdS (f217_ct (getR regs x.b) (getR regs x.c)) (.cons rfl (.cons rfl .nil)) rfl (kk := ?_)
  refine tl_p (pr_extract rfl rfl) rfl ?_
  refine tl_p (pr_extract rfl rfl) rfl ?_
  refine tl_callS (f203_ct r tb x mb sb nx pos rb fb regs hl ((dUnseal (getR regs x.b) (getR regs x.c)).1) ((dUnseal (getR regs x.b) (getR regs x.c)).2)) (.cons rfl (.cons rfl (.cons rfl .nil))) rfl (kk := fun _ => ?_)
  refine tl_p (pr_assign rfl) rfl ?_
  refine tl_next ?_
  refine tc_ret ?_
  exact tq_ret1 .ret (.inl rfl) () rfl rfl

theorem f142_ct (r tb : Nat) (x : Ins) (mb sb : Nat) (nx : Cap) (pos : Cap) (rb fb : Nat) (regs : List Cap) (hl : regs.length = 8) : Ct Tryz.prog 142 #[ad r 0] [(r, runO tb x mb sb nx), (tb, thrO pos rb fb)] [fileA rb regs] (fun _ : Unit => .int .i64 ((dEnter (getR regs x.b)).2)) (fun _ N => fileA rb (setE regs x.a ((dEnter (getR regs x.b)).1) ((dEnter (getR regs x.b)).2)) :: N) := by
  refine ct_intro Tryz.func142 rfl (by kernel_rfl) (n := 10) rfl rfl (E := [(0, ad r 0)]) rfl ?_
  intro κ hro
  have hq1 : κ.frame r = some (runO tb x mb sb nx) := hro _ (List.Mem.head _)
  have hq2 : κ.frame tb = some (thrO pos rb fb) := hro _ (List.Mem.tail _ (List.Mem.head _))
  refine tc_seq ?_
  refine tc_region ?_
  refine tl_p (pr_assign rfl) rfl ?_
  refine tl_next ?_
  refine tc_seq ?_
  refine tc_region ?_
  refine tl_p (pr_move rfl) rfl ?_
  refine tl_p (pr_move rfl) rfl ?_
  refine tl_rdS (f127_ct r tb x mb sb nx pos rb fb regs hl) (.cons rfl .nil) rfl (kk := ?_)
  refine tl_rdS (f218_ct (getR regs x.b)) (.cons rfl .nil) rfl (kk := ?_)
  refine tl_p (pr_extract rfl rfl) rfl ?_
  refine tl_p (pr_extract rfl rfl) rfl ?_
  refine tl_callS (f203_ct r tb x mb sb nx pos rb fb regs hl ((dEnter (getR regs x.b)).1) ((dEnter (getR regs x.b)).2)) (.cons rfl (.cons rfl (.cons rfl .nil))) rfl (kk := fun _ => ?_)
  refine tl_p (pr_assign rfl) rfl ?_
  refine tl_next ?_
  refine tc_ret ?_
  exact tq_ret1 .ret (.inl rfl) () rfl rfl

end Go.Proofs

namespace Go.Proofs
open Go Go.Sz
attribute [local irreducible] pt lift exs own emp
theorem Tryz.fo109_4 : fOff Tryz.prog 109 4 = some (7, 6, true) := by kernel_rfl
def jmpC (pos : Cap) (x : Ins) : Cap × Bool := astep pos (wI (4 * x.b))
def jmpN (pos : Cap) (x : Ins) (nx : Cap) : Cap := if (jmpC pos x).2 then (jmpC pos x).1 else nx

theorem f131_ct (r tb : Nat) (x : Ins) (mb sb : Nat) (nx : Cap) (pos : Cap) (rb fb : Nat) : Ct Tryz.prog 131 #[ad r 0] [(tb, thrO pos rb fb)] [pt r (runO tb x mb sb nx)] (fun _ : Unit => .int .i64 (within (jmpC pos x).2)) (fun _ N => pt r (runO tb x mb sb (jmpN pos x nx)) :: N) := by
  refine ct_intro Tryz.func131 rfl (by kernel_rfl) (n := 29) rfl rfl (E := [(0, ad r 0)]) rfl ?_
  intro κ hro
  have hq2 : κ.frame tb = some (thrO pos rb fb) := hro _ (List.Mem.head _)
  refine tc_seq ?_
  refine tc_region ?_
  refine tl_p (pr_assign rfl) rfl ?_
  refine tl_next ?_
  refine tc_seq ?_
  refine tc_draw Tryz.mixed [0, 1, 2, 3, 4, 5, 6, 7, 8, 9, 10, 11, 12, 13, 14, 15, 16] (by kernel_rfl) ?_
  refine td_q 0 6 (pm_of rfl rfl rfl (fun _ kq => tl_p (pr_move rfl) rfl kq)) rfl rfl rfl ?_
  refine td_q 1 7 (pm_of rfl rfl rfl (fun _ kq => tl_p (pr_nilCheck rfl) rfl kq)) rfl rfl rfl ?_
  refine td_q 2 8 (pm_of rfl rfl rfl (fun _ kq => tl_p (pr_fieldAddr Tryz.fo109_0 rfl) rfl kq)) rfl rfl rfl ?_
  refine td_q 3 9 (pm_of rfl rfl rfl (fun _ kq => tl_p (pr_ld Tryz.ag34 rfl) rfl kq)) rfl rfl rfl ?_
  refine td_q 4 10 (pm_of rfl rfl rfl (fun _ kq => tl_p (pr_nilCheck rfl) rfl kq)) rfl rfl rfl ?_
  refine td_q 5 11 (pm_of rfl rfl rfl (fun _ kq => tl_p (pr_fieldAddr Tryz.fo100_0 rfl) rfl kq)) rfl rfl rfl ?_
  refine td_q 6 12 (pm_of rfl rfl rfl (fun _ kq => tl_p (pr_ldA Tryz.ag27 Tryz.sz27 rfl) rfl kq)) rfl rfl rfl ?_
  refine td_q 7 13 (pm_of rfl rfl rfl (fun _ kq => tl_p (pr_move rfl) rfl kq)) rfl rfl rfl ?_
  refine td_q 8 14 (pm_of rfl rfl rfl (fun _ kq => tl_p (pr_nilCheck rfl) rfl kq)) rfl rfl rfl ?_
  refine td_q 9 15 (pm_of rfl rfl rfl (fun _ kq => tl_p (pr_fieldAddr Tryz.fo109_1 rfl) rfl kq)) rfl rfl rfl ?_
  refine td_q 10 16 (pm_of rfl rfl rfl (fun _ kq => tl_p (pr_fieldAddr Tryz.fo33_2 rfl) rfl kq)) rfl rfl rfl ?_
  refine td_q 11 17 (pm_of rfl rfl rfl (fun _ kq => tl_p (pr_ld Tryz.ag3 rfl) rfl kq)) rfl rfl rfl ?_
  refine td_q 12 18 (pm_of rfl rfl rfl (fun _ kq => tl_p (pr_mul rfl rfl) rfl kq)) rfl rfl rfl ?_
  refine td_q 13 19 (pm_of rfl rfl rfl (fun _ kq => tl_rdS (f63_ct pos (wI (4 * x.b))) (.cons rfl (.cons rfl .nil)) rfl (kk := kq))) rfl rfl rfl ?_
  refine td_q 14 5 (pm_of rfl rfl rfl (fun _ kq => tl_p (pr_move rfl) rfl kq)) rfl rfl rfl ?_
  refine td_q 15 20 (pm_of rfl rfl rfl (fun _ kq => tl_p (pr_extract rfl rfl) rfl kq)) rfl rfl rfl ?_
  refine td_q 16 21 (pm_of rfl rfl rfl (fun _ kq => tl_p (pr_extract rfl rfl) rfl kq)) rfl rfl rfl ?_
  refine td_e1 17 (by kernel_rfl) ?_
  refine te rfl ?_
  refine tl_alloc Tryz.z27 rfl (fun b3 => ?_)
  refine td_next (pd := [16, 15, 14, 13, 12, 11, 10, 9, 8, 7, 6, 5, 4, 3, 2, 1, 0]) (by kernel_rfl) (.cons rfl (pm_of rfl rfl rfl (fun _ kq => tl_p (pr_extract rfl rfl) rfl kq)) (.cons rfl (pm_of rfl rfl rfl (fun _ kq => tl_p (pr_extract rfl rfl) rfl kq)) (.cons rfl (pm_of rfl rfl rfl (fun _ kq => tl_p (pr_move rfl) rfl kq)) (.cons rfl (pm_of rfl rfl rfl (fun _ kq => tl_rdS (f63_ct pos (wI (4 * x.b))) (.cons rfl (.cons rfl .nil)) rfl (kk := kq))) (.cons rfl (pm_of rfl rfl rfl (fun _ kq => tl_p (pr_mul rfl rfl) rfl kq)) (.cons rfl (pm_of rfl rfl rfl (fun _ kq => tl_p (pr_ld Tryz.ag3 rfl) rfl kq)) (.cons rfl (pm_of rfl rfl rfl (fun _ kq => tl_p (pr_fieldAddr Tryz.fo33_2 rfl) rfl kq)) (.cons rfl (pm_of rfl rfl rfl (fun _ kq => tl_p (pr_fieldAddr Tryz.fo109_1 rfl) rfl kq)) (.cons rfl (pm_of rfl rfl rfl (fun _ kq => tl_p (pr_nilCheck rfl) rfl kq)) (.cons rfl (pm_of rfl rfl rfl (fun _ kq => tl_p (pr_move rfl) rfl kq)) (.cons rfl (pm_of rfl rfl rfl (fun _ kq => tl_p (pr_ldA Tryz.ag27 Tryz.sz27 rfl) rfl kq)) (.cons rfl (pm_of rfl rfl rfl (fun _ kq => tl_p (pr_fieldAddr Tryz.fo100_0 rfl) rfl kq)) (.cons rfl (pm_of rfl rfl rfl (fun _ kq => tl_p (pr_nilCheck rfl) rfl kq)) (.cons rfl (pm_of rfl rfl rfl (fun _ kq => tl_p (pr_ld Tryz.ag34 rfl) rfl kq)) (.cons rfl (pm_of rfl rfl rfl (fun _ kq => tl_p (pr_fieldAddr Tryz.fo109_0 rfl) rfl kq)) (.cons rfl (pm_of rfl rfl rfl (fun _ kq => tl_p (pr_nilCheck rfl) rfl kq)) (.cons rfl (pm_of rfl rfl rfl (fun _ kq => tl_p (pr_move rfl) rfl kq)) .nil))))))))))))))))) ?_
  refine td_e1 18 (by kernel_rfl) ?_
  refine te rfl ?_
  refine tl_storeW Tryz.sz27 rfl rfl (k := ?_)
  refine td_next (pd := [16]) (by kernel_rfl) (.cons rfl (pm_of rfl rfl rfl (fun _ kq => tl_p (pr_extract rfl rfl) rfl kq)) .nil) ?_
  refine td_e1 19 (by kernel_rfl) ?_
  refine te rfl ?_
  refine tl_p (pr_assign rfl) rfl ?_
  refine td_next (pd := []) (by kernel_rfl) (.nil) ?_
  refine td_done (by kernel_rfl) ?_
  refine tq_next ?_
  refine tc_seq ?_
  refine tc_seq ?_
  refine tc_region ?_
  refine tl_p (pr_move rfl) rfl ?_
  refine tl_next ?_
  refine tc_if rfl (fun hc1 => ?_) (fun hc1 => ?_)
  · have hd1 := hc1
    try simp only [Bool.not_eq_true', Bool.not_eq_false', Bool.or_eq_true, Bool.and_eq_true, Bool.or_eq_false_iff, Bool.and_eq_false_iff, decide_eq_true_eq, decide_eq_false_iff_not, Bool.not_true, Bool.not_false, gval, Bool.not_eq_eq_eq_not] at hc1
    refine tc_region ?_
    refine tl_p (pr_move rfl) rfl ?_
    refine tl_p (by first | exact pr_loadW Tryz.ag27 Tryz.sz27 rfl | exact pr_ldA Tryz.ag27 Tryz.sz27 rfl) rfl ?_
    refine tl_p (pr_nilCheck rfl) rfl ?_
    refine tl_p (pr_fieldAddr Tryz.fo109_4 rfl) rfl ?_
    refine tl_stA Tryz.sz27 rfl rfl (k := ?_)
    refine tl_next ?_
    refine tc_seq ?_
    refine tc_region ?_
    refine tl_p (pr_move rfl) rfl ?_
    refine tl_rdS (f204_ct _) (.cons rfl .nil) rfl (kk := ?_)
    refine tl_p (pr_assign rfl) rfl ?_
    refine tl_next ?_
    refine tc_ret ?_
    first
      | (have e2 : jmpN pos x nx = (jmpC pos x).1 := if_pos (by assumption)
         exact tq_retE1 .ret (.inl rfl) () rfl rfl rfl (by rw [e2]; repeat (first | exact Pick.nil | exact Rem.here | apply Rem.there | apply Pick.cons)))
      | (have e2 : jmpN pos x nx = nx := if_neg (by simp_all [jmpC])
         exact tq_retE1 .ret (.inl rfl) () rfl rfl rfl (by rw [e2]; repeat (first | exact Pick.nil | exact Rem.here | apply Rem.there | apply Pick.cons)))
  · have hd1 := hc1
    try simp only [Bool.not_eq_true', Bool.not_eq_false', Bool.or_eq_true, Bool.and_eq_true, Bool.or_eq_false_iff, Bool.and_eq_false_iff, decide_eq_true_eq, decide_eq_false_iff_not, Bool.not_true, Bool.not_false, gval, Bool.not_eq_eq_eq_not] at hc1
    refine tc_skip (tq_next ?_)
    refine tc_seq ?_
    refine tc_region ?_
    refine tl_p (pr_move rfl) rfl ?_
    refine tl_rdS (f204_ct _) (.cons rfl .nil) rfl (kk := ?_)
    refine tl_p (pr_assign rfl) rfl ?_
    refine tl_next ?_
    refine tc_ret ?_
    first
      | (have e2 : jmpN pos x nx = (jmpC pos x).1 := if_pos (by assumption)
         exact tq_retE1 .ret (.inl rfl) () rfl rfl rfl (by rw [e2]; repeat (first | exact Pick.nil | exact Rem.here | apply Rem.there | apply Pick.cons)))
      | (have e2 : jmpN pos x nx = nx := if_neg (by simp_all [jmpC])
         exact tq_retE1 .ret (.inl rfl) () rfl rfl rfl (by rw [e2]; repeat (first | exact Pick.nil | exact Rem.here | apply Rem.there | apply Pick.cons)))

end Go.Proofs

namespace Go.Proofs
open Go Go.Sz
attribute [local irreducible] pt lift exs own emp

def jzE (regs : List Cap) (pos : Cap) (x : Ins) : Int := if (getR regs x.a).pos = 0 then within (jmpC pos x).2 else 0
def jzN (regs : List Cap) (pos : Cap) (x : Ins) (nx : Cap) : Cap := if (getR regs x.a).pos = 0 then jmpN pos x nx else nx

theorem f132_ct (r tb : Nat) (x : Ins) (mb sb : Nat) (nx : Cap) (pos : Cap) (rb fb : Nat) (regs : List Cap) (hl : regs.length = 8) : Ct Tryz.prog 132 #[ad r 0] ([(tb, thrO pos rb fb)] ++ ra (.mem (fileS rb)) (capsL regs)) [pt r (runO tb x mb sb nx)] (fun _ : Unit => .int .i64 (jzE regs pos x)) (fun _ N => pt r (runO tb x mb sb (jzN regs pos x nx)) :: N) := by
  refine ct_intro Tryz.func132 rfl (by kernel_rfl) (n := 9) rfl rfl (E := [(0, ad r 0)]) rfl ?_
  intro κ hro
  obtain ⟨hr1, hr2⟩ := Reads.app hro
  have hq2 : κ.frame tb = some (thrO pos rb fb) := hr1 _ (List.Mem.head _)
  refine tc_seq ?_
  refine tc_region ?_
  refine tl_p (pr_assign rfl) rfl ?_
  refine tl_next ?_
  refine tc_seq ?_
  refine tc_seq ?_
  refine tc_region ?_
  refine tl_p (pr_move rfl) rfl ?_
  refine tl_rdS (f205_ct r tb x mb sb nx pos rb fb regs hl) (.cons rfl .nil) rfl (kk := ?_)
  refine tl_rdS (f68_ct _) (.cons rfl .nil) rfl (kk := ?_)
  refine tl_p (pr_neq rfl rfl) rfl ?_
  refine tl_next ?_
  refine tc_if rfl (fun hc1 => ?_) (fun hc1 => ?_)
  · have hd1 := hc1
    try simp only [Bool.not_eq_true', Bool.not_eq_false', Bool.or_eq_true, Bool.and_eq_true, Bool.or_eq_false_iff, Bool.and_eq_false_iff, decide_eq_true_eq, decide_eq_false_iff_not, Bool.not_true, Bool.not_false, gval, Bool.not_eq_eq_eq_not] at hc1
    refine tc_seq ?_
    refine tc_region ?_
    refine tl_p (pr_assign rfl) rfl ?_
    refine tl_next ?_
    refine tc_ret (tq_then_ret ?_)
    exact tq_retE1 .ret (.inl rfl) () rfl rfl (by unfold jzE; rw [if_neg (by simpa using hd1)]) (by rw [show jzN regs pos x nx = nx from by unfold jzN; rw [if_neg (by simpa using hd1)]]; repeat (first | exact Pick.nil | exact Rem.here | apply Rem.there | apply Pick.cons))
  · have hd1 := hc1
    try simp only [Bool.not_eq_true', Bool.not_eq_false', Bool.or_eq_true, Bool.and_eq_true, Bool.or_eq_false_iff, Bool.and_eq_false_iff, decide_eq_true_eq, decide_eq_false_iff_not, Bool.not_true, Bool.not_false, gval, Bool.not_eq_eq_eq_not] at hc1
    refine tc_skip (tq_next ?_)
    refine tc_seq ?_
    refine tc_region ?_
    refine tl_p (pr_move rfl) rfl ?_
    refine tl_callS (f131_ct r tb x mb sb nx pos rb fb) (.cons rfl .nil) rfl (kk := fun _ => ?_)
    refine tl_p (pr_assign rfl) rfl ?_
    refine tl_next ?_
    refine tc_ret ?_
    exact tq_retE1 .ret (.inl rfl) () rfl rfl (by unfold jzE; rw [if_pos (by simpa using hd1)]) (by rw [show jzN regs pos x nx = jmpN pos x nx from by unfold jzN; rw [if_pos (by simpa using hd1)]]; repeat (first | exact Pick.nil | exact Rem.here | apply Rem.there | apply Pick.cons))

end Go.Proofs

namespace Go.Proofs
open Go Go.Sz
attribute [local irreducible] pt lift exs own emp

theorem f54_no (mb : Nat) (s : Shp) (m : MemM) (hm : MOk s m) (p : Int) (n : Nat) (s2 : Shp) (bs : List Int) (hs2 : Sok 1 s2 n (u8s bs)) (hg : memIn m p n = false) : Ct Tryz.prog 54 #[ad mb 0, .int .i64 p, sv s2 n] ([(mb, memO s m.n)] ++ ra s2 (u8s bs)) [] (fun _ : Unit => .bool false) (fun _ N => N) := by
  refine ct_intro Tryz.func54 rfl (by kernel_rfl) (n := 51) rfl rfl (E := [(0, ad mb 0), (1, .int .i64 p), (2, sv s2 n)]) rfl ?_
  intro κ hro
  obtain ⟨hr1, hr2⟩ := Reads.app hro
  have hq : κ.frame mb = some (memO s m.n) := hr1 _ (List.Mem.head _)
  have hs := hm.own
  have ms := hm.mem
  have hl := hm.lim
  refine tc_seq ?_
  refine tc_region ?_
  refine tl_box1 rfl (by first | rfl | exact sv_one _ _) rfl (fun b5 => ?_)
  refine tl_p (pr_assign rfl) rfl ?_
  refine tl_next ?_
  refine tc_seq ?_
  refine tc_seq ?_
  refine tc_region ?_
  refine tl_p (pr_move rfl) rfl ?_
  refine tl_p (pr_move rfl) rfl ?_
  refine tl_p (pr_ld Tryz.ag64 rfl) rfl ?_
  refine tl_p (pr_lenS Tryz.sf64 rfl) rfl ?_
  refine tl_rdS ((f73_ct mb _ m hm _ _).val (by rw [hg])) (.cons rfl (.cons rfl (.cons rfl .nil))) rfl (kk := ?_)
  refine tl_p (pr_not rfl) rfl ?_
  refine tl_next ?_
  refine tc_if_true rfl (rfl) ?_
  refine tc_seq ?_
  refine tc_region ?_
  refine tl_p (pr_assign rfl) rfl ?_
  refine tl_next ?_
  refine tc_ret (tq_then_ret ?_)
  exact tq_ret1 .ret (.inl rfl) () rfl rfl

def memLoad (m : MemM) (p k : Int) : List Int := if memIn m p k then m.bs p.toNat k.toNat else []
def memSto (m : MemM) (p : Int) (bs : List Int) : MemM := if memIn m p bs.length then m.sto p.toNat bs else m
theorem memSto_n (m : MemM) (p : Int) (bs : List Int) : (memSto m p bs).n = m.n := by unfold memSto; split <;> rfl
theorem memPutC_n (m : MemM) (p : Int) (c : Cap) : (memPutC m p c).n = m.n := by unfold memPutC; split <;> rfl
theorem memIn_nat {m : MemM} {p k : Int} (h : memIn m p k = true) : p = (p.toNat : Int) ∧ k = (k.toNat : Int) ∧ p.toNat + k.toNat ≤ m.n * 256 := by
  simp [memIn] at h; omega
theorem bs_len (m : MemM) (a k : Nat) : (m.bs a k).length = k := by simp [MemM.bs]
abbrev LdX (m : MemM) (p k : Int) := {s : Shp // Sow 1 s (memLoad m p k).length (u8s (memLoad m p k))}
theorem f30_ct (mb : Nat) (s : Shp) (m : MemM) (hm : MOk s m) (p k : Int) : Ct Tryz.prog 30 #[ad mb 0, .int .i64 p, .int .i64 k] ([(mb, memO s m.n)] ++ ra s m.l) [] (X := LdX m p k) (fun x => .tuple #[sv x.1 (memLoad m p k).length, .bool (memIn m p k)]) (fun x N => sl x.1 (u8s (memLoad m p k)) :: N) := by
  cases h : memIn m p k with
  | true =>
    obtain ⟨h1, h2, h3⟩ := memIn_nat h
    have e : memLoad m p k = m.bs p.toNat k.toNat := if_pos h
    have := f30_yes mb s m hm p.toNat k.toNat h3
    rw [← h1, ← h2] at this
    refine this.wk .nil (fun κ hr => Rdbs.of hr) fun x κ w st => ⟨⟨x.1, by rw [e, bs_len]; exact x.2⟩, by show _ = Value.tuple #[sv x.1 _, _]; rw [e, bs_len], ?_⟩
    show St [sl x.1 _] κ w
    rw [e]; exact st
  | false =>
    have e : memLoad m p k = [] := if_neg (by rw [h]; exact Bool.false_ne_true)
    refine (f30_no mb s m hm p k h).wk .nil (fun κ hr => Rdbs.of hr) fun x κ w st => ⟨⟨.nil, by rw [e]; exact Sow.nil⟩, by show _ = Value.tuple #[sv .nil _, _]; rw [e]; rfl, ?_⟩
    exact st.emp_mk
theorem f54_ct (mb : Nat) (s : Shp) (m : MemM) (hm : MOk s m) (p : Int) (n : Nat) (s2 : Shp) (bs : List Int) (hs2 : Sok 1 s2 n (u8s bs)) : Ct Tryz.prog 54 #[ad mb 0, .int .i64 p, sv s2 n] ([(mb, memO s m.n)] ++ ra s2 (u8s bs)) [sl s m.l] (fun _ : Unit => .bool (memIn m p bs.length)) (fun _ N => sl s (memSto m p bs).l :: N) := by
  have hn := u8s_n hs2
  subst hn
  cases h : memIn m p bs.length with
  | true =>
    obtain ⟨h1, h2, h3⟩ := memIn_nat h
    have e : memSto m p bs = m.sto p.toNat bs := if_pos h
    have := f54_yes mb s m hm p.toNat bs.length (by simpa using h3) s2 bs hs2
    rw [← h1] at this
    refine this.wk (.cons .here .nil) (fun κ hr => Rdbs.of hr) fun x κ w st => ⟨(), rfl, ?_⟩
    rw [e]; exact st
  | false =>
    have e : memSto m p bs = m := if_neg (by rw [h]; exact Bool.false_ne_true)
    refine (f54_no mb s m hm p bs.length s2 bs hs2 h).wk .nil (fun κ hr => Rdbs.of hr) fun x κ w st => ⟨(), rfl, ?_⟩
    rw [e]; exact st
theorem f56_ct (mb : Nat) (s : Shp) (m : MemM) (hm : MOk s m) (p : Int) (hp : p ≤ 9223372036854775807) (c : Cap) : Ct Tryz.prog 56 #[ad mb 0, .int .i64 p, c.v] [(mb, memO s m.n)] [sl s m.l] (fun _ : Unit => .bool (gran m p && capRight c)) (fun _ N => sl s (memPutC m p c).l :: N) := by
  cases hc : capRight c with
  | false =>
    have e : memPutC m p c = m := if_neg (by rw [hc]; simp)
    refine (f56_nor mb s m hm p hp c hc).wk .nil (fun κ hr => Rdbs.of hr) fun x κ w st => ⟨(), by simp, ?_⟩
    rw [e]; exact st
  | true =>
  cases h : gran m p with
  | false =>
    have e : memPutC m p c = m := if_neg (by rw [h]; simp)
    refine (f56_no mb s m hm p hp h c).wk .nil (fun κ hr => Rdbs.of hr) fun x κ w st => ⟨(), by simp, ?_⟩
    rw [e]; exact st
  | true =>
    obtain ⟨i, k, hi, hk, rfl⟩ := gran_ik h
    refine (f56_yes mb s m hm i k hi hk c hc).wk (.cons .here .nil) (fun κ hr => Rdbs.of hr) fun x κ w st => ⟨(), by simp, ?_⟩
    unfold memPutC
    rw [if_pos (by rw [h, hc]; rfl), show (((256 * i + 16 * k : Nat) : Int) / 16).toNat = 16 * i + k from by omega, show ((256 * i + 16 * k : Nat) : Int).toNat = 256 * i + 16 * k from by omega, show (((256 * i + 16 * k : Nat) : Int) / 256).toNat = i from by omega]
    exact st

end Go.Proofs

namespace Go.Proofs
open Go Go.Sz
attribute [local irreducible] pt lift exs own emp
theorem Tryz.fo109_2 : fOff Tryz.prog 109 2 = some (5, 1, false) := by kernel_rfl
def ldP (regs : List Cap) (x : Ins) : Int × Int := acheck (getR regs x.b) (permOf [1]) x.c (wide x)
def ldE (regs : List Cap) (x : Ins) (m : MemM) : Int := if (ldP regs x).2 = 0 then within (memIn m (ldP regs x).1 (wide x)) else (ldP regs x).2
def ldR (regs : List Cap) (x : Ins) (m : MemM) : List Cap := if (ldP regs x).2 = 0 then setE regs x.a (intC (wI (numOf (memLoad m (ldP regs x).1 (wide x))))) (within (memIn m (ldP regs x).1 (wide x))) else regs
def stP (regs : List Cap) (x : Ins) : Int × Int := acheck (getR regs x.b) (permOf [2]) x.c (wide x)
def stB (regs : List Cap) (x : Ins) : List Int := bytesOf (getR regs x.a).pos (wide x).toNat
def stE (regs : List Cap) (x : Ins) (m : MemM) : Int := if (stP regs x).2 = 0 then within (memIn m (stP regs x).1 (stB regs x).length) else (stP regs x).2
def stM (regs : List Cap) (x : Ins) (m : MemM) : MemM := if (stP regs x).2 = 0 then memSto m (stP regs x).1 (stB regs x) else m
theorem wide_nat (x : Ins) : wide x = ((wide x).toNat : Int) ∧ 1 ≤ (wide x).toNat ∧ (wide x).toNat ≤ 4 := by unfold wide; split <;> decide

theorem f133_ct (r tb : Nat) (x : Ins) (mb sb : Nat) (nx : Cap) (pos : Cap) (rb fb : Nat) (regs : List Cap) (hl : regs.length = 8) (s : Shp) (m : MemM) (hm : MOk s m) : Ct Tryz.prog 133 #[ad r 0] ([(r, runO tb x mb sb nx), (tb, thrO pos rb fb), (mb, memO s m.n)] ++ ra s m.l) [fileA rb regs] (fun _ : Unit => .int .i64 (ldE regs x m)) (fun _ N => fileA rb (ldR regs x m) :: N) := by
  refine ct_intro Tryz.func133 rfl (by kernel_rfl) (n := 40) rfl rfl (E := [(0, ad r 0)]) rfl ?_
  intro κ hro
  obtain ⟨hr1, hr2⟩ := Reads.app hro
  have hq1 : κ.frame r = some (runO tb x mb sb nx) := hr1 _ (List.Mem.head _)
  have hq2 : κ.frame tb = some (thrO pos rb fb) := hr1 _ (List.Mem.tail _ (List.Mem.head _))
  have hq3 : κ.frame mb = some (memO s m.n) := hr1 _ (List.Mem.tail _ (List.Mem.tail _ (List.Mem.head _)))
  refine tc_seq ?_
  refine tc_region ?_
  refine tl_p (pr_assign rfl) rfl ?_
  refine tl_next ?_
  refine tc_seq ?_
  refine tc_draw Tryz.mixed [0, 1, 2, 3, 4, 5, 6, 7, 8, 9, 10, 11, 12] (by kernel_rfl) ?_
  refine td_q 0 8 (pm_of rfl rfl rfl (fun _ kq => tl_p (pr_move rfl) rfl kq)) rfl rfl rfl ?_
  refine td_q 1 9 (pm_of rfl rfl rfl (fun _ kq => tl_rdS (f127_ct r tb x mb sb nx pos rb fb regs hl) (.cons rfl .nil) rfl (kk := kq))) rfl rfl rfl ?_
  refine td_q 2 10 (pm_of rfl rfl rfl (fun _ kq => tl_p (pr_move rfl) rfl kq)) rfl rfl rfl ?_
  refine td_q 3 11 (pm_of rfl rfl rfl (fun _ kq => tl_p (pr_nilCheck rfl) rfl kq)) rfl rfl rfl ?_
  refine td_q 4 12 (pm_of rfl rfl rfl (fun _ kq => tl_p (pr_fieldAddr Tryz.fo109_1 rfl) rfl kq)) rfl rfl rfl ?_
  refine td_q 5 13 (pm_of rfl rfl rfl (fun _ kq => tl_p (pr_fieldAddr Tryz.fo33_3 rfl) rfl kq)) rfl rfl rfl ?_
  refine td_q 6 14 (pm_of rfl rfl rfl (fun _ kq => tl_p (pr_ld Tryz.ag3 rfl) rfl kq)) rfl rfl rfl ?_
  refine td_q 7 15 (pm_of rfl rfl rfl (fun _ kq => tl_p (pr_move rfl) rfl kq)) rfl rfl rfl ?_
  refine td_q 8 16 (pm_of rfl rfl rfl (fun _ kq => tl_rdS (f207_ct r tb x mb sb nx) (.cons rfl .nil) rfl (kk := kq))) rfl rfl rfl ?_
  refine td_q 9 17 (pm_of rfl rfl rfl (fun _ kq => tl_rdS (f206_ct (getR regs x.b) x.c (wide x)) (.cons rfl (.cons rfl (.cons rfl .nil))) rfl (kk := kq))) rfl rfl rfl ?_
  refine td_q 10 7 (pm_of rfl rfl rfl (fun _ kq => tl_p (pr_move rfl) rfl kq)) rfl rfl rfl ?_
  refine td_q 11 18 (pm_of rfl rfl rfl (fun _ kq => tl_p (pr_extract rfl rfl) rfl kq)) rfl rfl rfl ?_
  refine td_q 12 19 (pm_of rfl rfl rfl (fun _ kq => tl_p (pr_extract rfl rfl) rfl kq)) rfl rfl rfl ?_
  refine td_e1 13 (by kernel_rfl) ?_
  refine te rfl ?_
  refine tl_p (pr_assign rfl) rfl ?_
  refine td_next (pd := [12]) (by kernel_rfl) (.cons rfl (pm_of rfl rfl rfl (fun _ kq => tl_p (pr_extract rfl rfl) rfl kq)) .nil) ?_
  refine td_e1 14 (by kernel_rfl) ?_
  refine te rfl ?_
  refine tl_p (pr_assign rfl) rfl ?_
  refine td_next (pd := []) (by kernel_rfl) (.nil) ?_
  refine td_done (by kernel_rfl) ?_
  refine tq_next ?_
  refine tc_seq ?_
  refine tc_seq ?_
  refine tc_region ?_
  refine tl_p (pr_move rfl) rfl ?_
  refine tl_p (pr_neq rfl rfl) rfl ?_
  refine tl_next ?_
  refine tc_if rfl (fun hc1 => ?_) (fun hc1 => ?_)
  · have hd1 := hc1
    try simp only [Bool.not_eq_true', Bool.not_eq_false', Bool.or_eq_true, Bool.and_eq_true, Bool.or_eq_false_iff, Bool.and_eq_false_iff, decide_eq_true_eq, decide_eq_false_iff_not, Bool.not_true, Bool.not_false, gval, Bool.not_eq_eq_eq_not] at hc1
    refine tc_seq ?_
    refine tc_region ?_
    refine tl_p (pr_move rfl) rfl ?_
    refine tl_p (pr_assign rfl) rfl ?_
    refine tl_next ?_
    refine tc_ret (tq_then_ret ?_)
    have eV : ldE regs x m = (ldP regs x).2 := if_neg hc1
    have eS : ldR regs x m = regs := if_neg hc1
    exact tq_retE1 .ret (.inl rfl) () rfl rfl (by rw [eV]; first | done | rfl) (by rw [eS]; repeat (first | exact Pick.nil | exact Rem.here | apply Rem.there | apply Pick.cons))
  · have hd1 := hc1
    try simp only [Bool.not_eq_true', Bool.not_eq_false', Bool.or_eq_true, Bool.and_eq_true, Bool.or_eq_false_iff, Bool.and_eq_false_iff, decide_eq_true_eq, decide_eq_false_iff_not, Bool.not_true, Bool.not_false, gval, Bool.not_eq_eq_eq_not] at hc1
    refine tc_skip (tq_next ?_)
    refine tc_seq ?_
    refine tc_draw Tryz.mixed [0, 1, 2, 3, 4, 5, 6, 8, 9, 10] (by kernel_rfl) ?_
    refine td_q 0 24 (pm_of rfl rfl rfl (fun _ kq => tl_p (pr_move rfl) rfl kq)) rfl rfl rfl ?_
    refine td_q 1 25 (pm_of rfl rfl rfl (fun _ kq => tl_p (pr_nilCheck rfl) rfl kq)) rfl rfl rfl ?_
    refine td_q 2 26 (pm_of rfl rfl rfl (fun _ kq => tl_p (pr_fieldAddr Tryz.fo109_2 rfl) rfl kq)) rfl rfl rfl ?_
    refine td_q 3 27 (pm_of rfl rfl rfl (fun _ kq => tl_p (pr_ld Tryz.ag35 rfl) rfl kq)) rfl rfl rfl ?_
    refine td_q 4 28 (pm_of rfl rfl rfl (fun _ kq => tl_p (pr_move rfl) rfl kq)) rfl rfl rfl ?_
    refine td_q 5 29 (pm_of rfl rfl rfl (fun _ kq => tl_p (pr_move rfl) rfl kq)) rfl rfl rfl ?_
    refine td_q 6 30 (pm_of rfl rfl rfl (fun _ kq => tl_rdS (f207_ct r tb x mb sb nx) (.cons rfl .nil) rfl (kk := kq))) rfl rfl rfl ?_
    refine td_e1 7 (by kernel_rfl) ?_
    refine te rfl ?_
    refine tl_callS (f30_ct mb s m hm (ldP regs x).1 (wide x)) (.cons rfl (.cons rfl (.cons rfl .nil))) rfl (kk := fun ⟨s31, hs31⟩ => ?_)
    refine td_next (pd := []) (by kernel_rfl) (.nil) ?_
    refine td_q 8 23 (pm_of rfl rfl rfl (fun _ kq => tl_p (pr_move rfl) rfl kq)) rfl rfl rfl ?_
    refine td_q 9 32 (pm_of rfl rfl rfl (fun _ kq => tl_p (pr_extract rfl rfl) rfl kq)) rfl rfl rfl ?_
    refine td_q 10 33 (pm_of rfl rfl rfl (fun _ kq => tl_p (pr_extract rfl rfl) rfl kq)) rfl rfl rfl ?_
    refine td_e1 11 (by kernel_rfl) ?_
    refine te rfl ?_
    refine tl_p (pr_assign rfl) rfl ?_
    refine td_next (pd := [10]) (by kernel_rfl) (.cons rfl (pm_of rfl rfl rfl (fun _ kq => tl_p (pr_extract rfl rfl) rfl kq)) .nil) ?_
    refine td_e1 12 (by kernel_rfl) ?_
    refine te rfl ?_
    refine tl_p (pr_assign rfl) rfl ?_
    refine td_next (pd := []) (by kernel_rfl) (.nil) ?_
    refine td_done (by kernel_rfl) ?_
    refine tq_next ?_
    refine tc_seq ?_
    refine tc_region ?_
    refine tl_p (pr_move rfl) rfl ?_
    refine tl_p (pr_move rfl) rfl ?_
    refine tl_rdS (f208_ct s31 _ _ (Sow.toSok hs31)) (.cons rfl .nil) rfl (kk := ?_)
    refine tl_p (pr_move rfl) rfl ?_
    refine tl_rdS (f204_ct _) (.cons rfl .nil) rfl (kk := ?_)
    refine tl_callS (f125_ct r tb x mb sb nx pos rb fb regs hl _ _) (.cons rfl (.cons rfl (.cons rfl .nil))) rfl (kk := fun _ => ?_)
    refine tl_p (pr_assign rfl) rfl ?_
    refine tl_next ?_
    refine tc_ret ?_
    have eV : ldE regs x m = within (memIn m (ldP regs x).1 (wide x)) := if_pos hc1
    have eS : ldR regs x m = _ := if_pos hc1
    exact tq_retE1 .ret (.inl rfl) () rfl rfl (by rw [eV]; first | done | rfl) (by rw [eS]; repeat (first | exact Pick.nil | exact Rem.here | apply Rem.there | apply Pick.cons))

theorem f134_ct (r tb : Nat) (x : Ins) (mb sb : Nat) (nx : Cap) (pos : Cap) (rb fb : Nat) (regs : List Cap) (hl : regs.length = 8) (s : Shp) (m : MemM) (hm : MOk s m) : Ct Tryz.prog 134 #[ad r 0] ([(r, runO tb x mb sb nx), (tb, thrO pos rb fb), (mb, memO s m.n)] ++ ra (.mem (fileS rb)) (capsL regs)) [sl s m.l] (fun _ : Unit => .int .i64 (stE regs x m)) (fun _ N => sl s (stM regs x m).l :: N) := by
  refine ct_intro Tryz.func134 rfl (by kernel_rfl) (n := 34) rfl rfl (E := [(0, ad r 0)]) rfl ?_
  intro κ hro
  obtain ⟨hr1, hr2⟩ := Reads.app hro
  have hq1 : κ.frame r = some (runO tb x mb sb nx) := hr1 _ (List.Mem.head _)
  have hq2 : κ.frame tb = some (thrO pos rb fb) := hr1 _ (List.Mem.tail _ (List.Mem.head _))
  have hq3 : κ.frame mb = some (memO s m.n) := hr1 _ (List.Mem.tail _ (List.Mem.tail _ (List.Mem.head _)))
  refine tc_seq ?_
  refine tc_region ?_
  refine tl_p (pr_assign rfl) rfl ?_
  refine tl_next ?_
  refine tc_seq ?_
  refine tc_draw Tryz.mixed [0, 1, 2, 3, 4, 5, 6, 7, 8, 9, 10, 11, 12] (by kernel_rfl) ?_
  refine td_q 0 6 (pm_of rfl rfl rfl (fun _ kq => tl_p (pr_move rfl) rfl kq)) rfl rfl rfl ?_
  refine td_q 1 7 (pm_of rfl rfl rfl (fun _ kq => tl_rdS (f127_ct r tb x mb sb nx pos rb fb regs hl) (.cons rfl .nil) rfl (kk := kq))) rfl rfl rfl ?_
  refine td_q 2 8 (pm_of rfl rfl rfl (fun _ kq => tl_p (pr_move rfl) rfl kq)) rfl rfl rfl ?_
  refine td_q 3 9 (pm_of rfl rfl rfl (fun _ kq => tl_p (pr_nilCheck rfl) rfl kq)) rfl rfl rfl ?_
  refine td_q 4 10 (pm_of rfl rfl rfl (fun _ kq => tl_p (pr_fieldAddr Tryz.fo109_1 rfl) rfl kq)) rfl rfl rfl ?_
  refine td_q 5 11 (pm_of rfl rfl rfl (fun _ kq => tl_p (pr_fieldAddr Tryz.fo33_3 rfl) rfl kq)) rfl rfl rfl ?_
  refine td_q 6 12 (pm_of rfl rfl rfl (fun _ kq => tl_p (pr_ld Tryz.ag3 rfl) rfl kq)) rfl rfl rfl ?_
  refine td_q 7 13 (pm_of rfl rfl rfl (fun _ kq => tl_p (pr_move rfl) rfl kq)) rfl rfl rfl ?_
  refine td_q 8 14 (pm_of rfl rfl rfl (fun _ kq => tl_rdS (f207_ct r tb x mb sb nx) (.cons rfl .nil) rfl (kk := kq))) rfl rfl rfl ?_
  refine td_q 9 15 (pm_of rfl rfl rfl (fun _ kq => tl_rdS (f209_ct (getR regs x.b) x.c (wide x)) (.cons rfl (.cons rfl (.cons rfl .nil))) rfl (kk := kq))) rfl rfl rfl ?_
  refine td_q 10 5 (pm_of rfl rfl rfl (fun _ kq => tl_p (pr_move rfl) rfl kq)) rfl rfl rfl ?_
  refine td_q 11 16 (pm_of rfl rfl rfl (fun _ kq => tl_p (pr_extract rfl rfl) rfl kq)) rfl rfl rfl ?_
  refine td_q 12 17 (pm_of rfl rfl rfl (fun _ kq => tl_p (pr_extract rfl rfl) rfl kq)) rfl rfl rfl ?_
  refine td_e1 13 (by kernel_rfl) ?_
  refine te rfl ?_
  refine tl_p (pr_assign rfl) rfl ?_
  refine td_next (pd := [12]) (by kernel_rfl) (.cons rfl (pm_of rfl rfl rfl (fun _ kq => tl_p (pr_extract rfl rfl) rfl kq)) .nil) ?_
  refine td_e1 14 (by kernel_rfl) ?_
  refine te rfl ?_
  refine tl_p (pr_assign rfl) rfl ?_
  refine td_next (pd := []) (by kernel_rfl) (.nil) ?_
  refine td_done (by kernel_rfl) ?_
  refine tq_next ?_
  refine tc_seq ?_
  refine tc_seq ?_
  refine tc_region ?_
  refine tl_p (pr_move rfl) rfl ?_
  refine tl_p (pr_neq rfl rfl) rfl ?_
  refine tl_next ?_
  refine tc_if rfl (fun hc1 => ?_) (fun hc1 => ?_)
  · have hd1 := hc1
    try simp only [Bool.not_eq_true', Bool.not_eq_false', Bool.or_eq_true, Bool.and_eq_true, Bool.or_eq_false_iff, Bool.and_eq_false_iff, decide_eq_true_eq, decide_eq_false_iff_not, Bool.not_true, Bool.not_false, gval, Bool.not_eq_eq_eq_not] at hc1
    refine tc_seq ?_
    refine tc_region ?_
    refine tl_p (pr_move rfl) rfl ?_
    refine tl_p (pr_assign rfl) rfl ?_
    refine tl_next ?_
    refine tc_ret (tq_then_ret ?_)
    have eV : stE regs x m = (stP regs x).2 := if_neg hc1
    have eS : stM regs x m = m := if_neg hc1
    exact tq_retE1 .ret (.inl rfl) () rfl rfl (by rw [eV]; first | done | rfl) (by rw [eS]; repeat (first | exact Pick.nil | exact Rem.here | apply Rem.there | apply Pick.cons))
  · have hd1 := hc1
    try simp only [Bool.not_eq_true', Bool.not_eq_false', Bool.or_eq_true, Bool.and_eq_true, Bool.or_eq_false_iff, Bool.and_eq_false_iff, decide_eq_true_eq, decide_eq_false_iff_not, Bool.not_true, Bool.not_false, gval, Bool.not_eq_eq_eq_not] at hc1
    refine tc_skip (tq_next ?_)
    refine tc_seq ?_
    refine tc_draw Tryz.mixed [0, 1, 2, 3, 4, 5, 6, 7, 8, 9, 12] (by kernel_rfl) ?_
    refine td_q 0 21 (pm_of rfl rfl rfl (fun _ kq => tl_p (pr_move rfl) rfl kq)) rfl rfl rfl ?_
    refine td_q 1 22 (pm_of rfl rfl rfl (fun _ kq => tl_p (pr_nilCheck rfl) rfl kq)) rfl rfl rfl ?_
    refine td_q 2 23 (pm_of rfl rfl rfl (fun _ kq => tl_p (pr_fieldAddr Tryz.fo109_2 rfl) rfl kq)) rfl rfl rfl ?_
    refine td_q 3 24 (pm_of rfl rfl rfl (fun _ kq => tl_p (pr_ld Tryz.ag35 rfl) rfl kq)) rfl rfl rfl ?_
    refine td_q 4 25 (pm_of rfl rfl rfl (fun _ kq => tl_p (pr_move rfl) rfl kq)) rfl rfl rfl ?_
    refine td_q 5 26 (pm_of rfl rfl rfl (fun _ kq => tl_p (pr_move rfl) rfl kq)) rfl rfl rfl ?_
    refine td_q 6 27 (pm_of rfl rfl rfl (fun _ kq => tl_rdS (f205_ct r tb x mb sb nx pos rb fb regs hl) (.cons rfl .nil) rfl (kk := kq))) rfl rfl rfl ?_
    refine td_q 7 28 (pm_of rfl rfl rfl (fun _ kq => tl_rdS (f68_ct _) (.cons rfl .nil) rfl (kk := kq))) rfl rfl rfl ?_
    refine td_q 8 29 (pm_of rfl rfl rfl (fun _ kq => tl_p (pr_move rfl) rfl kq)) rfl rfl rfl ?_
    refine td_q 9 30 (pm_of rfl rfl rfl (fun _ kq => tl_rdS (f207_ct r tb x mb sb nx) (.cons rfl .nil) rfl (kk := kq))) rfl rfl rfl ?_
    refine td_e1 10 (by kernel_rfl) ?_
    refine te rfl ?_
    refine tl_callS ((f210_ct (getR regs x.a).pos (wide x).toNat (wide_nat x).2).cast (by rw [← (wide_nat x).1]) rfl) (.cons rfl (.cons rfl .nil)) rfl (kk := fun ⟨s31, hs31⟩ => ?_)
    refine td_next (pd := [4, 3, 2, 1, 0]) (by kernel_rfl) (.cons rfl (pm_of rfl rfl rfl (fun _ kq => tl_p (pr_move rfl) rfl kq)) (.cons rfl (pm_of rfl rfl rfl (fun _ kq => tl_p (pr_ld Tryz.ag35 rfl) rfl kq)) (.cons rfl (pm_of rfl rfl rfl (fun _ kq => tl_p (pr_fieldAddr Tryz.fo109_2 rfl) rfl kq)) (.cons rfl (pm_of rfl rfl rfl (fun _ kq => tl_p (pr_nilCheck rfl) rfl kq)) (.cons rfl (pm_of rfl rfl rfl (fun _ kq => tl_p (pr_move rfl) rfl kq)) .nil))))) ?_
    refine td_e1 11 (by kernel_rfl) ?_
    refine te rfl ?_
    refine tl_callS (f54_ct mb s m hm (stP regs x).1 _ s31 (stB regs x) (Sow.toSok hs31)) (.cons rfl (.cons rfl (.cons rfl .nil))) rfl (kk := fun _ => ?_)
    refine td_next (pd := []) (by kernel_rfl) (.nil) ?_
    refine td_q 12 33 (pm_of rfl rfl rfl (fun _ kq => tl_rdS (f204_ct _) (.cons rfl .nil) rfl (kk := kq))) rfl rfl rfl ?_
    refine td_e1 13 (by kernel_rfl) ?_
    refine te rfl ?_
    refine tl_p (pr_assign rfl) rfl ?_
    refine td_next (pd := []) (by kernel_rfl) (.nil) ?_
    refine td_done (by kernel_rfl) ?_
    refine tq_next ?_
    refine tc_ret ?_
    have eV : stE regs x m = within (memIn m (stP regs x).1 (stB regs x).length) := if_pos hc1
    have eS : stM regs x m = _ := if_pos hc1
    exact tq_retE1 .ret (.inl rfl) () rfl rfl (by rw [eV]; first | done | rfl) (by rw [eS]; repeat (first | exact Pick.nil | exact Rem.here | apply Rem.there | apply Pick.cons))

def lcP (regs : List Cap) (x : Ins) : Int × Int := aeven (getR regs x.b) (permOf [1, 8]) (wI (16 * x.c)) 16
def lcE (regs : List Cap) (x : Ins) (m : MemM) : Int := if (lcP regs x).2 = 0 then within (memCap m (lcP regs x).1).2 else (lcP regs x).2
def lcR (regs : List Cap) (x : Ins) (m : MemM) (W : List Int) (g : Nat) : List Cap := if (lcP regs x).2 = 0 then setE regs x.a (barr W g (memCap m (lcP regs x).1).1) (within (memCap m (lcP regs x).1).2) else regs
def scP (regs : List Cap) (x : Ins) : Int × Int := aeven (getR regs x.b) (permOf [2, 16]) (wI (16 * x.c)) 16
def scE (regs : List Cap) (x : Ins) (m : MemM) : Int := if (scP regs x).2 = 0 then within (gran m (scP regs x).1 && capRight (getR regs x.a)) else (scP regs x).2
def scM (regs : List Cap) (x : Ins) (m : MemM) : MemM := if (scP regs x).2 = 0 then memPutC m (scP regs x).1 (getR regs x.a) else m
theorem wI_lt (i : Int) : -9223372036854775808 ≤ wI i ∧ wI i ≤ 9223372036854775807 := by
  unfold wI IntKind.wrap; simp [IntKind.bits, IntKind.signed]; split <;> omega

end Go.Proofs

namespace Go.Proofs
open Go Go.Sz
attribute [local irreducible] pt lift exs own emp
theorem Tryz.ag36 : aggB Tryz.prog 36 = some false := by kernel_rfl
theorem Tryz.fo109_3 : fOff Tryz.prog 109 3 = some (6, 1, false) := by kernel_rfl
theorem u8w (i : Int) : 0 ≤ IntKind.u8.wrap i ∧ IntKind.u8.wrap i ≤ 255 := by
  unfold IntKind.wrap; simp [IntKind.bits, IntKind.signed]; omega
theorem wrap_lt (k : IntKind) (i : Int) (hk : k = .i64) : k.wrap i ≤ 9223372036854775807 := by subst hk; exact (wI_lt i).2
theorem encGet_le (g : List Int) (t : Bool) : (encGet g t).base ≤ 9223372036854775807 := wrap_lt _ _ rfl
theorem memCap_le (m : MemM) (p : Int) : (memCap m p).1.base ≤ 9223372036854775807 := by
  unfold memCap; split
  · exact encGet_le _ _
  · show (0 : Int) ≤ _; omega
theorem acheck_le (c : Cap) (a b d : Int) : (acheck c a b d).1 ≤ 9223372036854775807 := by
  unfold acheck; repeat' split
  all_goals first | exact (wI_lt _).2 | (show (0 : Int) ≤ _; omega)
theorem aeven_le (c : Cap) (a b d : Int) : (aeven c a b d).1 ≤ 9223372036854775807 := by
  unfold aeven; split
  · exact acheck_le _ _ _ _
  · show (0 : Int) ≤ _; omega

theorem f135_ct (r tb : Nat) (x : Ins) (mb sb : Nat) (nx : Cap) (pos : Cap) (rb fb : Nat) (regs : List Cap) (hl : regs.length = 8) (s : Shp) (m : MemM) (hm : MOk s m) (sr : Bool) (lv : Value) (nn : Int) (pb : Nat) (ps : Shp) (W : List Int) (g : Nat) (hw : ShOk ps W g) : Ct Tryz.prog 135 #[ad r 0] (([(r, runO tb x mb sb nx), (tb, thrO pos rb fb), (mb, memO s m.n), (sb, swO mb pb sr lv nn), (pb, shO ps W.length g)] ++ ra s m.l) ++ ra ps (u64s W)) [fileA rb regs] (fun _ : Unit => .int .i64 (lcE regs x m)) (fun _ N => fileA rb (lcR regs x m W g) :: N) := by
  refine ct_intro Tryz.func135 rfl (by kernel_rfl) (n := 41) rfl rfl (E := [(0, ad r 0)]) rfl ?_
  intro κ hro
  obtain ⟨hr0, hr3⟩ := Reads.app hro
  obtain ⟨hr1, hr2⟩ := Reads.app hr0
  have hq1 : κ.frame r = some (runO tb x mb sb nx) := hr1 _ (List.Mem.head _)
  have hq2 : κ.frame tb = some (thrO pos rb fb) := hr1 _ (List.Mem.tail _ (List.Mem.head _))
  have hq3 : κ.frame mb = some (memO s m.n) := hr1 _ (List.Mem.tail _ (List.Mem.tail _ (List.Mem.head _)))
  have hq4 : κ.frame sb = some (swO mb pb sr lv nn) := hr1 _ (List.Mem.tail _ (List.Mem.tail _ (List.Mem.tail _ (List.Mem.head _))))
  have hq5 : κ.frame pb = some (shO ps W.length g) := hr1 _ (List.Mem.tail _ (List.Mem.tail _ (List.Mem.tail _ (List.Mem.tail _ (List.Mem.head _)))))
  refine tc_seq ?_
  refine tc_region ?_
  refine tl_p (pr_assign rfl) rfl ?_
  refine tl_next ?_
  refine tc_seq ?_
  refine tc_draw Tryz.mixed [0, 1, 2, 3, 4, 5, 6, 7, 8, 9, 10, 11] (by kernel_rfl) ?_
  refine td_q 0 8 (pm_of rfl rfl rfl (fun _ kq => tl_p (pr_move rfl) rfl kq)) rfl rfl rfl ?_
  refine td_q 1 9 (pm_of rfl rfl rfl (fun _ kq => tl_rdS (f127_ct r tb x mb sb nx pos rb fb regs hl) (.cons rfl .nil) rfl (kk := kq))) rfl rfl rfl ?_
  refine td_q 2 10 (pm_of rfl rfl rfl (fun _ kq => tl_p (pr_move rfl) rfl kq)) rfl rfl rfl ?_
  refine td_q 3 11 (pm_of rfl rfl rfl (fun _ kq => tl_p (pr_nilCheck rfl) rfl kq)) rfl rfl rfl ?_
  refine td_q 4 12 (pm_of rfl rfl rfl (fun _ kq => tl_p (pr_fieldAddr Tryz.fo109_1 rfl) rfl kq)) rfl rfl rfl ?_
  refine td_q 5 13 (pm_of rfl rfl rfl (fun _ kq => tl_p (pr_fieldAddr Tryz.fo33_3 rfl) rfl kq)) rfl rfl rfl ?_
  refine td_q 6 14 (pm_of rfl rfl rfl (fun _ kq => tl_p (pr_ld Tryz.ag3 rfl) rfl kq)) rfl rfl rfl ?_
  refine td_q 7 15 (pm_of rfl rfl rfl (fun _ kq => tl_p (pr_mul rfl rfl) rfl kq)) rfl rfl rfl ?_
  refine td_q 8 16 (pm_of rfl rfl rfl (fun _ kq => tl_rdS (f211_ct (getR regs x.b) (wI (16 * x.c))) (.cons rfl (.cons rfl .nil)) rfl (kk := kq))) rfl rfl rfl ?_
  refine td_q 9 7 (pm_of rfl rfl rfl (fun _ kq => tl_p (pr_move rfl) rfl kq)) rfl rfl rfl ?_
  refine td_q 10 17 (pm_of rfl rfl rfl (fun _ kq => tl_p (pr_extract rfl rfl) rfl kq)) rfl rfl rfl ?_
  refine td_q 11 18 (pm_of rfl rfl rfl (fun _ kq => tl_p (pr_extract rfl rfl) rfl kq)) rfl rfl rfl ?_
  refine td_e1 12 (by kernel_rfl) ?_
  refine te rfl ?_
  refine tl_p (pr_assign rfl) rfl ?_
  refine td_next (pd := [11]) (by kernel_rfl) (.cons rfl (pm_of rfl rfl rfl (fun _ kq => tl_p (pr_extract rfl rfl) rfl kq)) .nil) ?_
  refine td_e1 13 (by kernel_rfl) ?_
  refine te rfl ?_
  refine tl_p (pr_assign rfl) rfl ?_
  refine td_next (pd := []) (by kernel_rfl) (.nil) ?_
  refine td_done (by kernel_rfl) ?_
  refine tq_next ?_
  refine tc_seq ?_
  refine tc_seq ?_
  refine tc_region ?_
  refine tl_p (pr_move rfl) rfl ?_
  refine tl_p (pr_neq rfl rfl) rfl ?_
  refine tl_next ?_
  refine tc_if rfl (fun hc1 => ?_) (fun hc1 => ?_)
  · have hd1 := hc1
    try simp only [Bool.not_eq_true', Bool.not_eq_false', Bool.or_eq_true, Bool.and_eq_true, Bool.or_eq_false_iff, Bool.and_eq_false_iff, decide_eq_true_eq, decide_eq_false_iff_not, Bool.not_true, Bool.not_false, gval, Bool.not_eq_eq_eq_not] at hc1
    refine tc_seq ?_
    refine tc_region ?_
    refine tl_p (pr_move rfl) rfl ?_
    refine tl_p (pr_assign rfl) rfl ?_
    refine tl_next ?_
    refine tc_ret (tq_then_ret ?_)
    have eV : lcE regs x m = (lcP regs x).2 := if_neg hc1
    have eS : lcR regs x m W g = regs := if_neg hc1
    exact tq_retE1 .ret (.inl rfl) () rfl rfl (by rw [eV]; first | done | rfl) (by rw [eS]; repeat (first | exact Pick.nil | exact Rem.here | apply Rem.there | apply Pick.cons))
  · have hd1 := hc1
    try simp only [Bool.not_eq_true', Bool.not_eq_false', Bool.or_eq_true, Bool.and_eq_true, Bool.or_eq_false_iff, Bool.and_eq_false_iff, decide_eq_true_eq, decide_eq_false_iff_not, Bool.not_true, Bool.not_false, gval, Bool.not_eq_eq_eq_not] at hc1
    refine tc_skip (tq_next ?_)
    refine tc_seq ?_
    refine tc_region ?_
    refine tl_p (pr_move rfl) rfl ?_
    refine tl_p (pr_nilCheck rfl) rfl ?_
    refine tl_p (pr_fieldAddr Tryz.fo109_2 rfl) rfl ?_
    refine tl_p (pr_ld Tryz.ag35 rfl) rfl ?_
    refine tl_p (pr_move rfl) rfl ?_
    refine tl_rdS (f102_ct mb s m hm (lcP regs x).1 (aeven_le _ _ _ _)) (.cons rfl (.cons rfl .nil)) rfl (kk := ?_)
    refine tl_p (pr_move rfl) rfl ?_
    refine tl_p (pr_extract rfl rfl) rfl ?_
    refine tl_p (pr_extract rfl rfl) rfl ?_
    refine tl_alloc Tryz.z27 rfl (fun b5 => ?_)
    refine tl_storeW Tryz.sz27 rfl rfl (k := ?_)
    refine tl_p (pr_assign rfl) rfl ?_
    refine tl_next ?_
    refine tc_seq ?_
    refine tc_draw Tryz.mixed [0, 1, 2, 3, 4, 5, 6, 7, 8] (by kernel_rfl) ?_
    refine td_q 0 31 (pm_of rfl rfl rfl (fun _ kq => tl_p (pr_move rfl) rfl kq)) rfl rfl rfl ?_
    refine td_q 1 32 (pm_of rfl rfl rfl (fun _ kq => tl_p (pr_move rfl) rfl kq)) rfl rfl rfl ?_
    refine td_q 2 33 (pm_of rfl rfl rfl (fun _ kq => tl_p (pr_nilCheck rfl) rfl kq)) rfl rfl rfl ?_
    refine td_q 3 34 (pm_of rfl rfl rfl (fun _ kq => tl_p (pr_fieldAddr Tryz.fo109_3 rfl) rfl kq)) rfl rfl rfl ?_
    refine td_q 4 35 (pm_of rfl rfl rfl (fun _ kq => tl_p (pr_ld Tryz.ag36 rfl) rfl kq)) rfl rfl rfl ?_
    refine td_q 5 36 (pm_of rfl rfl rfl (fun _ kq => tl_p (by first | exact pr_loadW Tryz.ag27 Tryz.sz27 rfl | exact pr_ldA Tryz.ag27 Tryz.sz27 rfl) rfl kq)) rfl rfl rfl ?_
    refine td_q 6 37 (pm_of rfl rfl rfl (fun _ kq => tl_rdS (f44_ct sb mb sr lv nn pb ps W g hw (memCap m (lcP regs x).1).1 (memCap_le _ _)) (.cons rfl (.cons rfl .nil)) rfl (kk := kq))) rfl rfl rfl ?_
    refine td_q 7 38 (pm_of rfl rfl rfl (fun _ kq => tl_p (pr_move rfl) rfl kq)) rfl rfl rfl ?_
    refine td_q 8 39 (pm_of rfl rfl rfl (fun _ kq => tl_rdS (f204_ct _) (.cons rfl .nil) rfl (kk := kq))) rfl rfl rfl ?_
    refine td_e1 9 (by kernel_rfl) ?_
    refine te rfl ?_
    refine tl_callS (f203_ct r tb x mb sb nx pos rb fb regs hl _ _) (.cons rfl (.cons rfl (.cons rfl .nil))) rfl (kk := fun _ => ?_)
    refine td_next (pd := []) (by kernel_rfl) (.nil) ?_
    refine td_e1 10 (by kernel_rfl) ?_
    refine te rfl ?_
    refine tl_p (pr_assign rfl) rfl ?_
    refine td_next (pd := []) (by kernel_rfl) (.nil) ?_
    refine td_done (by kernel_rfl) ?_
    refine tq_next ?_
    refine tc_ret ?_
    have eV : lcE regs x m = within (memCap m (lcP regs x).1).2 := if_pos hc1
    have eS : lcR regs x m W g = _ := if_pos hc1
    exact tq_retE1 .ret (.inl rfl) () rfl rfl (by rw [eV]; first | done | rfl) (by rw [eS]; repeat (first | exact Pick.nil | exact Rem.here | apply Rem.there | apply Pick.cons))

theorem f136_ct (r tb : Nat) (x : Ins) (mb sb : Nat) (nx : Cap) (pos : Cap) (rb fb : Nat) (regs : List Cap) (hl : regs.length = 8) (s : Shp) (m : MemM) (hm : MOk s m) : Ct Tryz.prog 136 #[ad r 0] ([(r, runO tb x mb sb nx), (tb, thrO pos rb fb), (mb, memO s m.n)] ++ ra (.mem (fileS rb)) (capsL regs)) [sl s m.l] (fun _ : Unit => .int .i64 (scE regs x m)) (fun _ N => sl s (scM regs x m).l :: N) := by
  refine ct_intro Tryz.func136 rfl (by kernel_rfl) (n := 29) rfl rfl (E := [(0, ad r 0)]) rfl ?_
  intro κ hro
  obtain ⟨hr1, hr2⟩ := Reads.app hro
  have hq1 : κ.frame r = some (runO tb x mb sb nx) := hr1 _ (List.Mem.head _)
  have hq2 : κ.frame tb = some (thrO pos rb fb) := hr1 _ (List.Mem.tail _ (List.Mem.head _))
  have hq3 : κ.frame mb = some (memO s m.n) := hr1 _ (List.Mem.tail _ (List.Mem.tail _ (List.Mem.head _)))
  refine tc_seq ?_
  refine tc_region ?_
  refine tl_p (pr_assign rfl) rfl ?_
  refine tl_next ?_
  refine tc_seq ?_
  refine tc_draw Tryz.mixed [0, 1, 2, 3, 4, 5, 6, 7, 8, 9, 10, 11] (by kernel_rfl) ?_
  refine td_q 0 6 (pm_of rfl rfl rfl (fun _ kq => tl_p (pr_move rfl) rfl kq)) rfl rfl rfl ?_
  refine td_q 1 7 (pm_of rfl rfl rfl (fun _ kq => tl_rdS (f127_ct r tb x mb sb nx pos rb fb regs hl) (.cons rfl .nil) rfl (kk := kq))) rfl rfl rfl ?_
  refine td_q 2 8 (pm_of rfl rfl rfl (fun _ kq => tl_p (pr_move rfl) rfl kq)) rfl rfl rfl ?_
  refine td_q 3 9 (pm_of rfl rfl rfl (fun _ kq => tl_p (pr_nilCheck rfl) rfl kq)) rfl rfl rfl ?_
  refine td_q 4 10 (pm_of rfl rfl rfl (fun _ kq => tl_p (pr_fieldAddr Tryz.fo109_1 rfl) rfl kq)) rfl rfl rfl ?_
  refine td_q 5 11 (pm_of rfl rfl rfl (fun _ kq => tl_p (pr_fieldAddr Tryz.fo33_3 rfl) rfl kq)) rfl rfl rfl ?_
  refine td_q 6 12 (pm_of rfl rfl rfl (fun _ kq => tl_p (pr_ld Tryz.ag3 rfl) rfl kq)) rfl rfl rfl ?_
  refine td_q 7 13 (pm_of rfl rfl rfl (fun _ kq => tl_p (pr_mul rfl rfl) rfl kq)) rfl rfl rfl ?_
  refine td_q 8 14 (pm_of rfl rfl rfl (fun _ kq => tl_rdS (f212_ct (getR regs x.b) (wI (16 * x.c))) (.cons rfl (.cons rfl .nil)) rfl (kk := kq))) rfl rfl rfl ?_
  refine td_q 9 5 (pm_of rfl rfl rfl (fun _ kq => tl_p (pr_move rfl) rfl kq)) rfl rfl rfl ?_
  refine td_q 10 15 (pm_of rfl rfl rfl (fun _ kq => tl_p (pr_extract rfl rfl) rfl kq)) rfl rfl rfl ?_
  refine td_q 11 16 (pm_of rfl rfl rfl (fun _ kq => tl_p (pr_extract rfl rfl) rfl kq)) rfl rfl rfl ?_
  refine td_e1 12 (by kernel_rfl) ?_
  refine te rfl ?_
  refine tl_p (pr_assign rfl) rfl ?_
  refine td_next (pd := [11]) (by kernel_rfl) (.cons rfl (pm_of rfl rfl rfl (fun _ kq => tl_p (pr_extract rfl rfl) rfl kq)) .nil) ?_
  refine td_e1 13 (by kernel_rfl) ?_
  refine te rfl ?_
  refine tl_p (pr_assign rfl) rfl ?_
  refine td_next (pd := []) (by kernel_rfl) (.nil) ?_
  refine td_done (by kernel_rfl) ?_
  refine tq_next ?_
  refine tc_seq ?_
  refine tc_seq ?_
  refine tc_region ?_
  refine tl_p (pr_move rfl) rfl ?_
  refine tl_p (pr_neq rfl rfl) rfl ?_
  refine tl_next ?_
  refine tc_if rfl (fun hc1 => ?_) (fun hc1 => ?_)
  · have hd1 := hc1
    try simp only [Bool.not_eq_true', Bool.not_eq_false', Bool.or_eq_true, Bool.and_eq_true, Bool.or_eq_false_iff, Bool.and_eq_false_iff, decide_eq_true_eq, decide_eq_false_iff_not, Bool.not_true, Bool.not_false, gval, Bool.not_eq_eq_eq_not] at hc1
    refine tc_seq ?_
    refine tc_region ?_
    refine tl_p (pr_move rfl) rfl ?_
    refine tl_p (pr_assign rfl) rfl ?_
    refine tl_next ?_
    refine tc_ret (tq_then_ret ?_)
    have eV : scE regs x m = (scP regs x).2 := if_neg hc1
    have eS : scM regs x m = m := if_neg hc1
    exact tq_retE1 .ret (.inl rfl) () rfl rfl (by rw [eV]; first | done | rfl) (by rw [eS]; repeat (first | exact Pick.nil | exact Rem.here | apply Rem.there | apply Pick.cons))
  · have hd1 := hc1
    try simp only [Bool.not_eq_true', Bool.not_eq_false', Bool.or_eq_true, Bool.and_eq_true, Bool.or_eq_false_iff, Bool.and_eq_false_iff, decide_eq_true_eq, decide_eq_false_iff_not, Bool.not_true, Bool.not_false, gval, Bool.not_eq_eq_eq_not] at hc1
    refine tc_skip (tq_next ?_)
    refine tc_seq ?_
    refine tc_draw Tryz.mixed [0, 1, 2, 3, 4, 5, 6, 8] (by kernel_rfl) ?_
    refine td_q 0 20 (pm_of rfl rfl rfl (fun _ kq => tl_p (pr_move rfl) rfl kq)) rfl rfl rfl ?_
    refine td_q 1 21 (pm_of rfl rfl rfl (fun _ kq => tl_p (pr_nilCheck rfl) rfl kq)) rfl rfl rfl ?_
    refine td_q 2 22 (pm_of rfl rfl rfl (fun _ kq => tl_p (pr_fieldAddr Tryz.fo109_2 rfl) rfl kq)) rfl rfl rfl ?_
    refine td_q 3 23 (pm_of rfl rfl rfl (fun _ kq => tl_p (pr_ld Tryz.ag35 rfl) rfl kq)) rfl rfl rfl ?_
    refine td_q 4 24 (pm_of rfl rfl rfl (fun _ kq => tl_p (pr_move rfl) rfl kq)) rfl rfl rfl ?_
    refine td_q 5 25 (pm_of rfl rfl rfl (fun _ kq => tl_p (pr_move rfl) rfl kq)) rfl rfl rfl ?_
    refine td_q 6 26 (pm_of rfl rfl rfl (fun _ kq => tl_rdS (f205_ct r tb x mb sb nx pos rb fb regs hl) (.cons rfl .nil) rfl (kk := kq))) rfl rfl rfl ?_
    refine td_e1 7 (by kernel_rfl) ?_
    refine te rfl ?_
    refine tl_callS (f56_ct mb s m hm (scP regs x).1 (aeven_le _ _ _ _) (getR regs x.a)) (.cons rfl (.cons rfl (.cons rfl .nil))) rfl (kk := fun _ => ?_)
    refine td_next (pd := []) (by kernel_rfl) (.nil) ?_
    refine td_q 8 28 (pm_of rfl rfl rfl (fun _ kq => tl_rdS (f204_ct _) (.cons rfl .nil) rfl (kk := kq))) rfl rfl rfl ?_
    refine td_e1 9 (by kernel_rfl) ?_
    refine te rfl ?_
    refine tl_p (pr_assign rfl) rfl ?_
    refine td_next (pd := []) (by kernel_rfl) (.nil) ?_
    refine td_done (by kernel_rfl) ?_
    refine tq_next ?_
    refine tc_ret ?_
    have eV : scE regs x m = _ := if_pos hc1
    have eS : scM regs x m = _ := if_pos hc1
    exact tq_retE1 .ret (.inl rfl) () rfl rfl (by rw [eV]; first | done | rfl) (by rw [eS]; repeat (first | exact Pick.nil | exact Rem.here | apply Rem.there | apply Pick.cons))

def capSizeW (c : Cap) : Int := if c.top ≤ c.base then 0 else wI (c.top - c.base)

theorem f223_w (c : Cap) : Rd Tryz.prog 223 #[c.v] [] [] (.int .i64 (capSizeW c)) := by
  refine ct_intro Tryz.func223 rfl (by kernel_rfl) (n := 13) rfl rfl (E := [(0, c.v)]) rfl ?_
  intro κ hro
  refine tc_seq ?_
  refine tc_region ?_
  refine tl_box rfl rfl (fun b1 => ?_)
  refine tl_p (pr_assign rfl) rfl ?_
  refine tl_next ?_
  refine tc_seq ?_
  refine tc_seq ?_
  refine tc_region ?_
  refine tl_p (pr_fieldAddr Tryz.fo27_2 rfl) rfl ?_
  refine tl_p (pr_ld Tryz.ag3 rfl) rfl ?_
  refine tl_p (pr_fieldAddr Tryz.fo27_1 rfl) rfl ?_
  refine tl_p (pr_ld Tryz.ag3 rfl) rfl ?_
  refine tl_p (pr_leq rfl rfl) rfl ?_
  refine tl_next ?_
  refine tc_if rfl (fun hc1 => ?_) (fun hc1 => ?_)
  · have hd1 := hc1
    try simp only [Bool.not_eq_true', Bool.not_eq_false', Bool.or_eq_true, Bool.and_eq_true, Bool.or_eq_false_iff, Bool.and_eq_false_iff, decide_eq_true_eq, decide_eq_false_iff_not, Bool.not_true, Bool.not_false, gval, Bool.not_eq_eq_eq_not] at hc1
    refine tc_seq ?_
    refine tc_region ?_
    refine tl_p (pr_assign rfl) rfl ?_
    refine tl_next ?_
    refine tc_ret (tq_then_ret ?_)
    exact tq_retE1 .ret (.inl rfl) () rfl rfl (by first | rfl | (subst_vars; rfl) | (simp [capSizeW, *, cells_agg, resV, Cap.v]; done) | (simp [capSizeW, *, cells_agg, resV, Cap.v]; omega) | (unfold capSizeW; split <;> first | rfl | (exfalso; simp_all; done) | (exfalso; simp_all [wI]; first | done | omega)))
  · have hd1 := hc1
    try simp only [Bool.not_eq_true', Bool.not_eq_false', Bool.or_eq_true, Bool.and_eq_true, Bool.or_eq_false_iff, Bool.and_eq_false_iff, decide_eq_true_eq, decide_eq_false_iff_not, Bool.not_true, Bool.not_false, gval, Bool.not_eq_eq_eq_not] at hc1
    refine tc_skip (tq_next ?_)
    refine tc_seq ?_
    refine tc_region ?_
    refine tl_p (pr_fieldAddr Tryz.fo27_2 rfl) rfl ?_
    refine tl_p (pr_ld Tryz.ag3 rfl) rfl ?_
    refine tl_p (pr_fieldAddr Tryz.fo27_1 rfl) rfl ?_
    refine tl_p (pr_ld Tryz.ag3 rfl) rfl ?_
    refine tl_p (pr_sub rfl rfl) rfl ?_
    refine tl_p (pr_assign rfl) rfl ?_
    refine tl_next ?_
    refine tc_ret ?_
    exact tq_retE1 .ret (.inl rfl) () rfl rfl (by first | rfl | (subst_vars; rfl) | (simp [capSizeW, *, cells_agg, resV, Cap.v]; done) | (simp [capSizeW, *, cells_agg, resV, Cap.v]; omega) | (unfold capSizeW; split <;> first | rfl | (exfalso; simp_all; done) | (exfalso; simp_all [wI]; first | done | omega)))

theorem f145_ct (r tb : Nat) (x : Ins) (mb sb : Nat) (nx : Cap) (pos : Cap) (rb fb : Nat) (regs : List Cap) (hl : regs.length = 8) : Ct Tryz.prog 145 #[ad r 0] [(r, runO tb x mb sb nx), (tb, thrO pos rb fb)] [fileA rb regs] (fun _ : Unit => .int .i64 (0)) (fun _ N => fileA rb (setE regs x.a (intC (capSizeW (getR regs x.b))) (0)) :: N) := by
  refine ct_intro Tryz.func145 rfl (by kernel_rfl) (n := 8) rfl rfl (E := [(0, ad r 0)]) rfl ?_
  intro κ hro
  have hq1 : κ.frame r = some (runO tb x mb sb nx) := hro _ (List.Mem.head _)
  have hq2 : κ.frame tb = some (thrO pos rb fb) := hro _ (List.Mem.tail _ (List.Mem.head _))
  refine tc_seq ?_
  refine tc_region ?_
  refine tl_p (pr_assign rfl) rfl ?_
  refine tl_next ?_
  refine tc_seq ?_
  refine tc_region ?_
  refine tl_p (pr_move rfl) rfl ?_
  refine tl_p (pr_move rfl) rfl ?_
  refine tl_rdS (f127_ct r tb x mb sb nx pos rb fb regs hl) (.cons rfl .nil) rfl (kk := ?_)
  refine tl_rdS (f223_w _) (.cons rfl .nil) rfl (kk := ?_)
  refine tl_callS (f125_ct r tb x mb sb nx pos rb fb regs hl (capSizeW (getR regs x.b)) (0)) (.cons rfl (.cons rfl (.cons rfl .nil))) rfl (kk := fun _ => ?_)
  refine tl_p (pr_assign rfl) rfl ?_
  refine tl_next ?_
  refine tc_ret ?_
  exact tq_ret1 .ret (.inl rfl) () rfl rfl

def tagN (c : Cap) : Int := if c.tag then 1 else 0

theorem f147_ct (r tb : Nat) (x : Ins) (mb sb : Nat) (nx : Cap) (pos : Cap) (rb fb : Nat) (regs : List Cap) (hl : regs.length = 8) : Ct Tryz.prog 147 #[ad r 0] [(r, runO tb x mb sb nx), (tb, thrO pos rb fb)] [fileA rb regs] (fun _ : Unit => .int .i64 (0)) (fun _ N => fileA rb (setE regs x.a (intC (tagN (getR regs x.b))) (0)) :: N) := by
  refine ct_intro Tryz.func147 rfl (by kernel_rfl) (n := 10) rfl rfl (E := [(0, ad r 0)]) rfl ?_
  intro κ hro
  have hq1 : κ.frame r = some (runO tb x mb sb nx) := hro _ (List.Mem.head _)
  have hq2 : κ.frame tb = some (thrO pos rb fb) := hro _ (List.Mem.tail _ (List.Mem.head _))
  refine tc_seq ?_
  refine tc_region ?_
  refine tl_p (pr_assign rfl) rfl ?_
  refine tl_next ?_
  refine tc_seq ?_
  refine tc_region ?_
  refine tl_p (pr_assign rfl) rfl ?_
  refine tl_next ?_
  refine tc_seq ?_
  refine tc_seq ?_
  refine tc_region ?_
  refine tl_p (pr_move rfl) rfl ?_
  refine tl_rdS (f127_ct r tb x mb sb nx pos rb fb regs hl) (.cons rfl .nil) rfl (kk := ?_)
  refine tl_p (pr_field Tryz.fo27_0 rfl rfl) rfl ?_
  refine tl_next ?_
  refine tc_if rfl (fun hc1 => ?_) (fun hc1 => ?_)
  · have hd1 := hc1
    try simp only [Bool.not_eq_true', Bool.not_eq_false', Bool.or_eq_true, Bool.and_eq_true, Bool.or_eq_false_iff, Bool.and_eq_false_iff, decide_eq_true_eq, decide_eq_false_iff_not, Bool.not_true, Bool.not_false, gval, Bool.not_eq_eq_eq_not] at hc1
    refine tc_region ?_
    refine tl_p (pr_assign rfl) rfl ?_
    refine tl_next ?_
    refine tc_seq ?_
    refine tc_region ?_
    refine tl_p (pr_move rfl) rfl ?_
    refine tl_p (pr_eqI (j := tagN (getR regs x.b)) (pr_move rfl) (by unfold tagN; simp [*])) rfl ?_
    refine tl_callS (f125_ct r tb x mb sb nx pos rb fb regs hl (tagN (getR regs x.b)) (0)) (.cons rfl (.cons rfl (.cons rfl .nil))) rfl (kk := fun _ => ?_)
    refine tl_p (pr_assign rfl) rfl ?_
    refine tl_next ?_
    refine tc_ret ?_
    exact tq_ret1 .ret (.inl rfl) () rfl rfl
  · have hd1 := hc1
    try simp only [Bool.not_eq_true', Bool.not_eq_false', Bool.or_eq_true, Bool.and_eq_true, Bool.or_eq_false_iff, Bool.and_eq_false_iff, decide_eq_true_eq, decide_eq_false_iff_not, Bool.not_true, Bool.not_false, gval, Bool.not_eq_eq_eq_not] at hc1
    refine tc_skip (tq_next ?_)
    refine tc_seq ?_
    refine tc_region ?_
    refine tl_p (pr_move rfl) rfl ?_
    refine tl_p (pr_eqI (j := tagN (getR regs x.b)) (pr_move rfl) (by unfold tagN; simp [*])) rfl ?_
    refine tl_callS (f125_ct r tb x mb sb nx pos rb fb regs hl (tagN (getR regs x.b)) (0)) (.cons rfl (.cons rfl (.cons rfl .nil))) rfl (kk := fun _ => ?_)
    refine tl_p (pr_assign rfl) rfl ?_
    refine tl_next ?_
    refine tc_ret ?_
    exact tq_ret1 .ret (.inl rfl) () rfl rfl

def caE (regs : List Cap) (x : Ins) (fs : List Fr) (nx : Cap) : Int := if enters (getR regs x.a) (getR regs x.b) = 0 then (if pushOk fs ⟨nx, getR regs 4, getR regs 5, getR regs 6, getR regs 7⟩ then 0 else 5) else enters (getR regs x.a) (getR regs x.b)
def caB (regs : List Cap) (x : Ins) : Cap := if (getR regs x.a).typ = 1 then nullC else getR regs x.b
def caO (regs : List Cap) (x : Ins) (fs : List Fr) (nx : Cap) : Bool := decide (caE regs x fs nx = 0)
def caR (regs : List Cap) (x : Ins) (fs : List Fr) (nx : Cap) : List Cap := if caO regs x fs nx then setR (clearR regs 4 7) 7 { caB regs x with typ := 0 } else regs
def caF (regs : List Cap) (x : Ins) (fs : List Fr) (nx : Cap) : List Fr := if caO regs x fs nx then pushF fs ⟨nx, getR regs 4, getR regs 5, getR regs 6, getR regs 7⟩ else fs
def caN (regs : List Cap) (x : Ins) (fs : List Fr) (nx : Cap) : Cap := if caO regs x fs nx then { getR regs x.a with typ := 0 } else nx

end Go.Proofs

namespace Go.Proofs
open Go Go.Sz
attribute [local irreducible] pt lift exs own emp
theorem Tryz.ag187 : aggB Tryz.prog 187 = some true := by kernel_rfl
theorem Tryz.sz187 : szOf Tryz.prog 187 = some 24 := by kernel_rfl
theorem Tryz.bl189_0_1 {n : Nat} {D : List Deferred} {E : Env} {L : List HProp} {κ : Ctx} {T : TypeId} {x0 x1 : Operand} {a0_0 a0_1 a0_2 a0_3 a0_4 a0_5 a1_0 a1_1 a1_2 a1_3 a1_4 a1_5 a1_6 a1_7 a1_8 a1_9 a1_10 a1_11 a1_12 a1_13 a1_14 a1_15 a1_16 a1_17 a1_18 a1_19 a1_20 a1_21 a1_22 a1_23 : Value} (h0 : E.ev x0 = some (.agg #[a0_0, a0_1, a0_2, a0_3, a0_4, a0_5])) (h1 : E.ev x1 = some (.agg #[a1_0, a1_1, a1_2, a1_3, a1_4, a1_5, a1_6, a1_7, a1_8, a1_9, a1_10, a1_11, a1_12, a1_13, a1_14, a1_15, a1_16, a1_17, a1_18, a1_19, a1_20, a1_21, a1_22, a1_23])) :
    PR Tryz.prog (.build 189 #[(0, x0), (1, x1)]) T n D E L κ (.agg #[a0_0, a0_1, a0_2, a0_3, a0_4, a0_5, a1_0, a1_1, a1_2, a1_3, a1_4, a1_5, a1_6, a1_7, a1_8, a1_9, a1_10, a1_11, a1_12, a1_13, a1_14, a1_15, a1_16, a1_17, a1_18, a1_19, a1_20, a1_21, a1_22, a1_23]) := by
  refine pr_buildS Tryz.bld189 (.cons h0 (.cons h1 .nil)) ?_
  simp [Instr.fill, cells_agg]
theorem len8 {l : List Cap} (h : l.length = 8) : ∃ a b c d e f g i, l = [a, b, c, d, e, f, g, i] := by
  match l, h with
  | [a, b, c, d, e, f, g, i], _ => exact ⟨a, b, c, d, e, f, g, i, rfl⟩
theorem caE_0 {regs : List Cap} {x : Ins} {fs : List Fr} {nx : Cap} (h : ¬ enters (getR regs x.a) (getR regs x.b) = 0) : caE regs x fs nx = enters (getR regs x.a) (getR regs x.b) ∧ caR regs x fs nx = regs ∧ caF regs x fs nx = fs ∧ caN regs x fs nx = nx := by
  have e1 : caE regs x fs nx = enters (getR regs x.a) (getR regs x.b) := if_neg h
  have e2 : caO regs x fs nx = false := by unfold caO; rw [e1]; simp [h]
  refine ⟨e1, ?_, ?_, ?_⟩
  · unfold caR; rw [e2]; rfl
  · unfold caF; rw [e2]; rfl
  · unfold caN; rw [e2]; rfl
theorem caE_1 {regs : List Cap} {x : Ins} {fs : List Fr} {nx : Cap} (h : enters (getR regs x.a) (getR regs x.b) = 0) (hp : pushOk fs ⟨nx, getR regs 4, getR regs 5, getR regs 6, getR regs 7⟩ = false) : caE regs x fs nx = 5 ∧ caR regs x fs nx = regs ∧ caF regs x fs nx = fs ∧ caN regs x fs nx = nx := by
  have e1 : caE regs x fs nx = 5 := by unfold caE; rw [if_pos h, hp]; rfl
  have e2 : caO regs x fs nx = false := by unfold caO; rw [e1]; rfl
  refine ⟨e1, ?_, ?_, ?_⟩
  · unfold caR; rw [e2]; rfl
  · unfold caF; rw [e2]; rfl
  · unfold caN; rw [e2]; rfl
theorem caE_2 {regs : List Cap} {x : Ins} {fs : List Fr} {nx : Cap} (h : enters (getR regs x.a) (getR regs x.b) = 0) (hp : pushOk fs ⟨nx, getR regs 4, getR regs 5, getR regs 6, getR regs 7⟩ = true) : caE regs x fs nx = 0 ∧ caR regs x fs nx = setR (clearR regs 4 7) 7 { caB regs x with typ := 0 } ∧ caF regs x fs nx = pushF fs ⟨nx, getR regs 4, getR regs 5, getR regs 6, getR regs 7⟩ ∧ caN regs x fs nx = { getR regs x.a with typ := 0 } := by
  have e1 : caE regs x fs nx = 0 := by unfold caE; rw [if_pos h, hp]; rfl
  have e2 : caO regs x fs nx = true := by unfold caO; rw [e1]; rfl
  refine ⟨e1, ?_, ?_, ?_⟩
  · unfold caR; rw [e2]; rfl
  · unfold caF; rw [e2]; rfl
  · unfold caN; rw [e2]; rfl
theorem pushF_no {fs : List Fr} {f : Fr} (h : pushOk fs f = false) : pushF fs f = fs := by unfold pushF; rw [h]; rfl

theorem f143_ct (r tb : Nat) (x : Ins) (mb sb : Nat) (nx : Cap) (pos : Cap) (rb fb : Nat) (regs : List Cap) (hl : regs.length = 8) (fs : List Fr) : Ct Tryz.prog 143 #[ad r 0] [(tb, thrO pos rb fb)] [pt r (runO tb x mb sb nx), fileA rb regs, stkA fb fs] (fun _ : Unit => .int .i64 (caE regs x fs nx)) (fun _ N => pt r (runO tb x mb sb (caN regs x fs nx)) :: fileA rb (caR regs x fs nx) :: stkA fb (caF regs x fs nx) :: N) := by
  refine ct_intro Tryz.func143 rfl (by kernel_rfl) (n := 68) rfl rfl (E := [(0, ad r 0)]) rfl ?_
  intro κ hro
  have hq2 : κ.frame tb = some (thrO pos rb fb) := hro _ (List.Mem.head _)
  obtain ⟨g0, g1, g2, g3, g4, g5, g6, g7, rfl⟩ := len8 hl
  refine tc_seq ?_
  refine tc_region ?_
  refine tl_p (pr_assign rfl) rfl ?_
  refine tl_next ?_
  refine tc_seq ?_
  refine tc_region ?_
  refine tl_p (pr_move rfl) rfl ?_
  refine tl_rdS (f205_ct r tb x mb sb nx pos rb fb _ hl) (.cons rfl .nil) rfl (kk := ?_)
  refine tl_p (pr_move rfl) rfl ?_
  refine tl_rdS (f127_ct r tb x mb sb nx pos rb fb _ hl) (.cons rfl .nil) rfl (kk := ?_)
  refine tl_alloc Tryz.z27 rfl (fun b3 => ?_)
  refine tl_alloc Tryz.z27 rfl (fun b4 => ?_)
  refine tl_storeW Tryz.sz27 rfl rfl (k := ?_)
  refine tl_storeW Tryz.sz27 rfl rfl (k := ?_)
  refine tl_next ?_
  refine tc_seq ?_
  refine tc_seq ?_
  refine tc_region ?_
  refine tl_p (by first | exact pr_loadW Tryz.ag27 Tryz.sz27 rfl | exact pr_ldA Tryz.ag27 Tryz.sz27 rfl) rfl ?_
  refine tl_p (by first | exact pr_loadW Tryz.ag27 Tryz.sz27 rfl | exact pr_ldA Tryz.ag27 Tryz.sz27 rfl) rfl ?_
  refine tl_rdS (f219_ct _ _) (.cons rfl (.cons rfl .nil)) rfl (kk := ?_)
  refine tl_p (pr_assign rfl) rfl ?_
  refine tl_next ?_
  refine tc_seq ?_
  refine tc_region ?_
  refine tl_p (pr_move rfl) rfl ?_
  refine tl_p (pr_neq rfl rfl) rfl ?_
  refine tl_next ?_
  refine tc_if rfl (fun hc1 => ?_) (fun hc1 => ?_)
  · have hd1 := hc1
    try simp only [Bool.not_eq_true', Bool.not_eq_false', Bool.or_eq_true, Bool.and_eq_true, Bool.or_eq_false_iff, Bool.and_eq_false_iff, decide_eq_true_eq, decide_eq_false_iff_not, Bool.not_true, Bool.not_false, gval, Bool.not_eq_eq_eq_not] at hc1
    refine tc_seq ?_
    refine tc_region ?_
    refine tl_p (pr_move rfl) rfl ?_
    refine tl_p (pr_assign rfl) rfl ?_
    refine tl_next ?_
    refine tc_ret (tq_then_ret ?_)
    obtain ⟨e1, e2, e3, e4⟩ := caE_0 (regs := [g0, g1, g2, g3, g4, g5, g6, g7]) (x := x) (fs := fs) (nx := nx) hc1
    exact tq_retE1 .ret (.inl rfl) () rfl rfl (by rw [e1]; first | done | rfl) (by rw [e2, e3, e4]; repeat (first | exact Pick.nil | exact Rem.here | apply Rem.there | apply Pick.cons))
  · have hd1 := hc1
    try simp only [Bool.not_eq_true', Bool.not_eq_false', Bool.or_eq_true, Bool.and_eq_true, Bool.or_eq_false_iff, Bool.and_eq_false_iff, decide_eq_true_eq, decide_eq_false_iff_not, Bool.not_true, Bool.not_false, gval, Bool.not_eq_eq_eq_not] at hc1
    refine tc_skip (tq_next ?_)
    refine tc_seq ?_
    refine tc_seq ?_
    refine tc_region ?_
    refine tl_p (pr_fieldAddr Tryz.fo27_5 rfl) rfl ?_
    refine tl_p (pr_ld Tryz.ag3 rfl) rfl ?_
    refine tl_p (pr_eql rfl rfl) rfl ?_
    refine tl_next ?_
    refine tc_if rfl (fun hc2 => ?_) (fun hc2 => ?_)
    · have hd2 := hc2
      try simp only [Bool.not_eq_true', Bool.not_eq_false', Bool.or_eq_true, Bool.and_eq_true, Bool.or_eq_false_iff, Bool.and_eq_false_iff, decide_eq_true_eq, decide_eq_false_iff_not, Bool.not_true, Bool.not_false, gval, Bool.not_eq_eq_eq_not] at hc2
      have hB : caB [g0, g1, g2, g3, g4, g5, g6, g7] x = nullC := if_pos hc2
      refine tc_region ?_
      refine tl_rdS (f67_ct ) (.nil) rfl (kk := ?_)
      refine tl_storeW Tryz.sz27 rfl rfl (k := ?_)
      refine tl_next ?_
      refine tc_seq ?_
      refine tc_seq ?_
      refine tc_draw Tryz.mixed [0, 1, 2, 3, 4, 5, 6, 7, 8, 9, 10, 11, 12, 13, 14, 15, 16, 17, 19, 21, 22, 24] (by kernel_rfl) ?_
      refine td_q 0 20 (pm_of rfl rfl rfl (fun _ kq => tl_p (pr_move rfl) rfl kq)) rfl rfl rfl ?_
      refine td_q 1 21 (pm_of rfl rfl rfl (fun _ kq => tl_p (pr_nilCheck rfl) rfl kq)) rfl rfl rfl ?_
      refine td_q 2 22 (pm_of rfl rfl rfl (fun _ kq => tl_p (pr_fieldAddr Tryz.fo109_0 rfl) rfl kq)) rfl rfl rfl ?_
      refine td_q 3 23 (pm_of rfl rfl rfl (fun _ kq => tl_p (pr_ld Tryz.ag34 rfl) rfl kq)) rfl rfl rfl ?_
      refine td_q 4 24 (pm_of rfl rfl rfl (fun _ kq => tl_p (pr_nilCheck rfl) rfl kq)) rfl rfl rfl ?_
      refine td_q 5 25 (pm_of rfl rfl rfl (fun _ kq => tl_p (pr_fieldAddr Tryz.fo100_2 rfl) rfl kq)) rfl rfl rfl ?_
      refine td_q 6 26 (pm_of rfl rfl rfl (fun _ kq => tl_p (pr_ld Tryz.ag57 rfl) rfl kq)) rfl rfl rfl ?_
      refine td_q 7 27 (pm_of rfl rfl rfl (fun _ kq => tl_p (pr_move rfl) rfl kq)) rfl rfl rfl ?_
      refine td_q 8 28 (pm_of rfl rfl rfl (fun _ kq => tl_p (pr_nilCheck rfl) rfl kq)) rfl rfl rfl ?_
      refine td_q 9 29 (pm_of rfl rfl rfl (fun _ kq => tl_p (pr_fieldAddr Tryz.fo109_4 rfl) rfl kq)) rfl rfl rfl ?_
      refine td_q 10 30 (pm_of rfl rfl rfl (fun _ kq => tl_p (pr_ldA Tryz.ag27 Tryz.sz27 rfl) rfl kq)) rfl rfl rfl ?_
      refine td_q 11 31 (pm_of rfl rfl rfl (fun _ kq => tl_p (pr_move rfl) rfl kq)) rfl rfl rfl ?_
      refine td_q 12 32 (pm_of rfl rfl rfl (fun _ kq => tl_p (pr_nilCheck rfl) rfl kq)) rfl rfl rfl ?_
      refine td_q 13 33 (pm_of rfl rfl rfl (fun _ kq => tl_p (pr_fieldAddr Tryz.fo109_0 rfl) rfl kq)) rfl rfl rfl ?_
      refine td_q 14 34 (pm_of rfl rfl rfl (fun _ kq => tl_p (pr_ld Tryz.ag34 rfl) rfl kq)) rfl rfl rfl ?_
      refine td_q 15 35 (pm_of rfl rfl rfl (fun _ kq => tl_p (pr_nilCheck rfl) rfl kq)) rfl rfl rfl ?_
      refine td_q 16 36 (pm_of rfl rfl rfl (fun _ kq => tl_p (pr_fieldAddr Tryz.fo100_1 rfl) rfl kq)) rfl rfl rfl ?_
      refine td_q 17 37 (pm_of rfl rfl rfl (fun _ kq => tl_p (pr_ld Tryz.ag39 rfl) rfl kq)) rfl rfl rfl ?_
      refine td_e1 18 (by kernel_rfl) ?_
      refine te rfl ?_
      refine tl_callS (f18_ct rb [g0, g1, g2, g3, g4, g5, g6, g7] hl) (.cons rfl .nil) rfl (kk := fun ⟨s38, hs38⟩ => ?_)
      refine td_next (pd := [10, 9, 8, 7, 6, 5, 4, 3, 2, 1, 0]) (by kernel_rfl) (.cons rfl (pm_of rfl rfl rfl (fun _ kq => tl_p (pr_ldA Tryz.ag27 Tryz.sz27 rfl) rfl kq)) (.cons rfl (pm_of rfl rfl rfl (fun _ kq => tl_p (pr_fieldAddr Tryz.fo109_4 rfl) rfl kq)) (.cons rfl (pm_of rfl rfl rfl (fun _ kq => tl_p (pr_nilCheck rfl) rfl kq)) (.cons rfl (pm_of rfl rfl rfl (fun _ kq => tl_p (pr_move rfl) rfl kq)) (.cons rfl (pm_of rfl rfl rfl (fun _ kq => tl_p (pr_ld Tryz.ag57 rfl) rfl kq)) (.cons rfl (pm_of rfl rfl rfl (fun _ kq => tl_p (pr_fieldAddr Tryz.fo100_2 rfl) rfl kq)) (.cons rfl (pm_of rfl rfl rfl (fun _ kq => tl_p (pr_nilCheck rfl) rfl kq)) (.cons rfl (pm_of rfl rfl rfl (fun _ kq => tl_p (pr_ld Tryz.ag34 rfl) rfl kq)) (.cons rfl (pm_of rfl rfl rfl (fun _ kq => tl_p (pr_fieldAddr Tryz.fo109_0 rfl) rfl kq)) (.cons rfl (pm_of rfl rfl rfl (fun _ kq => tl_p (pr_nilCheck rfl) rfl kq)) (.cons rfl (pm_of rfl rfl rfl (fun _ kq => tl_p (pr_move rfl) rfl kq)) .nil))))))))))) ?_
      refine td_q 19 39 (pm_of rfl rfl rfl (fun _ kq => tl_p (pr_sliceS (l := 4) (h := 8) Tryz.sf24 rfl (.yes rfl rfl) .no (by omega) (by omega) hs38.toSok) rfl kq)) rfl rfl rfl ?_
      refine td_e1 20 (by kernel_rfl) ?_
      refine te rfl ?_
      refine tl_p (pr_arrayAt Tryz.ar187 rfl (hs38.toSok.sub (by omega) (by omega)) (by omega) (Sok.isM (hs38.toSok.sub (l := 4) (h := 8) (by omega) (by omega)) (by omega))) rfl ?_
      refine td_next (pd := [10, 9, 8, 7, 6, 5, 4, 3, 2, 1, 0]) (by kernel_rfl) (.cons rfl (pm_of rfl rfl rfl (fun _ kq => tl_p (pr_ldA Tryz.ag27 Tryz.sz27 rfl) rfl kq)) (.cons rfl (pm_of rfl rfl rfl (fun _ kq => tl_p (pr_fieldAddr Tryz.fo109_4 rfl) rfl kq)) (.cons rfl (pm_of rfl rfl rfl (fun _ kq => tl_p (pr_nilCheck rfl) rfl kq)) (.cons rfl (pm_of rfl rfl rfl (fun _ kq => tl_p (pr_move rfl) rfl kq)) (.cons rfl (pm_of rfl rfl rfl (fun _ kq => tl_p (pr_ld Tryz.ag57 rfl) rfl kq)) (.cons rfl (pm_of rfl rfl rfl (fun _ kq => tl_p (pr_fieldAddr Tryz.fo100_2 rfl) rfl kq)) (.cons rfl (pm_of rfl rfl rfl (fun _ kq => tl_p (pr_nilCheck rfl) rfl kq)) (.cons rfl (pm_of rfl rfl rfl (fun _ kq => tl_p (pr_ld Tryz.ag34 rfl) rfl kq)) (.cons rfl (pm_of rfl rfl rfl (fun _ kq => tl_p (pr_fieldAddr Tryz.fo109_0 rfl) rfl kq)) (.cons rfl (pm_of rfl rfl rfl (fun _ kq => tl_p (pr_nilCheck rfl) rfl kq)) (.cons rfl (pm_of rfl rfl rfl (fun _ kq => tl_p (pr_move rfl) rfl kq)) .nil))))))))))) ?_
      refine td_q 21 41 (pm_of rfl rfl rfl (fun _ kq => tl_p (pr_ldEA Tryz.ag187 Tryz.sz187 rfl (c := subL 6 (capsL [g0, g1, g2, g3, g4, g5, g6, g7]) 4 8) (m := capsL [g4, g5, g6, g7]) (by rw [sub_len hs38.toSok (by omega) (by omega)]; omega) rfl (Sok.isM (hs38.toSok.sub (l := 4) (h := 8) (by omega) (by omega)) (by omega)) (RdS.sub hs38.toSok (by omega) (by omega) (.own (by repeat (first | exact Has.here | apply Has.there))))) rfl kq)) rfl rfl rfl ?_
      refine td_q 22 42 (pm_of rfl rfl rfl (fun _ kq => tl_p (Tryz.bl189_0_1 rfl rfl) rfl kq)) rfl rfl rfl ?_
      refine td_e1 23 (by kernel_rfl) ?_
      refine te rfl ?_
      refine tl_callS (f220_ct fb fs ⟨nx, g4, g5, g6, g7⟩) (.cons rfl (.cons rfl .nil)) rfl (kk := fun _ => ?_)
      refine td_next (pd := []) (by kernel_rfl) (.nil) ?_
      refine td_q 24 44 (pm_of rfl rfl rfl (fun _ kq => tl_p (pr_not rfl) rfl kq)) rfl rfl rfl ?_
      refine td_done (by kernel_rfl) ?_
      refine tq_next ?_
      refine tc_if rfl (fun hc3 => ?_) (fun hc3 => ?_)
      · have hd3 := hc3
        try simp only [Bool.not_eq_true', Bool.not_eq_false', Bool.or_eq_true, Bool.and_eq_true, Bool.or_eq_false_iff, Bool.and_eq_false_iff, decide_eq_true_eq, decide_eq_false_iff_not, Bool.not_true, Bool.not_false, gval, Bool.not_eq_eq_eq_not] at hc3
        refine tc_seq ?_
        refine tc_region ?_
        refine tl_p (pr_assign rfl) rfl ?_
        refine tl_next ?_
        refine tc_ret (tq_then_ret ?_)
        obtain ⟨e1, e2, e3, e4⟩ := caE_1 (regs := [g0, g1, g2, g3, g4, g5, g6, g7]) (x := x) (fs := fs) (nx := nx) (by simpa using hd1) hc3
        rw [pushF_no (show pushOk fs ⟨nx, g4, g5, g6, g7⟩ = false from hc3)]
        exact tq_retE1 .ret (.inl rfl) () rfl rfl (by rw [e1]; first | done | rfl) (by rw [e2, e3, e4]; repeat (first | exact Pick.nil | exact Rem.here | apply Rem.there | apply Pick.cons))
      · have hd3 := hc3
        try simp only [Bool.not_eq_true', Bool.not_eq_false', Bool.or_eq_true, Bool.and_eq_true, Bool.or_eq_false_iff, Bool.and_eq_false_iff, decide_eq_true_eq, decide_eq_false_iff_not, Bool.not_true, Bool.not_false, gval, Bool.not_eq_eq_eq_not] at hc3
        refine tc_skip (tq_next ?_)
        refine tc_seq ?_
        refine tc_region ?_
        refine tl_p (pr_move rfl) rfl ?_
        refine tl_p (pr_nilCheck rfl) rfl ?_
        refine tl_p (pr_fieldAddr Tryz.fo109_0 rfl) rfl ?_
        refine tl_p (pr_ld Tryz.ag34 rfl) rfl ?_
        refine tl_p (pr_nilCheck rfl) rfl ?_
        refine tl_p (pr_fieldAddr Tryz.fo100_1 rfl) rfl ?_
        refine tl_p (pr_ld Tryz.ag39 rfl) rfl ?_
        refine tl_callS (f221_ct rb [g0, g1, g2, g3, g4, g5, g6, g7] hl) (.cons rfl (.cons rfl (.cons rfl .nil))) rfl (kk := fun _ => ?_)
        refine tl_next ?_
        refine tc_seq ?_
        refine tc_region ?_
        refine tl_p (pr_fieldAddr Tryz.fo27_5 rfl) rfl ?_
        refine tl_st Tryz.sz3 rfl rfl (k := ?_)
        refine tl_p (pr_fieldAddr Tryz.fo27_5 rfl) rfl ?_
        refine tl_st Tryz.sz3 rfl rfl (k := ?_)
        refine tl_next ?_
        refine tc_seq ?_
        refine tc_draw Tryz.mixed [0, 1, 2, 3, 4, 5, 6, 7] (by kernel_rfl) ?_
        refine td_q 0 55 (pm_of rfl rfl rfl (fun _ kq => tl_p (pr_move rfl) rfl kq)) rfl rfl rfl ?_
        refine td_q 1 56 (pm_of rfl rfl rfl (fun _ kq => tl_p (pr_nilCheck rfl) rfl kq)) rfl rfl rfl ?_
        refine td_q 2 57 (pm_of rfl rfl rfl (fun _ kq => tl_p (pr_fieldAddr Tryz.fo109_0 rfl) rfl kq)) rfl rfl rfl ?_
        refine td_q 3 58 (pm_of rfl rfl rfl (fun _ kq => tl_p (pr_ld Tryz.ag34 rfl) rfl kq)) rfl rfl rfl ?_
        refine td_q 4 59 (pm_of rfl rfl rfl (fun _ kq => tl_p (pr_nilCheck rfl) rfl kq)) rfl rfl rfl ?_
        refine td_q 5 60 (pm_of rfl rfl rfl (fun _ kq => tl_p (pr_fieldAddr Tryz.fo100_1 rfl) rfl kq)) rfl rfl rfl ?_
        refine td_q 6 61 (pm_of rfl rfl rfl (fun _ kq => tl_p (pr_ld Tryz.ag39 rfl) rfl kq)) rfl rfl rfl ?_
        refine td_q 7 62 (pm_of rfl rfl rfl (fun _ kq => tl_p (by first | exact pr_loadW Tryz.ag27 Tryz.sz27 rfl | exact pr_ldA Tryz.ag27 Tryz.sz27 rfl) rfl kq)) rfl rfl rfl ?_
        refine td_e1 8 (by kernel_rfl) ?_
        refine te rfl ?_
        refine tl_callS ((f16_ct rb (clearR [g0, g1, g2, g3, g4, g5, g6, g7] 4 7) (clear_len hl) 7 { caB [g0, g1, g2, g3, g4, g5, g6, g7] x with typ := 0 }).cast (by rw [hB]; rfl) rfl) (.cons rfl (.cons rfl (.cons rfl .nil))) rfl (kk := fun _ => ?_)
        refine td_next (pd := []) (by kernel_rfl) (.nil) ?_
        refine td_done (by kernel_rfl) ?_
        refine tq_next ?_
        refine tc_seq ?_
        refine tc_region ?_
        refine tl_p (pr_move rfl) rfl ?_
        refine tl_p (by first | exact pr_loadW Tryz.ag27 Tryz.sz27 rfl | exact pr_ldA Tryz.ag27 Tryz.sz27 rfl) rfl ?_
        refine tl_p (pr_nilCheck rfl) rfl ?_
        refine tl_p (pr_fieldAddr Tryz.fo109_4 rfl) rfl ?_
        refine tl_stA Tryz.sz27 rfl rfl (k := ?_)
        refine tl_next ?_
        refine tc_seq ?_
        refine tc_region ?_
        refine tl_p (pr_assign rfl) rfl ?_
        refine tl_next ?_
        refine tc_ret ?_
        obtain ⟨e1, e2, e3, e4⟩ := caE_2 (regs := [g0, g1, g2, g3, g4, g5, g6, g7]) (x := x) (fs := fs) (nx := nx) (by simpa using hd1) hc3
        exact tq_retE1 .ret (.inl rfl) () rfl rfl (by rw [e1]; first | done | rfl) (by rw [e2, e3, e4]; repeat (first | exact Pick.nil | exact Rem.here | apply Rem.there | apply Pick.cons))
    · have hd2 := hc2
      try simp only [Bool.not_eq_true', Bool.not_eq_false', Bool.or_eq_true, Bool.and_eq_true, Bool.or_eq_false_iff, Bool.and_eq_false_iff, decide_eq_true_eq, decide_eq_false_iff_not, Bool.not_true, Bool.not_false, gval, Bool.not_eq_eq_eq_not] at hc2
      have hB : caB [g0, g1, g2, g3, g4, g5, g6, g7] x = getR [g0, g1, g2, g3, g4, g5, g6, g7] x.b := if_neg hc2
      refine tc_skip (tq_next ?_)
      refine tc_seq ?_
      refine tc_seq ?_
      refine tc_draw Tryz.mixed [0, 1, 2, 3, 4, 5, 6, 7, 8, 9, 10, 11, 12, 13, 14, 15, 16, 17, 19, 21, 22, 24] (by kernel_rfl) ?_
      refine td_q 0 20 (pm_of rfl rfl rfl (fun _ kq => tl_p (pr_move rfl) rfl kq)) rfl rfl rfl ?_
      refine td_q 1 21 (pm_of rfl rfl rfl (fun _ kq => tl_p (pr_nilCheck rfl) rfl kq)) rfl rfl rfl ?_
      refine td_q 2 22 (pm_of rfl rfl rfl (fun _ kq => tl_p (pr_fieldAddr Tryz.fo109_0 rfl) rfl kq)) rfl rfl rfl ?_
      refine td_q 3 23 (pm_of rfl rfl rfl (fun _ kq => tl_p (pr_ld Tryz.ag34 rfl) rfl kq)) rfl rfl rfl ?_
      refine td_q 4 24 (pm_of rfl rfl rfl (fun _ kq => tl_p (pr_nilCheck rfl) rfl kq)) rfl rfl rfl ?_
      refine td_q 5 25 (pm_of rfl rfl rfl (fun _ kq => tl_p (pr_fieldAddr Tryz.fo100_2 rfl) rfl kq)) rfl rfl rfl ?_
      refine td_q 6 26 (pm_of rfl rfl rfl (fun _ kq => tl_p (pr_ld Tryz.ag57 rfl) rfl kq)) rfl rfl rfl ?_
      refine td_q 7 27 (pm_of rfl rfl rfl (fun _ kq => tl_p (pr_move rfl) rfl kq)) rfl rfl rfl ?_
      refine td_q 8 28 (pm_of rfl rfl rfl (fun _ kq => tl_p (pr_nilCheck rfl) rfl kq)) rfl rfl rfl ?_
      refine td_q 9 29 (pm_of rfl rfl rfl (fun _ kq => tl_p (pr_fieldAddr Tryz.fo109_4 rfl) rfl kq)) rfl rfl rfl ?_
      refine td_q 10 30 (pm_of rfl rfl rfl (fun _ kq => tl_p (pr_ldA Tryz.ag27 Tryz.sz27 rfl) rfl kq)) rfl rfl rfl ?_
      refine td_q 11 31 (pm_of rfl rfl rfl (fun _ kq => tl_p (pr_move rfl) rfl kq)) rfl rfl rfl ?_
      refine td_q 12 32 (pm_of rfl rfl rfl (fun _ kq => tl_p (pr_nilCheck rfl) rfl kq)) rfl rfl rfl ?_
      refine td_q 13 33 (pm_of rfl rfl rfl (fun _ kq => tl_p (pr_fieldAddr Tryz.fo109_0 rfl) rfl kq)) rfl rfl rfl ?_
      refine td_q 14 34 (pm_of rfl rfl rfl (fun _ kq => tl_p (pr_ld Tryz.ag34 rfl) rfl kq)) rfl rfl rfl ?_
      refine td_q 15 35 (pm_of rfl rfl rfl (fun _ kq => tl_p (pr_nilCheck rfl) rfl kq)) rfl rfl rfl ?_
      refine td_q 16 36 (pm_of rfl rfl rfl (fun _ kq => tl_p (pr_fieldAddr Tryz.fo100_1 rfl) rfl kq)) rfl rfl rfl ?_
      refine td_q 17 37 (pm_of rfl rfl rfl (fun _ kq => tl_p (pr_ld Tryz.ag39 rfl) rfl kq)) rfl rfl rfl ?_
      refine td_e1 18 (by kernel_rfl) ?_
      refine te rfl ?_
      refine tl_callS (f18_ct rb [g0, g1, g2, g3, g4, g5, g6, g7] hl) (.cons rfl .nil) rfl (kk := fun ⟨s38, hs38⟩ => ?_)
      refine td_next (pd := [10, 9, 8, 7, 6, 5, 4, 3, 2, 1, 0]) (by kernel_rfl) (.cons rfl (pm_of rfl rfl rfl (fun _ kq => tl_p (pr_ldA Tryz.ag27 Tryz.sz27 rfl) rfl kq)) (.cons rfl (pm_of rfl rfl rfl (fun _ kq => tl_p (pr_fieldAddr Tryz.fo109_4 rfl) rfl kq)) (.cons rfl (pm_of rfl rfl rfl (fun _ kq => tl_p (pr_nilCheck rfl) rfl kq)) (.cons rfl (pm_of rfl rfl rfl (fun _ kq => tl_p (pr_move rfl) rfl kq)) (.cons rfl (pm_of rfl rfl rfl (fun _ kq => tl_p (pr_ld Tryz.ag57 rfl) rfl kq)) (.cons rfl (pm_of rfl rfl rfl (fun _ kq => tl_p (pr_fieldAddr Tryz.fo100_2 rfl) rfl kq)) (.cons rfl (pm_of rfl rfl rfl (fun _ kq => tl_p (pr_nilCheck rfl) rfl kq)) (.cons rfl (pm_of rfl rfl rfl (fun _ kq => tl_p (pr_ld Tryz.ag34 rfl) rfl kq)) (.cons rfl (pm_of rfl rfl rfl (fun _ kq => tl_p (pr_fieldAddr Tryz.fo109_0 rfl) rfl kq)) (.cons rfl (pm_of rfl rfl rfl (fun _ kq => tl_p (pr_nilCheck rfl) rfl kq)) (.cons rfl (pm_of rfl rfl rfl (fun _ kq => tl_p (pr_move rfl) rfl kq)) .nil))))))))))) ?_
      refine td_q 19 39 (pm_of rfl rfl rfl (fun _ kq => tl_p (pr_sliceS (l := 4) (h := 8) Tryz.sf24 rfl (.yes rfl rfl) .no (by omega) (by omega) hs38.toSok) rfl kq)) rfl rfl rfl ?_
      refine td_e1 20 (by kernel_rfl) ?_
      refine te rfl ?_
      refine tl_p (pr_arrayAt Tryz.ar187 rfl (hs38.toSok.sub (by omega) (by omega)) (by omega) (Sok.isM (hs38.toSok.sub (l := 4) (h := 8) (by omega) (by omega)) (by omega))) rfl ?_
      refine td_next (pd := [10, 9, 8, 7, 6, 5, 4, 3, 2, 1, 0]) (by kernel_rfl) (.cons rfl (pm_of rfl rfl rfl (fun _ kq => tl_p (pr_ldA Tryz.ag27 Tryz.sz27 rfl) rfl kq)) (.cons rfl (pm_of rfl rfl rfl (fun _ kq => tl_p (pr_fieldAddr Tryz.fo109_4 rfl) rfl kq)) (.cons rfl (pm_of rfl rfl rfl (fun _ kq => tl_p (pr_nilCheck rfl) rfl kq)) (.cons rfl (pm_of rfl rfl rfl (fun _ kq => tl_p (pr_move rfl) rfl kq)) (.cons rfl (pm_of rfl rfl rfl (fun _ kq => tl_p (pr_ld Tryz.ag57 rfl) rfl kq)) (.cons rfl (pm_of rfl rfl rfl (fun _ kq => tl_p (pr_fieldAddr Tryz.fo100_2 rfl) rfl kq)) (.cons rfl (pm_of rfl rfl rfl (fun _ kq => tl_p (pr_nilCheck rfl) rfl kq)) (.cons rfl (pm_of rfl rfl rfl (fun _ kq => tl_p (pr_ld Tryz.ag34 rfl) rfl kq)) (.cons rfl (pm_of rfl rfl rfl (fun _ kq => tl_p (pr_fieldAddr Tryz.fo109_0 rfl) rfl kq)) (.cons rfl (pm_of rfl rfl rfl (fun _ kq => tl_p (pr_nilCheck rfl) rfl kq)) (.cons rfl (pm_of rfl rfl rfl (fun _ kq => tl_p (pr_move rfl) rfl kq)) .nil))))))))))) ?_
      refine td_q 21 41 (pm_of rfl rfl rfl (fun _ kq => tl_p (pr_ldEA Tryz.ag187 Tryz.sz187 rfl (c := subL 6 (capsL [g0, g1, g2, g3, g4, g5, g6, g7]) 4 8) (m := capsL [g4, g5, g6, g7]) (by rw [sub_len hs38.toSok (by omega) (by omega)]; omega) rfl (Sok.isM (hs38.toSok.sub (l := 4) (h := 8) (by omega) (by omega)) (by omega)) (RdS.sub hs38.toSok (by omega) (by omega) (.own (by repeat (first | exact Has.here | apply Has.there))))) rfl kq)) rfl rfl rfl ?_
      refine td_q 22 42 (pm_of rfl rfl rfl (fun _ kq => tl_p (Tryz.bl189_0_1 rfl rfl) rfl kq)) rfl rfl rfl ?_
      refine td_e1 23 (by kernel_rfl) ?_
      refine te rfl ?_
      refine tl_callS (f220_ct fb fs ⟨nx, g4, g5, g6, g7⟩) (.cons rfl (.cons rfl .nil)) rfl (kk := fun _ => ?_)
      refine td_next (pd := []) (by kernel_rfl) (.nil) ?_
      refine td_q 24 44 (pm_of rfl rfl rfl (fun _ kq => tl_p (pr_not rfl) rfl kq)) rfl rfl rfl ?_
      refine td_done (by kernel_rfl) ?_
      refine tq_next ?_
      refine tc_if rfl (fun hc4 => ?_) (fun hc4 => ?_)
      · have hd4 := hc4
        try simp only [Bool.not_eq_true', Bool.not_eq_false', Bool.or_eq_true, Bool.and_eq_true, Bool.or_eq_false_iff, Bool.and_eq_false_iff, decide_eq_true_eq, decide_eq_false_iff_not, Bool.not_true, Bool.not_false, gval, Bool.not_eq_eq_eq_not] at hc4
        refine tc_seq ?_
        refine tc_region ?_
        refine tl_p (pr_assign rfl) rfl ?_
        refine tl_next ?_
        refine tc_ret (tq_then_ret ?_)
        obtain ⟨e1, e2, e3, e4⟩ := caE_1 (regs := [g0, g1, g2, g3, g4, g5, g6, g7]) (x := x) (fs := fs) (nx := nx) (by simpa using hd1) hc4
        rw [pushF_no (show pushOk fs ⟨nx, g4, g5, g6, g7⟩ = false from hc4)]
        exact tq_retE1 .ret (.inl rfl) () rfl rfl (by rw [e1]; first | done | rfl) (by rw [e2, e3, e4]; repeat (first | exact Pick.nil | exact Rem.here | apply Rem.there | apply Pick.cons))
      · have hd4 := hc4
        try simp only [Bool.not_eq_true', Bool.not_eq_false', Bool.or_eq_true, Bool.and_eq_true, Bool.or_eq_false_iff, Bool.and_eq_false_iff, decide_eq_true_eq, decide_eq_false_iff_not, Bool.not_true, Bool.not_false, gval, Bool.not_eq_eq_eq_not] at hc4
        refine tc_skip (tq_next ?_)
        refine tc_seq ?_
        refine tc_region ?_
        refine tl_p (pr_move rfl) rfl ?_
        refine tl_p (pr_nilCheck rfl) rfl ?_
        refine tl_p (pr_fieldAddr Tryz.fo109_0 rfl) rfl ?_
        refine tl_p (pr_ld Tryz.ag34 rfl) rfl ?_
        refine tl_p (pr_nilCheck rfl) rfl ?_
        refine tl_p (pr_fieldAddr Tryz.fo100_1 rfl) rfl ?_
        refine tl_p (pr_ld Tryz.ag39 rfl) rfl ?_
        refine tl_callS (f221_ct rb [g0, g1, g2, g3, g4, g5, g6, g7] hl) (.cons rfl (.cons rfl (.cons rfl .nil))) rfl (kk := fun _ => ?_)
        refine tl_next ?_
        refine tc_seq ?_
        refine tc_region ?_
        refine tl_p (pr_fieldAddr Tryz.fo27_5 rfl) rfl ?_
        refine tl_st Tryz.sz3 rfl rfl (k := ?_)
        refine tl_p (pr_fieldAddr Tryz.fo27_5 rfl) rfl ?_
        refine tl_st Tryz.sz3 rfl rfl (k := ?_)
        refine tl_next ?_
        refine tc_seq ?_
        refine tc_draw Tryz.mixed [0, 1, 2, 3, 4, 5, 6, 7] (by kernel_rfl) ?_
        refine td_q 0 55 (pm_of rfl rfl rfl (fun _ kq => tl_p (pr_move rfl) rfl kq)) rfl rfl rfl ?_
        refine td_q 1 56 (pm_of rfl rfl rfl (fun _ kq => tl_p (pr_nilCheck rfl) rfl kq)) rfl rfl rfl ?_
        refine td_q 2 57 (pm_of rfl rfl rfl (fun _ kq => tl_p (pr_fieldAddr Tryz.fo109_0 rfl) rfl kq)) rfl rfl rfl ?_
        refine td_q 3 58 (pm_of rfl rfl rfl (fun _ kq => tl_p (pr_ld Tryz.ag34 rfl) rfl kq)) rfl rfl rfl ?_
        refine td_q 4 59 (pm_of rfl rfl rfl (fun _ kq => tl_p (pr_nilCheck rfl) rfl kq)) rfl rfl rfl ?_
        refine td_q 5 60 (pm_of rfl rfl rfl (fun _ kq => tl_p (pr_fieldAddr Tryz.fo100_1 rfl) rfl kq)) rfl rfl rfl ?_
        refine td_q 6 61 (pm_of rfl rfl rfl (fun _ kq => tl_p (pr_ld Tryz.ag39 rfl) rfl kq)) rfl rfl rfl ?_
        refine td_q 7 62 (pm_of rfl rfl rfl (fun _ kq => tl_p (by first | exact pr_loadW Tryz.ag27 Tryz.sz27 rfl | exact pr_ldA Tryz.ag27 Tryz.sz27 rfl) rfl kq)) rfl rfl rfl ?_
        refine td_e1 8 (by kernel_rfl) ?_
        refine te rfl ?_
        refine tl_callS ((f16_ct rb (clearR [g0, g1, g2, g3, g4, g5, g6, g7] 4 7) (clear_len hl) 7 { caB [g0, g1, g2, g3, g4, g5, g6, g7] x with typ := 0 }).cast (by rw [hB]; rfl) rfl) (.cons rfl (.cons rfl (.cons rfl .nil))) rfl (kk := fun _ => ?_)
        refine td_next (pd := []) (by kernel_rfl) (.nil) ?_
        refine td_done (by kernel_rfl) ?_
        refine tq_next ?_
        refine tc_seq ?_
        refine tc_region ?_
        refine tl_p (pr_move rfl) rfl ?_
        refine tl_p (by first | exact pr_loadW Tryz.ag27 Tryz.sz27 rfl | exact pr_ldA Tryz.ag27 Tryz.sz27 rfl) rfl ?_
        refine tl_p (pr_nilCheck rfl) rfl ?_
        refine tl_p (pr_fieldAddr Tryz.fo109_4 rfl) rfl ?_
        refine tl_stA Tryz.sz27 rfl rfl (k := ?_)
        refine tl_next ?_
        refine tc_seq ?_
        refine tc_region ?_
        refine tl_p (pr_assign rfl) rfl ?_
        refine tl_next ?_
        refine tc_ret ?_
        obtain ⟨e1, e2, e3, e4⟩ := caE_2 (regs := [g0, g1, g2, g3, g4, g5, g6, g7]) (x := x) (fs := fs) (nx := nx) (by simpa using hd1) hc4
        exact tq_retE1 .ret (.inl rfl) () rfl rfl (by rw [e1]; first | done | rfl) (by rw [e2, e3, e4]; repeat (first | exact Pick.nil | exact Rem.here | apply Rem.there | apply Pick.cons))

end Go.Proofs

namespace Go.Proofs
open Go Go.Sz
attribute [local irreducible] pt lift exs own emp

def reE (fs : List Fr) : Int := if fs.isEmpty = true then 3 else 0
def reR (regs : List Cap) (fs : List Fr) : List Cap := if fs.isEmpty = true then regs else putRegs regs (regs.take 4 ++ (lastF fs).regs)
def reN (fs : List Fr) (nx : Cap) : Cap := if fs.isEmpty = true then nx else (lastF fs).pos
theorem drop_nil {fs : List Fr} (h : fs.isEmpty = true) : fs.dropLast = [] := by
  cases fs with
  | nil => rfl
  | cons => cases h

theorem f144_ct (r tb : Nat) (x : Ins) (mb sb : Nat) (nx : Cap) (pos : Cap) (rb fb : Nat) (regs : List Cap) (hl : regs.length = 8) (fs : List Fr) : Ct Tryz.prog 144 #[ad r 0] [(tb, thrO pos rb fb)] [pt r (runO tb x mb sb nx), fileA rb regs, stkA fb fs] (fun _ : Unit => .int .i64 (reE fs)) (fun _ N => pt r (runO tb x mb sb (reN fs nx)) :: fileA rb (reR regs fs) :: stkA fb fs.dropLast :: N) := by
  refine ct_intro Tryz.func144 rfl (by kernel_rfl) (n := 43) rfl rfl (E := [(0, ad r 0)]) rfl ?_
  intro κ hro
  have hq2 : κ.frame tb = some (thrO pos rb fb) := hro _ (List.Mem.head _)
  obtain ⟨g0, g1, g2, g3, g4, g5, g6, g7, rfl⟩ := len8 hl
  have h4 : ∀ b, Sok 6 (.mem ⟨b, 4, (lastF fs).pos.l, [], 189, (0, 0)⟩) 4 (capsL (lastF fs).regs) := fun b => ⟨rfl, fun h => absurd rfl (h _), fun h e => (by cases e; exact Nat.le_refl _), by omega⟩
  refine tc_seq ?_
  refine tc_region ?_
  refine tl_p (pr_assign rfl) rfl ?_
  refine tl_next ?_
  refine tc_seq ?_
  refine tc_region ?_
  refine tl_p (pr_move rfl) rfl ?_
  refine tl_p (pr_nilCheck rfl) rfl ?_
  refine tl_p (pr_fieldAddr Tryz.fo109_0 rfl) rfl ?_
  refine tl_p (pr_ld Tryz.ag34 rfl) rfl ?_
  refine tl_p (pr_nilCheck rfl) rfl ?_
  refine tl_p (pr_fieldAddr Tryz.fo100_2 rfl) rfl ?_
  refine tl_p (pr_ld Tryz.ag57 rfl) rfl ?_
  refine tl_callS (f222_ct fb fs) (.cons rfl .nil) rfl (kk := fun _ => ?_)
  refine tl_p (pr_move rfl) rfl ?_
  refine tl_p (pr_extract rfl rfl) rfl ?_
  refine tl_p (pr_extract rfl rfl) rfl ?_
  refine tl_alloc Tryz.z189 rfl (fun b3 => ?_)
  refine tl_storeW Tryz.sz189 rfl rfl (k := ?_)
  refine tl_p (pr_assign rfl) rfl ?_
  refine tl_next ?_
  refine tc_seq ?_
  refine tc_seq ?_
  refine tc_region ?_
  refine tl_p (pr_move rfl) rfl ?_
  refine tl_p (pr_not rfl) rfl ?_
  refine tl_next ?_
  refine tc_if rfl (fun hc1 => ?_) (fun hc1 => ?_)
  · have hd1 := hc1
    try simp only [Bool.not_eq_true', Bool.not_eq_false', Bool.or_eq_true, Bool.and_eq_true, Bool.or_eq_false_iff, Bool.and_eq_false_iff, decide_eq_true_eq, decide_eq_false_iff_not, Bool.not_true, Bool.not_false, gval, Bool.not_eq_eq_eq_not] at hc1
    refine tc_seq ?_
    refine tc_region ?_
    refine tl_p (pr_assign rfl) rfl ?_
    refine tl_next ?_
    refine tc_ret (tq_then_ret ?_)
    have e1 : fs.isEmpty = true := by simpa using hd1
    exact tq_retE1 .ret (.inl rfl) () rfl rfl (by unfold reE; rw [if_pos e1]) (by unfold reR reN; rw [if_pos e1, if_pos e1]; repeat (first | exact Pick.nil | exact Rem.here | apply Rem.there | apply Pick.cons))
  · have hd1 := hc1
    try simp only [Bool.not_eq_true', Bool.not_eq_false', Bool.or_eq_true, Bool.and_eq_true, Bool.or_eq_false_iff, Bool.and_eq_false_iff, decide_eq_true_eq, decide_eq_false_iff_not, Bool.not_true, Bool.not_false, gval, Bool.not_eq_eq_eq_not] at hc1
    refine tc_skip (tq_next ?_)
    refine tc_seq ?_
    refine tc_draw Tryz.mixed [0, 1, 2, 3, 4, 5, 6, 7, 8, 9, 10, 11, 12, 13, 15, 16, 17] (by kernel_rfl) ?_
    refine td_q 0 18 (pm_of rfl rfl rfl (fun _ kq => tl_p (pr_move rfl) rfl kq)) rfl rfl rfl ?_
    refine td_q 1 19 (pm_of rfl rfl rfl (fun _ kq => tl_p (pr_nilCheck rfl) rfl kq)) rfl rfl rfl ?_
    refine td_q 2 20 (pm_of rfl rfl rfl (fun _ kq => tl_p (pr_fieldAddr Tryz.fo109_0 rfl) rfl kq)) rfl rfl rfl ?_
    refine td_q 3 21 (pm_of rfl rfl rfl (fun _ kq => tl_p (pr_ld Tryz.ag34 rfl) rfl kq)) rfl rfl rfl ?_
    refine td_q 4 22 (pm_of rfl rfl rfl (fun _ kq => tl_p (pr_nilCheck rfl) rfl kq)) rfl rfl rfl ?_
    refine td_q 5 23 (pm_of rfl rfl rfl (fun _ kq => tl_p (pr_fieldAddr Tryz.fo100_1 rfl) rfl kq)) rfl rfl rfl ?_
    refine td_q 6 24 (pm_of rfl rfl rfl (fun _ kq => tl_p (pr_ld Tryz.ag39 rfl) rfl kq)) rfl rfl rfl ?_
    refine td_q 7 25 (pm_of rfl rfl rfl (fun _ kq => tl_p (pr_move rfl) rfl kq)) rfl rfl rfl ?_
    refine td_q 8 26 (pm_of rfl rfl rfl (fun _ kq => tl_p (pr_nilCheck rfl) rfl kq)) rfl rfl rfl ?_
    refine td_q 9 27 (pm_of rfl rfl rfl (fun _ kq => tl_p (pr_fieldAddr Tryz.fo109_0 rfl) rfl kq)) rfl rfl rfl ?_
    refine td_q 10 28 (pm_of rfl rfl rfl (fun _ kq => tl_p (pr_ld Tryz.ag34 rfl) rfl kq)) rfl rfl rfl ?_
    refine td_q 11 29 (pm_of rfl rfl rfl (fun _ kq => tl_p (pr_nilCheck rfl) rfl kq)) rfl rfl rfl ?_
    refine td_q 12 30 (pm_of rfl rfl rfl (fun _ kq => tl_p (pr_fieldAddr Tryz.fo100_1 rfl) rfl kq)) rfl rfl rfl ?_
    refine td_q 13 31 (pm_of rfl rfl rfl (fun _ kq => tl_p (pr_ld Tryz.ag39 rfl) rfl kq)) rfl rfl rfl ?_
    refine td_q 16 34 (pm_of rfl rfl rfl (fun _ kq => tl_p (pr_fieldAddr Tryz.fo189_1 rfl) rfl kq)) rfl rfl rfl ?_
    refine td_q 17 35 (pm_of rfl rfl rfl (fun _ kq => tl_p (pr_sliceP ⟨b3, 4, (lastF fs).pos.l, [], 189, (0, 0)⟩ Tryz.ar187 rfl .no .no (l := 0) (h := 4) (by omega) (by omega) (by omega) rfl rfl rfl) rfl kq)) rfl rfl rfl ?_
    refine td_e1 14 (by kernel_rfl) ?_
    refine te rfl ?_
    refine tl_callS (f18_ct rb [g0, g1, g2, g3, g4, g5, g6, g7] hl) (.cons rfl .nil) rfl (kk := fun ⟨s32, hs32⟩ => ?_)
    show TL _ _ _ _ _ _ _ _ (sl s32 (capsL [g0, g1, g2, g3, g4, g5, g6, g7]) :: _) _
    rw [← sl_sub (l := 0) (h := 4) hs32.toSok (by omega) (by omega)]
    refine td_next (pd := [17, 16, 6, 5, 4, 3, 2, 1, 0]) (by kernel_rfl) (.cons rfl (pm_of rfl rfl rfl (fun _ kq => tl_p (pr_sliceP ⟨b3, 4, (lastF fs).pos.l, [], 189, (0, 0)⟩ Tryz.ar187 rfl .no .no (l := 0) (h := 4) (by omega) (by omega) (by omega) rfl rfl rfl) rfl kq)) (.cons rfl (pm_of rfl rfl rfl (fun _ kq => tl_p (pr_fieldAddr Tryz.fo189_1 rfl) rfl kq)) (.cons rfl (pm_of rfl rfl rfl (fun _ kq => tl_p (pr_ld Tryz.ag39 rfl) rfl kq)) (.cons rfl (pm_of rfl rfl rfl (fun _ kq => tl_p (pr_fieldAddr Tryz.fo100_1 rfl) rfl kq)) (.cons rfl (pm_of rfl rfl rfl (fun _ kq => tl_p (pr_nilCheck rfl) rfl kq)) (.cons rfl (pm_of rfl rfl rfl (fun _ kq => tl_p (pr_ld Tryz.ag34 rfl) rfl kq)) (.cons rfl (pm_of rfl rfl rfl (fun _ kq => tl_p (pr_fieldAddr Tryz.fo109_0 rfl) rfl kq)) (.cons rfl (pm_of rfl rfl rfl (fun _ kq => tl_p (pr_nilCheck rfl) rfl kq)) (.cons rfl (pm_of rfl rfl rfl (fun _ kq => tl_p (pr_move rfl) rfl kq)) .nil))))))))) ?_
    refine td_q 15 33 (pm_of rfl rfl rfl (fun _ kq => tl_p (pr_sliceS (l := 0) (h := 4) Tryz.sf24 rfl .no (.yes rfl rfl) (by omega) (by omega) hs32.toSok) rfl kq)) rfl rfl rfl ?_
    refine td_e1 18 (by kernel_rfl) ?_
    refine te rfl ?_
    refine tl_append Tryz.sf24 Tryz.z27 rfl rfl rfl (hs32.sub (by omega) (by omega)) (h4 b3) caps_ok (by omega) (h2 := .own (by repeat (first | exact Has.here | apply Has.there))) rfl (kk := fun s36 hs36 => ?_)
    refine td_next (pd := [6, 5, 4, 3, 2, 1, 0]) (by kernel_rfl) (.cons rfl (pm_of rfl rfl rfl (fun _ kq => tl_p (pr_ld Tryz.ag39 rfl) rfl kq)) (.cons rfl (pm_of rfl rfl rfl (fun _ kq => tl_p (pr_fieldAddr Tryz.fo100_1 rfl) rfl kq)) (.cons rfl (pm_of rfl rfl rfl (fun _ kq => tl_p (pr_nilCheck rfl) rfl kq)) (.cons rfl (pm_of rfl rfl rfl (fun _ kq => tl_p (pr_ld Tryz.ag34 rfl) rfl kq)) (.cons rfl (pm_of rfl rfl rfl (fun _ kq => tl_p (pr_fieldAddr Tryz.fo109_0 rfl) rfl kq)) (.cons rfl (pm_of rfl rfl rfl (fun _ kq => tl_p (pr_nilCheck rfl) rfl kq)) (.cons rfl (pm_of rfl rfl rfl (fun _ kq => tl_p (pr_move rfl) rfl kq)) .nil))))))) ?_
    refine td_e1 19 (by kernel_rfl) ?_
    refine te rfl ?_
    refine tl_callS (f100_ct rb [g0, g1, g2, g3, g4, g5, g6, g7] hl s36 8 ([g0, g1, g2, g3] ++ (lastF fs).regs) (Sow.toSok hs36)) (.cons rfl (.cons rfl .nil)) rfl (kk := fun _ => ?_)
    refine td_next (pd := []) (by kernel_rfl) (.nil) ?_
    refine td_done (by kernel_rfl) ?_
    refine tq_next ?_
    refine tc_seq ?_
    refine tc_region ?_
    refine tl_p (pr_move rfl) rfl ?_
    refine tl_p (pr_fieldAddr Tryz.fo189_0 rfl) rfl ?_
    refine tl_p (pr_ldA Tryz.ag27 Tryz.sz27 rfl) rfl ?_
    refine tl_p (pr_nilCheck rfl) rfl ?_
    refine tl_p (pr_fieldAddr Tryz.fo109_4 rfl) rfl ?_
    refine tl_stA Tryz.sz27 rfl rfl (k := ?_)
    refine tl_next ?_
    refine tc_seq ?_
    refine tc_region ?_
    refine tl_p (pr_assign rfl) rfl ?_
    refine tl_next ?_
    refine tc_ret ?_
    have e1 : ¬ fs.isEmpty = true := by simpa using hd1
    exact tq_retE1 .ret (.inl rfl) () rfl rfl (by unfold reE; rw [if_neg e1]) (by unfold reR reN; rw [if_neg e1, if_neg e1]; repeat (first | exact Pick.nil | exact Rem.here | apply Rem.there | apply Pick.cons))

end Go.Proofs

namespace Go.Proofs
open Go Go.Sz
attribute [local irreducible] pt lift exs own emp
theorem Tryz.mp112 : mapT Tryz.prog 112 = some (3, 111, .i64) := by kernel_rfl
abbrev dosE : List (Int × Value) := [(1, .func (.func 129) #[] #[]), (2, .func (.func 130) #[] #[]), (9, .func (.func 131) #[] #[]), (10, .func (.func 132) #[] #[]), (11, .func (.func 133) #[] #[]), (13, .func (.func 133) #[] #[]), (12, .func (.func 134) #[] #[]), (14, .func (.func 134) #[] #[]), (15, .func (.func 135) #[] #[]), (16, .func (.func 136) #[] #[]), (17, .func (.func 137) #[] #[]), (18, .func (.func 138) #[] #[]), (19, .func (.func 139) #[] #[]), (20, .func (.func 140) #[] #[]), (21, .func (.func 141) #[] #[]), (22, .func (.func 142) #[] #[]), (23, .func (.func 143) #[] #[]), (24, .func (.func 144) #[] #[]), (25, .func (.func 145) #[] #[]), (26, .func (.func 146) #[] #[]), (27, .func (.func 147) #[] #[]), (28, .func (.func 148) #[] #[])]

theorem f66_ct  : Ct Tryz.prog 66 #[] [] [] (X := Nat) (fun b => .map (some b)) (fun b N => pt b (mapO dosE) :: N) := by
  refine ct_intro Tryz.func66 rfl (by kernel_rfl) (n := 3) rfl rfl (E := []) rfl ?_
  intro κ hro
  refine tc_seq ?_
  refine tc_region ?_
  refine tl_p (pr_assign rfl) rfl ?_
  refine tl_next ?_
  refine tc_seq ?_
  refine tc_region ?_
  refine tl_makeMap rfl (fun b1 => ?_)
  refine tl_insert Tryz.mp112 rfl rfl rfl rfl (kc := ?_)
  refine tl_insert Tryz.mp112 rfl rfl rfl rfl (kc := ?_)
  refine tl_insert Tryz.mp112 rfl rfl rfl rfl (kc := ?_)
  refine tl_insert Tryz.mp112 rfl rfl rfl rfl (kc := ?_)
  refine tl_insert Tryz.mp112 rfl rfl rfl rfl (kc := ?_)
  refine tl_insert Tryz.mp112 rfl rfl rfl rfl (kc := ?_)
  refine tl_insert Tryz.mp112 rfl rfl rfl rfl (kc := ?_)
  refine tl_insert Tryz.mp112 rfl rfl rfl rfl (kc := ?_)
  refine tl_insert Tryz.mp112 rfl rfl rfl rfl (kc := ?_)
  refine tl_insert Tryz.mp112 rfl rfl rfl rfl (kc := ?_)
  refine tl_insert Tryz.mp112 rfl rfl rfl rfl (kc := ?_)
  refine tl_insert Tryz.mp112 rfl rfl rfl rfl (kc := ?_)
  refine tl_insert Tryz.mp112 rfl rfl rfl rfl (kc := ?_)
  refine tl_insert Tryz.mp112 rfl rfl rfl rfl (kc := ?_)
  refine tl_insert Tryz.mp112 rfl rfl rfl rfl (kc := ?_)
  refine tl_insert Tryz.mp112 rfl rfl rfl rfl (kc := ?_)
  refine tl_insert Tryz.mp112 rfl rfl rfl rfl (kc := ?_)
  refine tl_insert Tryz.mp112 rfl rfl rfl rfl (kc := ?_)
  refine tl_insert Tryz.mp112 rfl rfl rfl rfl (kc := ?_)
  refine tl_insert Tryz.mp112 rfl rfl rfl rfl (kc := ?_)
  refine tl_insert Tryz.mp112 rfl rfl rfl rfl (kc := ?_)
  refine tl_insert Tryz.mp112 rfl rfl rfl rfl (kc := ?_)
  refine tl_p (pr_move rfl) rfl ?_
  refine tl_p (pr_assign rfl) rfl ?_
  refine tl_next ?_
  refine tc_ret ?_
  exact tq_ret1 .ret (.inl rfl) b1 rfl rfl

def exD (x : Ins) (regs : List Cap) : Cap × Int :=
  if x.op = 17 then dMove (getR regs x.b) (wI ((getR regs x.b).pos + (getR regs x.c).pos)) else if x.op = 18 then dBounds (getR regs x.b) (getR regs x.c).pos else if x.op = 19 then dPerms (getR regs x.b) x.c
  else if x.op = 20 then dSeal (getR regs x.b) (getR regs x.c) else if x.op = 21 then dUnseal (getR regs x.b) (getR regs x.c) else dEnter (getR regs x.b)
def exC (x : Ins) (regs : List Cap) : Cap :=
  if x.op = 1 then intC x.b else if x.op = 2 then getR regs x.b else if x.op = 25 then intC (capSizeW (getR regs x.b)) else if x.op = 26 then intC (capOff (getR regs x.b)) else if x.op = 27 then intC (tagN (getR regs x.b)) else intC (getR regs x.b).pos
/-- what is wrong with an instruction, and what it makes of registers, frames, memory, and where the next one is -/
def exE (x : Ins) (nx pos : Cap) (regs : List Cap) (fs : List Fr) (m : MemM) : Int :=
  if x.op = 9 then within (jmpC pos x).2 else if x.op = 10 then jzE regs pos x else if x.op = 11 ∨ x.op = 13 then ldE regs x m else if x.op = 12 ∨ x.op = 14 then stE regs x m
  else if x.op = 15 then lcE regs x m else if x.op = 16 then scE regs x m else if 17 ≤ x.op ∧ x.op ≤ 22 then (exD x regs).2 else if x.op = 23 then caE regs x fs nx else if x.op = 24 then reE fs else 0
def exR (x : Ins) (nx pos : Cap) (regs : List Cap) (fs : List Fr) (m : MemM) (W : List Int) (g : Nat) : List Cap :=
  if x.op = 9 ∨ x.op = 10 then regs else if x.op = 11 ∨ x.op = 13 then ldR regs x m else if x.op = 12 ∨ x.op = 14 ∨ x.op = 16 then regs
  else if x.op = 15 then lcR regs x m W g else if 17 ≤ x.op ∧ x.op ≤ 22 then setE regs x.a (exD x regs).1 (exD x regs).2 else if x.op = 23 then caR regs x fs nx else if x.op = 24 then reR regs fs else setE regs x.a (exC x regs) 0
def exF (x : Ins) (nx : Cap) (regs : List Cap) (fs : List Fr) : List Fr := if x.op = 23 then caF regs x fs nx else if x.op = 24 then fs.dropLast else fs
def exM (x : Ins) (regs : List Cap) (m : MemM) : MemM := if x.op = 12 ∨ x.op = 14 then stM regs x m else if x.op = 16 then scM regs x m else m
def exN (x : Ins) (nx pos : Cap) (regs : List Cap) (fs : List Fr) : Cap := if x.op = 9 then jmpN pos x nx else if x.op = 10 then jzN regs pos x nx else if x.op = 23 then caN regs x fs nx else if x.op = 24 then reN fs nx else nx
theorem exM_n (x : Ins) (regs : List Cap) (m : MemM) : (exM x regs m).n = m.n := by
  unfold exM; split
  · unfold stM; split
    · exact memSto_n _ _ _
    · rfl
  · split
    · unfold scM; split
      · exact memPutC_n _ _ _
      · rfl
    · rfl

theorem x1_ct (r tb : Nat) (x : Ins) (mb sb : Nat) (nx : Cap) (pos : Cap) (rb fb : Nat) (regs : List Cap) (hl : regs.length = 8) (fs : List Fr) (s : Shp) (m : MemM) (hm : MOk s m) (sr : Bool) (lv : Value) (nn : Int) (pb : Nat) (ps : Shp) (W : List Int) (g : Nat) (hw : ShOk ps W g) (ho : x.op = 1) : Ct Tryz.prog 129 #[ad r 0] ([(tb, thrO pos rb fb), (mb, memO s m.n), (sb, swO mb pb sr lv nn), (pb, shO ps W.length g)] ++ ra ps (u64s W)) [pt r (runO tb x mb sb nx), fileA rb regs, stkA fb fs, sl s m.l] (fun _ : Unit => .int .i64 (exE x nx pos regs fs m)) (fun _ N => pt r (runO tb x mb sb (exN x nx pos regs fs)) :: fileA rb (exR x nx pos regs fs m W g) :: stkA fb (exF x nx regs fs) :: sl s (exM x regs m).l :: N) := by
  refine Ct.wk (R := [pt r (runO tb x mb sb nx), stkA fb fs, sl s m.l]) (f129_ct r tb x mb sb nx pos rb fb regs hl) (by repeat (first | exact Pick.nil | exact Rem.here | apply Rem.there | apply Pick.cons)) (fun κ hr => by
      obtain ⟨hr1, hr2⟩ := Reads.app hr
      have q1 : κ.frame tb = some (thrO pos rb fb) := hr1 _ (List.Mem.head _)
      have q2 : κ.frame mb = some (memO s m.n) := hr1 _ (List.Mem.tail _ (List.Mem.head _))
      have q3 : κ.frame sb = some (swO mb pb sr lv nn) := hr1 _ (List.Mem.tail _ (List.Mem.tail _ (List.Mem.head _)))
      have q4 : κ.frame pb = some (shO ps W.length g) := hr1 _ (List.Mem.tail _ (List.Mem.tail _ (List.Mem.tail _ (List.Mem.head _))))
      repeat (first | exact Rdbs.nil | exact Rdbs.of (by assumption) | apply Rdbs.app | exact Rdbs.sl (.own (by repeat (first | exact Has.here | apply Has.there))) | exact Rdbs.sl (Reads.sl hr2) | refine Rdbs.cons (by first | exact .fr (by assumption) | exact .own (by repeat (first | exact Has.here | apply Has.there))) ?_)) ?_
  intro _ κ w st
  refine ⟨(), ?_, ?_⟩
  · simp only [exE, exD, ho]; first | done | rfl
  · refine St.picked (R := []) (by simp only [exN, exR, exF, exM, exD, exC, ho]; repeat (first | exact Pick.nil | exact Rem.here | apply Rem.there | apply Pick.cons)) st

theorem x2_ct (r tb : Nat) (x : Ins) (mb sb : Nat) (nx : Cap) (pos : Cap) (rb fb : Nat) (regs : List Cap) (hl : regs.length = 8) (fs : List Fr) (s : Shp) (m : MemM) (hm : MOk s m) (sr : Bool) (lv : Value) (nn : Int) (pb : Nat) (ps : Shp) (W : List Int) (g : Nat) (hw : ShOk ps W g) (ho : x.op = 2) : Ct Tryz.prog 130 #[ad r 0] ([(tb, thrO pos rb fb), (mb, memO s m.n), (sb, swO mb pb sr lv nn), (pb, shO ps W.length g)] ++ ra ps (u64s W)) [pt r (runO tb x mb sb nx), fileA rb regs, stkA fb fs, sl s m.l] (fun _ : Unit => .int .i64 (exE x nx pos regs fs m)) (fun _ N => pt r (runO tb x mb sb (exN x nx pos regs fs)) :: fileA rb (exR x nx pos regs fs m W g) :: stkA fb (exF x nx regs fs) :: sl s (exM x regs m).l :: N) := by
  refine Ct.wk (R := [pt r (runO tb x mb sb nx), stkA fb fs, sl s m.l]) (f130_ct r tb x mb sb nx pos rb fb regs hl) (by repeat (first | exact Pick.nil | exact Rem.here | apply Rem.there | apply Pick.cons)) (fun κ hr => by
      obtain ⟨hr1, hr2⟩ := Reads.app hr
      have q1 : κ.frame tb = some (thrO pos rb fb) := hr1 _ (List.Mem.head _)
      have q2 : κ.frame mb = some (memO s m.n) := hr1 _ (List.Mem.tail _ (List.Mem.head _))
      have q3 : κ.frame sb = some (swO mb pb sr lv nn) := hr1 _ (List.Mem.tail _ (List.Mem.tail _ (List.Mem.head _)))
      have q4 : κ.frame pb = some (shO ps W.length g) := hr1 _ (List.Mem.tail _ (List.Mem.tail _ (List.Mem.tail _ (List.Mem.head _))))
      repeat (first | exact Rdbs.nil | exact Rdbs.of (by assumption) | apply Rdbs.app | exact Rdbs.sl (.own (by repeat (first | exact Has.here | apply Has.there))) | exact Rdbs.sl (Reads.sl hr2) | refine Rdbs.cons (by first | exact .fr (by assumption) | exact .own (by repeat (first | exact Has.here | apply Has.there))) ?_)) ?_
  intro _ κ w st
  refine ⟨(), ?_, ?_⟩
  · simp only [exE, exD, ho]; first | done | rfl
  · refine St.picked (R := []) (by simp only [exN, exR, exF, exM, exD, exC, ho]; repeat (first | exact Pick.nil | exact Rem.here | apply Rem.there | apply Pick.cons)) st

theorem x9_ct (r tb : Nat) (x : Ins) (mb sb : Nat) (nx : Cap) (pos : Cap) (rb fb : Nat) (regs : List Cap) (hl : regs.length = 8) (fs : List Fr) (s : Shp) (m : MemM) (hm : MOk s m) (sr : Bool) (lv : Value) (nn : Int) (pb : Nat) (ps : Shp) (W : List Int) (g : Nat) (hw : ShOk ps W g) (ho : x.op = 9) : Ct Tryz.prog 131 #[ad r 0] ([(tb, thrO pos rb fb), (mb, memO s m.n), (sb, swO mb pb sr lv nn), (pb, shO ps W.length g)] ++ ra ps (u64s W)) [pt r (runO tb x mb sb nx), fileA rb regs, stkA fb fs, sl s m.l] (fun _ : Unit => .int .i64 (exE x nx pos regs fs m)) (fun _ N => pt r (runO tb x mb sb (exN x nx pos regs fs)) :: fileA rb (exR x nx pos regs fs m W g) :: stkA fb (exF x nx regs fs) :: sl s (exM x regs m).l :: N) := by
  refine Ct.wk (R := [fileA rb regs, stkA fb fs, sl s m.l]) (f131_ct r tb x mb sb nx pos rb fb) (by repeat (first | exact Pick.nil | exact Rem.here | apply Rem.there | apply Pick.cons)) (fun κ hr => by
      obtain ⟨hr1, hr2⟩ := Reads.app hr
      have q1 : κ.frame tb = some (thrO pos rb fb) := hr1 _ (List.Mem.head _)
      have q2 : κ.frame mb = some (memO s m.n) := hr1 _ (List.Mem.tail _ (List.Mem.head _))
      have q3 : κ.frame sb = some (swO mb pb sr lv nn) := hr1 _ (List.Mem.tail _ (List.Mem.tail _ (List.Mem.head _)))
      have q4 : κ.frame pb = some (shO ps W.length g) := hr1 _ (List.Mem.tail _ (List.Mem.tail _ (List.Mem.tail _ (List.Mem.head _))))
      repeat (first | exact Rdbs.nil | exact Rdbs.of (by assumption) | apply Rdbs.app | exact Rdbs.sl (.own (by repeat (first | exact Has.here | apply Has.there))) | exact Rdbs.sl (Reads.sl hr2) | refine Rdbs.cons (by first | exact .fr (by assumption) | exact .own (by repeat (first | exact Has.here | apply Has.there))) ?_)) ?_
  intro _ κ w st
  refine ⟨(), ?_, ?_⟩
  · simp only [exE, exD, ho]; first | done | rfl
  · refine St.picked (R := []) (by simp only [exN, exR, exF, exM, exD, exC, ho]; repeat (first | exact Pick.nil | exact Rem.here | apply Rem.there | apply Pick.cons)) st

theorem x10_ct (r tb : Nat) (x : Ins) (mb sb : Nat) (nx : Cap) (pos : Cap) (rb fb : Nat) (regs : List Cap) (hl : regs.length = 8) (fs : List Fr) (s : Shp) (m : MemM) (hm : MOk s m) (sr : Bool) (lv : Value) (nn : Int) (pb : Nat) (ps : Shp) (W : List Int) (g : Nat) (hw : ShOk ps W g) (ho : x.op = 10) : Ct Tryz.prog 132 #[ad r 0] ([(tb, thrO pos rb fb), (mb, memO s m.n), (sb, swO mb pb sr lv nn), (pb, shO ps W.length g)] ++ ra ps (u64s W)) [pt r (runO tb x mb sb nx), fileA rb regs, stkA fb fs, sl s m.l] (fun _ : Unit => .int .i64 (exE x nx pos regs fs m)) (fun _ N => pt r (runO tb x mb sb (exN x nx pos regs fs)) :: fileA rb (exR x nx pos regs fs m W g) :: stkA fb (exF x nx regs fs) :: sl s (exM x regs m).l :: N) := by
  refine Ct.wk (R := [fileA rb regs, stkA fb fs, sl s m.l]) (f132_ct r tb x mb sb nx pos rb fb regs hl) (by repeat (first | exact Pick.nil | exact Rem.here | apply Rem.there | apply Pick.cons)) (fun κ hr => by
      obtain ⟨hr1, hr2⟩ := Reads.app hr
      have q1 : κ.frame tb = some (thrO pos rb fb) := hr1 _ (List.Mem.head _)
      have q2 : κ.frame mb = some (memO s m.n) := hr1 _ (List.Mem.tail _ (List.Mem.head _))
      have q3 : κ.frame sb = some (swO mb pb sr lv nn) := hr1 _ (List.Mem.tail _ (List.Mem.tail _ (List.Mem.head _)))
      have q4 : κ.frame pb = some (shO ps W.length g) := hr1 _ (List.Mem.tail _ (List.Mem.tail _ (List.Mem.tail _ (List.Mem.head _))))
      repeat (first | exact Rdbs.nil | exact Rdbs.of (by assumption) | apply Rdbs.app | exact Rdbs.sl (.own (by repeat (first | exact Has.here | apply Has.there))) | exact Rdbs.sl (Reads.sl hr2) | refine Rdbs.cons (by first | exact .fr (by assumption) | exact .own (by repeat (first | exact Has.here | apply Has.there))) ?_)) ?_
  intro _ κ w st
  refine ⟨(), ?_, ?_⟩
  · simp only [exE, exD, ho]; first | done | rfl
  · refine St.picked (R := []) (by simp only [exN, exR, exF, exM, exD, exC, ho]; repeat (first | exact Pick.nil | exact Rem.here | apply Rem.there | apply Pick.cons)) st

theorem x11_ct (r tb : Nat) (x : Ins) (mb sb : Nat) (nx : Cap) (pos : Cap) (rb fb : Nat) (regs : List Cap) (hl : regs.length = 8) (fs : List Fr) (s : Shp) (m : MemM) (hm : MOk s m) (sr : Bool) (lv : Value) (nn : Int) (pb : Nat) (ps : Shp) (W : List Int) (g : Nat) (hw : ShOk ps W g) (ho : x.op = 11) : Ct Tryz.prog 133 #[ad r 0] ([(tb, thrO pos rb fb), (mb, memO s m.n), (sb, swO mb pb sr lv nn), (pb, shO ps W.length g)] ++ ra ps (u64s W)) [pt r (runO tb x mb sb nx), fileA rb regs, stkA fb fs, sl s m.l] (fun _ : Unit => .int .i64 (exE x nx pos regs fs m)) (fun _ N => pt r (runO tb x mb sb (exN x nx pos regs fs)) :: fileA rb (exR x nx pos regs fs m W g) :: stkA fb (exF x nx regs fs) :: sl s (exM x regs m).l :: N) := by
  refine Ct.wk (R := [pt r (runO tb x mb sb nx), stkA fb fs, sl s m.l]) (f133_ct r tb x mb sb nx pos rb fb regs hl s m hm) (by repeat (first | exact Pick.nil | exact Rem.here | apply Rem.there | apply Pick.cons)) (fun κ hr => by
      obtain ⟨hr1, hr2⟩ := Reads.app hr
      have q1 : κ.frame tb = some (thrO pos rb fb) := hr1 _ (List.Mem.head _)
      have q2 : κ.frame mb = some (memO s m.n) := hr1 _ (List.Mem.tail _ (List.Mem.head _))
      have q3 : κ.frame sb = some (swO mb pb sr lv nn) := hr1 _ (List.Mem.tail _ (List.Mem.tail _ (List.Mem.head _)))
      have q4 : κ.frame pb = some (shO ps W.length g) := hr1 _ (List.Mem.tail _ (List.Mem.tail _ (List.Mem.tail _ (List.Mem.head _))))
      repeat (first | exact Rdbs.nil | exact Rdbs.of (by assumption) | apply Rdbs.app | exact Rdbs.sl (.own (by repeat (first | exact Has.here | apply Has.there))) | exact Rdbs.sl (Reads.sl hr2) | refine Rdbs.cons (by first | exact .fr (by assumption) | exact .own (by repeat (first | exact Has.here | apply Has.there))) ?_)) ?_
  intro _ κ w st
  refine ⟨(), ?_, ?_⟩
  · simp only [exE, exD, ho]; first | done | rfl
  · refine St.picked (R := []) (by simp only [exN, exR, exF, exM, exD, exC, ho]; repeat (first | exact Pick.nil | exact Rem.here | apply Rem.there | apply Pick.cons)) st

theorem x13_ct (r tb : Nat) (x : Ins) (mb sb : Nat) (nx : Cap) (pos : Cap) (rb fb : Nat) (regs : List Cap) (hl : regs.length = 8) (fs : List Fr) (s : Shp) (m : MemM) (hm : MOk s m) (sr : Bool) (lv : Value) (nn : Int) (pb : Nat) (ps : Shp) (W : List Int) (g : Nat) (hw : ShOk ps W g) (ho : x.op = 13) : Ct Tryz.prog 133 #[ad r 0] ([(tb, thrO pos rb fb), (mb, memO s m.n), (sb, swO mb pb sr lv nn), (pb, shO ps W.length g)] ++ ra ps (u64s W)) [pt r (runO tb x mb sb nx), fileA rb regs, stkA fb fs, sl s m.l] (fun _ : Unit => .int .i64 (exE x nx pos regs fs m)) (fun _ N => pt r (runO tb x mb sb (exN x nx pos regs fs)) :: fileA rb (exR x nx pos regs fs m W g) :: stkA fb (exF x nx regs fs) :: sl s (exM x regs m).l :: N) := by
  refine Ct.wk (R := [pt r (runO tb x mb sb nx), stkA fb fs, sl s m.l]) (f133_ct r tb x mb sb nx pos rb fb regs hl s m hm) (by repeat (first | exact Pick.nil | exact Rem.here | apply Rem.there | apply Pick.cons)) (fun κ hr => by
      obtain ⟨hr1, hr2⟩ := Reads.app hr
      have q1 : κ.frame tb = some (thrO pos rb fb) := hr1 _ (List.Mem.head _)
      have q2 : κ.frame mb = some (memO s m.n) := hr1 _ (List.Mem.tail _ (List.Mem.head _))
      have q3 : κ.frame sb = some (swO mb pb sr lv nn) := hr1 _ (List.Mem.tail _ (List.Mem.tail _ (List.Mem.head _)))
      have q4 : κ.frame pb = some (shO ps W.length g) := hr1 _ (List.Mem.tail _ (List.Mem.tail _ (List.Mem.tail _ (List.Mem.head _))))
      repeat (first | exact Rdbs.nil | exact Rdbs.of (by assumption) | apply Rdbs.app | exact Rdbs.sl (.own (by repeat (first | exact Has.here | apply Has.there))) | exact Rdbs.sl (Reads.sl hr2) | refine Rdbs.cons (by first | exact .fr (by assumption) | exact .own (by repeat (first | exact Has.here | apply Has.there))) ?_)) ?_
  intro _ κ w st
  refine ⟨(), ?_, ?_⟩
  · simp only [exE, exD, ho]; first | done | rfl
  · refine St.picked (R := []) (by simp only [exN, exR, exF, exM, exD, exC, ho]; repeat (first | exact Pick.nil | exact Rem.here | apply Rem.there | apply Pick.cons)) st

theorem x12_ct (r tb : Nat) (x : Ins) (mb sb : Nat) (nx : Cap) (pos : Cap) (rb fb : Nat) (regs : List Cap) (hl : regs.length = 8) (fs : List Fr) (s : Shp) (m : MemM) (hm : MOk s m) (sr : Bool) (lv : Value) (nn : Int) (pb : Nat) (ps : Shp) (W : List Int) (g : Nat) (hw : ShOk ps W g) (ho : x.op = 12) : Ct Tryz.prog 134 #[ad r 0] ([(tb, thrO pos rb fb), (mb, memO s m.n), (sb, swO mb pb sr lv nn), (pb, shO ps W.length g)] ++ ra ps (u64s W)) [pt r (runO tb x mb sb nx), fileA rb regs, stkA fb fs, sl s m.l] (fun _ : Unit => .int .i64 (exE x nx pos regs fs m)) (fun _ N => pt r (runO tb x mb sb (exN x nx pos regs fs)) :: fileA rb (exR x nx pos regs fs m W g) :: stkA fb (exF x nx regs fs) :: sl s (exM x regs m).l :: N) := by
  refine Ct.wk (R := [pt r (runO tb x mb sb nx), fileA rb regs, stkA fb fs]) (f134_ct r tb x mb sb nx pos rb fb regs hl s m hm) (by repeat (first | exact Pick.nil | exact Rem.here | apply Rem.there | apply Pick.cons)) (fun κ hr => by
      obtain ⟨hr1, hr2⟩ := Reads.app hr
      have q1 : κ.frame tb = some (thrO pos rb fb) := hr1 _ (List.Mem.head _)
      have q2 : κ.frame mb = some (memO s m.n) := hr1 _ (List.Mem.tail _ (List.Mem.head _))
      have q3 : κ.frame sb = some (swO mb pb sr lv nn) := hr1 _ (List.Mem.tail _ (List.Mem.tail _ (List.Mem.head _)))
      have q4 : κ.frame pb = some (shO ps W.length g) := hr1 _ (List.Mem.tail _ (List.Mem.tail _ (List.Mem.tail _ (List.Mem.head _))))
      repeat (first | exact Rdbs.nil | exact Rdbs.of (by assumption) | apply Rdbs.app | exact Rdbs.sl (.own (by repeat (first | exact Has.here | apply Has.there))) | exact Rdbs.sl (Reads.sl hr2) | refine Rdbs.cons (by first | exact .fr (by assumption) | exact .own (by repeat (first | exact Has.here | apply Has.there))) ?_)) ?_
  intro _ κ w st
  refine ⟨(), ?_, ?_⟩
  · simp only [exE, exD, ho]; first | done | rfl
  · refine St.picked (R := []) (by simp only [exN, exR, exF, exM, exD, exC, ho]; repeat (first | exact Pick.nil | exact Rem.here | apply Rem.there | apply Pick.cons)) st

theorem x14_ct (r tb : Nat) (x : Ins) (mb sb : Nat) (nx : Cap) (pos : Cap) (rb fb : Nat) (regs : List Cap) (hl : regs.length = 8) (fs : List Fr) (s : Shp) (m : MemM) (hm : MOk s m) (sr : Bool) (lv : Value) (nn : Int) (pb : Nat) (ps : Shp) (W : List Int) (g : Nat) (hw : ShOk ps W g) (ho : x.op = 14) : Ct Tryz.prog 134 #[ad r 0] ([(tb, thrO pos rb fb), (mb, memO s m.n), (sb, swO mb pb sr lv nn), (pb, shO ps W.length g)] ++ ra ps (u64s W)) [pt r (runO tb x mb sb nx), fileA rb regs, stkA fb fs, sl s m.l] (fun _ : Unit => .int .i64 (exE x nx pos regs fs m)) (fun _ N => pt r (runO tb x mb sb (exN x nx pos regs fs)) :: fileA rb (exR x nx pos regs fs m W g) :: stkA fb (exF x nx regs fs) :: sl s (exM x regs m).l :: N) := by
  refine Ct.wk (R := [pt r (runO tb x mb sb nx), fileA rb regs, stkA fb fs]) (f134_ct r tb x mb sb nx pos rb fb regs hl s m hm) (by repeat (first | exact Pick.nil | exact Rem.here | apply Rem.there | apply Pick.cons)) (fun κ hr => by
      obtain ⟨hr1, hr2⟩ := Reads.app hr
      have q1 : κ.frame tb = some (thrO pos rb fb) := hr1 _ (List.Mem.head _)
      have q2 : κ.frame mb = some (memO s m.n) := hr1 _ (List.Mem.tail _ (List.Mem.head _))
      have q3 : κ.frame sb = some (swO mb pb sr lv nn) := hr1 _ (List.Mem.tail _ (List.Mem.tail _ (List.Mem.head _)))
      have q4 : κ.frame pb = some (shO ps W.length g) := hr1 _ (List.Mem.tail _ (List.Mem.tail _ (List.Mem.tail _ (List.Mem.head _))))
      repeat (first | exact Rdbs.nil | exact Rdbs.of (by assumption) | apply Rdbs.app | exact Rdbs.sl (.own (by repeat (first | exact Has.here | apply Has.there))) | exact Rdbs.sl (Reads.sl hr2) | refine Rdbs.cons (by first | exact .fr (by assumption) | exact .own (by repeat (first | exact Has.here | apply Has.there))) ?_)) ?_
  intro _ κ w st
  refine ⟨(), ?_, ?_⟩
  · simp only [exE, exD, ho]; first | done | rfl
  · refine St.picked (R := []) (by simp only [exN, exR, exF, exM, exD, exC, ho]; repeat (first | exact Pick.nil | exact Rem.here | apply Rem.there | apply Pick.cons)) st

theorem x15_ct (r tb : Nat) (x : Ins) (mb sb : Nat) (nx : Cap) (pos : Cap) (rb fb : Nat) (regs : List Cap) (hl : regs.length = 8) (fs : List Fr) (s : Shp) (m : MemM) (hm : MOk s m) (sr : Bool) (lv : Value) (nn : Int) (pb : Nat) (ps : Shp) (W : List Int) (g : Nat) (hw : ShOk ps W g) (ho : x.op = 15) : Ct Tryz.prog 135 #[ad r 0] ([(tb, thrO pos rb fb), (mb, memO s m.n), (sb, swO mb pb sr lv nn), (pb, shO ps W.length g)] ++ ra ps (u64s W)) [pt r (runO tb x mb sb nx), fileA rb regs, stkA fb fs, sl s m.l] (fun _ : Unit => .int .i64 (exE x nx pos regs fs m)) (fun _ N => pt r (runO tb x mb sb (exN x nx pos regs fs)) :: fileA rb (exR x nx pos regs fs m W g) :: stkA fb (exF x nx regs fs) :: sl s (exM x regs m).l :: N) := by
  refine Ct.wk (R := [pt r (runO tb x mb sb nx), stkA fb fs, sl s m.l]) (f135_ct r tb x mb sb nx pos rb fb regs hl s m hm sr lv nn pb ps W g hw) (by repeat (first | exact Pick.nil | exact Rem.here | apply Rem.there | apply Pick.cons)) (fun κ hr => by
      obtain ⟨hr1, hr2⟩ := Reads.app hr
      have q1 : κ.frame tb = some (thrO pos rb fb) := hr1 _ (List.Mem.head _)
      have q2 : κ.frame mb = some (memO s m.n) := hr1 _ (List.Mem.tail _ (List.Mem.head _))
      have q3 : κ.frame sb = some (swO mb pb sr lv nn) := hr1 _ (List.Mem.tail _ (List.Mem.tail _ (List.Mem.head _)))
      have q4 : κ.frame pb = some (shO ps W.length g) := hr1 _ (List.Mem.tail _ (List.Mem.tail _ (List.Mem.tail _ (List.Mem.head _))))
      repeat (first | exact Rdbs.nil | exact Rdbs.of (by assumption) | apply Rdbs.app | exact Rdbs.sl (.own (by repeat (first | exact Has.here | apply Has.there))) | exact Rdbs.sl (Reads.sl hr2) | refine Rdbs.cons (by first | exact .fr (by assumption) | exact .own (by repeat (first | exact Has.here | apply Has.there))) ?_)) ?_
  intro _ κ w st
  refine ⟨(), ?_, ?_⟩
  · simp only [exE, exD, ho]; first | done | rfl
  · refine St.picked (R := []) (by simp only [exN, exR, exF, exM, exD, exC, ho]; repeat (first | exact Pick.nil | exact Rem.here | apply Rem.there | apply Pick.cons)) st

theorem x16_ct (r tb : Nat) (x : Ins) (mb sb : Nat) (nx : Cap) (pos : Cap) (rb fb : Nat) (regs : List Cap) (hl : regs.length = 8) (fs : List Fr) (s : Shp) (m : MemM) (hm : MOk s m) (sr : Bool) (lv : Value) (nn : Int) (pb : Nat) (ps : Shp) (W : List Int) (g : Nat) (hw : ShOk ps W g) (ho : x.op = 16) : Ct Tryz.prog 136 #[ad r 0] ([(tb, thrO pos rb fb), (mb, memO s m.n), (sb, swO mb pb sr lv nn), (pb, shO ps W.length g)] ++ ra ps (u64s W)) [pt r (runO tb x mb sb nx), fileA rb regs, stkA fb fs, sl s m.l] (fun _ : Unit => .int .i64 (exE x nx pos regs fs m)) (fun _ N => pt r (runO tb x mb sb (exN x nx pos regs fs)) :: fileA rb (exR x nx pos regs fs m W g) :: stkA fb (exF x nx regs fs) :: sl s (exM x regs m).l :: N) := by
  refine Ct.wk (R := [pt r (runO tb x mb sb nx), fileA rb regs, stkA fb fs]) (f136_ct r tb x mb sb nx pos rb fb regs hl s m hm) (by repeat (first | exact Pick.nil | exact Rem.here | apply Rem.there | apply Pick.cons)) (fun κ hr => by
      obtain ⟨hr1, hr2⟩ := Reads.app hr
      have q1 : κ.frame tb = some (thrO pos rb fb) := hr1 _ (List.Mem.head _)
      have q2 : κ.frame mb = some (memO s m.n) := hr1 _ (List.Mem.tail _ (List.Mem.head _))
      have q3 : κ.frame sb = some (swO mb pb sr lv nn) := hr1 _ (List.Mem.tail _ (List.Mem.tail _ (List.Mem.head _)))
      have q4 : κ.frame pb = some (shO ps W.length g) := hr1 _ (List.Mem.tail _ (List.Mem.tail _ (List.Mem.tail _ (List.Mem.head _))))
      repeat (first | exact Rdbs.nil | exact Rdbs.of (by assumption) | apply Rdbs.app | exact Rdbs.sl (.own (by repeat (first | exact Has.here | apply Has.there))) | exact Rdbs.sl (Reads.sl hr2) | refine Rdbs.cons (by first | exact .fr (by assumption) | exact .own (by repeat (first | exact Has.here | apply Has.there))) ?_)) ?_
  intro _ κ w st
  refine ⟨(), ?_, ?_⟩
  · simp only [exE, exD, ho]; first | done | rfl
  · refine St.picked (R := []) (by simp only [exN, exR, exF, exM, exD, exC, ho]; repeat (first | exact Pick.nil | exact Rem.here | apply Rem.there | apply Pick.cons)) st

theorem x17_ct (r tb : Nat) (x : Ins) (mb sb : Nat) (nx : Cap) (pos : Cap) (rb fb : Nat) (regs : List Cap) (hl : regs.length = 8) (fs : List Fr) (s : Shp) (m : MemM) (hm : MOk s m) (sr : Bool) (lv : Value) (nn : Int) (pb : Nat) (ps : Shp) (W : List Int) (g : Nat) (hw : ShOk ps W g) (ho : x.op = 17) : Ct Tryz.prog 137 #[ad r 0] ([(tb, thrO pos rb fb), (mb, memO s m.n), (sb, swO mb pb sr lv nn), (pb, shO ps W.length g)] ++ ra ps (u64s W)) [pt r (runO tb x mb sb nx), fileA rb regs, stkA fb fs, sl s m.l] (fun _ : Unit => .int .i64 (exE x nx pos regs fs m)) (fun _ N => pt r (runO tb x mb sb (exN x nx pos regs fs)) :: fileA rb (exR x nx pos regs fs m W g) :: stkA fb (exF x nx regs fs) :: sl s (exM x regs m).l :: N) := by
  refine Ct.wk (R := [pt r (runO tb x mb sb nx), stkA fb fs, sl s m.l]) (f137_ct r tb x mb sb nx pos rb fb regs hl) (by repeat (first | exact Pick.nil | exact Rem.here | apply Rem.there | apply Pick.cons)) (fun κ hr => by
      obtain ⟨hr1, hr2⟩ := Reads.app hr
      have q1 : κ.frame tb = some (thrO pos rb fb) := hr1 _ (List.Mem.head _)
      have q2 : κ.frame mb = some (memO s m.n) := hr1 _ (List.Mem.tail _ (List.Mem.head _))
      have q3 : κ.frame sb = some (swO mb pb sr lv nn) := hr1 _ (List.Mem.tail _ (List.Mem.tail _ (List.Mem.head _)))
      have q4 : κ.frame pb = some (shO ps W.length g) := hr1 _ (List.Mem.tail _ (List.Mem.tail _ (List.Mem.tail _ (List.Mem.head _))))
      repeat (first | exact Rdbs.nil | exact Rdbs.of (by assumption) | apply Rdbs.app | exact Rdbs.sl (.own (by repeat (first | exact Has.here | apply Has.there))) | exact Rdbs.sl (Reads.sl hr2) | refine Rdbs.cons (by first | exact .fr (by assumption) | exact .own (by repeat (first | exact Has.here | apply Has.there))) ?_)) ?_
  intro _ κ w st
  refine ⟨(), ?_, ?_⟩
  · simp only [exE, exD, ho]; first | done | rfl
  · refine St.picked (R := []) (by simp only [exN, exR, exF, exM, exD, exC, ho]; repeat (first | exact Pick.nil | exact Rem.here | apply Rem.there | apply Pick.cons)) st

theorem x18_ct (r tb : Nat) (x : Ins) (mb sb : Nat) (nx : Cap) (pos : Cap) (rb fb : Nat) (regs : List Cap) (hl : regs.length = 8) (fs : List Fr) (s : Shp) (m : MemM) (hm : MOk s m) (sr : Bool) (lv : Value) (nn : Int) (pb : Nat) (ps : Shp) (W : List Int) (g : Nat) (hw : ShOk ps W g) (ho : x.op = 18) : Ct Tryz.prog 138 #[ad r 0] ([(tb, thrO pos rb fb), (mb, memO s m.n), (sb, swO mb pb sr lv nn), (pb, shO ps W.length g)] ++ ra ps (u64s W)) [pt r (runO tb x mb sb nx), fileA rb regs, stkA fb fs, sl s m.l] (fun _ : Unit => .int .i64 (exE x nx pos regs fs m)) (fun _ N => pt r (runO tb x mb sb (exN x nx pos regs fs)) :: fileA rb (exR x nx pos regs fs m W g) :: stkA fb (exF x nx regs fs) :: sl s (exM x regs m).l :: N) := by
  refine Ct.wk (R := [pt r (runO tb x mb sb nx), stkA fb fs, sl s m.l]) (f138_ct r tb x mb sb nx pos rb fb regs hl) (by repeat (first | exact Pick.nil | exact Rem.here | apply Rem.there | apply Pick.cons)) (fun κ hr => by
      obtain ⟨hr1, hr2⟩ := Reads.app hr
      have q1 : κ.frame tb = some (thrO pos rb fb) := hr1 _ (List.Mem.head _)
      have q2 : κ.frame mb = some (memO s m.n) := hr1 _ (List.Mem.tail _ (List.Mem.head _))
      have q3 : κ.frame sb = some (swO mb pb sr lv nn) := hr1 _ (List.Mem.tail _ (List.Mem.tail _ (List.Mem.head _)))
      have q4 : κ.frame pb = some (shO ps W.length g) := hr1 _ (List.Mem.tail _ (List.Mem.tail _ (List.Mem.tail _ (List.Mem.head _))))
      repeat (first | exact Rdbs.nil | exact Rdbs.of (by assumption) | apply Rdbs.app | exact Rdbs.sl (.own (by repeat (first | exact Has.here | apply Has.there))) | exact Rdbs.sl (Reads.sl hr2) | refine Rdbs.cons (by first | exact .fr (by assumption) | exact .own (by repeat (first | exact Has.here | apply Has.there))) ?_)) ?_
  intro _ κ w st
  refine ⟨(), ?_, ?_⟩
  · simp only [exE, exD, ho]; first | done | rfl
  · refine St.picked (R := []) (by simp only [exN, exR, exF, exM, exD, exC, ho]; repeat (first | exact Pick.nil | exact Rem.here | apply Rem.there | apply Pick.cons)) st

theorem x19_ct (r tb : Nat) (x : Ins) (mb sb : Nat) (nx : Cap) (pos : Cap) (rb fb : Nat) (regs : List Cap) (hl : regs.length = 8) (fs : List Fr) (s : Shp) (m : MemM) (hm : MOk s m) (sr : Bool) (lv : Value) (nn : Int) (pb : Nat) (ps : Shp) (W : List Int) (g : Nat) (hw : ShOk ps W g) (ho : x.op = 19) : Ct Tryz.prog 139 #[ad r 0] ([(tb, thrO pos rb fb), (mb, memO s m.n), (sb, swO mb pb sr lv nn), (pb, shO ps W.length g)] ++ ra ps (u64s W)) [pt r (runO tb x mb sb nx), fileA rb regs, stkA fb fs, sl s m.l] (fun _ : Unit => .int .i64 (exE x nx pos regs fs m)) (fun _ N => pt r (runO tb x mb sb (exN x nx pos regs fs)) :: fileA rb (exR x nx pos regs fs m W g) :: stkA fb (exF x nx regs fs) :: sl s (exM x regs m).l :: N) := by
  refine Ct.wk (R := [pt r (runO tb x mb sb nx), stkA fb fs, sl s m.l]) (f139_ct r tb x mb sb nx pos rb fb regs hl) (by repeat (first | exact Pick.nil | exact Rem.here | apply Rem.there | apply Pick.cons)) (fun κ hr => by
      obtain ⟨hr1, hr2⟩ := Reads.app hr
      have q1 : κ.frame tb = some (thrO pos rb fb) := hr1 _ (List.Mem.head _)
      have q2 : κ.frame mb = some (memO s m.n) := hr1 _ (List.Mem.tail _ (List.Mem.head _))
      have q3 : κ.frame sb = some (swO mb pb sr lv nn) := hr1 _ (List.Mem.tail _ (List.Mem.tail _ (List.Mem.head _)))
      have q4 : κ.frame pb = some (shO ps W.length g) := hr1 _ (List.Mem.tail _ (List.Mem.tail _ (List.Mem.tail _ (List.Mem.head _))))
      repeat (first | exact Rdbs.nil | exact Rdbs.of (by assumption) | apply Rdbs.app | exact Rdbs.sl (.own (by repeat (first | exact Has.here | apply Has.there))) | exact Rdbs.sl (Reads.sl hr2) | refine Rdbs.cons (by first | exact .fr (by assumption) | exact .own (by repeat (first | exact Has.here | apply Has.there))) ?_)) ?_
  intro _ κ w st
  refine ⟨(), ?_, ?_⟩
  · simp only [exE, exD, ho]; first | done | rfl
  · refine St.picked (R := []) (by simp only [exN, exR, exF, exM, exD, exC, ho]; repeat (first | exact Pick.nil | exact Rem.here | apply Rem.there | apply Pick.cons)) st

theorem x20_ct (r tb : Nat) (x : Ins) (mb sb : Nat) (nx : Cap) (pos : Cap) (rb fb : Nat) (regs : List Cap) (hl : regs.length = 8) (fs : List Fr) (s : Shp) (m : MemM) (hm : MOk s m) (sr : Bool) (lv : Value) (nn : Int) (pb : Nat) (ps : Shp) (W : List Int) (g : Nat) (hw : ShOk ps W g) (ho : x.op = 20) : Ct Tryz.prog 140 #[ad r 0] ([(tb, thrO pos rb fb), (mb, memO s m.n), (sb, swO mb pb sr lv nn), (pb, shO ps W.length g)] ++ ra ps (u64s W)) [pt r (runO tb x mb sb nx), fileA rb regs, stkA fb fs, sl s m.l] (fun _ : Unit => .int .i64 (exE x nx pos regs fs m)) (fun _ N => pt r (runO tb x mb sb (exN x nx pos regs fs)) :: fileA rb (exR x nx pos regs fs m W g) :: stkA fb (exF x nx regs fs) :: sl s (exM x regs m).l :: N) := by
  refine Ct.wk (R := [pt r (runO tb x mb sb nx), stkA fb fs, sl s m.l]) (f140_ct r tb x mb sb nx pos rb fb regs hl) (by repeat (first | exact Pick.nil | exact Rem.here | apply Rem.there | apply Pick.cons)) (fun κ hr => by
      obtain ⟨hr1, hr2⟩ := Reads.app hr
      have q1 : κ.frame tb = some (thrO pos rb fb) := hr1 _ (List.Mem.head _)
      have q2 : κ.frame mb = some (memO s m.n) := hr1 _ (List.Mem.tail _ (List.Mem.head _))
      have q3 : κ.frame sb = some (swO mb pb sr lv nn) := hr1 _ (List.Mem.tail _ (List.Mem.tail _ (List.Mem.head _)))
      have q4 : κ.frame pb = some (shO ps W.length g) := hr1 _ (List.Mem.tail _ (List.Mem.tail _ (List.Mem.tail _ (List.Mem.head _))))
      repeat (first | exact Rdbs.nil | exact Rdbs.of (by assumption) | apply Rdbs.app | exact Rdbs.sl (.own (by repeat (first | exact Has.here | apply Has.there))) | exact Rdbs.sl (Reads.sl hr2) | refine Rdbs.cons (by first | exact .fr (by assumption) | exact .own (by repeat (first | exact Has.here | apply Has.there))) ?_)) ?_
  intro _ κ w st
  refine ⟨(), ?_, ?_⟩
  · simp only [exE, exD, ho]; first | done | rfl
  · refine St.picked (R := []) (by simp only [exN, exR, exF, exM, exD, exC, ho]; repeat (first | exact Pick.nil | exact Rem.here | apply Rem.there | apply Pick.cons)) st

theorem x21_ct (r tb : Nat) (x : Ins) (mb sb : Nat) (nx : Cap) (pos : Cap) (rb fb : Nat) (regs : List Cap) (hl : regs.length = 8) (fs : List Fr) (s : Shp) (m : MemM) (hm : MOk s m) (sr : Bool) (lv : Value) (nn : Int) (pb : Nat) (ps : Shp) (W : List Int) (g : Nat) (hw : ShOk ps W g) (ho : x.op = 21) : Ct Tryz.prog 141 #[ad r 0] ([(tb, thrO pos rb fb), (mb, memO s m.n), (sb, swO mb pb sr lv nn), (pb, shO ps W.length g)] ++ ra ps (u64s W)) [pt r (runO tb x mb sb nx), fileA rb regs, stkA fb fs, sl s m.l] (fun _ : Unit => .int .i64 (exE x nx pos regs fs m)) (fun _ N => pt r (runO tb x mb sb (exN x nx pos regs fs)) :: fileA rb (exR x nx pos regs fs m W g) :: stkA fb (exF x nx regs fs) :: sl s (exM x regs m).l :: N) := by
  refine Ct.wk (R := [pt r (runO tb x mb sb nx), stkA fb fs, sl s m.l]) (f141_ct r tb x mb sb nx pos rb fb regs hl) (by repeat (first | exact Pick.nil | exact Rem.here | apply Rem.there | apply Pick.cons)) (fun κ hr => by
      obtain ⟨hr1, hr2⟩ := Reads.app hr
      have q1 : κ.frame tb = some (thrO pos rb fb) := hr1 _ (List.Mem.head _)
      have q2 : κ.frame mb = some (memO s m.n) := hr1 _ (List.Mem.tail _ (List.Mem.head _))
      have q3 : κ.frame sb = some (swO mb pb sr lv nn) := hr1 _ (List.Mem.tail _ (List.Mem.tail _ (List.Mem.head _)))
      have q4 : κ.frame pb = some (shO ps W.length g) := hr1 _ (List.Mem.tail _ (List.Mem.tail _ (List.Mem.tail _ (List.Mem.head _))))
      repeat (first | exact Rdbs.nil | exact Rdbs.of (by assumption) | apply Rdbs.app | exact Rdbs.sl (.own (by repeat (first | exact Has.here | apply Has.there))) | exact Rdbs.sl (Reads.sl hr2) | refine Rdbs.cons (by first | exact .fr (by assumption) | exact .own (by repeat (first | exact Has.here | apply Has.there))) ?_)) ?_
  intro _ κ w st
  refine ⟨(), ?_, ?_⟩
  · simp only [exE, exD, ho]; first | done | rfl
  · refine St.picked (R := []) (by simp only [exN, exR, exF, exM, exD, exC, ho]; repeat (first | exact Pick.nil | exact Rem.here | apply Rem.there | apply Pick.cons)) st

theorem x22_ct (r tb : Nat) (x : Ins) (mb sb : Nat) (nx : Cap) (pos : Cap) (rb fb : Nat) (regs : List Cap) (hl : regs.length = 8) (fs : List Fr) (s : Shp) (m : MemM) (hm : MOk s m) (sr : Bool) (lv : Value) (nn : Int) (pb : Nat) (ps : Shp) (W : List Int) (g : Nat) (hw : ShOk ps W g) (ho : x.op = 22) : Ct Tryz.prog 142 #[ad r 0] ([(tb, thrO pos rb fb), (mb, memO s m.n), (sb, swO mb pb sr lv nn), (pb, shO ps W.length g)] ++ ra ps (u64s W)) [pt r (runO tb x mb sb nx), fileA rb regs, stkA fb fs, sl s m.l] (fun _ : Unit => .int .i64 (exE x nx pos regs fs m)) (fun _ N => pt r (runO tb x mb sb (exN x nx pos regs fs)) :: fileA rb (exR x nx pos regs fs m W g) :: stkA fb (exF x nx regs fs) :: sl s (exM x regs m).l :: N) := by
  refine Ct.wk (R := [pt r (runO tb x mb sb nx), stkA fb fs, sl s m.l]) (f142_ct r tb x mb sb nx pos rb fb regs hl) (by repeat (first | exact Pick.nil | exact Rem.here | apply Rem.there | apply Pick.cons)) (fun κ hr => by
      obtain ⟨hr1, hr2⟩ := Reads.app hr
      have q1 : κ.frame tb = some (thrO pos rb fb) := hr1 _ (List.Mem.head _)
      have q2 : κ.frame mb = some (memO s m.n) := hr1 _ (List.Mem.tail _ (List.Mem.head _))
      have q3 : κ.frame sb = some (swO mb pb sr lv nn) := hr1 _ (List.Mem.tail _ (List.Mem.tail _ (List.Mem.head _)))
      have q4 : κ.frame pb = some (shO ps W.length g) := hr1 _ (List.Mem.tail _ (List.Mem.tail _ (List.Mem.tail _ (List.Mem.head _))))
      repeat (first | exact Rdbs.nil | exact Rdbs.of (by assumption) | apply Rdbs.app | exact Rdbs.sl (.own (by repeat (first | exact Has.here | apply Has.there))) | exact Rdbs.sl (Reads.sl hr2) | refine Rdbs.cons (by first | exact .fr (by assumption) | exact .own (by repeat (first | exact Has.here | apply Has.there))) ?_)) ?_
  intro _ κ w st
  refine ⟨(), ?_, ?_⟩
  · simp only [exE, exD, ho]; first | done | rfl
  · refine St.picked (R := []) (by simp only [exN, exR, exF, exM, exD, exC, ho]; repeat (first | exact Pick.nil | exact Rem.here | apply Rem.there | apply Pick.cons)) st

theorem x23_ct (r tb : Nat) (x : Ins) (mb sb : Nat) (nx : Cap) (pos : Cap) (rb fb : Nat) (regs : List Cap) (hl : regs.length = 8) (fs : List Fr) (s : Shp) (m : MemM) (hm : MOk s m) (sr : Bool) (lv : Value) (nn : Int) (pb : Nat) (ps : Shp) (W : List Int) (g : Nat) (hw : ShOk ps W g) (ho : x.op = 23) : Ct Tryz.prog 143 #[ad r 0] ([(tb, thrO pos rb fb), (mb, memO s m.n), (sb, swO mb pb sr lv nn), (pb, shO ps W.length g)] ++ ra ps (u64s W)) [pt r (runO tb x mb sb nx), fileA rb regs, stkA fb fs, sl s m.l] (fun _ : Unit => .int .i64 (exE x nx pos regs fs m)) (fun _ N => pt r (runO tb x mb sb (exN x nx pos regs fs)) :: fileA rb (exR x nx pos regs fs m W g) :: stkA fb (exF x nx regs fs) :: sl s (exM x regs m).l :: N) := by
  refine Ct.wk (R := [sl s m.l]) (f143_ct r tb x mb sb nx pos rb fb regs hl fs) (by repeat (first | exact Pick.nil | exact Rem.here | apply Rem.there | apply Pick.cons)) (fun κ hr => by
      obtain ⟨hr1, hr2⟩ := Reads.app hr
      have q1 : κ.frame tb = some (thrO pos rb fb) := hr1 _ (List.Mem.head _)
      have q2 : κ.frame mb = some (memO s m.n) := hr1 _ (List.Mem.tail _ (List.Mem.head _))
      have q3 : κ.frame sb = some (swO mb pb sr lv nn) := hr1 _ (List.Mem.tail _ (List.Mem.tail _ (List.Mem.head _)))
      have q4 : κ.frame pb = some (shO ps W.length g) := hr1 _ (List.Mem.tail _ (List.Mem.tail _ (List.Mem.tail _ (List.Mem.head _))))
      repeat (first | exact Rdbs.nil | exact Rdbs.of (by assumption) | apply Rdbs.app | exact Rdbs.sl (.own (by repeat (first | exact Has.here | apply Has.there))) | exact Rdbs.sl (Reads.sl hr2) | refine Rdbs.cons (by first | exact .fr (by assumption) | exact .own (by repeat (first | exact Has.here | apply Has.there))) ?_)) ?_
  intro _ κ w st
  refine ⟨(), ?_, ?_⟩
  · simp only [exE, exD, ho]; first | done | rfl
  · refine St.picked (R := []) (by simp only [exN, exR, exF, exM, exD, exC, ho]; repeat (first | exact Pick.nil | exact Rem.here | apply Rem.there | apply Pick.cons)) st

theorem x24_ct (r tb : Nat) (x : Ins) (mb sb : Nat) (nx : Cap) (pos : Cap) (rb fb : Nat) (regs : List Cap) (hl : regs.length = 8) (fs : List Fr) (s : Shp) (m : MemM) (hm : MOk s m) (sr : Bool) (lv : Value) (nn : Int) (pb : Nat) (ps : Shp) (W : List Int) (g : Nat) (hw : ShOk ps W g) (ho : x.op = 24) : Ct Tryz.prog 144 #[ad r 0] ([(tb, thrO pos rb fb), (mb, memO s m.n), (sb, swO mb pb sr lv nn), (pb, shO ps W.length g)] ++ ra ps (u64s W)) [pt r (runO tb x mb sb nx), fileA rb regs, stkA fb fs, sl s m.l] (fun _ : Unit => .int .i64 (exE x nx pos regs fs m)) (fun _ N => pt r (runO tb x mb sb (exN x nx pos regs fs)) :: fileA rb (exR x nx pos regs fs m W g) :: stkA fb (exF x nx regs fs) :: sl s (exM x regs m).l :: N) := by
  refine Ct.wk (R := [sl s m.l]) (f144_ct r tb x mb sb nx pos rb fb regs hl fs) (by repeat (first | exact Pick.nil | exact Rem.here | apply Rem.there | apply Pick.cons)) (fun κ hr => by
      obtain ⟨hr1, hr2⟩ := Reads.app hr
      have q1 : κ.frame tb = some (thrO pos rb fb) := hr1 _ (List.Mem.head _)
      have q2 : κ.frame mb = some (memO s m.n) := hr1 _ (List.Mem.tail _ (List.Mem.head _))
      have q3 : κ.frame sb = some (swO mb pb sr lv nn) := hr1 _ (List.Mem.tail _ (List.Mem.tail _ (List.Mem.head _)))
      have q4 : κ.frame pb = some (shO ps W.length g) := hr1 _ (List.Mem.tail _ (List.Mem.tail _ (List.Mem.tail _ (List.Mem.head _))))
      repeat (first | exact Rdbs.nil | exact Rdbs.of (by assumption) | apply Rdbs.app | exact Rdbs.sl (.own (by repeat (first | exact Has.here | apply Has.there))) | exact Rdbs.sl (Reads.sl hr2) | refine Rdbs.cons (by first | exact .fr (by assumption) | exact .own (by repeat (first | exact Has.here | apply Has.there))) ?_)) ?_
  intro _ κ w st
  refine ⟨(), ?_, ?_⟩
  · simp only [exE, exD, ho]; first | done | rfl
  · refine St.picked (R := []) (by simp only [exN, exR, exF, exM, exD, exC, ho]; repeat (first | exact Pick.nil | exact Rem.here | apply Rem.there | apply Pick.cons)) st

theorem x25_ct (r tb : Nat) (x : Ins) (mb sb : Nat) (nx : Cap) (pos : Cap) (rb fb : Nat) (regs : List Cap) (hl : regs.length = 8) (fs : List Fr) (s : Shp) (m : MemM) (hm : MOk s m) (sr : Bool) (lv : Value) (nn : Int) (pb : Nat) (ps : Shp) (W : List Int) (g : Nat) (hw : ShOk ps W g) (ho : x.op = 25) : Ct Tryz.prog 145 #[ad r 0] ([(tb, thrO pos rb fb), (mb, memO s m.n), (sb, swO mb pb sr lv nn), (pb, shO ps W.length g)] ++ ra ps (u64s W)) [pt r (runO tb x mb sb nx), fileA rb regs, stkA fb fs, sl s m.l] (fun _ : Unit => .int .i64 (exE x nx pos regs fs m)) (fun _ N => pt r (runO tb x mb sb (exN x nx pos regs fs)) :: fileA rb (exR x nx pos regs fs m W g) :: stkA fb (exF x nx regs fs) :: sl s (exM x regs m).l :: N) := by
  refine Ct.wk (R := [pt r (runO tb x mb sb nx), stkA fb fs, sl s m.l]) (f145_ct r tb x mb sb nx pos rb fb regs hl) (by repeat (first | exact Pick.nil | exact Rem.here | apply Rem.there | apply Pick.cons)) (fun κ hr => by
      obtain ⟨hr1, hr2⟩ := Reads.app hr
      have q1 : κ.frame tb = some (thrO pos rb fb) := hr1 _ (List.Mem.head _)
      have q2 : κ.frame mb = some (memO s m.n) := hr1 _ (List.Mem.tail _ (List.Mem.head _))
      have q3 : κ.frame sb = some (swO mb pb sr lv nn) := hr1 _ (List.Mem.tail _ (List.Mem.tail _ (List.Mem.head _)))
      have q4 : κ.frame pb = some (shO ps W.length g) := hr1 _ (List.Mem.tail _ (List.Mem.tail _ (List.Mem.tail _ (List.Mem.head _))))
      repeat (first | exact Rdbs.nil | exact Rdbs.of (by assumption) | apply Rdbs.app | exact Rdbs.sl (.own (by repeat (first | exact Has.here | apply Has.there))) | exact Rdbs.sl (Reads.sl hr2) | refine Rdbs.cons (by first | exact .fr (by assumption) | exact .own (by repeat (first | exact Has.here | apply Has.there))) ?_)) ?_
  intro _ κ w st
  refine ⟨(), ?_, ?_⟩
  · simp only [exE, exD, ho]; first | done | rfl
  · refine St.picked (R := []) (by simp only [exN, exR, exF, exM, exD, exC, ho]; repeat (first | exact Pick.nil | exact Rem.here | apply Rem.there | apply Pick.cons)) st

theorem x26_ct (r tb : Nat) (x : Ins) (mb sb : Nat) (nx : Cap) (pos : Cap) (rb fb : Nat) (regs : List Cap) (hl : regs.length = 8) (fs : List Fr) (s : Shp) (m : MemM) (hm : MOk s m) (sr : Bool) (lv : Value) (nn : Int) (pb : Nat) (ps : Shp) (W : List Int) (g : Nat) (hw : ShOk ps W g) (ho : x.op = 26) : Ct Tryz.prog 146 #[ad r 0] ([(tb, thrO pos rb fb), (mb, memO s m.n), (sb, swO mb pb sr lv nn), (pb, shO ps W.length g)] ++ ra ps (u64s W)) [pt r (runO tb x mb sb nx), fileA rb regs, stkA fb fs, sl s m.l] (fun _ : Unit => .int .i64 (exE x nx pos regs fs m)) (fun _ N => pt r (runO tb x mb sb (exN x nx pos regs fs)) :: fileA rb (exR x nx pos regs fs m W g) :: stkA fb (exF x nx regs fs) :: sl s (exM x regs m).l :: N) := by
  refine Ct.wk (R := [pt r (runO tb x mb sb nx), stkA fb fs, sl s m.l]) (f146_ct r tb x mb sb nx pos rb fb regs hl) (by repeat (first | exact Pick.nil | exact Rem.here | apply Rem.there | apply Pick.cons)) (fun κ hr => by
      obtain ⟨hr1, hr2⟩ := Reads.app hr
      have q1 : κ.frame tb = some (thrO pos rb fb) := hr1 _ (List.Mem.head _)
      have q2 : κ.frame mb = some (memO s m.n) := hr1 _ (List.Mem.tail _ (List.Mem.head _))
      have q3 : κ.frame sb = some (swO mb pb sr lv nn) := hr1 _ (List.Mem.tail _ (List.Mem.tail _ (List.Mem.head _)))
      have q4 : κ.frame pb = some (shO ps W.length g) := hr1 _ (List.Mem.tail _ (List.Mem.tail _ (List.Mem.tail _ (List.Mem.head _))))
      repeat (first | exact Rdbs.nil | exact Rdbs.of (by assumption) | apply Rdbs.app | exact Rdbs.sl (.own (by repeat (first | exact Has.here | apply Has.there))) | exact Rdbs.sl (Reads.sl hr2) | refine Rdbs.cons (by first | exact .fr (by assumption) | exact .own (by repeat (first | exact Has.here | apply Has.there))) ?_)) ?_
  intro _ κ w st
  refine ⟨(), ?_, ?_⟩
  · simp only [exE, exD, ho]; first | done | rfl
  · refine St.picked (R := []) (by simp only [exN, exR, exF, exM, exD, exC, ho]; repeat (first | exact Pick.nil | exact Rem.here | apply Rem.there | apply Pick.cons)) st

theorem x27_ct (r tb : Nat) (x : Ins) (mb sb : Nat) (nx : Cap) (pos : Cap) (rb fb : Nat) (regs : List Cap) (hl : regs.length = 8) (fs : List Fr) (s : Shp) (m : MemM) (hm : MOk s m) (sr : Bool) (lv : Value) (nn : Int) (pb : Nat) (ps : Shp) (W : List Int) (g : Nat) (hw : ShOk ps W g) (ho : x.op = 27) : Ct Tryz.prog 147 #[ad r 0] ([(tb, thrO pos rb fb), (mb, memO s m.n), (sb, swO mb pb sr lv nn), (pb, shO ps W.length g)] ++ ra ps (u64s W)) [pt r (runO tb x mb sb nx), fileA rb regs, stkA fb fs, sl s m.l] (fun _ : Unit => .int .i64 (exE x nx pos regs fs m)) (fun _ N => pt r (runO tb x mb sb (exN x nx pos regs fs)) :: fileA rb (exR x nx pos regs fs m W g) :: stkA fb (exF x nx regs fs) :: sl s (exM x regs m).l :: N) := by
  refine Ct.wk (R := [pt r (runO tb x mb sb nx), stkA fb fs, sl s m.l]) (f147_ct r tb x mb sb nx pos rb fb regs hl) (by repeat (first | exact Pick.nil | exact Rem.here | apply Rem.there | apply Pick.cons)) (fun κ hr => by
      obtain ⟨hr1, hr2⟩ := Reads.app hr
      have q1 : κ.frame tb = some (thrO pos rb fb) := hr1 _ (List.Mem.head _)
      have q2 : κ.frame mb = some (memO s m.n) := hr1 _ (List.Mem.tail _ (List.Mem.head _))
      have q3 : κ.frame sb = some (swO mb pb sr lv nn) := hr1 _ (List.Mem.tail _ (List.Mem.tail _ (List.Mem.head _)))
      have q4 : κ.frame pb = some (shO ps W.length g) := hr1 _ (List.Mem.tail _ (List.Mem.tail _ (List.Mem.tail _ (List.Mem.head _))))
      repeat (first | exact Rdbs.nil | exact Rdbs.of (by assumption) | apply Rdbs.app | exact Rdbs.sl (.own (by repeat (first | exact Has.here | apply Has.there))) | exact Rdbs.sl (Reads.sl hr2) | refine Rdbs.cons (by first | exact .fr (by assumption) | exact .own (by repeat (first | exact Has.here | apply Has.there))) ?_)) ?_
  intro _ κ w st
  refine ⟨(), ?_, ?_⟩
  · simp only [exE, exD, ho]; first | done | rfl
  · refine St.picked (R := []) (by simp only [exN, exR, exF, exM, exD, exC, ho]; repeat (first | exact Pick.nil | exact Rem.here | apply Rem.there | apply Pick.cons)) st

theorem x28_ct (r tb : Nat) (x : Ins) (mb sb : Nat) (nx : Cap) (pos : Cap) (rb fb : Nat) (regs : List Cap) (hl : regs.length = 8) (fs : List Fr) (s : Shp) (m : MemM) (hm : MOk s m) (sr : Bool) (lv : Value) (nn : Int) (pb : Nat) (ps : Shp) (W : List Int) (g : Nat) (hw : ShOk ps W g) (ho : x.op = 28) : Ct Tryz.prog 148 #[ad r 0] ([(tb, thrO pos rb fb), (mb, memO s m.n), (sb, swO mb pb sr lv nn), (pb, shO ps W.length g)] ++ ra ps (u64s W)) [pt r (runO tb x mb sb nx), fileA rb regs, stkA fb fs, sl s m.l] (fun _ : Unit => .int .i64 (exE x nx pos regs fs m)) (fun _ N => pt r (runO tb x mb sb (exN x nx pos regs fs)) :: fileA rb (exR x nx pos regs fs m W g) :: stkA fb (exF x nx regs fs) :: sl s (exM x regs m).l :: N) := by
  refine Ct.wk (R := [pt r (runO tb x mb sb nx), stkA fb fs, sl s m.l]) (f148_ct r tb x mb sb nx pos rb fb regs hl) (by repeat (first | exact Pick.nil | exact Rem.here | apply Rem.there | apply Pick.cons)) (fun κ hr => by
      obtain ⟨hr1, hr2⟩ := Reads.app hr
      have q1 : κ.frame tb = some (thrO pos rb fb) := hr1 _ (List.Mem.head _)
      have q2 : κ.frame mb = some (memO s m.n) := hr1 _ (List.Mem.tail _ (List.Mem.head _))
      have q3 : κ.frame sb = some (swO mb pb sr lv nn) := hr1 _ (List.Mem.tail _ (List.Mem.tail _ (List.Mem.head _)))
      have q4 : κ.frame pb = some (shO ps W.length g) := hr1 _ (List.Mem.tail _ (List.Mem.tail _ (List.Mem.tail _ (List.Mem.head _))))
      repeat (first | exact Rdbs.nil | exact Rdbs.of (by assumption) | apply Rdbs.app | exact Rdbs.sl (.own (by repeat (first | exact Has.here | apply Has.there))) | exact Rdbs.sl (Reads.sl hr2) | refine Rdbs.cons (by first | exact .fr (by assumption) | exact .own (by repeat (first | exact Has.here | apply Has.there))) ?_)) ?_
  intro _ κ w st
  refine ⟨(), ?_, ?_⟩
  · simp only [exE, exD, ho]; first | done | rfl
  · refine St.picked (R := []) (by simp only [exN, exR, exF, exM, exD, exC, ho]; repeat (first | exact Pick.nil | exact Rem.here | apply Rem.there | apply Pick.cons)) st

end Go.Proofs

namespace Go.Proofs
open Go Go.Sz
attribute [local irreducible] pt lift exs own emp

theorem dos_k (r tb : Nat) (x : Ins) (mb sb : Nat) (nx : Cap) (pos : Cap) (rb fb : Nat) (regs : List Cap) (hl : regs.length = 8) (fs : List Fr) (s : Shp) (m : MemM) (hm : MOk s m) (sr : Bool) (lv : Value) (nn : Int) (pb : Nat) (ps : Shp) (W : List Int) (g : Nat) (hw : ShOk ps W g) (h0 : 0 ≤ x.op ∧ x.op ≤ 29) (h1 : x.op ≠ 0) (h2 : x.op ≠ 29) (h3 : aluIs x.op = false) :
    ∃ k, mapGet x.op dosE = some (.func (.func k) #[] #[]) ∧ Ct Tryz.prog k #[ad r 0] ([(tb, thrO pos rb fb), (mb, memO s m.n), (sb, swO mb pb sr lv nn), (pb, shO ps W.length g)] ++ ra ps (u64s W)) [pt r (runO tb x mb sb nx), fileA rb regs, stkA fb fs, sl s m.l] (fun _ : Unit => .int .i64 (exE x nx pos regs fs m)) (fun _ N => pt r (runO tb x mb sb (exN x nx pos regs fs)) :: fileA rb (exR x nx pos regs fs m W g) :: stkA fb (exF x nx regs fs) :: sl s (exM x regs m).l :: N) := by
  have h4 : ¬ (3 ≤ x.op ∧ x.op ≤ 8) := by simpa [aluIs] using h3
  have h5 : x.op = 1 ∨ x.op = 2 ∨ x.op = 9 ∨ x.op = 10 ∨ x.op = 11 ∨ x.op = 12 ∨ x.op = 13 ∨ x.op = 14 ∨ x.op = 15 ∨ x.op = 16 ∨ x.op = 17 ∨ x.op = 18 ∨ x.op = 19 ∨ x.op = 20 ∨ x.op = 21 ∨ x.op = 22 ∨ x.op = 23 ∨ x.op = 24 ∨ x.op = 25 ∨ x.op = 26 ∨ x.op = 27 ∨ x.op = 28 := by omega
  rcases h5 with h | h | h | h | h | h | h | h | h | h | h | h | h | h | h | h | h | h | h | h | h | h
  · exact ⟨129, by rw [h]; rfl, x1_ct r tb x mb sb nx pos rb fb regs hl fs s m hm sr lv nn pb ps W g hw h⟩
  · exact ⟨130, by rw [h]; rfl, x2_ct r tb x mb sb nx pos rb fb regs hl fs s m hm sr lv nn pb ps W g hw h⟩
  · exact ⟨131, by rw [h]; rfl, x9_ct r tb x mb sb nx pos rb fb regs hl fs s m hm sr lv nn pb ps W g hw h⟩
  · exact ⟨132, by rw [h]; rfl, x10_ct r tb x mb sb nx pos rb fb regs hl fs s m hm sr lv nn pb ps W g hw h⟩
  · exact ⟨133, by rw [h]; rfl, x11_ct r tb x mb sb nx pos rb fb regs hl fs s m hm sr lv nn pb ps W g hw h⟩
  · exact ⟨134, by rw [h]; rfl, x12_ct r tb x mb sb nx pos rb fb regs hl fs s m hm sr lv nn pb ps W g hw h⟩
  · exact ⟨133, by rw [h]; rfl, x13_ct r tb x mb sb nx pos rb fb regs hl fs s m hm sr lv nn pb ps W g hw h⟩
  · exact ⟨134, by rw [h]; rfl, x14_ct r tb x mb sb nx pos rb fb regs hl fs s m hm sr lv nn pb ps W g hw h⟩
  · exact ⟨135, by rw [h]; rfl, x15_ct r tb x mb sb nx pos rb fb regs hl fs s m hm sr lv nn pb ps W g hw h⟩
  · exact ⟨136, by rw [h]; rfl, x16_ct r tb x mb sb nx pos rb fb regs hl fs s m hm sr lv nn pb ps W g hw h⟩
  · exact ⟨137, by rw [h]; rfl, x17_ct r tb x mb sb nx pos rb fb regs hl fs s m hm sr lv nn pb ps W g hw h⟩
  · exact ⟨138, by rw [h]; rfl, x18_ct r tb x mb sb nx pos rb fb regs hl fs s m hm sr lv nn pb ps W g hw h⟩
  · exact ⟨139, by rw [h]; rfl, x19_ct r tb x mb sb nx pos rb fb regs hl fs s m hm sr lv nn pb ps W g hw h⟩
  · exact ⟨140, by rw [h]; rfl, x20_ct r tb x mb sb nx pos rb fb regs hl fs s m hm sr lv nn pb ps W g hw h⟩
  · exact ⟨141, by rw [h]; rfl, x21_ct r tb x mb sb nx pos rb fb regs hl fs s m hm sr lv nn pb ps W g hw h⟩
  · exact ⟨142, by rw [h]; rfl, x22_ct r tb x mb sb nx pos rb fb regs hl fs s m hm sr lv nn pb ps W g hw h⟩
  · exact ⟨143, by rw [h]; rfl, x23_ct r tb x mb sb nx pos rb fb regs hl fs s m hm sr lv nn pb ps W g hw h⟩
  · exact ⟨144, by rw [h]; rfl, x24_ct r tb x mb sb nx pos rb fb regs hl fs s m hm sr lv nn pb ps W g hw h⟩
  · exact ⟨145, by rw [h]; rfl, x25_ct r tb x mb sb nx pos rb fb regs hl fs s m hm sr lv nn pb ps W g hw h⟩
  · exact ⟨146, by rw [h]; rfl, x26_ct r tb x mb sb nx pos rb fb regs hl fs s m hm sr lv nn pb ps W g hw h⟩
  · exact ⟨147, by rw [h]; rfl, x27_ct r tb x mb sb nx pos rb fb regs hl fs s m hm sr lv nn pb ps W g hw h⟩
  · exact ⟨148, by rw [h]; rfl, x28_ct r tb x mb sb nx pos rb fb regs hl fs s m hm sr lv nn pb ps W g hw h⟩

def insP (pos : Cap) (m : MemM) : Ins × Int :=
  if ¬ (aeven pos (permOf [4]) 0 4).2 = 0 then (nullI, (aeven pos (permOf [4]) 0 4).2) else if memIn m (aeven pos (permOf [4]) 0 4).1 4 = true then insGet (memLoad m (aeven pos (permOf [4]) 0 4).1 4) else (nullI, 43)
theorem insP_op {pos : Cap} {m : MemM} (h : (insP pos m).2 = 0) : 0 ≤ (insP pos m).1.op ∧ (insP pos m).1.op ≤ 29 := by
  unfold insP at *
  split at h
  · exact absurd h (by assumption)
  · rename_i h1
    rw [if_neg h1]
    split at h
    · rename_i h2
      rw [if_pos h2]
      unfold insGet at *
      split at h
      · rename_i h3
        rw [if_pos h3]
        unfold insRight at h3
        simp at h3
        exact h3.2
      · exact absurd h (by decide)
    · exact absurd h (by decide)

theorem f62_ct (tb : Nat) (pos : Cap) (rb fb : Nat) (mb : Nat) (s : Shp) (m : MemM) (hm : MOk s m) : Ct Tryz.prog 62 #[ad tb 0, ad mb 0] ([(tb, thrO pos rb fb), (mb, memO s m.n)] ++ ra s m.l) [] (fun _ : Unit => xi (insP pos m)) (fun _ N => N) := by
  refine ct_intro Tryz.func62 rfl (by kernel_rfl) (n := 35) rfl rfl (E := [(0, ad tb 0), (1, ad mb 0)]) rfl ?_
  intro κ hro
  obtain ⟨hr1, hr2⟩ := Reads.app hro
  have hq2 : κ.frame tb = some (thrO pos rb fb) := hr1 _ (List.Mem.head _)
  have hq3 : κ.frame mb = some (memO s m.n) := hr1 _ (List.Mem.tail _ (List.Mem.head _))
  refine tc_seq ?_
  refine tc_region ?_
  refine tl_alloc Tryz.z33 rfl (fun b4 => ?_)
  refine tl_p (pr_assign rfl) rfl ?_
  refine tl_next ?_
  refine tc_seq ?_
  refine tc_region ?_
  refine tl_p (pr_move rfl) rfl ?_
  refine tl_p (pr_nilCheck rfl) rfl ?_
  refine tl_p (pr_fieldAddr Tryz.fo100_0 rfl) rfl ?_
  refine tl_p (pr_ldA Tryz.ag27 Tryz.sz27 rfl) rfl ?_
  refine tl_rdS (f121_ct pos) (.cons rfl .nil) rfl (kk := ?_)
  refine tl_p (pr_move rfl) rfl ?_
  refine tl_p (pr_extract rfl rfl) rfl ?_
  refine tl_p (pr_extract rfl rfl) rfl ?_
  refine tl_p (pr_assign rfl) rfl ?_
  refine tl_p (pr_assign rfl) rfl ?_
  refine tl_next ?_
  refine tc_seq ?_
  refine tc_seq ?_
  refine tc_region ?_
  refine tl_p (pr_move rfl) rfl ?_
  refine tl_p (pr_neq rfl rfl) rfl ?_
  refine tl_next ?_
  refine tc_if rfl (fun hc1 => ?_) (fun hc1 => ?_)
  · have hd1 := hc1
    try simp only [Bool.not_eq_true', Bool.not_eq_false', Bool.or_eq_true, Bool.and_eq_true, Bool.or_eq_false_iff, Bool.and_eq_false_iff, decide_eq_true_eq, decide_eq_false_iff_not, Bool.not_true, Bool.not_false, gval, Bool.not_eq_eq_eq_not] at hc1
    refine tc_seq ?_
    refine tc_region ?_
    refine tl_p (Tryz.bl33_ ) rfl ?_
    refine tl_p (pr_move rfl) rfl ?_
    refine tl_storeW Tryz.sz33 rfl rfl (k := ?_)
    refine tl_p (pr_assign rfl) rfl ?_
    refine tl_next ?_
    refine tc_ret (tq_then_ret ?_)
    have e : insP pos m = (nullI, (aeven pos (permOf [4]) 0 4).2) := if_pos (show ¬ (aeven pos (permOf [4]) 0 4).2 = 0 from hc1)
    exact tq_retG .ret (.inl rfl) () rfl (.cellA Tryz.ag33 Tryz.sz33 rfl (.tmp rfl .nil)) (by rw [e]; rfl)
  · have hd1 := hc1
    try simp only [Bool.not_eq_true', Bool.not_eq_false', Bool.or_eq_true, Bool.and_eq_true, Bool.or_eq_false_iff, Bool.and_eq_false_iff, decide_eq_true_eq, decide_eq_false_iff_not, Bool.not_true, Bool.not_false, gval, Bool.not_eq_eq_eq_not] at hc1
    refine tc_skip (tq_next ?_)
    refine tc_seq ?_
    refine tc_region ?_
    refine tl_p (pr_move rfl) rfl ?_
    refine tl_p (pr_move rfl) rfl ?_
    refine tl_callS (f30_ct mb s m hm (aeven pos (permOf [4]) 0 4).1 4) (.cons rfl (.cons rfl (.cons rfl .nil))) rfl (kk := fun ⟨s25, hs25⟩ => ?_)
    refine tl_p (pr_move rfl) rfl ?_
    refine tl_p (pr_extract rfl rfl) rfl ?_
    refine tl_p (pr_extract rfl rfl) rfl ?_
    refine tl_p (pr_assign rfl) rfl ?_
    refine tl_p (pr_assign rfl) rfl ?_
    refine tl_next ?_
    refine tc_seq ?_
    refine tc_seq ?_
    refine tc_region ?_
    refine tl_p (pr_move rfl) rfl ?_
    refine tl_p (pr_not rfl) rfl ?_
    refine tl_next ?_
    refine tc_if rfl (fun hc2 => ?_) (fun hc2 => ?_)
    · have hd2 := hc2
      try simp only [Bool.not_eq_true', Bool.not_eq_false', Bool.or_eq_true, Bool.and_eq_true, Bool.or_eq_false_iff, Bool.and_eq_false_iff, decide_eq_true_eq, decide_eq_false_iff_not, Bool.not_true, Bool.not_false, gval, Bool.not_eq_eq_eq_not] at hc2
      refine tc_seq ?_
      refine tc_region ?_
      refine tl_p (Tryz.bl33_ ) rfl ?_
      refine tl_storeW Tryz.sz33 rfl rfl (k := ?_)
      refine tl_p (pr_assign rfl) rfl ?_
      refine tl_next ?_
      refine tc_ret (tq_then_ret ?_)
      have e : insP pos m = (nullI, 43) := (if_neg (show ¬ ¬ (aeven pos (permOf [4]) 0 4).2 = 0 from fun h => h hc1)).trans (if_neg (by simpa using hd2))
      exact tq_retG .ret (.inl rfl) () rfl (.cellA Tryz.ag33 Tryz.sz33 rfl (.tmp rfl .nil)) (by rw [e]; rfl)
    · have hd2 := hc2
      try simp only [Bool.not_eq_true', Bool.not_eq_false', Bool.or_eq_true, Bool.and_eq_true, Bool.or_eq_false_iff, Bool.and_eq_false_iff, decide_eq_true_eq, decide_eq_false_iff_not, Bool.not_true, Bool.not_false, gval, Bool.not_eq_eq_eq_not] at hc2
      have hm2 : memIn m (aeven pos (permOf [4]) 0 4).1 4 = true := by simpa using hd2
      have he : (memLoad m (aeven pos (permOf [4]) 0 4).1 4).length = 4 := by unfold memLoad; rw [if_pos hm2, bs_len]; rfl
      refine tc_skip (tq_next ?_)
      refine tc_seq ?_
      refine tc_region ?_
      refine tl_p (pr_eq (v' := sv s25 4) (pr_move rfl) (by show sv s25 _ = _; rw [he])) rfl ?_
      refine tl_rdS (f122_ct s25 (memLoad m (aeven pos (permOf [4]) 0 4).1 4) (by have := hs25.toSok; rwa [he] at this)) (.cons rfl .nil) rfl (kk := ?_)
      refine tl_p (pr_extract rfl rfl) rfl ?_
      refine tl_p (pr_extract rfl rfl) rfl ?_
      refine tl_storeW Tryz.sz33 rfl rfl (k := ?_)
      refine tl_p (pr_assign rfl) rfl ?_
      refine tl_next ?_
      refine tc_ret ?_
      have e : insP pos m = insGet (memLoad m (aeven pos (permOf [4]) 0 4).1 4) := (if_neg (show ¬ ¬ (aeven pos (permOf [4]) 0 4).2 = 0 from fun h => h hc1)).trans (if_pos hm2)
      exact tq_retG .ret (.inl rfl) () rfl (.cellA Tryz.ag33 Tryz.sz33 rfl (.tmp rfl .nil)) (by rw [e]; rfl)

end Go.Proofs

namespace Go.Proofs
open Go Go.Sz
attribute [local irreducible] pt lift exs own emp
theorem Tryz.ag46 : aggB Tryz.prog 46 = some true := by kernel_rfl
theorem Tryz.bld109 : bldS Tryz.prog 109 = some ([(0, 1), (1, 4), (5, 1), (6, 1), (7, 6)], (.agg #[.pointer none, .int .i64 0, .int .i64 0, .int .i64 0, .int .i64 0, .pointer none, .pointer none, .bool false, .int .i64 0, .int .i64 0, .int .i64 0, .int .i64 0, .int .i64 0] : Value).cells) := by kernel_rfl
theorem Tryz.bld46 : bldS Tryz.prog 46 = some ([(0, 1), (1, 1), (2, 1)], (.agg #[.int .i64 0, .int .i64 0, .int .i64 0] : Value).cells) := by kernel_rfl
theorem Tryz.sz46 : szOf Tryz.prog 46 = some 3 := by kernel_rfl
theorem Tryz.z111 : zeroV Tryz.prog 111 = some (.nilFunc) := by kernel_rfl
theorem Tryz.z46 : zeroV Tryz.prog 46 = some (.agg #[.int .i64 0, .int .i64 0, .int .i64 0]) := by kernel_rfl
theorem Tryz.bl109_0_1_2_3_4 {n : Nat} {D : List Deferred} {E : Env} {L : List HProp} {κ : Ctx} {T : TypeId} {x0 x1 x2 x3 x4 : Operand} {a0 a1_0 a1_1 a1_2 a1_3 a2 a3 a4_0 a4_1 a4_2 a4_3 a4_4 a4_5 : Value} (h0 : E.ev x0 = some a0) (h1 : E.ev x1 = some (.agg #[a1_0, a1_1, a1_2, a1_3])) (h2 : E.ev x2 = some a2) (h3 : E.ev x3 = some a3) (h4 : E.ev x4 = some (.agg #[a4_0, a4_1, a4_2, a4_3, a4_4, a4_5])) (o0 : oneV a0 = true := by rfl) (o2 : oneV a2 = true := by rfl) (o3 : oneV a3 = true := by rfl) :
    PR Tryz.prog (.build 109 #[(0, x0), (1, x1), (2, x2), (3, x3), (4, x4)]) T n D E L κ (.agg #[a0, a1_0, a1_1, a1_2, a1_3, a2, a3, a4_0, a4_1, a4_2, a4_3, a4_4, a4_5]) := by
  refine pr_buildS Tryz.bld109 (.cons h0 (.cons h1 (.cons h2 (.cons h3 (.cons h4 .nil))))) ?_
  simp [Instr.fill, cells_agg, cells_one o0, cells_one o2, cells_one o3]
theorem Tryz.bl46_ {n : Nat} {D : List Deferred} {E : Env} {L : List HProp} {κ : Ctx} {T : TypeId} : PR Tryz.prog (.build 46 #[]) T n D E L κ (.agg #[.int .i64 0, .int .i64 0, .int .i64 0]) :=
  pr_buildS (ws := []) Tryz.bld46 .nil rfl
theorem Tryz.bl46_0 {n : Nat} {D : List Deferred} {E : Env} {L : List HProp} {κ : Ctx} {T : TypeId} {x0 : Operand} {a0 : Value} (h0 : E.ev x0 = some a0) (o0 : oneV a0 = true := by rfl) :
    PR Tryz.prog (.build 46 #[(0, x0)]) T n D E L κ (.agg #[a0, .int .i64 0, .int .i64 0]) := by
  refine pr_buildS Tryz.bld46 (.cons h0 .nil) ?_
  simp [Instr.fill, cells_agg, cells_one o0]
theorem Tryz.bl46_0_1 {n : Nat} {D : List Deferred} {E : Env} {L : List HProp} {κ : Ctx} {T : TypeId} {x0 x1 : Operand} {a0 a1 : Value} (h0 : E.ev x0 = some a0) (h1 : E.ev x1 = some a1) (o0 : oneV a0 = true := by rfl) (o1 : oneV a1 = true := by rfl) :
    PR Tryz.prog (.build 46 #[(0, x0), (1, x1)]) T n D E L κ (.agg #[a0, a1, .int .i64 0]) := by
  refine pr_buildS Tryz.bld46 (.cons h0 (.cons h1 .nil)) ?_
  simp [Instr.fill, cells_agg, cells_one o0, cells_one o1]
theorem Tryz.bl46_0_2 {n : Nat} {D : List Deferred} {E : Env} {L : List HProp} {κ : Ctx} {T : TypeId} {x0 x2 : Operand} {a0 a2 : Value} (h0 : E.ev x0 = some a0) (h2 : E.ev x2 = some a2) (o0 : oneV a0 = true := by rfl) (o2 : oneV a2 = true := by rfl) :
    PR Tryz.prog (.build 46 #[(0, x0), (2, x2)]) T n D E L κ (.agg #[a0, .int .i64 0, a2]) := by
  refine pr_buildS Tryz.bld46 (.cons h0 (.cons h2 .nil)) ?_
  simp [Instr.fill, cells_agg, cells_one o0, cells_one o2]
structure Stp where
  did : Int × Int × Int
  pos : Cap
  regs : List Cap
  fs : List Fr
  m : MemM
def stepF (pos : Cap) (regs : List Cap) (fs : List Fr) (m : MemM) (W : List Int) (g : Nat) : Stp :=
  if ¬ (insP pos m).2 = 0 then ⟨(2, 0, (insP pos m).2), pos, regs, fs, m⟩
  else if (insP pos m).1.op = 0 then ⟨(1, 0, 0), pos, regs, fs, m⟩
  else if (insP pos m).1.op = 29 then ⟨(3, (insP pos m).1.a, 0), (astep pos 4).1, regs, fs, m⟩
  else if aluIs (insP pos m).1.op = true then
    (if (aluDo (insP pos m).1.op (getR regs (insP pos m).1.b).pos (getR regs (insP pos m).1.c).pos).2 = 0 then ⟨(0, 0, 0), (astep pos 4).1, setE regs (insP pos m).1.a (intC (aluDo (insP pos m).1.op (getR regs (insP pos m).1.b).pos (getR regs (insP pos m).1.c).pos).1) 0, fs, m⟩
     else ⟨(2, 0, (aluDo (insP pos m).1.op (getR regs (insP pos m).1.b).pos (getR regs (insP pos m).1.c).pos).2), pos, regs, fs, m⟩)
  else if exE (insP pos m).1 (astep pos 4).1 pos regs fs m = 0 then ⟨(0, 0, 0), exN (insP pos m).1 (astep pos 4).1 pos regs fs, exR (insP pos m).1 (astep pos 4).1 pos regs fs m W g, exF (insP pos m).1 (astep pos 4).1 regs fs, exM (insP pos m).1 regs m⟩
  else ⟨(2, 0, exE (insP pos m).1 (astep pos 4).1 pos regs fs m), pos, exR (insP pos m).1 (astep pos 4).1 pos regs fs m W g, exF (insP pos m).1 (astep pos 4).1 regs fs, exM (insP pos m).1 regs m⟩
abbrev didV (d : Int × Int × Int) : Value := .agg #[.int .i64 d.1, .int .i64 d.2.1, .int .i64 d.2.2]
theorem setE_no {regs : List Cap} {r : Int} {c : Cap} {e : Int} (h : ¬ e = 0) : setE regs r c e = regs := if_neg h

theorem f19_ct (tb : Nat) (pos : Cap) (rb fb : Nat) (regs : List Cap) (hl : regs.length = 8) (fs : List Fr) (mb : Nat) (s : Shp) (m : MemM) (hm : MOk s m) (sb : Nat) (sr : Bool) (lv : Value) (nn : Int) (pb : Nat) (ps : Shp) (W : List Int) (g : Nat) (hw : ShOk ps W g) : Ct Tryz.prog 19 #[ad tb 0, ad mb 0, ad sb 0] ([(mb, memO s m.n), (sb, swO mb pb sr lv nn), (pb, shO ps W.length g)] ++ ra ps (u64s W)) [pt tb (thrO pos rb fb), fileA rb regs, stkA fb fs, sl s m.l] (fun _ : Unit => didV (stepF pos regs fs m W g).did) (fun _ N => pt tb (thrO (stepF pos regs fs m W g).pos rb fb) :: fileA rb (stepF pos regs fs m W g).regs :: stkA fb (stepF pos regs fs m W g).fs :: sl s (stepF pos regs fs m W g).m.l :: N) := by
  refine ct_intro Tryz.func19 rfl (by kernel_rfl) (n := 76) rfl rfl (E := [(0, ad tb 0), (1, ad mb 0), (2, ad sb 0)]) rfl ?_
  intro κ hro
  obtain ⟨hr1, hr2⟩ := Reads.app hro
  have hq1 : κ.frame mb = some (memO s m.n) := hr1 _ (List.Mem.head _)
  have hq2 : κ.frame sb = some (swO mb pb sr lv nn) := hr1 _ (List.Mem.tail _ (List.Mem.head _))
  have hq3 : κ.frame pb = some (shO ps W.length g) := hr1 _ (List.Mem.tail _ (List.Mem.tail _ (List.Mem.head _)))
  refine tc_seq ?_
  refine tc_region ?_
  refine tl_alloc Tryz.z46 rfl (fun b6 => ?_)
  refine tl_next ?_
  refine tc_seq ?_
  refine tc_region ?_
  refine tl_p (pr_move rfl) rfl ?_
  refine tl_p (pr_move rfl) rfl ?_
  refine tl_callS (f62_ct tb pos rb fb mb s m hm) (.cons rfl (.cons rfl .nil)) rfl (kk := fun _ => ?_)
  refine tl_p (pr_move rfl) rfl ?_
  refine tl_p (pr_extract rfl rfl) rfl ?_
  refine tl_p (pr_extract rfl rfl) rfl ?_
  refine tl_alloc Tryz.z33 rfl (fun b7 => ?_)
  refine tl_storeW Tryz.sz33 rfl rfl (k := ?_)
  refine tl_p (pr_assign rfl) rfl ?_
  refine tl_next ?_
  refine tc_seq ?_
  refine tc_region ?_
  refine tl_p (pr_move rfl) rfl ?_
  refine tl_p (pr_nilCheck rfl) rfl ?_
  refine tl_p (pr_fieldAddr Tryz.fo100_0 rfl) rfl ?_
  refine tl_p (pr_ldA Tryz.ag27 Tryz.sz27 rfl) rfl ?_
  refine tl_rdS (f63_ct pos 4) (.cons rfl (.cons rfl .nil)) rfl (kk := ?_)
  refine tl_p (pr_move rfl) rfl ?_
  refine tl_p (pr_extract rfl rfl) rfl ?_
  refine tl_p (pr_extract rfl rfl) rfl ?_
  refine tl_alloc Tryz.z27 rfl (fun b9 => ?_)
  refine tl_storeW Tryz.sz27 rfl rfl (k := ?_)
  refine tl_p (pr_assign rfl) rfl ?_
  refine tl_next ?_
  refine tc_seq ?_
  refine tc_region ?_
  refine tl_p (pr_move rfl) rfl ?_
  refine tl_p (by first | exact pr_loadW Tryz.ag33 Tryz.sz33 rfl | exact pr_ldA Tryz.ag33 Tryz.sz33 rfl) rfl ?_
  refine tl_p (pr_move rfl) rfl ?_
  refine tl_p (pr_move rfl) rfl ?_
  refine tl_p (by first | exact pr_loadW Tryz.ag27 Tryz.sz27 rfl | exact pr_ldA Tryz.ag27 Tryz.sz27 rfl) rfl ?_
  refine tl_p (Tryz.bl109_0_1_2_3_4 rfl rfl rfl rfl rfl) rfl ?_
  refine tl_box rfl rfl (fun b32 => ?_)
  refine tl_p (pr_assign rfl) rfl ?_
  refine tl_next ?_
  refine tc_seq ?_
  refine tc_block ?_
  refine tc_seq ?_
  refine tc_region ?_
  refine tl_p (pr_move rfl) rfl ?_
  refine tl_p (pr_neq rfl rfl) rfl ?_
  refine tl_p (pr_assign rfl) rfl ?_
  refine tl_next ?_
  refine tc_if rfl (fun hc1 => ?_) (fun hc1 => ?_)
  · have hd1 := hc1
    try simp only [Bool.not_eq_true', Bool.not_eq_false', Bool.or_eq_true, Bool.and_eq_true, Bool.or_eq_false_iff, Bool.and_eq_false_iff, decide_eq_true_eq, decide_eq_false_iff_not, Bool.not_true, Bool.not_false, gval, Bool.not_eq_eq_eq_not] at hc1
    refine tc_skip (tq_blk_normal (tq_next ?_))
    refine tc_seq ?_
    refine tc_seq ?_
    refine tc_region ?_
    refine tl_p (pr_move rfl) rfl ?_
    refine tl_p (pr_neq rfl rfl) rfl ?_
    refine tl_next ?_
    refine tc_if rfl (fun hc2 => ?_) (fun hc2 => ?_)
    · have hd2 := hc2
      try simp only [Bool.not_eq_true', Bool.not_eq_false', Bool.or_eq_true, Bool.and_eq_true, Bool.or_eq_false_iff, Bool.and_eq_false_iff, decide_eq_true_eq, decide_eq_false_iff_not, Bool.not_true, Bool.not_false, gval, Bool.not_eq_eq_eq_not] at hc2
      refine tc_seq ?_
      refine tc_region ?_
      refine tl_p (pr_move rfl) rfl ?_
      refine tl_p (Tryz.bl46_0_2 rfl rfl) rfl ?_
      refine tl_storeW Tryz.sz46 rfl rfl (k := ?_)
      refine tl_next ?_
      refine tc_ret (tq_then_ret ?_)
      have eF : (stepF pos regs fs m W g) = ⟨(2, 0, (insP pos m).2), pos, regs, fs, m⟩ := by unfold stepF; rw [if_pos hc1]
      exact tq_retG .ret (.inl rfl) () rfl (.cellA Tryz.ag46 Tryz.sz46 rfl .nil) (by rw [eF]; rfl) (by rw [eF]; repeat (first | exact Pick.nil | exact Rem.here | apply Rem.there | apply Pick.cons))
    · have hd2 := hc2
      try simp only [Bool.not_eq_true', Bool.not_eq_false', Bool.or_eq_true, Bool.and_eq_true, Bool.or_eq_false_iff, Bool.and_eq_false_iff, decide_eq_true_eq, decide_eq_false_iff_not, Bool.not_true, Bool.not_false, gval, Bool.not_eq_eq_eq_not] at hc2
      refine tc_skip (tq_next ?_)
      refine tc_seq ?_
      refine tc_region ?_
      refine tl_p (pr_move rfl) rfl ?_
      refine tl_p (pr_move rfl) rfl ?_
      refine tl_p (pr_nilCheck rfl) rfl ?_
      refine tl_p (pr_fieldAddr Tryz.fo109_4 rfl) rfl ?_
      refine tl_p (pr_ldA Tryz.ag27 Tryz.sz27 rfl) rfl ?_
      refine tl_p (pr_nilCheck rfl) rfl ?_
      refine tl_p (pr_fieldAddr Tryz.fo100_0 rfl) rfl ?_
      refine tl_stA Tryz.sz27 rfl rfl (k := ?_)
      refine tl_next ?_
      refine tc_seq ?_
      refine tc_region ?_
      refine tl_p (Tryz.bl46_ ) rfl ?_
      refine tl_storeW Tryz.sz46 rfl rfl (k := ?_)
      refine tl_next ?_
      refine tc_ret ?_
      exact absurd (by simpa using hd2) hc1
  · have hd1 := hc1
    try simp only [Bool.not_eq_true', Bool.not_eq_false', Bool.or_eq_true, Bool.and_eq_true, Bool.or_eq_false_iff, Bool.and_eq_false_iff, decide_eq_true_eq, decide_eq_false_iff_not, Bool.not_true, Bool.not_false, gval, Bool.not_eq_eq_eq_not] at hc1
    refine tc_seq ?_
    refine tc_region ?_
    refine tl_p (pr_fieldAddr Tryz.fo33_0 rfl) rfl ?_
    refine tl_p (pr_ld Tryz.ag3 rfl) rfl ?_
    refine tl_p (pr_eql rfl rfl) rfl ?_
    refine tl_p (pr_assign rfl) rfl ?_
    refine tl_next ?_
    refine tc_if rfl (fun hc3 => ?_) (fun hc3 => ?_)
    · have hd3 := hc3
      try simp only [Bool.not_eq_true', Bool.not_eq_false', Bool.or_eq_true, Bool.and_eq_true, Bool.or_eq_false_iff, Bool.and_eq_false_iff, decide_eq_true_eq, decide_eq_false_iff_not, Bool.not_true, Bool.not_false, gval, Bool.not_eq_eq_eq_not] at hc3
      refine tc_seq ?_
      refine tc_region ?_
      refine tl_p (Tryz.bl46_0 rfl) rfl ?_
      refine tl_storeW Tryz.sz46 rfl rfl (k := ?_)
      refine tl_next ?_
      refine tc_ret (tq_blk_ret (tq_then_ret ?_))
      have eF : (stepF pos regs fs m W g) = ⟨(1, 0, 0), pos, regs, fs, m⟩ := by unfold stepF; rw [if_neg (show ¬ ¬ (insP pos m).2 = 0 from fun h => h hc1)]; rw [if_pos hc3]
      exact tq_retG .ret (.inl rfl) () rfl (.cellA Tryz.ag46 Tryz.sz46 rfl .nil) (by rw [eF]; rfl) (by rw [eF]; repeat (first | exact Pick.nil | exact Rem.here | apply Rem.there | apply Pick.cons))
    · have hd3 := hc3
      try simp only [Bool.not_eq_true', Bool.not_eq_false', Bool.or_eq_true, Bool.and_eq_true, Bool.or_eq_false_iff, Bool.and_eq_false_iff, decide_eq_true_eq, decide_eq_false_iff_not, Bool.not_true, Bool.not_false, gval, Bool.not_eq_eq_eq_not] at hc3
      refine tc_seq ?_
      refine tc_region ?_
      refine tl_p (pr_fieldAddr Tryz.fo33_0 rfl) rfl ?_
      refine tl_p (pr_ld Tryz.ag3 rfl) rfl ?_
      refine tl_p (pr_eql rfl rfl) rfl ?_
      refine tl_p (pr_assign rfl) rfl ?_
      refine tl_next ?_
      refine tc_if rfl (fun hc4 => ?_) (fun hc4 => ?_)
      · have hd4 := hc4
        try simp only [Bool.not_eq_true', Bool.not_eq_false', Bool.or_eq_true, Bool.and_eq_true, Bool.or_eq_false_iff, Bool.and_eq_false_iff, decide_eq_true_eq, decide_eq_false_iff_not, Bool.not_true, Bool.not_false, gval, Bool.not_eq_eq_eq_not] at hc4
        refine tc_seq ?_
        refine tc_region ?_
        refine tl_p (pr_move rfl) rfl ?_
        refine tl_p (by first | exact pr_loadW Tryz.ag27 Tryz.sz27 rfl | exact pr_ldA Tryz.ag27 Tryz.sz27 rfl) rfl ?_
        refine tl_p (pr_nilCheck rfl) rfl ?_
        refine tl_p (pr_fieldAddr Tryz.fo100_0 rfl) rfl ?_
        refine tl_stA Tryz.sz27 rfl rfl (k := ?_)
        refine tl_next ?_
        refine tc_seq ?_
        refine tc_region ?_
        refine tl_p (pr_fieldAddr Tryz.fo33_1 rfl) rfl ?_
        refine tl_p (pr_ld Tryz.ag3 rfl) rfl ?_
        refine tl_p (Tryz.bl46_0_1 rfl rfl) rfl ?_
        refine tl_storeW Tryz.sz46 rfl rfl (k := ?_)
        refine tl_next ?_
        refine tc_ret (tq_blk_ret (tq_then_ret ?_))
        have eF : (stepF pos regs fs m W g) = ⟨(3, (insP pos m).1.a, 0), (astep pos 4).1, regs, fs, m⟩ := by unfold stepF; rw [if_neg (show ¬ ¬ (insP pos m).2 = 0 from fun h => h hc1)]; rw [if_neg hc3]; rw [if_pos hc4]
        exact tq_retG .ret (.inl rfl) () rfl (.cellA Tryz.ag46 Tryz.sz46 rfl .nil) (by rw [eF]; rfl) (by rw [eF]; repeat (first | exact Pick.nil | exact Rem.here | apply Rem.there | apply Pick.cons))
      · have hd4 := hc4
        try simp only [Bool.not_eq_true', Bool.not_eq_false', Bool.or_eq_true, Bool.and_eq_true, Bool.or_eq_false_iff, Bool.and_eq_false_iff, decide_eq_true_eq, decide_eq_false_iff_not, Bool.not_true, Bool.not_false, gval, Bool.not_eq_eq_eq_not] at hc4
        refine tc_seq ?_
        refine tc_region ?_
        refine tl_p (pr_fieldAddr Tryz.fo33_0 rfl) rfl ?_
        refine tl_p (pr_ld Tryz.ag3 rfl) rfl ?_
        refine tl_rdS (f64_ct _) (.cons rfl .nil) rfl (kk := ?_)
        refine tl_p (pr_assign rfl) rfl ?_
        refine tl_next ?_
        refine tc_if rfl (fun hc5 => ?_) (fun hc5 => ?_)
        · have hd5 := hc5
          try simp only [Bool.not_eq_true', Bool.not_eq_false', Bool.or_eq_true, Bool.and_eq_true, Bool.or_eq_false_iff, Bool.and_eq_false_iff, decide_eq_true_eq, decide_eq_false_iff_not, Bool.not_true, Bool.not_false, gval, Bool.not_eq_eq_eq_not] at hc5
          refine tc_region ?_
          refine tl_p (pr_move rfl) rfl ?_
          refine tl_callS (f65_ct b32 tb (insP pos m).1 mb sb (astep pos 4).1 pos rb fb regs hl) (.cons rfl .nil) rfl (kk := fun _ => ?_)
          refine tl_p (pr_assign rfl) rfl ?_
          refine tl_nil (tq_blk_normal (tq_next ?_))
          refine tc_seq ?_
          refine tc_seq ?_
          refine tc_region ?_
          refine tl_p (pr_move rfl) rfl ?_
          refine tl_p (pr_neq rfl rfl) rfl ?_
          refine tl_next ?_
          refine tc_if rfl (fun hc6 => ?_) (fun hc6 => ?_)
          · have hd6 := hc6
            try simp only [Bool.not_eq_true', Bool.not_eq_false', Bool.or_eq_true, Bool.and_eq_true, Bool.or_eq_false_iff, Bool.and_eq_false_iff, decide_eq_true_eq, decide_eq_false_iff_not, Bool.not_true, Bool.not_false, gval, Bool.not_eq_eq_eq_not] at hc6
            refine tc_seq ?_
            refine tc_region ?_
            refine tl_p (pr_move rfl) rfl ?_
            refine tl_p (Tryz.bl46_0_2 rfl rfl) rfl ?_
            refine tl_storeW Tryz.sz46 rfl rfl (k := ?_)
            refine tl_next ?_
            refine tc_ret (tq_then_ret ?_)
            have hz : ¬ (aluDo (insP pos m).1.op (getR regs (insP pos m).1.b).pos (getR regs (insP pos m).1.c).pos).2 = 0 := hc6
            rw [setE_no hz]
            have eF : (stepF pos regs fs m W g) = ⟨(2, 0, (aluDo (insP pos m).1.op (getR regs (insP pos m).1.b).pos (getR regs (insP pos m).1.c).pos).2), pos, regs, fs, m⟩ := by unfold stepF; rw [if_neg (show ¬ ¬ (insP pos m).2 = 0 from fun h => h hc1)]; rw [if_neg hc3]; rw [if_neg hc4]; rw [if_pos hc5]; rw [if_neg hz]
            exact tq_retG .ret (.inl rfl) () rfl (.cellA Tryz.ag46 Tryz.sz46 rfl .nil) (by rw [eF]; rfl) (by rw [eF]; repeat (first | exact Pick.nil | exact Rem.here | apply Rem.there | apply Pick.cons))
          · have hd6 := hc6
            try simp only [Bool.not_eq_true', Bool.not_eq_false', Bool.or_eq_true, Bool.and_eq_true, Bool.or_eq_false_iff, Bool.and_eq_false_iff, decide_eq_true_eq, decide_eq_false_iff_not, Bool.not_true, Bool.not_false, gval, Bool.not_eq_eq_eq_not] at hc6
            refine tc_skip (tq_next ?_)
            refine tc_seq ?_
            refine tc_region ?_
            refine tl_p (pr_move rfl) rfl ?_
            refine tl_p (pr_move rfl) rfl ?_
            refine tl_p (pr_nilCheck rfl) rfl ?_
            refine tl_p (pr_fieldAddr Tryz.fo109_4 rfl) rfl ?_
            refine tl_p (pr_ldA Tryz.ag27 Tryz.sz27 rfl) rfl ?_
            refine tl_p (pr_nilCheck rfl) rfl ?_
            refine tl_p (pr_fieldAddr Tryz.fo100_0 rfl) rfl ?_
            refine tl_stA Tryz.sz27 rfl rfl (k := ?_)
            refine tl_next ?_
            refine tc_seq ?_
            refine tc_region ?_
            refine tl_p (Tryz.bl46_ ) rfl ?_
            refine tl_storeW Tryz.sz46 rfl rfl (k := ?_)
            refine tl_next ?_
            refine tc_ret ?_
            have hz : (aluDo (insP pos m).1.op (getR regs (insP pos m).1.b).pos (getR regs (insP pos m).1.c).pos).2 = 0 := hc6
            rw [hz]
            have eF : (stepF pos regs fs m W g) = ⟨(0, 0, 0), (astep pos 4).1, setE regs (insP pos m).1.a (intC (aluDo (insP pos m).1.op (getR regs (insP pos m).1.b).pos (getR regs (insP pos m).1.c).pos).1) 0, fs, m⟩ := by unfold stepF; rw [if_neg (show ¬ ¬ (insP pos m).2 = 0 from fun h => h hc1)]; rw [if_neg hc3]; rw [if_neg hc4]; rw [if_pos hc5]; rw [if_pos hz]
            exact tq_retG .ret (.inl rfl) () rfl (.cellA Tryz.ag46 Tryz.sz46 rfl .nil) (by rw [eF]; rfl) (by rw [eF]; repeat (first | exact Pick.nil | exact Rem.here | apply Rem.there | apply Pick.cons))
        · have hd5 := hc5
          try simp only [Bool.not_eq_true', Bool.not_eq_false', Bool.or_eq_true, Bool.and_eq_true, Bool.or_eq_false_iff, Bool.and_eq_false_iff, decide_eq_true_eq, decide_eq_false_iff_not, Bool.not_true, Bool.not_false, gval, Bool.not_eq_eq_eq_not] at hc5
          obtain ⟨k, hk, hct⟩ := dos_k b32 tb (insP pos m).1 mb sb (astep pos 4).1 pos rb fb regs hl fs s m hm sr lv nn pb ps W g hw (insP_op hc1) hc3 hc4 (by simpa using hc5)
          refine tc_draw Tryz.mixed [1, 2, 3, 4] (by kernel_rfl) ?_
          refine td_q 1 34 (pm_of rfl rfl rfl (fun _ kq => tl_p (pr_fieldAddr Tryz.fo33_0 rfl) rfl kq)) rfl rfl rfl ?_
          refine td_q 2 35 (pm_of rfl rfl rfl (fun _ kq => tl_p (pr_ld Tryz.ag3 rfl) rfl kq)) rfl rfl rfl ?_
          refine td_q 4 37 (pm_of rfl rfl rfl (fun _ kq => tl_p (pr_move rfl) rfl kq)) rfl rfl rfl ?_
          refine td_e1 0 (by kernel_rfl) ?_
          refine te rfl ?_
          refine tl_callS (f66_ct) (.nil) rfl (kk := fun mp33 => ?_)
          refine td_next (pd := [4, 2, 1]) (by kernel_rfl) (.cons rfl (pm_of rfl rfl rfl (fun _ kq => tl_p (pr_move rfl) rfl kq)) (.cons rfl (pm_of rfl rfl rfl (fun _ kq => tl_p (pr_ld Tryz.ag3 rfl) rfl kq)) (.cons rfl (pm_of rfl rfl rfl (fun _ kq => tl_p (pr_fieldAddr Tryz.fo33_0 rfl) rfl kq)) .nil))) ?_
          refine td_q 3 36 (pm_of rfl rfl rfl (fun _ kq => tl_p (pr_eq (v' := .func (.func k) #[] #[]) (pr_lookup2 Tryz.mp112 Tryz.z111 rfl rfl).2 (by rw [hk]; rfl)) rfl kq)) rfl rfl rfl ?_
          refine td_e1 5 (by kernel_rfl) ?_
          refine te rfl ?_
          refine tl_callV (vs := [ad b32 0]) (args := [ad b32 0]) hct rfl (.cons rfl .nil) rfl (kk := fun _ => ?_)
          refine td_next (pd := []) (by kernel_rfl) (.nil) ?_
          refine td_e1 6 (by kernel_rfl) ?_
          refine te rfl ?_
          refine tl_p (pr_assign rfl) rfl ?_
          refine td_next (pd := []) (by kernel_rfl) (.nil) ?_
          refine td_done (by kernel_rfl) ?_
          refine tq_blk_normal (tq_next ?_)
          refine tc_seq ?_
          refine tc_seq ?_
          refine tc_region ?_
          refine tl_p (pr_move rfl) rfl ?_
          refine tl_p (pr_neq rfl rfl) rfl ?_
          refine tl_next ?_
          refine tc_if rfl (fun hc7 => ?_) (fun hc7 => ?_)
          · have hd7 := hc7
            try simp only [Bool.not_eq_true', Bool.not_eq_false', Bool.or_eq_true, Bool.and_eq_true, Bool.or_eq_false_iff, Bool.and_eq_false_iff, decide_eq_true_eq, decide_eq_false_iff_not, Bool.not_true, Bool.not_false, gval, Bool.not_eq_eq_eq_not] at hc7
            refine tc_seq ?_
            refine tc_region ?_
            refine tl_p (pr_move rfl) rfl ?_
            refine tl_p (Tryz.bl46_0_2 rfl rfl) rfl ?_
            refine tl_storeW Tryz.sz46 rfl rfl (k := ?_)
            refine tl_next ?_
            refine tc_ret (tq_then_ret ?_)
            have eF : (stepF pos regs fs m W g) = ⟨(2, 0, exE (insP pos m).1 (astep pos 4).1 pos regs fs m), pos, exR (insP pos m).1 (astep pos 4).1 pos regs fs m W g, exF (insP pos m).1 (astep pos 4).1 regs fs, exM (insP pos m).1 regs m⟩ := by unfold stepF; rw [if_neg (show ¬ ¬ (insP pos m).2 = 0 from fun h => h hc1)]; rw [if_neg hc3]; rw [if_neg hc4]; rw [if_neg (by rw [hc5]; exact Bool.false_ne_true)]; rw [if_neg hc7]
            exact tq_retG .ret (.inl rfl) () rfl (.cellA Tryz.ag46 Tryz.sz46 rfl .nil) (by rw [eF]; rfl) (by rw [eF]; repeat (first | exact Pick.nil | exact Rem.here | apply Rem.there | apply Pick.cons))
          · have hd7 := hc7
            try simp only [Bool.not_eq_true', Bool.not_eq_false', Bool.or_eq_true, Bool.and_eq_true, Bool.or_eq_false_iff, Bool.and_eq_false_iff, decide_eq_true_eq, decide_eq_false_iff_not, Bool.not_true, Bool.not_false, gval, Bool.not_eq_eq_eq_not] at hc7
            refine tc_skip (tq_next ?_)
            refine tc_seq ?_
            refine tc_region ?_
            refine tl_p (pr_move rfl) rfl ?_
            refine tl_p (pr_move rfl) rfl ?_
            refine tl_p (pr_nilCheck rfl) rfl ?_
            refine tl_p (pr_fieldAddr Tryz.fo109_4 rfl) rfl ?_
            refine tl_p (pr_ldA Tryz.ag27 Tryz.sz27 rfl) rfl ?_
            refine tl_p (pr_nilCheck rfl) rfl ?_
            refine tl_p (pr_fieldAddr Tryz.fo100_0 rfl) rfl ?_
            refine tl_stA Tryz.sz27 rfl rfl (k := ?_)
            refine tl_next ?_
            refine tc_seq ?_
            refine tc_region ?_
            refine tl_p (Tryz.bl46_ ) rfl ?_
            refine tl_storeW Tryz.sz46 rfl rfl (k := ?_)
            refine tl_next ?_
            refine tc_ret ?_
            have eF : (stepF pos regs fs m W g) = ⟨(0, 0, 0), exN (insP pos m).1 (astep pos 4).1 pos regs fs, exR (insP pos m).1 (astep pos 4).1 pos regs fs m W g, exF (insP pos m).1 (astep pos 4).1 regs fs, exM (insP pos m).1 regs m⟩ := by unfold stepF; rw [if_neg (show ¬ ¬ (insP pos m).2 = 0 from fun h => h hc1)]; rw [if_neg hc3]; rw [if_neg hc4]; rw [if_neg (by rw [hc5]; exact Bool.false_ne_true)]; rw [if_pos hc7]
            exact tq_retG .ret (.inl rfl) () rfl (.cellA Tryz.ag46 Tryz.sz46 rfl .nil) (by rw [eF]; rfl) (by rw [eF]; repeat (first | exact Pick.nil | exact Rem.here | apply Rem.there | apply Pick.cons))

end Go.Proofs

namespace Go.Proofs
open Go Go.Sz
attribute [local irreducible] pt lift exs own emp
theorem Tryz.sz171 : szOf Tryz.prog 171 = some 1 := by kernel_rfl
def bitW (i : Nat) : Int := IntKind.u64.wrap (1 * 2 ^ min ((i : Int) % 64).toNat IntKind.u64.bits)
def orW (W : List Int) (i : Nat) : List Int := W.set (i / 64) (bOr .u64 (W.getD (i / 64) 0) (bitW i))
def xorW (W : List Int) (i : Nat) : List Int := W.set (i / 64) (bXor .u64 (W.getD (i / 64) 0) (bitW i))
def paint1 (W : List Int) (i : Nat) (b : Bool) : List Int := if b then orW W i else xorW (orW W i) i
def paintN (W : List Int) (lo hi : Nat) (b : Bool) : List Int := (List.range' lo (hi - lo)).foldl (fun W i => paint1 W i b) W
theorem orW_len (W : List Int) (i : Nat) : (orW W i).length = W.length := by simp [orW]
theorem xorW_len (W : List Int) (i : Nat) : (xorW W i).length = W.length := by simp [xorW]
theorem paint1_len (W : List Int) (i : Nat) (b : Bool) : (paint1 W i b).length = W.length := by unfold paint1; split <;> simp [orW, xorW]
theorem paintN_len (W : List Int) (lo hi : Nat) (b : Bool) : (paintN W lo hi b).length = W.length := by
  unfold paintN
  generalize List.range' lo (hi - lo) = l
  induction l generalizing W with
  | nil => rfl
  | cons i l ih => rw [List.foldl_cons, ih, paint1_len]
theorem paintN_nil (W : List Int) (lo : Nat) (b : Bool) : paintN W lo lo b = W := by simp [paintN]
theorem paintN_succ (W : List Int) {lo j : Nat} (b : Bool) (h : lo ≤ j) : paintN W lo (j + 1) b = paint1 (paintN W lo j b) j b := by
  unfold paintN
  rw [show j + 1 - lo = (j - lo) + 1 from by omega, List.range'_1_concat, List.foldl_append, show lo + (j - lo) = j from by omega]; rfl
def paintOk (g : Nat) (p q : Int) : Bool := !(!decide (p.tmod 16 = 0) || !decide (q.tmod 16 = 0) || decide (p < 0) || decide (q < p) || decide ((g : Int) * 16 < q))
theorem paintOk_nat {g : Nat} {p q : Int} (h : paintOk g p q = true) : ∃ a c : Nat, p = ((16 * a : Nat) : Int) ∧ q = ((16 * c : Nat) : Int) ∧ a ≤ c ∧ c ≤ g := by
  simp [paintOk] at h
  obtain ⟨⟨⟨⟨h1, h2⟩, h3⟩, h4⟩, h5⟩ := h
  rw [Int.tmod_eq_emod_of_nonneg h3] at h1
  rw [Int.tmod_eq_emod_of_nonneg (by omega)] at h2
  exact ⟨(p / 16).toNat, (q / 16).toNat, by omega, by omega, by omega, by omega⟩
def paintP (W : List Int) (g : Nat) (p q : Int) (b : Bool) : List Int := if paintOk g p q then paintN W (p / 16).toNat (q / 16).toNat b else W
theorem paintP_len (W : List Int) (g : Nat) (p q : Int) (b : Bool) : (paintP W g p q b).length = W.length := by unfold paintP; split; exact paintN_len _ _ _ _; rfl
theorem ShOk.of {s : Shp} {W W' : List Int} {g : Nat} (h : ShOk s W g) (e : W'.length = W.length) : ShOk s W' g :=
  ⟨⟨⟨by simp, by rw [e]; exact h.own.far, by rw [e]; exact h.own.cap, by rw [e]; exact h.own.bnd⟩, h.own.tame, by rw [e]; exact h.own.room⟩, by rw [e]; exact h.all, h.lim⟩
theorem u64_put {W : List Int} {j : Nat} {v : Int} (h : j < W.length) : putAt (u64s W) (j * 1) [.int .u64 v] = u64s (W.set j v) := by
  rw [Nat.mul_one, put_one (by simpa using h)]; simp [u64s, List.map_set]

theorem f57_true (pb : Nat) (s : Shp) (W : List Int) (g : Nat) (hw : ShOk s W g) (p q : Int) : Ct Tryz.prog 57 #[ad pb 0, .int .i64 p, .int .i64 q, .bool true] [(pb, shO s W.length g)] [sl s (u64s W)] (fun _ : Unit => .bool (paintOk g p q)) (fun _ N => sl s (u64s (paintP W g p q true)) :: N) := by
  refine ct_intro Tryz.func57 rfl (by kernel_rfl) (n := 72) rfl rfl (E := [(0, ad pb 0), (1, .int .i64 p), (2, .int .i64 q), (3, .bool true)]) rfl ?_
  intro κ hro
  have hq : κ.frame pb = some (shO s W.length g) := hro _ (List.Mem.head _)
  have hs := hw.own
  have ha := hw.all
  have hl := hw.lim
  have hf : ∀ g2, s = .mem g2 → g2.fr = (0, 0) := fun g2 e => (hs.room g2 e).1
  refine tc_seq ?_
  refine tc_region ?_
  refine tl_p (pr_assign rfl) rfl ?_
  refine tl_next ?_
  refine tc_seq ?_
  refine tc_seq ?_
  refine tc_region ?_
  refine tl_p (pr_move rfl) rfl ?_
  refine tl_p (pr_rem rfl rfl (by decide)) rfl ?_
  refine tl_p (pr_neq rfl rfl) rfl ?_
  refine tl_p (pr_move rfl) rfl ?_
  refine tl_gf rfl rfl (fun h => pr_move rfl) (by intro _ h; cases h) rfl ?_
  refine tl_gf rfl rfl (fun h => pr_rem (gv rfl h) rfl (by decide)) (by intro _ h; cases h) rfl ?_
  refine tl_gf rfl rfl (fun h => pr_neq (gv rfl h) rfl) (by intro _ h; cases h) rfl ?_
  refine tl_p (pr_or rfl rfl rfl) rfl ?_
  refine tl_p (pr_move rfl) rfl ?_
  refine tl_gf rfl rfl (fun h => pr_move rfl) (by intro _ h; cases h) rfl ?_
  refine tl_gf rfl rfl (fun h => pr_lss (gv rfl h) rfl) (by intro _ h; cases h) rfl ?_
  refine tl_p (pr_or rfl rfl rfl) rfl ?_
  refine tl_p (pr_move rfl) rfl ?_
  refine tl_gf rfl rfl (fun h => pr_move rfl) (by intro _ h; cases h) rfl ?_
  refine tl_gf rfl rfl (fun h => pr_move rfl) (by intro _ h; cases h) rfl ?_
  refine tl_gf rfl rfl (fun h => pr_gtr (gv rfl h) (gv rfl h)) (by intro _ h; cases h) rfl ?_
  refine tl_p (pr_or rfl rfl rfl) rfl ?_
  refine tl_p (pr_move rfl) rfl ?_
  refine tl_gf rfl rfl (fun h => pr_move rfl) (by intro _ h; cases h) rfl ?_
  refine tl_gf rfl rfl (fun h => pr_move rfl) (by intro _ h; cases h) rfl ?_
  refine tl_gf rfl rfl (fun h => pr_nilCheck (gv rfl h)) (by intro _ h; cases h) rfl ?_
  refine tl_gf rfl rfl (fun h => pr_fieldAddr Tryz.fo168_1 (gv rfl h)) (by intro _ h; cases h) rfl ?_
  refine tl_gf rfl rfl (fun h => pr_ld Tryz.ag3 (gv rfl h)) (by intro _ h; cases h) rfl ?_
  refine tl_gf rfl rfl (fun h => pr_mulN (gv rfl h) rfl (by omega)) (by intro _ h; cases h) rfl ?_
  refine tl_gf rfl rfl (fun h => pr_gtr (gv rfl h) (gv rfl h)) (by intro _ h; cases h) rfl ?_
  refine tl_p (pr_or rfl rfl rfl) rfl ?_
  refine tl_next ?_
  refine tc_if rfl (fun hc1 => ?_) (fun hc1 => ?_)
  · have hd1 := hc1
    try simp only [Bool.not_eq_true', Bool.not_eq_false', Bool.or_eq_true, Bool.and_eq_true, Bool.or_eq_false_iff, Bool.and_eq_false_iff, decide_eq_true_eq, decide_eq_false_iff_not, Bool.not_true, Bool.not_false, gval, Bool.not_eq_eq_eq_not] at hc1
    refine tc_seq ?_
    refine tc_region ?_
    refine tl_p (pr_assign rfl) rfl ?_
    refine tl_next ?_
    refine tc_ret (tq_then_ret ?_)
    have e : paintOk g p q = false := by unfold paintOk; rw [hd1]; rfl
    exact tq_retE1 .ret (.inl rfl) () rfl rfl (by rw [e]) (by rw [show paintP W g p q true = W from if_neg (by rw [e]; exact Bool.false_ne_true)]; repeat (first | exact Pick.nil | exact Rem.here | apply Rem.there | apply Pick.cons))
  · have hd1 := hc1
    try simp only [Bool.not_eq_true', Bool.not_eq_false', Bool.or_eq_true, Bool.and_eq_true, Bool.or_eq_false_iff, Bool.and_eq_false_iff, decide_eq_true_eq, decide_eq_false_iff_not, Bool.not_true, Bool.not_false, gval, Bool.not_eq_eq_eq_not] at hc1
    have hk : paintOk g p q = true := by unfold paintOk; rw [hd1]; rfl
    have eP : paintP W g p q true = paintN W (p / 16).toNat (q / 16).toNat true := if_pos hk
    rw [eP]
    clear hd1 hc1 eP
    obtain ⟨a, c, rfl, rfl, hac, hcg⟩ := paintOk_nat hk
    have e1 : (((16 * a : Nat) : Int) / 16).toNat = a := by omega
    have e2 : (((16 * c : Nat) : Int) / 16).toNat = c := by omega
    rw [e1, e2]
    refine tc_skip (tq_next ?_)
    refine tc_seq ?_
    refine tc_seq ?_
    refine tc_region ?_
    refine tl_p (pr_move rfl) rfl ?_
    refine tl_p (pr_eqI (j := (a : Int)) (pr_quoN rfl rfl (by omega) (by omega) (by omega)) (by omega)) rfl ?_
    refine tl_p (pr_assign rfl) rfl ?_
    refine tl_next ?_
    refine tc_block ?_
    refine tc_imp (L' := [sl s (u64s (paintN W a a true))]) (fun w s0 => by rw [paintN_nil]; exact s0) ?_
    refine tc_loopP (X := Nat) (fun j => a ≤ j ∧ j ≤ c) (fun j => [(0, ad pb 0), (2, .int .i64 ((16 * c : Nat) : Int)), (3, .bool true), (9, .int .i64 (j : Int))]) (fun j => [sl s (u64s (paintN W a j true))]) (fun j => c - j) a ⟨by omega, by omega⟩ (.cons rfl (.cons rfl (.cons rfl (.cons rfl .nil)))) (fun j hj => ?_)
    have hj1 := hj.1
    have hj2 := hj.2
    have hWl : (paintN W a j true).length = W.length := paintN_len _ _ _ _
    have ex : ((j : Int) / 64).toNat = j / 64 := by omega
    refine tc_seq ?_
    refine tc_seq ?_
    refine tc_region ?_
    refine tl_p (pr_move rfl) rfl ?_
    refine tl_p (pr_move rfl) rfl ?_
    refine tl_p (pr_eqI (j := (c : Int)) (pr_quoN rfl rfl (by omega) (by omega) (by omega)) (by omega)) rfl ?_
    refine tl_p (pr_lss rfl rfl) rfl ?_
    refine tl_next ?_
    refine tc_if rfl (fun hc2 => ?_) (fun hc2 => ?_)
    · have hd2 := hc2
      try simp only [Bool.not_eq_true', Bool.not_eq_false', Bool.or_eq_true, Bool.and_eq_true, Bool.or_eq_false_iff, Bool.and_eq_false_iff, decide_eq_true_eq, decide_eq_false_iff_not, Bool.not_true, Bool.not_false, gval, Bool.not_eq_eq_eq_not] at hc2
      have hjc : j < c := by omega
      have hm : IsM s := hs.toSok.isM (by omega)
      refine tc_skip (tq_next ?_)
      refine tc_seq ?_
      refine tc_block ?_
      refine tc_seq ?_
      refine tc_region ?_
      refine tl_p (pr_move rfl) rfl ?_
      refine tl_p (pr_remN rfl rfl (by omega) (by omega)) rfl ?_
      refine tl_p (pr_shl rfl rfl (by omega)) rfl ?_
      refine tl_p (pr_assign rfl) rfl ?_
      refine tl_next ?_
      refine tc_seq ?_
      refine tc_region ?_
      refine tl_p (pr_move rfl) rfl ?_
      refine tl_p (pr_nilCheck rfl) rfl ?_
      refine tl_p (pr_fieldAddr Tryz.fo168_0 rfl) rfl ?_
      refine tl_p (pr_ld Tryz.ag166 rfl) rfl ?_
      refine tl_p (pr_move rfl) rfl ?_
      refine tl_p (pr_quoN rfl rfl (by omega) (by omega) (by omega)) rfl ?_
      refine tl_p (pr_ixE Tryz.sl166 rfl rfl (by omega) (by omega) hs.toSok) rfl ?_
      refine tl_p (pr_ldE Tryz.ag171 rfl (s := s) (j := ((j : Int) / 64).toNat * 1) (c := u64s (paintN W a j true)) (v := .int .u64 ((paintN W a j true).getD (j / 64) 0)) (by rw [ex]; exact u64_at (by first | omega | (simp only [orW_len]; omega))) hm) rfl ?_
      refine tl_p (pr_move rfl) rfl ?_
      refine tl_p (pr_bOr rfl rfl) rfl ?_
      refine tl_p (pr_ixE Tryz.sl166 rfl rfl (by omega) (by omega) hs.toSok) rfl ?_
      refine tl_stE (s := s) (j := ((j : Int) / 64).toNat * 1) (c := u64s (paintN W a j true)) (c' := u64s (orW (paintN W a j true) j)) Tryz.sz171 rfl rfl (by first | (simp only [List.length_map, orW_len]; omega) | (simp only [List.length_map]; omega)) (by rw [ex]; exact u64_put (by first | omega | (simp only [orW_len]; omega))) hf (hm := hm) (k := ?_)
      refine tl_next ?_
      refine tc_seq ?_
      refine tc_region ?_
      refine tl_p (pr_move rfl) rfl ?_
      refine tl_p (pr_not rfl) rfl ?_
      refine tl_next ?_
      refine tc_if_false rfl rfl ?_
      refine tc_skip (tq_blk_normal (tq_next ?_))
      refine tc_region ?_
      refine tl_p (pr_move rfl) rfl ?_
      refine tl_p (pr_addN rfl rfl (by omega)) rfl ?_
      refine tl_p (pr_assign rfl) rfl ?_
      refine tl_nil ?_
      rw [show orW (paintN W a j true) j = paintN W a (j + 1) true from (paintN_succ W true hj1).symm]
      exact tq_roundP (j + 1) ⟨by omega, by omega⟩ (by omega) (.cons rfl (.cons rfl (.cons rfl (.cons rfl .nil))))
    · have hd2 := hc2
      try simp only [Bool.not_eq_true', Bool.not_eq_false', Bool.or_eq_true, Bool.and_eq_true, Bool.or_eq_false_iff, Bool.and_eq_false_iff, decide_eq_true_eq, decide_eq_false_iff_not, Bool.not_true, Bool.not_false, gval, Bool.not_eq_eq_eq_not] at hc2
      refine tc_exit (tq_then_exit (tq_then_exit (tq_blk_here ?_)))
      refine tq_next ?_
      refine tc_seq ?_
      refine tc_region ?_
      refine tl_p (pr_assign rfl) rfl ?_
      refine tl_next ?_
      refine tc_ret ?_
      have e : j = c := by omega
      rw [e]
      exact tq_retE1 .ret (.inl rfl) () rfl rfl (by rw [hk])

theorem f57_false (pb : Nat) (s : Shp) (W : List Int) (g : Nat) (hw : ShOk s W g) (p q : Int) : Ct Tryz.prog 57 #[ad pb 0, .int .i64 p, .int .i64 q, .bool false] [(pb, shO s W.length g)] [sl s (u64s W)] (fun _ : Unit => .bool (paintOk g p q)) (fun _ N => sl s (u64s (paintP W g p q false)) :: N) := by
  refine ct_intro Tryz.func57 rfl (by kernel_rfl) (n := 72) rfl rfl (E := [(0, ad pb 0), (1, .int .i64 p), (2, .int .i64 q), (3, .bool false)]) rfl ?_
  intro κ hro
  have hq : κ.frame pb = some (shO s W.length g) := hro _ (List.Mem.head _)
  have hs := hw.own
  have ha := hw.all
  have hl := hw.lim
  have hf : ∀ g2, s = .mem g2 → g2.fr = (0, 0) := fun g2 e => (hs.room g2 e).1
  refine tc_seq ?_
  refine tc_region ?_
  refine tl_p (pr_assign rfl) rfl ?_
  refine tl_next ?_
  refine tc_seq ?_
  refine tc_seq ?_
  refine tc_region ?_
  refine tl_p (pr_move rfl) rfl ?_
  refine tl_p (pr_rem rfl rfl (by decide)) rfl ?_
  refine tl_p (pr_neq rfl rfl) rfl ?_
  refine tl_p (pr_move rfl) rfl ?_
  refine tl_gf rfl rfl (fun h => pr_move rfl) (by intro _ h; cases h) rfl ?_
  refine tl_gf rfl rfl (fun h => pr_rem (gv rfl h) rfl (by decide)) (by intro _ h; cases h) rfl ?_
  refine tl_gf rfl rfl (fun h => pr_neq (gv rfl h) rfl) (by intro _ h; cases h) rfl ?_
  refine tl_p (pr_or rfl rfl rfl) rfl ?_
  refine tl_p (pr_move rfl) rfl ?_
  refine tl_gf rfl rfl (fun h => pr_move rfl) (by intro _ h; cases h) rfl ?_
  refine tl_gf rfl rfl (fun h => pr_lss (gv rfl h) rfl) (by intro _ h; cases h) rfl ?_
  refine tl_p (pr_or rfl rfl rfl) rfl ?_
  refine tl_p (pr_move rfl) rfl ?_
  refine tl_gf rfl rfl (fun h => pr_move rfl) (by intro _ h; cases h) rfl ?_
  refine tl_gf rfl rfl (fun h => pr_move rfl) (by intro _ h; cases h) rfl ?_
  refine tl_gf rfl rfl (fun h => pr_gtr (gv rfl h) (gv rfl h)) (by intro _ h; cases h) rfl ?_
  refine tl_p (pr_or rfl rfl rfl) rfl ?_
  refine tl_p (pr_move rfl) rfl ?_
  refine tl_gf rfl rfl (fun h => pr_move rfl) (by intro _ h; cases h) rfl ?_
  refine tl_gf rfl rfl (fun h => pr_move rfl) (by intro _ h; cases h) rfl ?_
  refine tl_gf rfl rfl (fun h => pr_nilCheck (gv rfl h)) (by intro _ h; cases h) rfl ?_
  refine tl_gf rfl rfl (fun h => pr_fieldAddr Tryz.fo168_1 (gv rfl h)) (by intro _ h; cases h) rfl ?_
  refine tl_gf rfl rfl (fun h => pr_ld Tryz.ag3 (gv rfl h)) (by intro _ h; cases h) rfl ?_
  refine tl_gf rfl rfl (fun h => pr_mulN (gv rfl h) rfl (by omega)) (by intro _ h; cases h) rfl ?_
  refine tl_gf rfl rfl (fun h => pr_gtr (gv rfl h) (gv rfl h)) (by intro _ h; cases h) rfl ?_
  refine tl_p (pr_or rfl rfl rfl) rfl ?_
  refine tl_next ?_
  refine tc_if rfl (fun hc1 => ?_) (fun hc1 => ?_)
  · have hd1 := hc1
    try simp only [Bool.not_eq_true', Bool.not_eq_false', Bool.or_eq_true, Bool.and_eq_true, Bool.or_eq_false_iff, Bool.and_eq_false_iff, decide_eq_true_eq, decide_eq_false_iff_not, Bool.not_true, Bool.not_false, gval, Bool.not_eq_eq_eq_not] at hc1
    refine tc_seq ?_
    refine tc_region ?_
    refine tl_p (pr_assign rfl) rfl ?_
    refine tl_next ?_
    refine tc_ret (tq_then_ret ?_)
    have e : paintOk g p q = false := by unfold paintOk; rw [hd1]; rfl
    exact tq_retE1 .ret (.inl rfl) () rfl rfl (by rw [e]) (by rw [show paintP W g p q false = W from if_neg (by rw [e]; exact Bool.false_ne_true)]; repeat (first | exact Pick.nil | exact Rem.here | apply Rem.there | apply Pick.cons))
  · have hd1 := hc1
    try simp only [Bool.not_eq_true', Bool.not_eq_false', Bool.or_eq_true, Bool.and_eq_true, Bool.or_eq_false_iff, Bool.and_eq_false_iff, decide_eq_true_eq, decide_eq_false_iff_not, Bool.not_true, Bool.not_false, gval, Bool.not_eq_eq_eq_not] at hc1
    have hk : paintOk g p q = true := by unfold paintOk; rw [hd1]; rfl
    have eP : paintP W g p q false = paintN W (p / 16).toNat (q / 16).toNat false := if_pos hk
    rw [eP]
    clear hd1 hc1 eP
    obtain ⟨a, c, rfl, rfl, hac, hcg⟩ := paintOk_nat hk
    have e1 : (((16 * a : Nat) : Int) / 16).toNat = a := by omega
    have e2 : (((16 * c : Nat) : Int) / 16).toNat = c := by omega
    rw [e1, e2]
    refine tc_skip (tq_next ?_)
    refine tc_seq ?_
    refine tc_seq ?_
    refine tc_region ?_
    refine tl_p (pr_move rfl) rfl ?_
    refine tl_p (pr_eqI (j := (a : Int)) (pr_quoN rfl rfl (by omega) (by omega) (by omega)) (by omega)) rfl ?_
    refine tl_p (pr_assign rfl) rfl ?_
    refine tl_next ?_
    refine tc_block ?_
    refine tc_imp (L' := [sl s (u64s (paintN W a a false))]) (fun w s0 => by rw [paintN_nil]; exact s0) ?_
    refine tc_loopP (X := Nat) (fun j => a ≤ j ∧ j ≤ c) (fun j => [(0, ad pb 0), (2, .int .i64 ((16 * c : Nat) : Int)), (3, .bool false), (9, .int .i64 (j : Int))]) (fun j => [sl s (u64s (paintN W a j false))]) (fun j => c - j) a ⟨by omega, by omega⟩ (.cons rfl (.cons rfl (.cons rfl (.cons rfl .nil)))) (fun j hj => ?_)
    have hj1 := hj.1
    have hj2 := hj.2
    have hWl : (paintN W a j false).length = W.length := paintN_len _ _ _ _
    have ex : ((j : Int) / 64).toNat = j / 64 := by omega
    refine tc_seq ?_
    refine tc_seq ?_
    refine tc_region ?_
    refine tl_p (pr_move rfl) rfl ?_
    refine tl_p (pr_move rfl) rfl ?_
    refine tl_p (pr_eqI (j := (c : Int)) (pr_quoN rfl rfl (by omega) (by omega) (by omega)) (by omega)) rfl ?_
    refine tl_p (pr_lss rfl rfl) rfl ?_
    refine tl_next ?_
    refine tc_if rfl (fun hc2 => ?_) (fun hc2 => ?_)
    · have hd2 := hc2
      try simp only [Bool.not_eq_true', Bool.not_eq_false', Bool.or_eq_true, Bool.and_eq_true, Bool.or_eq_false_iff, Bool.and_eq_false_iff, decide_eq_true_eq, decide_eq_false_iff_not, Bool.not_true, Bool.not_false, gval, Bool.not_eq_eq_eq_not] at hc2
      have hjc : j < c := by omega
      have hm : IsM s := hs.toSok.isM (by omega)
      refine tc_skip (tq_next ?_)
      refine tc_seq ?_
      refine tc_block ?_
      refine tc_seq ?_
      refine tc_region ?_
      refine tl_p (pr_move rfl) rfl ?_
      refine tl_p (pr_remN rfl rfl (by omega) (by omega)) rfl ?_
      refine tl_p (pr_shl rfl rfl (by omega)) rfl ?_
      refine tl_p (pr_assign rfl) rfl ?_
      refine tl_next ?_
      refine tc_seq ?_
      refine tc_region ?_
      refine tl_p (pr_move rfl) rfl ?_
      refine tl_p (pr_nilCheck rfl) rfl ?_
      refine tl_p (pr_fieldAddr Tryz.fo168_0 rfl) rfl ?_
      refine tl_p (pr_ld Tryz.ag166 rfl) rfl ?_
      refine tl_p (pr_move rfl) rfl ?_
      refine tl_p (pr_quoN rfl rfl (by omega) (by omega) (by omega)) rfl ?_
      refine tl_p (pr_ixE Tryz.sl166 rfl rfl (by omega) (by omega) hs.toSok) rfl ?_
      refine tl_p (pr_ldE Tryz.ag171 rfl (s := s) (j := ((j : Int) / 64).toNat * 1) (c := u64s (paintN W a j false)) (v := .int .u64 ((paintN W a j false).getD (j / 64) 0)) (by rw [ex]; exact u64_at (by first | omega | (simp only [orW_len]; omega))) hm) rfl ?_
      refine tl_p (pr_move rfl) rfl ?_
      refine tl_p (pr_bOr rfl rfl) rfl ?_
      refine tl_p (pr_ixE Tryz.sl166 rfl rfl (by omega) (by omega) hs.toSok) rfl ?_
      refine tl_stE (s := s) (j := ((j : Int) / 64).toNat * 1) (c := u64s (paintN W a j false)) (c' := u64s (orW (paintN W a j false) j)) Tryz.sz171 rfl rfl (by first | (simp only [List.length_map, orW_len]; omega) | (simp only [List.length_map]; omega)) (by rw [ex]; exact u64_put (by first | omega | (simp only [orW_len]; omega))) hf (hm := hm) (k := ?_)
      refine tl_next ?_
      refine tc_seq ?_
      refine tc_region ?_
      refine tl_p (pr_move rfl) rfl ?_
      refine tl_p (pr_not rfl) rfl ?_
      refine tl_next ?_
      refine tc_if_true rfl rfl ?_
      refine tc_region ?_
      refine tl_p (pr_move rfl) rfl ?_
      refine tl_p (pr_nilCheck rfl) rfl ?_
      refine tl_p (pr_fieldAddr Tryz.fo168_0 rfl) rfl ?_
      refine tl_p (pr_ld Tryz.ag166 rfl) rfl ?_
      refine tl_p (pr_move rfl) rfl ?_
      refine tl_p (pr_quoN rfl rfl (by omega) (by omega) (by omega)) rfl ?_
      refine tl_p (pr_ixE Tryz.sl166 rfl rfl (by omega) (by omega) hs.toSok) rfl ?_
      refine tl_p (pr_ldE Tryz.ag171 rfl (s := s) (j := ((j : Int) / 64).toNat * 1) (c := u64s (orW (paintN W a j false) j)) (v := .int .u64 ((orW (paintN W a j false) j).getD (j / 64) 0)) (by rw [ex]; exact u64_at (by first | omega | (simp only [orW_len]; omega))) hm) rfl ?_
      refine tl_p (pr_move rfl) rfl ?_
      refine tl_p (pr_bXor rfl rfl) rfl ?_
      refine tl_p (pr_ixE Tryz.sl166 rfl rfl (by omega) (by omega) hs.toSok) rfl ?_
      refine tl_stE (s := s) (j := ((j : Int) / 64).toNat * 1) (c := u64s (orW (paintN W a j false) j)) (c' := u64s (xorW (orW (paintN W a j false) j) j)) Tryz.sz171 rfl rfl (by first | (simp only [List.length_map, orW_len]; omega) | (simp only [List.length_map]; omega)) (by rw [ex]; exact u64_put (by first | omega | (simp only [orW_len]; omega))) hf (hm := hm) (k := ?_)
      refine tl_nil (tq_blk_normal (tq_next ?_))
      refine tc_region ?_
      refine tl_p (pr_move rfl) rfl ?_
      refine tl_p (pr_addN rfl rfl (by omega)) rfl ?_
      refine tl_p (pr_assign rfl) rfl ?_
      refine tl_nil ?_
      rw [show xorW (orW (paintN W a j false) j) j = paintN W a (j + 1) false from (paintN_succ W false hj1).symm]
      exact tq_roundP (j + 1) ⟨by omega, by omega⟩ (by omega) (.cons rfl (.cons rfl (.cons rfl (.cons rfl .nil))))
    · have hd2 := hc2
      try simp only [Bool.not_eq_true', Bool.not_eq_false', Bool.or_eq_true, Bool.and_eq_true, Bool.or_eq_false_iff, Bool.and_eq_false_iff, decide_eq_true_eq, decide_eq_false_iff_not, Bool.not_true, Bool.not_false, gval, Bool.not_eq_eq_eq_not] at hc2
      refine tc_exit (tq_then_exit (tq_then_exit (tq_blk_here ?_)))
      refine tq_next ?_
      refine tc_seq ?_
      refine tc_region ?_
      refine tl_p (pr_assign rfl) rfl ?_
      refine tl_next ?_
      refine tc_ret ?_
      have e : j = c := by omega
      rw [e]
      exact tq_retE1 .ret (.inl rfl) () rfl rfl (by rw [hk])

theorem f57_ct (pb : Nat) (s : Shp) (W : List Int) (g : Nat) (hw : ShOk s W g) (p q : Int) (b : Bool) : Ct Tryz.prog 57 #[ad pb 0, .int .i64 p, .int .i64 q, .bool b] [(pb, shO s W.length g)] [sl s (u64s W)] (fun _ : Unit => .bool (paintOk g p q)) (fun _ N => sl s (u64s (paintP W g p q b)) :: N) := by
  cases b
  · exact f57_false pb s W g hw p q
  · exact f57_true pb s W g hw p q

end Go.Proofs

namespace Go.Proofs
open Go Go.Sz
attribute [local irreducible] pt lift exs own emp
theorem Tryz.bl27_0_1_2_3_4 {n : Nat} {D : List Deferred} {E : Env} {L : List HProp} {κ : Ctx} {T : TypeId} {x0 x1 x2 x3 x4 : Operand} {a0 a1 a2 a3 a4 : Value} (h0 : E.ev x0 = some a0) (h1 : E.ev x1 = some a1) (h2 : E.ev x2 = some a2) (h3 : E.ev x3 = some a3) (h4 : E.ev x4 = some a4) (o0 : oneV a0 = true := by rfl) (o1 : oneV a1 = true := by rfl) (o2 : oneV a2 = true := by rfl) (o3 : oneV a3 = true := by rfl) (o4 : oneV a4 = true := by rfl) :
    PR Tryz.prog (.build 27 #[(0, x0), (1, x1), (2, x2), (3, x3), (4, x4)]) T n D E L κ (.agg #[a0, a1, a2, a3, a4, .int .i64 0]) := by
  refine pr_buildS Tryz.bld27 (.cons h0 (.cons h1 (.cons h2 (.cons h3 (.cons h4 .nil))))) ?_
  simp [Instr.fill, cells_agg, cells_one o0, cells_one o1, cells_one o2, cells_one o3, cells_one o4]
def refPerm (p : Int) : Bool := decide (0 ≤ p) && decide (p ≤ 127)
def refAddr (p : Int) : Bool := decide (0 ≤ p) && decide (p ≤ 4294967295)
def refRight (c : Cap) : Bool := !(!refAddr c.base || !refAddr c.top || !refAddr c.pos || !refPerm c.perms || decide (c.typ < 0) || decide (255 < c.typ)) && (!c.tag || (decide (c.base ≤ c.top) && decide (c.top ≤ 16777216)))
theorem bAnd_mask (n : Int) : bAnd .i64 n 4294967295 = n % 4294967296 := by
  unfold bAnd
  have e : ((BitVec.ofInt IntKind.i64.bits n &&& BitVec.ofInt IntKind.i64.bits 4294967295).toNat : Int) = n % 4294967296 := by
    show (((BitVec.ofInt 64 n &&& BitVec.ofInt 64 4294967295).toNat : Nat) : Int) = _
    have h2 : (BitVec.ofInt 64 4294967295) = BitVec.ofNat 64 (2 ^ 32 - 1) := by decide
    rw [h2, BitVec.toNat_and]
    have h3 : (BitVec.ofNat 64 (2 ^ 32 - 1)).toNat = 2 ^ 32 - 1 := by decide
    rw [h3, Nat.and_two_pow_sub_one_eq_mod]
    have h4 := toNat_ofInt64 n
    show (((BitVec.ofInt 64 n).toNat % 2 ^ 32 : Nat) : Int) = _
    omega
  rw [e]
  exact wrap_i64 (by omega)
theorem intC_eq (n : Int) : intC n = ⟨false, 0, 0, n % 4294967296, 0, 0⟩ := by unfold intC; rw [bAnd_mask]
theorem tmod_emod (n : Int) : (0 ≤ n → n.tmod 4294967296 = n % 4294967296) ∧ (n < 0 → -4294967296 < n.tmod 4294967296 ∧ n.tmod 4294967296 ≤ 0 ∧ (n.tmod 4294967296 = 0 → n % 4294967296 = 0) ∧ (n.tmod 4294967296 < 0 → n % 4294967296 = n.tmod 4294967296 + 4294967296)) := by
  constructor
  · intro h; exact Int.tmod_eq_emod_of_nonneg h
  · intro h
    obtain ⟨k, rfl⟩ : ∃ k : Int, n = -k := ⟨-n, by omega⟩
    rw [Int.neg_tmod, Int.tmod_eq_emod_of_nonneg (by omega)]
    omega
abbrev dataC : Cap := ⟨true, 512, 768, 512, 27, 0⟩

theorem f69_ct (p : Int) : Rd Tryz.prog 69 #[.int .i64 p] [] [] (.bool (refAddr p)) := by
  refine ct_intro Tryz.func69 rfl (by kernel_rfl) (n := 9) rfl rfl (E := [(0, .int .i64 p)]) rfl ?_
  intro κ hro
  refine tc_seq ?_
  refine tc_region ?_
  refine tl_p (pr_assign rfl) rfl ?_
  refine tl_next ?_
  refine tc_seq ?_
  refine tc_region ?_
  refine tl_p (pr_move rfl) rfl ?_
  refine tl_p (pr_geq rfl rfl) rfl ?_
  refine tl_p (pr_move rfl) rfl ?_
  refine tl_gt rfl rfl (fun h => pr_move rfl) (by intro _ h; cases h) rfl ?_
  refine tl_gt rfl rfl (fun h => pr_leq (gv rfl h) rfl) (by intro _ h; cases h) rfl ?_
  refine tl_p (pr_and rfl rfl rfl) rfl ?_
  refine tl_p (pr_assign rfl) rfl ?_
  refine tl_next ?_
  refine tc_ret ?_
  exact tq_ret1 .ret (.inl rfl) () rfl rfl

theorem f70_ct (p : Int) : Rd Tryz.prog 70 #[.int .i64 p] [] [] (.bool (refPerm p)) := by
  refine ct_intro Tryz.func70 rfl (by kernel_rfl) (n := 9) rfl rfl (E := [(0, .int .i64 p)]) rfl ?_
  intro κ hro
  refine tc_seq ?_
  refine tc_region ?_
  refine tl_p (pr_assign rfl) rfl ?_
  refine tl_next ?_
  refine tc_seq ?_
  refine tc_region ?_
  refine tl_p (pr_move rfl) rfl ?_
  refine tl_p (pr_geq rfl rfl) rfl ?_
  refine tl_p (pr_move rfl) rfl ?_
  refine tl_gt rfl rfl (fun h => pr_move rfl) (by intro _ h; cases h) rfl ?_
  refine tl_gt rfl rfl (fun h => pr_leq (gv rfl h) rfl) (by intro _ h; cases h) rfl ?_
  refine tl_p (pr_and rfl rfl rfl) rfl ?_
  refine tl_p (pr_assign rfl) rfl ?_
  refine tl_next ?_
  refine tc_ret ?_
  exact tq_ret1 .ret (.inl rfl) () rfl rfl

theorem f28_ct (c : Cap) : Rd Tryz.prog 28 #[c.v] [] [] (.bool (refRight c)) := by
  refine ct_intro Tryz.func28 rfl (by kernel_rfl) (n := 50) rfl rfl (E := [(0, c.v)]) rfl ?_
  intro κ hro
  refine tc_seq ?_
  refine tc_region ?_
  refine tl_box rfl rfl (fun b1 => ?_)
  refine tl_p (pr_assign rfl) rfl ?_
  refine tl_next ?_
  refine tc_seq ?_
  refine tc_seq ?_
  refine tc_region ?_
  refine tl_p (pr_fieldAddr Tryz.fo27_1 rfl) rfl ?_
  refine tl_p (pr_ld Tryz.ag3 rfl) rfl ?_
  refine tl_rdS (f69_ct _) (.cons rfl .nil) rfl (kk := ?_)
  refine tl_p (pr_not rfl) rfl ?_
  refine tl_p (pr_move rfl) rfl ?_
  refine tl_gf rfl rfl (fun h => pr_fieldAddr Tryz.fo27_2 rfl) (by intro _ h; cases h) rfl ?_
  refine tl_gf rfl rfl (fun h => pr_ld Tryz.ag3 (gv rfl h)) (by intro _ h; cases h) rfl ?_
  refine tl_rdgfS rfl rfl (fun h => ⟨f69_ct _, .cons (gv rfl h) .nil⟩) rfl (kk := ?_)
  refine tl_gf rfl rfl (fun h => pr_not (gv rfl h)) (by intro _ h; cases h) rfl ?_
  refine tl_p (pr_or rfl rfl rfl) rfl ?_
  refine tl_p (pr_move rfl) rfl ?_
  refine tl_gf rfl rfl (fun h => pr_fieldAddr Tryz.fo27_3 rfl) (by intro _ h; cases h) rfl ?_
  refine tl_gf rfl rfl (fun h => pr_ld Tryz.ag3 (gv rfl h)) (by intro _ h; cases h) rfl ?_
  refine tl_rdgfS rfl rfl (fun h => ⟨f69_ct _, .cons (gv rfl h) .nil⟩) rfl (kk := ?_)
  refine tl_gf rfl rfl (fun h => pr_not (gv rfl h)) (by intro _ h; cases h) rfl ?_
  refine tl_p (pr_or rfl rfl rfl) rfl ?_
  refine tl_p (pr_move rfl) rfl ?_
  refine tl_gf rfl rfl (fun h => pr_fieldAddr Tryz.fo27_4 rfl) (by intro _ h; cases h) rfl ?_
  refine tl_gf rfl rfl (fun h => pr_ld Tryz.ag3 (gv rfl h)) (by intro _ h; cases h) rfl ?_
  refine tl_rdgfS rfl rfl (fun h => ⟨f70_ct _, .cons (gv rfl h) .nil⟩) rfl (kk := ?_)
  refine tl_gf rfl rfl (fun h => pr_not (gv rfl h)) (by intro _ h; cases h) rfl ?_
  refine tl_p (pr_or rfl rfl rfl) rfl ?_
  refine tl_p (pr_move rfl) rfl ?_
  refine tl_gf rfl rfl (fun h => pr_fieldAddr Tryz.fo27_5 rfl) (by intro _ h; cases h) rfl ?_
  refine tl_gf rfl rfl (fun h => pr_ld Tryz.ag3 (gv rfl h)) (by intro _ h; cases h) rfl ?_
  refine tl_gf rfl rfl (fun h => pr_lss (gv rfl h) rfl) (by intro _ h; cases h) rfl ?_
  refine tl_p (pr_or rfl rfl rfl) rfl ?_
  refine tl_p (pr_move rfl) rfl ?_
  refine tl_gf rfl rfl (fun h => pr_fieldAddr Tryz.fo27_5 rfl) (by intro _ h; cases h) rfl ?_
  refine tl_gf rfl rfl (fun h => pr_ld Tryz.ag3 (gv rfl h)) (by intro _ h; cases h) rfl ?_
  refine tl_gf rfl rfl (fun h => pr_gtr (gv rfl h) rfl) (by intro _ h; cases h) rfl ?_
  refine tl_p (pr_or rfl rfl rfl) rfl ?_
  refine tl_next ?_
  refine tc_if rfl (fun hc1 => ?_) (fun hc1 => ?_)
  · have hd1 := hc1
    try simp only [Bool.not_eq_true', Bool.not_eq_false', Bool.or_eq_true, Bool.and_eq_true, Bool.or_eq_false_iff, Bool.and_eq_false_iff, decide_eq_true_eq, decide_eq_false_iff_not, Bool.not_true, Bool.not_false, gval, Bool.not_eq_eq_eq_not] at hc1
    refine tc_seq ?_
    refine tc_region ?_
    refine tl_p (pr_assign rfl) rfl ?_
    refine tl_next ?_
    refine tc_ret (tq_then_ret ?_)
    exact tq_ret1 .ret (.inl rfl) () rfl (by unfold refRight; rw [hd1]; rfl)
  · have hd1 := hc1
    try simp only [Bool.not_eq_true', Bool.not_eq_false', Bool.or_eq_true, Bool.and_eq_true, Bool.or_eq_false_iff, Bool.and_eq_false_iff, decide_eq_true_eq, decide_eq_false_iff_not, Bool.not_true, Bool.not_false, gval, Bool.not_eq_eq_eq_not] at hc1
    refine tc_skip (tq_next ?_)
    refine tc_seq ?_
    refine tc_region ?_
    refine tl_p (pr_fieldAddr Tryz.fo27_0 rfl) rfl ?_
    refine tl_p (pr_ld Tryz.ag4 rfl) rfl ?_
    refine tl_p (pr_not rfl) rfl ?_
    refine tl_p (pr_move rfl) rfl ?_
    refine tl_gf rfl rfl (fun h => pr_fieldAddr Tryz.fo27_1 rfl) (by intro _ h; cases h) rfl ?_
    refine tl_gf rfl rfl (fun h => pr_ld Tryz.ag3 (gv rfl h)) (by intro _ h; cases h) rfl ?_
    refine tl_gf rfl rfl (fun h => pr_fieldAddr Tryz.fo27_2 rfl) (by intro _ h; cases h) rfl ?_
    refine tl_gf rfl rfl (fun h => pr_ld Tryz.ag3 (gv rfl h)) (by intro _ h; cases h) rfl ?_
    refine tl_gf rfl rfl (fun h => pr_leq (gv rfl h) (gv rfl h)) (by intro _ h; cases h) rfl ?_
    refine tl_gf rfl rfl (fun h => pr_move (gv rfl h)) (by intro _ h; cases h) rfl ?_
    refine tl_ggt rfl rfl (fun h => pr_fieldAddr Tryz.fo27_2 rfl) (by intro _ h; cases h) rfl ?_
    refine tl_ggt rfl rfl (fun h => pr_ld Tryz.ag3 (gv rfl h)) (by intro _ h; cases h) rfl ?_
    refine tl_ggt rfl rfl (fun h => pr_leq (gv rfl h) rfl) (by intro _ h; cases h) rfl ?_
    refine tl_gf rfl rfl (fun h => pr_and (gv rfl h) (gv2 rfl h) rfl) (by intro _ h; cases h) rfl ?_
    refine tl_p (pr_or rfl rfl rfl) rfl ?_
    refine tl_p (pr_assign rfl) rfl ?_
    refine tl_next ?_
    refine tc_ret ?_
    exact tq_ret1 .ret (.inl rfl) () rfl (by unfold refRight; rw [hd1]; rfl)

theorem f60_ct (n : Int) (hn : -9223372036854775808 ≤ n ∧ n ≤ 9223372036854775807) : Rd Tryz.prog 60 #[.int .i64 n] [] [] (.int .i64 (n % 4294967296)) := by
  refine ct_intro Tryz.func60 rfl (by kernel_rfl) (n := 11) rfl rfl (E := [(0, .int .i64 n)]) rfl ?_
  intro κ hro
  refine tc_seq ?_
  refine tc_region ?_
  refine tl_p (pr_assign rfl) rfl ?_
  refine tl_next ?_
  refine tc_seq ?_
  refine tc_region ?_
  refine tl_p (pr_move rfl) rfl ?_
  refine tl_p (pr_eqI (pr_rem rfl rfl (by decide)) (show n.tmod 4294967296 = n.tmod 4294967296 from rfl)) rfl ?_
  refine tl_p (pr_assign rfl) rfl ?_
  refine tl_next ?_
  refine tc_seq ?_
  refine tc_seq ?_
  refine tc_region ?_
  refine tl_p (pr_move rfl) rfl ?_
  refine tl_p (pr_lss rfl rfl) rfl ?_
  refine tl_next ?_
  refine tc_if rfl (fun hc1 => ?_) (fun hc1 => ?_)
  · have hd1 := hc1
    try simp only [Bool.not_eq_true', Bool.not_eq_false', Bool.or_eq_true, Bool.and_eq_true, Bool.or_eq_false_iff, Bool.and_eq_false_iff, decide_eq_true_eq, decide_eq_false_iff_not, Bool.not_true, Bool.not_false, gval, Bool.not_eq_eq_eq_not] at hc1
    have htm := tmod_emod n
    refine tc_region ?_
    refine tl_p (pr_move rfl) rfl ?_
    refine tl_p (pr_addN rfl rfl (by omega)) rfl ?_
    refine tl_p (pr_assign rfl) rfl ?_
    refine tl_next ?_
    refine tc_seq ?_
    refine tc_region ?_
    refine tl_p (pr_move rfl) rfl ?_
    refine tl_p (pr_assign rfl) rfl ?_
    refine tl_next ?_
    refine tc_ret ?_
    exact tq_retE1 .ret (.inl rfl) () rfl rfl (by congr 1; have := Int.tmod_def n 4294967296; have := Int.emod_def n 4294967296; have := tmod_emod n; omega)
  · have hd1 := hc1
    try simp only [Bool.not_eq_true', Bool.not_eq_false', Bool.or_eq_true, Bool.and_eq_true, Bool.or_eq_false_iff, Bool.and_eq_false_iff, decide_eq_true_eq, decide_eq_false_iff_not, Bool.not_true, Bool.not_false, gval, Bool.not_eq_eq_eq_not] at hc1
    refine tc_skip (tq_next ?_)
    refine tc_seq ?_
    refine tc_region ?_
    refine tl_p (pr_move rfl) rfl ?_
    refine tl_p (pr_assign rfl) rfl ?_
    refine tl_next ?_
    refine tc_ret ?_
    exact tq_retE1 .ret (.inl rfl) () rfl rfl (by congr 1; have := tmod_emod n; omega)

theorem f17_ct (n : Int) (hn : -9223372036854775808 ≤ n ∧ n ≤ 9223372036854775807) : Rd Tryz.prog 17 #[.int .i64 n] [] [] ((intC n).v) := by
  refine ct_intro Tryz.func17 rfl (by kernel_rfl) (n := 6) rfl rfl (E := [(0, .int .i64 n)]) rfl ?_
  intro κ hro
  refine tc_seq ?_
  refine tc_region ?_
  refine tl_alloc Tryz.z27 rfl (fun b2 => ?_)
  refine tl_next ?_
  refine tc_seq ?_
  refine tc_region ?_
  refine tl_p (pr_move rfl) rfl ?_
  refine tl_rdS (f60_ct n hn) (.cons rfl .nil) rfl (kk := ?_)
  refine tl_p (Tryz.bl27_3 rfl) rfl ?_
  refine tl_storeW Tryz.sz27 rfl rfl (k := ?_)
  refine tl_next ?_
  refine tc_ret ?_
  exact tq_retG .ret (.inl rfl) () rfl (.cellA Tryz.ag27 Tryz.sz27 rfl .nil) (by rw [intC_eq]; rfl)

theorem f22_ct  : Rd Tryz.prog 22 #[] [] [] (dataC.v) := by
  refine ct_intro Tryz.func22 rfl (by kernel_rfl) (n := 2) rfl rfl (E := []) rfl ?_
  intro κ hro
  refine tc_seq ?_
  refine tc_region ?_
  refine tl_alloc Tryz.z27 rfl (fun b0 => ?_)
  refine tl_next ?_
  refine tc_seq ?_
  refine tc_region ?_
  refine tl_p (Tryz.bl27_0_1_2_3_4 rfl rfl rfl rfl rfl) rfl ?_
  refine tl_storeW Tryz.sz27 rfl rfl (k := ?_)
  refine tl_next ?_
  refine tc_ret ?_
  exact tq_retG .ret (.inl rfl) () rfl (.cellA Tryz.ag27 Tryz.sz27 rfl .nil) rfl

end Go.Proofs
