/- Contracts of functions: what each computes, and what becomes of the memory that it is given. -/
import Derived.Test.YtfphgpamccbkaaaGreatProg
import Derived.Test.YtfphgpamccbkaaaGreatKa1
set_option linter.unusedVariables false
set_option linter.unusedSimpArgs false
set_option linter.unusedSectionVars false
set_option linter.unnecessarySimpa false
namespace Go.Proofs
open Go Go.Sz
attribute [local irreducible] pt lift exs own emp
theorem Tryz.ag173 : aggB Tryz.prog 173 = some true := by kernel_rfl
theorem Tryz.ag175 : aggB Tryz.prog 175 = some true := by kernel_rfl
theorem Tryz.ag27 : aggB Tryz.prog 27 = some true := by kernel_rfl
theorem Tryz.ag3 : aggB Tryz.prog 3 = some false := by kernel_rfl
theorem Tryz.ag4 : aggB Tryz.prog 4 = some false := by kernel_rfl
theorem Tryz.bld173 : bldS Tryz.prog 173 = some ([(0, 1), (1, 1)], (.agg #[.int .i64 0, .int .i64 0] : Value).cells) := by kernel_rfl
theorem Tryz.bld175 : bldS Tryz.prog 175 = some ([(0, 2), (2, 6)], (.agg #[.int .i64 0, .int .i64 0, .bool false, .int .i64 0, .int .i64 0, .int .i64 0, .int .i64 0, .int .i64 0] : Value).cells) := by kernel_rfl
theorem Tryz.bld27 : bldS Tryz.prog 27 = some ([(0, 1), (1, 1), (2, 1), (3, 1), (4, 1), (5, 1)], (.agg #[.bool false, .int .i64 0, .int .i64 0, .int .i64 0, .int .i64 0, .int .i64 0] : Value).cells) := by kernel_rfl
theorem Tryz.fo173_0 : fOff Tryz.prog 173 0 = some (0, 1, false) := by kernel_rfl
theorem Tryz.fo173_1 : fOff Tryz.prog 173 1 = some (1, 1, false) := by kernel_rfl
theorem Tryz.fo175_0 : fOff Tryz.prog 175 0 = some (0, 2, true) := by kernel_rfl
theorem Tryz.fo175_1 : fOff Tryz.prog 175 1 = some (2, 6, true) := by kernel_rfl
theorem Tryz.fo27_0 : fOff Tryz.prog 27 0 = some (0, 1, false) := by kernel_rfl
theorem Tryz.fo27_1 : fOff Tryz.prog 27 1 = some (1, 1, false) := by kernel_rfl
theorem Tryz.fo27_2 : fOff Tryz.prog 27 2 = some (2, 1, false) := by kernel_rfl
theorem Tryz.fo27_3 : fOff Tryz.prog 27 3 = some (3, 1, false) := by kernel_rfl
theorem Tryz.fo27_4 : fOff Tryz.prog 27 4 = some (4, 1, false) := by kernel_rfl
theorem Tryz.fo27_5 : fOff Tryz.prog 27 5 = some (5, 1, false) := by kernel_rfl
theorem Tryz.mixed : Tryz.prog.follows .mixedOrders = true := by kernel_rfl
theorem Tryz.sz173 : szOf Tryz.prog 173 = some 2 := by kernel_rfl
theorem Tryz.sz175 : szOf Tryz.prog 175 = some 8 := by kernel_rfl
theorem Tryz.sz27 : szOf Tryz.prog 27 = some 6 := by kernel_rfl
theorem Tryz.z173 : zeroV Tryz.prog 173 = some (.agg #[.int .i64 0, .int .i64 0]) := by kernel_rfl
theorem Tryz.z175 : zeroV Tryz.prog 175 = some (.agg #[.int .i64 0, .int .i64 0, .bool false, .int .i64 0, .int .i64 0, .int .i64 0, .int .i64 0, .int .i64 0]) := by kernel_rfl
theorem Tryz.z27 : zeroV Tryz.prog 27 = some (.agg #[.bool false, .int .i64 0, .int .i64 0, .int .i64 0, .int .i64 0, .int .i64 0]) := by kernel_rfl
theorem Tryz.bl173_0_1 {n : Nat} {D : List Deferred} {E : Env} {L : List HProp} {κ : Ctx} {T : TypeId} {x0 x1 : Operand} {a0 a1 : Value} (h0 : E.ev x0 = some a0) (h1 : E.ev x1 = some a1) (o0 : oneV a0 = true := by rfl) (o1 : oneV a1 = true := by rfl) :
    PR Tryz.prog (.build 173 #[(0, x0), (1, x1)]) T n D E L κ (.agg #[a0, a1]) := by
  refine pr_buildS Tryz.bld173 (.cons h0 (.cons h1 .nil)) ?_
  simp [Instr.fill, cells_agg, cells_one o0, cells_one o1]
theorem Tryz.bl175_0_1 {n : Nat} {D : List Deferred} {E : Env} {L : List HProp} {κ : Ctx} {T : TypeId} {x0 x1 : Operand} {a0_0 a0_1 a1_0 a1_1 a1_2 a1_3 a1_4 a1_5 : Value} (h0 : E.ev x0 = some (.agg #[a0_0, a0_1])) (h1 : E.ev x1 = some (.agg #[a1_0, a1_1, a1_2, a1_3, a1_4, a1_5])) :
    PR Tryz.prog (.build 175 #[(0, x0), (1, x1)]) T n D E L κ (.agg #[a0_0, a0_1, a1_0, a1_1, a1_2, a1_3, a1_4, a1_5]) := by
  refine pr_buildS Tryz.bld175 (.cons h0 (.cons h1 .nil)) ?_
  simp [Instr.fill, cells_agg]
theorem Tryz.bl27_3 {n : Nat} {D : List Deferred} {E : Env} {L : List HProp} {κ : Ctx} {T : TypeId} {x3 : Operand} {a3 : Value} (h3 : E.ev x3 = some a3) (o3 : oneV a3 = true := by rfl) :
    PR Tryz.prog (.build 27 #[(3, x3)]) T n D E L κ (.agg #[.bool false, .int .i64 0, .int .i64 0, a3, .int .i64 0, .int .i64 0]) := by
  refine pr_buildS Tryz.bld27 (.cons h3 .nil) ?_
  simp [Instr.fill, cells_agg, cells_one o3]
structure Cap where
  tag : Bool
  base : Int
  top : Int
  pos : Int
  perms : Int
  typ : Int
  deriving DecidableEq
def Cap.l (c : Cap) : List Value := [.bool c.tag, .int .i64 c.base, .int .i64 c.top, .int .i64 c.pos, .int .i64 c.perms, .int .i64 c.typ]
def Cap.v (c : Cap) : Value := .agg #[.bool c.tag, .int .i64 c.base, .int .i64 c.top, .int .i64 c.pos, .int .i64 c.perms, .int .i64 c.typ]
abbrev nullC : Cap := ⟨false, 0, 0, 0, 0, 0⟩
def spanRight (a b : Int) : Bool := decide (0 ≤ a) && decide (a ≤ 4294967295) && decide (0 ≤ b) && decide (b ≤ 4294967295)
def spanHas (a b c d : Int) : Bool := decide (a ≤ c) && decide (c ≤ d) && decide (d ≤ b)
abbrev sp (a b : Int) : Value := .agg #[.int .i64 a, .int .i64 b]
def permRight (p : Int) : Bool := decide (bAndNot .i64 p 127 = 0)
def permHas (p q : Int) : Bool := permRight p && permRight q && decide (bAndNot .i64 q p = 0)
def capRight (c : Cap) : Bool := (spanRight c.base c.top && decide (0 ≤ c.pos) && decide (c.pos ≤ 4294967295) && permRight c.perms && decide (0 ≤ c.typ) && decide (c.typ ≤ 255)) && (!c.tag || spanHas 0 16777216 c.base c.top)
def intC (n : Int) : Cap := ⟨false, 0, 0, bAnd .i64 n 4294967295, 0, 0⟩
def capSize (c : Cap) : Int := if c.top ≤ c.base then 0 else c.top - c.base
def capOff (c : Cap) : Int := bAnd .i64 (IntKind.i64.wrap (bAnd .i64 c.pos 4294967295 - bAnd .i64 c.base 4294967295)) 4294967295
def capIn (c : Cap) (pos n : Int) : Bool := decide (0 ≤ pos) && decide (0 ≤ n) && decide (c.base ≤ pos) && decide (pos ≤ c.top) && decide (n ≤ IntKind.i64.wrap (c.top - pos))
def capUnder (c d : Cap) : Bool := spanHas d.base d.top c.base c.top && permHas d.perms c.perms
def near (n : Int) : Bool := decide (-65536 ≤ n) && decide (n ≤ 65536)
def isReg (r : Int) : Bool := decide (0 ≤ r) && decide (r < 8)

theorem f119_ct (p : Int) : Rd Tryz.prog 119 #[.int .i64 p] [] [] (.bool (permRight p)) := by
  refine ct_intro Tryz.func119 rfl (by kernel_rfl) (n := 6) rfl rfl (E := [(0, .int .i64 p)]) rfl ?_
  intro κ hro
  refine tc_seq ?_
  refine tc_region ?_
  refine tl_p (pr_assign rfl) rfl ?_
  refine tl_next ?_
  refine tc_seq ?_
  refine tc_region ?_
  refine tl_p (pr_move rfl) rfl ?_
  refine tl_p (pr_bAndNot rfl rfl) rfl ?_
  refine tl_p (pr_eql rfl rfl) rfl ?_
  refine tl_p (pr_assign rfl) rfl ?_
  refine tl_next ?_
  refine tc_ret ?_
  exact tq_ret1 .ret (.inl rfl) () rfl rfl

theorem f118_ct (a b : Int) : Rd Tryz.prog 118 #[sp a b] [] [] (.bool (spanRight a b)) := by
  refine ct_intro Tryz.func118 rfl (by kernel_rfl) (n := 21) rfl rfl (E := [(0, sp a b)]) rfl ?_
  intro κ hro
  refine tc_seq ?_
  refine tc_region ?_
  refine tl_box rfl rfl (fun b1 => ?_)
  refine tl_p (pr_assign rfl) rfl ?_
  refine tl_next ?_
  refine tc_seq ?_
  refine tc_region ?_
  refine tl_p (pr_fieldAddr Tryz.fo173_0 rfl) rfl ?_
  refine tl_p (pr_ld Tryz.ag3 rfl) rfl ?_
  refine tl_p (pr_geq rfl rfl) rfl ?_
  refine tl_p (pr_move rfl) rfl ?_
  refine tl_gt rfl rfl (fun h => pr_fieldAddr Tryz.fo173_0 rfl) (by intro _ h; cases h) rfl ?_
  refine tl_gt rfl rfl (fun h => pr_ld Tryz.ag3 (gv rfl h)) (by intro _ h; cases h) rfl ?_
  refine tl_gt rfl rfl (fun h => pr_leq (gv rfl h) rfl) (by intro _ h; cases h) rfl ?_
  refine tl_p (pr_and rfl rfl rfl) rfl ?_
  refine tl_p (pr_move rfl) rfl ?_
  refine tl_gt rfl rfl (fun h => pr_fieldAddr Tryz.fo173_1 rfl) (by intro _ h; cases h) rfl ?_
  refine tl_gt rfl rfl (fun h => pr_ld Tryz.ag3 (gv rfl h)) (by intro _ h; cases h) rfl ?_
  refine tl_gt rfl rfl (fun h => pr_geq (gv rfl h) rfl) (by intro _ h; cases h) rfl ?_
  refine tl_p (pr_and rfl rfl rfl) rfl ?_
  refine tl_p (pr_move rfl) rfl ?_
  refine tl_gt rfl rfl (fun h => pr_fieldAddr Tryz.fo173_1 rfl) (by intro _ h; cases h) rfl ?_
  refine tl_gt rfl rfl (fun h => pr_ld Tryz.ag3 (gv rfl h)) (by intro _ h; cases h) rfl ?_
  refine tl_gt rfl rfl (fun h => pr_leq (gv rfl h) rfl) (by intro _ h; cases h) rfl ?_
  refine tl_p (pr_and rfl rfl rfl) rfl ?_
  refine tl_p (pr_assign rfl) rfl ?_
  refine tl_next ?_
  refine tc_ret ?_
  exact tq_ret1 .ret (.inl rfl) () rfl rfl

theorem f120_ct (a b c d : Int) : Rd Tryz.prog 120 #[sp a b, sp c d] [] [] (.bool (spanHas a b c d)) := by
  refine ct_intro Tryz.func120 rfl (by kernel_rfl) (n := 24) rfl rfl (E := [(0, sp a b), (1, sp c d)]) rfl ?_
  intro κ hro
  refine tc_seq ?_
  refine tc_region ?_
  refine tl_box rfl rfl (fun b2 => ?_)
  refine tl_box rfl rfl (fun b3 => ?_)
  refine tl_p (pr_assign rfl) rfl ?_
  refine tl_next ?_
  refine tc_seq ?_
  refine tc_region ?_
  refine tl_p (pr_fieldAddr Tryz.fo173_0 rfl) rfl ?_
  refine tl_p (pr_ld Tryz.ag3 rfl) rfl ?_
  refine tl_p (pr_fieldAddr Tryz.fo173_0 rfl) rfl ?_
  refine tl_p (pr_ld Tryz.ag3 rfl) rfl ?_
  refine tl_p (pr_leq rfl rfl) rfl ?_
  refine tl_p (pr_move rfl) rfl ?_
  refine tl_gt rfl rfl (fun h => pr_fieldAddr Tryz.fo173_0 rfl) (by intro _ h; cases h) rfl ?_
  refine tl_gt rfl rfl (fun h => pr_ld Tryz.ag3 (gv rfl h)) (by intro _ h; cases h) rfl ?_
  refine tl_gt rfl rfl (fun h => pr_fieldAddr Tryz.fo173_1 rfl) (by intro _ h; cases h) rfl ?_
  refine tl_gt rfl rfl (fun h => pr_ld Tryz.ag3 (gv rfl h)) (by intro _ h; cases h) rfl ?_
  refine tl_gt rfl rfl (fun h => pr_leq (gv rfl h) (gv rfl h)) (by intro _ h; cases h) rfl ?_
  refine tl_p (pr_and rfl rfl rfl) rfl ?_
  refine tl_p (pr_move rfl) rfl ?_
  refine tl_gt rfl rfl (fun h => pr_fieldAddr Tryz.fo173_1 rfl) (by intro _ h; cases h) rfl ?_
  refine tl_gt rfl rfl (fun h => pr_ld Tryz.ag3 (gv rfl h)) (by intro _ h; cases h) rfl ?_
  refine tl_gt rfl rfl (fun h => pr_fieldAddr Tryz.fo173_1 rfl) (by intro _ h; cases h) rfl ?_
  refine tl_gt rfl rfl (fun h => pr_ld Tryz.ag3 (gv rfl h)) (by intro _ h; cases h) rfl ?_
  refine tl_gt rfl rfl (fun h => pr_leq (gv rfl h) (gv rfl h)) (by intro _ h; cases h) rfl ?_
  refine tl_p (pr_and rfl rfl rfl) rfl ?_
  refine tl_p (pr_assign rfl) rfl ?_
  refine tl_next ?_
  refine tc_ret ?_
  exact tq_ret1 .ret (.inl rfl) () rfl rfl

theorem f117_ct (c : Cap) : Rd Tryz.prog 117 #[c.v] [] [] (.agg #[.int .i64 c.base, .int .i64 c.top, .bool c.tag, .int .i64 c.base, .int .i64 c.top, .int .i64 c.pos, .int .i64 c.perms, .int .i64 c.typ]) := by
  refine ct_intro Tryz.func117 rfl (by kernel_rfl) (n := 10) rfl rfl (E := [(0, c.v)]) rfl ?_
  intro κ hro
  refine tc_seq ?_
  refine tc_region ?_
  refine tl_box rfl rfl (fun b1 => ?_)
  refine tl_alloc Tryz.z175 rfl (fun b2 => ?_)
  refine tl_next ?_
  refine tc_seq ?_
  refine tc_region ?_
  refine tl_p (pr_fieldAddr Tryz.fo27_1 rfl) rfl ?_
  refine tl_p (pr_ld Tryz.ag3 rfl) rfl ?_
  refine tl_p (pr_fieldAddr Tryz.fo27_2 rfl) rfl ?_
  refine tl_p (pr_ld Tryz.ag3 rfl) rfl ?_
  refine tl_p (Tryz.bl173_0_1 rfl rfl) rfl ?_
  refine tl_p (by first | exact pr_loadW Tryz.ag27 Tryz.sz27 rfl | exact pr_ldA Tryz.ag27 Tryz.sz27 rfl) rfl ?_
  refine tl_p (Tryz.bl175_0_1 rfl rfl) rfl ?_
  refine tl_storeW Tryz.sz175 rfl rfl (k := ?_)
  refine tl_next ?_
  refine tc_ret ?_
  exact tq_retG .ret (.inl rfl) () rfl (.cellA Tryz.ag175 Tryz.sz175 rfl .nil) rfl

theorem f59_ct (c : Cap) : Rd Tryz.prog 59 #[c.v] [] [] (.bool (capRight c)) := by
  refine ct_intro Tryz.func59 rfl (by kernel_rfl) (n := 50) rfl rfl (E := [(0, c.v)]) rfl ?_
  intro κ hro
  refine tc_seq ?_
  refine tc_region ?_
  refine tl_box rfl rfl (fun b1 => ?_)
  refine tl_p (pr_assign rfl) rfl ?_
  refine tl_next ?_
  refine tc_seq ?_
  refine tc_region ?_
  refine tl_p (by first | exact pr_loadW Tryz.ag27 Tryz.sz27 rfl | exact pr_ldA Tryz.ag27 Tryz.sz27 rfl) rfl ?_
  refine tl_rdS (f117_ct c) (.cons rfl .nil) rfl (kk := ?_)
  refine tl_alloc Tryz.z175 rfl (fun b3 => ?_)
  refine tl_storeW Tryz.sz175 rfl rfl (k := ?_)
  refine tl_next ?_
  refine tc_seq ?_
  refine tc_region ?_
  refine tl_p (pr_fieldAddr Tryz.fo175_0 rfl) rfl ?_
  refine tl_p (pr_ldA Tryz.ag173 Tryz.sz173 rfl) rfl ?_
  refine tl_rdS (f118_ct _ _) (.cons rfl .nil) rfl (kk := ?_)
  refine tl_p (pr_move rfl) rfl ?_
  refine tl_gt rfl rfl (fun h => pr_fieldAddr Tryz.fo27_3 rfl) (by intro _ h; cases h) rfl ?_
  refine tl_gt rfl rfl (fun h => pr_ld Tryz.ag3 (gv rfl h)) (by intro _ h; cases h) rfl ?_
  refine tl_gt rfl rfl (fun h => pr_geq (gv rfl h) rfl) (by intro _ h; cases h) rfl ?_
  refine tl_p (pr_and rfl rfl rfl) rfl ?_
  refine tl_p (pr_move rfl) rfl ?_
  refine tl_gt rfl rfl (fun h => pr_fieldAddr Tryz.fo27_3 rfl) (by intro _ h; cases h) rfl ?_
  refine tl_gt rfl rfl (fun h => pr_ld Tryz.ag3 (gv rfl h)) (by intro _ h; cases h) rfl ?_
  refine tl_gt rfl rfl (fun h => pr_leq (gv rfl h) rfl) (by intro _ h; cases h) rfl ?_
  refine tl_p (pr_and rfl rfl rfl) rfl ?_
  refine tl_p (pr_move rfl) rfl ?_
  refine tl_gt rfl rfl (fun h => pr_fieldAddr Tryz.fo27_4 rfl) (by intro _ h; cases h) rfl ?_
  refine tl_gt rfl rfl (fun h => pr_ld Tryz.ag3 (gv rfl h)) (by intro _ h; cases h) rfl ?_
  refine tl_rdgtS rfl rfl (fun h => ⟨f119_ct _, .cons (gv rfl h) .nil⟩) rfl (kk := ?_)
  refine tl_p (pr_and rfl rfl rfl) rfl ?_
  refine tl_p (pr_move rfl) rfl ?_
  refine tl_gt rfl rfl (fun h => pr_fieldAddr Tryz.fo27_5 rfl) (by intro _ h; cases h) rfl ?_
  refine tl_gt rfl rfl (fun h => pr_ld Tryz.ag3 (gv rfl h)) (by intro _ h; cases h) rfl ?_
  refine tl_gt rfl rfl (fun h => pr_geq (gv rfl h) rfl) (by intro _ h; cases h) rfl ?_
  refine tl_p (pr_and rfl rfl rfl) rfl ?_
  refine tl_p (pr_move rfl) rfl ?_
  refine tl_gt rfl rfl (fun h => pr_fieldAddr Tryz.fo27_5 rfl) (by intro _ h; cases h) rfl ?_
  refine tl_gt rfl rfl (fun h => pr_ld Tryz.ag3 (gv rfl h)) (by intro _ h; cases h) rfl ?_
  refine tl_gt rfl rfl (fun h => pr_leq (gv rfl h) rfl) (by intro _ h; cases h) rfl ?_
  refine tl_p (pr_and rfl rfl rfl) rfl ?_
  refine tl_p (pr_assign rfl) rfl ?_
  refine tl_next ?_
  refine tc_seq ?_
  refine tc_region ?_
  refine tl_p (Tryz.bl173_0_1 rfl rfl) rfl ?_
  refine tl_alloc Tryz.z173 rfl (fun b5 => ?_)
  refine tl_storeW Tryz.sz173 rfl rfl (k := ?_)
  refine tl_next ?_
  refine tc_seq ?_
  refine tc_region ?_
  refine tl_p (pr_move rfl) rfl ?_
  refine tl_p (pr_move rfl) rfl ?_
  refine tl_gt rfl rfl (fun h => pr_fieldAddr Tryz.fo175_1 rfl) (by intro _ h; cases h) rfl ?_
  refine tl_gt rfl rfl (fun h => pr_fieldAddr Tryz.fo27_0 (gv rfl h)) (by intro _ h; cases h) rfl ?_
  refine tl_gt rfl rfl (fun h => pr_ld Tryz.ag4 (gv rfl h)) (by intro _ h; cases h) rfl ?_
  refine tl_gt rfl rfl (fun h => pr_not (gv rfl h)) (by intro _ h; cases h) rfl ?_
  refine tl_gt rfl rfl (fun h => pr_move (gv rfl h)) (by intro _ h; cases h) rfl ?_
  refine tl_ggf rfl rfl (fun h => by first | exact pr_loadW Tryz.ag173 Tryz.sz173 rfl | exact pr_ldA Tryz.ag173 Tryz.sz173 rfl) (by intro _ h; cases h) rfl ?_
  refine tl_ggf rfl rfl (fun h => pr_fieldAddr Tryz.fo175_0 rfl) (by intro _ h; cases h) rfl ?_
  refine tl_ggf rfl rfl (fun h => pr_ldA Tryz.ag173 Tryz.sz173 (gv rfl h)) (by intro _ h; cases h) rfl ?_
  refine tl_rdggfS rfl rfl (fun h => ⟨f120_ct _ _ _ _, .cons (gv rfl h) (.cons (gv rfl h) .nil)⟩) rfl (kk := ?_)
  refine tl_gt rfl rfl (fun h => pr_or (gv rfl h) rfl (gv2 rfl h)) (by intro _ h; cases h) rfl ?_
  refine tl_p (pr_and rfl rfl rfl) rfl ?_
  refine tl_p (pr_assign rfl) rfl ?_
  refine tl_next ?_
  refine tc_ret ?_
  exact tq_ret1 .ret (.inl rfl) () rfl rfl

theorem f110_ct (p q : Int) : Rd Tryz.prog 110 #[.int .i64 p, .int .i64 q] [] [] (.bool (permHas p q)) := by
  refine ct_intro Tryz.func110 rfl (by kernel_rfl) (n := 17) rfl rfl (E := [(0, .int .i64 p), (1, .int .i64 q)]) rfl ?_
  intro κ hro
  refine tc_seq ?_
  refine tc_region ?_
  refine tl_p (pr_assign rfl) rfl ?_
  refine tl_next ?_
  refine tc_seq ?_
  refine tc_region ?_
  refine tl_p (pr_move rfl) rfl ?_
  refine tl_rdS (f119_ct _) (.cons rfl .nil) rfl (kk := ?_)
  refine tl_p (pr_move rfl) rfl ?_
  refine tl_gt rfl rfl (fun h => pr_move rfl) (by intro _ h; cases h) rfl ?_
  refine tl_rdgtS rfl rfl (fun h => ⟨f119_ct _, .cons (gv rfl h) .nil⟩) rfl (kk := ?_)
  refine tl_p (pr_and rfl rfl rfl) rfl ?_
  refine tl_p (pr_move rfl) rfl ?_
  refine tl_gt rfl rfl (fun h => pr_move rfl) (by intro _ h; cases h) rfl ?_
  refine tl_gt rfl rfl (fun h => pr_move rfl) (by intro _ h; cases h) rfl ?_
  refine tl_gt rfl rfl (fun h => pr_bAndNot (gv rfl h) (gv rfl h)) (by intro _ h; cases h) rfl ?_
  refine tl_gt rfl rfl (fun h => pr_eql (gv rfl h) rfl) (by intro _ h; cases h) rfl ?_
  refine tl_p (pr_and rfl rfl rfl) rfl ?_
  refine tl_p (pr_assign rfl) rfl ?_
  refine tl_next ?_
  refine tc_ret ?_
  exact tq_ret1 .ret (.inl rfl) () rfl rfl

theorem f149_ct (n : Int) : Rd Tryz.prog 149 #[.int .i64 n] [] [] ((intC n).v) := by
  refine ct_intro Tryz.func149 rfl (by kernel_rfl) (n := 6) rfl rfl (E := [(0, .int .i64 n)]) rfl ?_
  intro κ hro
  refine tc_seq ?_
  refine tc_region ?_
  refine tl_alloc Tryz.z27 rfl (fun b2 => ?_)
  refine tl_next ?_
  refine tc_seq ?_
  refine tc_region ?_
  refine tl_p (pr_move rfl) rfl ?_
  refine tl_p (pr_bAnd rfl rfl) rfl ?_
  refine tl_p (Tryz.bl27_3 rfl) rfl ?_
  refine tl_storeW Tryz.sz27 rfl rfl (k := ?_)
  refine tl_next ?_
  refine tc_ret ?_
  exact tq_retG .ret (.inl rfl) () rfl (.cellA Tryz.ag27 Tryz.sz27 rfl .nil) rfl

theorem f67_ct  : Rd Tryz.prog 67 #[] [] [] (nullC.v) := by
  refine ct_intro Tryz.func67 rfl (by kernel_rfl) (n := 2) rfl rfl (E := []) rfl ?_
  intro κ hro
  refine tc_seq ?_
  refine tc_region ?_
  refine tl_alloc Tryz.z27 rfl (fun b0 => ?_)
  refine tl_next ?_
  refine tc_seq ?_
  refine tc_region ?_
  refine tl_rdS (f149_ct _) (.cons rfl .nil) rfl (kk := ?_)
  refine tl_storeW Tryz.sz27 rfl rfl (k := ?_)
  refine tl_next ?_
  refine tc_ret ?_
  exact tq_retG .ret (.inl rfl) () rfl (.cellA Tryz.ag27 Tryz.sz27 rfl .nil) rfl

theorem f68_ct (c : Cap) : Rd Tryz.prog 68 #[c.v] [] [] (.int .i64 c.pos) := by
  refine ct_intro Tryz.func68 rfl (by kernel_rfl) (n := 5) rfl rfl (E := [(0, c.v)]) rfl ?_
  intro κ hro
  refine tc_seq ?_
  refine tc_region ?_
  refine tl_box rfl rfl (fun b1 => ?_)
  refine tl_p (pr_assign rfl) rfl ?_
  refine tl_next ?_
  refine tc_seq ?_
  refine tc_region ?_
  refine tl_p (pr_fieldAddr Tryz.fo27_3 rfl) rfl ?_
  refine tl_p (pr_ld Tryz.ag3 rfl) rfl ?_
  refine tl_p (pr_assign rfl) rfl ?_
  refine tl_next ?_
  refine tc_ret ?_
  exact tq_ret1 .ret (.inl rfl) () rfl rfl

theorem f223_ct (c : Cap) (h0 : 0 ≤ c.base) (h1 : c.top ≤ 4294967295) : Rd Tryz.prog 223 #[c.v] [] [] (.int .i64 (capSize c)) := by
  refine ct_intro Tryz.func223 rfl (by kernel_rfl) (n := 13) rfl rfl (E := [(0, c.v)]) rfl ?_
  intro κ hro
  refine tc_seq ?_
  refine tc_region ?_
  refine tl_box rfl rfl (fun b1 => ?_)
  refine tl_p (pr_assign rfl) rfl ?_
  refine tl_next ?_
  refine tc_seq ?_
  refine tc_seq ?_
  refine tc_region ?_
  refine tl_p (pr_fieldAddr Tryz.fo27_2 rfl) rfl ?_
  refine tl_p (pr_ld Tryz.ag3 rfl) rfl ?_
  refine tl_p (pr_fieldAddr Tryz.fo27_1 rfl) rfl ?_
  refine tl_p (pr_ld Tryz.ag3 rfl) rfl ?_
  refine tl_p (pr_leq rfl rfl) rfl ?_
  refine tl_next ?_
  refine tc_if rfl (fun hc1 => ?_) (fun hc1 => ?_)
  · have hd1 := hc1
    try simp only [Bool.not_eq_true', Bool.not_eq_false', Bool.or_eq_true, Bool.and_eq_true, Bool.or_eq_false_iff, Bool.and_eq_false_iff, decide_eq_true_eq, decide_eq_false_iff_not, Bool.not_true, Bool.not_false, gval, Bool.not_eq_eq_eq_not] at hc1
    refine tc_seq ?_
    refine tc_region ?_
    refine tl_p (pr_assign rfl) rfl ?_
    refine tl_next ?_
    refine tc_ret (tq_then_ret ?_)
    exact tq_ret1 .ret (.inl rfl) () rfl (by unfold capSize; first | (rw [if_pos (by omega)]; rfl) | (rw [if_neg (by omega)]; rfl))
  · have hd1 := hc1
    try simp only [Bool.not_eq_true', Bool.not_eq_false', Bool.or_eq_true, Bool.and_eq_true, Bool.or_eq_false_iff, Bool.and_eq_false_iff, decide_eq_true_eq, decide_eq_false_iff_not, Bool.not_true, Bool.not_false, gval, Bool.not_eq_eq_eq_not] at hc1
    refine tc_skip (tq_next ?_)
    refine tc_seq ?_
    refine tc_region ?_
    refine tl_p (pr_fieldAddr Tryz.fo27_2 rfl) rfl ?_
    refine tl_p (pr_ld Tryz.ag3 rfl) rfl ?_
    refine tl_p (pr_fieldAddr Tryz.fo27_1 rfl) rfl ?_
    refine tl_p (pr_ld Tryz.ag3 rfl) rfl ?_
    refine tl_p (pr_subN rfl rfl (by omega)) rfl ?_
    refine tl_p (pr_assign rfl) rfl ?_
    refine tl_next ?_
    refine tc_ret ?_
    exact tq_ret1 .ret (.inl rfl) () rfl (by unfold capSize; first | (rw [if_pos (by omega)]; rfl) | (rw [if_neg (by omega)]; rfl))

theorem f224_ct (c : Cap) : Rd Tryz.prog 224 #[c.v] [] [] (.int .i64 (capOff c)) := by
  refine ct_intro Tryz.func224 rfl (by kernel_rfl) (n := 11) rfl rfl (E := [(0, c.v)]) rfl ?_
  intro κ hro
  refine tc_seq ?_
  refine tc_region ?_
  refine tl_box rfl rfl (fun b1 => ?_)
  refine tl_p (pr_assign rfl) rfl ?_
  refine tl_next ?_
  refine tc_seq ?_
  refine tc_region ?_
  refine tl_p (pr_fieldAddr Tryz.fo27_3 rfl) rfl ?_
  refine tl_p (pr_ld Tryz.ag3 rfl) rfl ?_
  refine tl_p (pr_bAnd rfl rfl) rfl ?_
  refine tl_p (pr_fieldAddr Tryz.fo27_1 rfl) rfl ?_
  refine tl_p (pr_ld Tryz.ag3 rfl) rfl ?_
  refine tl_p (pr_bAnd rfl rfl) rfl ?_
  refine tl_p (pr_sub rfl rfl) rfl ?_
  refine tl_p (pr_bAnd rfl rfl) rfl ?_
  refine tl_p (pr_assign rfl) rfl ?_
  refine tl_next ?_
  refine tc_ret ?_
  exact tq_ret1 .ret (.inl rfl) () rfl rfl

theorem f237_ct (c : Cap) (p n : Int) : Rd Tryz.prog 237 #[c.v, .int .i64 p, .int .i64 n] [] [] (.bool (capIn c p n)) := by
  refine ct_intro Tryz.func237 rfl (by kernel_rfl) (n := 33) rfl rfl (E := [(0, c.v), (1, .int .i64 p), (2, .int .i64 n)]) rfl ?_
  intro κ hro
  refine tc_seq ?_
  refine tc_region ?_
  refine tl_box rfl rfl (fun b3 => ?_)
  refine tl_p (pr_assign rfl) rfl ?_
  refine tl_next ?_
  refine tc_seq ?_
  refine tc_region ?_
  refine tl_p (pr_move rfl) rfl ?_
  refine tl_p (pr_geq rfl rfl) rfl ?_
  refine tl_p (pr_move rfl) rfl ?_
  refine tl_gt rfl rfl (fun h => pr_move rfl) (by intro _ h; cases h) rfl ?_
  refine tl_gt rfl rfl (fun h => pr_geq (gv rfl h) rfl) (by intro _ h; cases h) rfl ?_
  refine tl_p (pr_and rfl rfl rfl) rfl ?_
  refine tl_p (pr_move rfl) rfl ?_
  refine tl_gt rfl rfl (fun h => pr_move rfl) (by intro _ h; cases h) rfl ?_
  refine tl_gt rfl rfl (fun h => pr_fieldAddr Tryz.fo27_1 rfl) (by intro _ h; cases h) rfl ?_
  refine tl_gt rfl rfl (fun h => pr_ld Tryz.ag3 (gv rfl h)) (by intro _ h; cases h) rfl ?_
  refine tl_gt rfl rfl (fun h => pr_geq (gv rfl h) (gv rfl h)) (by intro _ h; cases h) rfl ?_
  refine tl_p (pr_and rfl rfl rfl) rfl ?_
  refine tl_p (pr_move rfl) rfl ?_
  refine tl_gt rfl rfl (fun h => pr_move rfl) (by intro _ h; cases h) rfl ?_
  refine tl_gt rfl rfl (fun h => pr_fieldAddr Tryz.fo27_2 rfl) (by intro _ h; cases h) rfl ?_
  refine tl_gt rfl rfl (fun h => pr_ld Tryz.ag3 (gv rfl h)) (by intro _ h; cases h) rfl ?_
  refine tl_gt rfl rfl (fun h => pr_leq (gv rfl h) (gv rfl h)) (by intro _ h; cases h) rfl ?_
  refine tl_p (pr_and rfl rfl rfl) rfl ?_
  refine tl_p (pr_move rfl) rfl ?_
  refine tl_gt rfl rfl (fun h => pr_move rfl) (by intro _ h; cases h) rfl ?_
  refine tl_gt rfl rfl (fun h => pr_fieldAddr Tryz.fo27_2 rfl) (by intro _ h; cases h) rfl ?_
  refine tl_gt rfl rfl (fun h => pr_ld Tryz.ag3 (gv rfl h)) (by intro _ h; cases h) rfl ?_
  refine tl_gt rfl rfl (fun h => pr_move rfl) (by intro _ h; cases h) rfl ?_
  refine tl_gt rfl rfl (fun h => pr_sub (gv rfl h) (gv rfl h)) (by intro _ h; cases h) rfl ?_
  refine tl_gt rfl rfl (fun h => pr_leq (gv rfl h) (gv rfl h)) (by intro _ h; cases h) rfl ?_
  refine tl_p (pr_and rfl rfl rfl) rfl ?_
  refine tl_p (pr_assign rfl) rfl ?_
  refine tl_next ?_
  refine tc_ret ?_
  exact tq_ret1 .ret (.inl rfl) () rfl rfl

theorem f109_ct (c d : Cap) : Rd Tryz.prog 109 #[c.v, d.v] [] [] (.bool (capUnder c d)) := by
  refine ct_intro Tryz.func109 rfl (by kernel_rfl) (n := 19) rfl rfl (E := [(0, c.v), (1, d.v)]) rfl ?_
  intro κ hro
  refine tc_seq ?_
  refine tc_region ?_
  refine tl_box rfl rfl (fun b2 => ?_)
  refine tl_box rfl rfl (fun b3 => ?_)
  refine tl_p (pr_assign rfl) rfl ?_
  refine tl_next ?_
  refine tc_seq ?_
  refine tc_draw Tryz.mixed [0, 1, 2, 3, 4, 5, 6, 7, 8, 9, 10, 11, 12, 13] (by kernel_rfl) ?_
  refine td_q 0 5 (pm_of rfl rfl rfl (fun _ kq => tl_p (by first | exact pr_loadW Tryz.ag27 Tryz.sz27 rfl | exact pr_ldA Tryz.ag27 Tryz.sz27 rfl) rfl kq)) rfl rfl rfl ?_
  refine td_q 1 6 (pm_of rfl rfl rfl (fun _ kq => tl_rdS (f117_ct _) (.cons rfl .nil) rfl (kk := kq))) rfl rfl rfl ?_
  refine td_q 2 7 (pm_of rfl rfl rfl (fun _ kq => tl_p (pr_field Tryz.fo175_0 rfl rfl) rfl kq)) rfl rfl rfl ?_
  refine td_q 3 8 (pm_of rfl rfl rfl (fun _ kq => tl_p (by first | exact pr_loadW Tryz.ag27 Tryz.sz27 rfl | exact pr_ldA Tryz.ag27 Tryz.sz27 rfl) rfl kq)) rfl rfl rfl ?_
  refine td_q 4 9 (pm_of rfl rfl rfl (fun _ kq => tl_rdS (f117_ct _) (.cons rfl .nil) rfl (kk := kq))) rfl rfl rfl ?_
  refine td_q 5 10 (pm_of rfl rfl rfl (fun _ kq => tl_p (pr_field Tryz.fo175_0 rfl rfl) rfl kq)) rfl rfl rfl ?_
  refine td_q 6 11 (pm_of rfl rfl rfl (fun _ kq => tl_rdS (f120_ct _ _ _ _) (.cons rfl (.cons rfl .nil)) rfl (kk := kq))) rfl rfl rfl ?_
  refine td_q 7 12 (pm_of rfl rfl rfl (fun _ kq => tl_p (pr_move rfl) rfl kq)) rfl rfl rfl ?_
  refine td_q 8 13 (pm_of rfl rfl rfl (fun _ kq => tl_gt rfl rfl (fun h => pr_fieldAddr Tryz.fo27_4 rfl) (by intro _ h; cases h) rfl kq)) rfl rfl rfl ?_
  refine td_q 9 14 (pm_of rfl rfl rfl (fun _ kq => tl_gt rfl rfl (fun h => pr_ld Tryz.ag3 (gv rfl h)) (by intro _ h; cases h) rfl kq)) rfl rfl rfl ?_
  refine td_q 10 15 (pm_of rfl rfl rfl (fun _ kq => tl_gt rfl rfl (fun h => pr_fieldAddr Tryz.fo27_4 rfl) (by intro _ h; cases h) rfl kq)) rfl rfl rfl ?_
  refine td_q 11 16 (pm_of rfl rfl rfl (fun _ kq => tl_gt rfl rfl (fun h => pr_ld Tryz.ag3 (gv rfl h)) (by intro _ h; cases h) rfl kq)) rfl rfl rfl ?_
  refine td_q 12 17 (pm_of rfl rfl rfl (fun _ kq => tl_rdgtS rfl rfl (fun h => ⟨f110_ct _ _, .cons (gv rfl h) (.cons (gv rfl h) .nil)⟩) rfl (kk := kq))) rfl rfl rfl ?_
  refine td_q 13 18 (pm_of rfl rfl rfl (fun _ kq => tl_p (pr_and rfl rfl rfl) rfl kq)) rfl rfl rfl ?_
  refine td_e1 14 (by kernel_rfl) ?_
  refine te rfl ?_
  refine tl_p (pr_assign rfl) rfl ?_
  refine td_next (pd := []) (by kernel_rfl) (.nil) ?_
  refine td_done (by kernel_rfl) ?_
  refine tq_next ?_
  refine tc_ret ?_
  exact tq_ret1 .ret (.inl rfl) () rfl rfl

theorem f123_ct (n : Int) : Rd Tryz.prog 123 #[.int .i64 n] [] [] (.bool (near n)) := by
  refine ct_intro Tryz.func123 rfl (by kernel_rfl) (n := 9) rfl rfl (E := [(0, .int .i64 n)]) rfl ?_
  intro κ hro
  refine tc_seq ?_
  refine tc_region ?_
  refine tl_p (pr_assign rfl) rfl ?_
  refine tl_next ?_
  refine tc_seq ?_
  refine tc_region ?_
  refine tl_p (pr_move rfl) rfl ?_
  refine tl_p (pr_geq rfl rfl) rfl ?_
  refine tl_p (pr_move rfl) rfl ?_
  refine tl_gt rfl rfl (fun h => pr_move rfl) (by intro _ h; cases h) rfl ?_
  refine tl_gt rfl rfl (fun h => pr_leq (gv rfl h) rfl) (by intro _ h; cases h) rfl ?_
  refine tl_p (pr_and rfl rfl rfl) rfl ?_
  refine tl_p (pr_assign rfl) rfl ?_
  refine tl_next ?_
  refine tc_ret ?_
  exact tq_ret1 .ret (.inl rfl) () rfl rfl

theorem f58_ct (n : Int) : Rd Tryz.prog 58 #[.int .i64 n] [] [] (.bool (isReg n)) := by
  refine ct_intro Tryz.func58 rfl (by kernel_rfl) (n := 9) rfl rfl (E := [(0, .int .i64 n)]) rfl ?_
  intro κ hro
  refine tc_seq ?_
  refine tc_region ?_
  refine tl_p (pr_assign rfl) rfl ?_
  refine tl_next ?_
  refine tc_seq ?_
  refine tc_region ?_
  refine tl_p (pr_move rfl) rfl ?_
  refine tl_p (pr_geq rfl rfl) rfl ?_
  refine tl_p (pr_move rfl) rfl ?_
  refine tl_gt rfl rfl (fun h => pr_move rfl) (by intro _ h; cases h) rfl ?_
  refine tl_gt rfl rfl (fun h => pr_lss (gv rfl h) rfl) (by intro _ h; cases h) rfl ?_
  refine tl_p (pr_and rfl rfl rfl) rfl ?_
  refine tl_p (pr_assign rfl) rfl ?_
  refine tl_next ?_
  refine tc_ret ?_
  exact tq_ret1 .ret (.inl rfl) () rfl rfl

end Go.Proofs

namespace Go.Proofs
open Go Go.Sz
attribute [local irreducible] pt lift exs own emp
theorem Tryz.sf25 : slcF Tryz.prog 25 = some (3, 1, 8) := by kernel_rfl
theorem Tryz.sl25 : slcOf Tryz.prog 25 = some (3, 1) := by kernel_rfl
def permOf (ns : List Int) : Int := ns.foldl (fun a p => if permRight p then bOr .i64 a p else a) 0
theorem permOf_take {ns : List Int} {j : Nat} (h : j < ns.length) : permOf (ns.take (j + 1)) = if permRight ns[j] then bOr .i64 (permOf (ns.take j)) ns[j] else permOf (ns.take j) := by
  rw [List.take_succ_eq_append_getElem h, permOf, List.foldl_append]; rfl
abbrev ints (ns : List Int) : List Value := ns.map (Value.int .i64)
def wI (i : Int) : Int := IntKind.i64.wrap i
def acheck (c : Cap) (need off n : Int) : Int × Int :=
  if capRight c = false then (0, 1) else if permRight need = false then (0, 1) else if n < 1 then (0, 1) else if 16 < n then (0, 1) else
  if c.tag = false then (0, 41) else if c.typ ≠ 0 then (0, 42) else if permHas c.perms need = false then (0, 44) else
  if (!near off || !capIn c (wI (c.pos + off)) n) = true then (0, 43) else (wI (c.pos + off), 0)
abbrev ii (p : Int × Int) : Value := .tuple #[.int .i64 p.1, .int .i64 p.2]

theorem f258_ct (s : Shp) (ns : List Int) (hs : Sok 1 s ns.length (ints ns)) : Rd Tryz.prog 258 #[sv s ns.length] (ra s (ints ns)) [] (.int .i64 (permOf ns)) := by
  refine ct_intro Tryz.func258 rfl (by kernel_rfl) (n := 19) rfl rfl (E := [(0, sv s ns.length)]) rfl ?_
  intro κ hro
  have hb := hs.bnd
  refine tc_seq ?_
  refine tc_region ?_
  refine tl_p (pr_assign rfl) rfl ?_
  refine tl_next ?_
  refine tc_seq ?_
  refine tc_region ?_
  refine tl_p (pr_assign rfl) rfl ?_
  refine tl_next ?_
  refine tc_seq ?_
  refine tc_seq ?_
  refine tc_region ?_
  refine tl_p (pr_move rfl) rfl ?_
  refine tl_p (pr_lenS Tryz.sf25 rfl) rfl ?_
  refine tl_p (pr_move rfl) rfl ?_
  refine tl_next ?_
  refine tc_block ?_
  refine tc_loopP (X := Nat) (fun j => j ≤ ns.length) (fun j => [(6, sv s ns.length), (7, .int .i64 ns.length), (8, .int .i64 (j : Int)), (3, .int .i64 (permOf (ns.take j)))]) (fun j => []) (fun j => ns.length - j) 0 (by omega) (.cons rfl (.cons rfl (.cons rfl (.cons rfl .nil)))) (fun j hj => ?_)
  refine tc_seq ?_
  refine tc_region ?_
  refine tl_p (pr_lss rfl rfl) rfl ?_
  refine tl_next ?_
  refine tc_seq ?_
  refine tc_if rfl (fun hc1 => ?_) (fun hc1 => ?_)
  · have hd1 := hc1
    try simp only [Bool.not_eq_true', Bool.not_eq_false', Bool.or_eq_true, Bool.and_eq_true, Bool.or_eq_false_iff, Bool.and_eq_false_iff, decide_eq_true_eq, decide_eq_false_iff_not, Bool.not_true, Bool.not_false, gval, Bool.not_eq_eq_eq_not] at hc1
    refine tc_skip (tq_next ?_)
    refine tc_seq ?_
    refine tc_block ?_
    refine tc_seq ?_
    refine tc_region ?_
    refine tl_p (pr_ixE Tryz.sl25 rfl rfl) rfl ?_
    refine tl_p (pr_ldE Tryz.ag3 rfl (c := ints ns) (v := .int .i64 (ns[j]'(by omega))) (by simp)) rfl ?_
    refine tl_p (pr_assign rfl) rfl ?_
    refine tl_next ?_
    refine tc_seq ?_
    refine tc_region ?_
    refine tl_p (pr_move rfl) rfl ?_
    refine tl_rdS (f119_ct _) (.cons rfl .nil) rfl (kk := ?_)
    refine tl_next ?_
    refine tc_if rfl (fun hc2 => ?_) (fun hc2 => ?_)
    · have hd2 := hc2
      try simp only [Bool.not_eq_true', Bool.not_eq_false', Bool.or_eq_true, Bool.and_eq_true, Bool.or_eq_false_iff, Bool.and_eq_false_iff, decide_eq_true_eq, decide_eq_false_iff_not, Bool.not_true, Bool.not_false, gval, Bool.not_eq_eq_eq_not] at hc2
      refine tc_region ?_
      refine tl_p (pr_move rfl) rfl ?_
      refine tl_p (pr_move rfl) rfl ?_
      refine tl_p (pr_bOr rfl rfl) rfl ?_
      refine tl_p (pr_assign rfl) rfl ?_
      refine tl_nil (tq_blk_normal (tq_next ?_))
      refine tc_region ?_
      refine tl_p (pr_addN rfl rfl (by omega)) rfl ?_
      refine tl_p (pr_move rfl) rfl ?_
      refine tl_nil ?_
      exact tq_roundP (j + 1) (by omega) (by omega) (.cons rfl (.cons rfl (.cons rfl (.cons (by rw [permOf_take (by omega)]; simp only [*]; rfl) .nil))))
    · have hd2 := hc2
      try simp only [Bool.not_eq_true', Bool.not_eq_false', Bool.or_eq_true, Bool.and_eq_true, Bool.or_eq_false_iff, Bool.and_eq_false_iff, decide_eq_true_eq, decide_eq_false_iff_not, Bool.not_true, Bool.not_false, gval, Bool.not_eq_eq_eq_not] at hc2
      refine tc_skip (tq_blk_normal (tq_next ?_))
      refine tc_region ?_
      refine tl_p (pr_addN rfl rfl (by omega)) rfl ?_
      refine tl_p (pr_move rfl) rfl ?_
      refine tl_nil ?_
      exact tq_roundP (j + 1) (by omega) (by omega) (.cons rfl (.cons rfl (.cons rfl (.cons (by rw [permOf_take (by omega)]; simp only [*]; rfl) .nil))))
  · have hd1 := hc1
    try simp only [Bool.not_eq_true', Bool.not_eq_false', Bool.or_eq_true, Bool.and_eq_true, Bool.or_eq_false_iff, Bool.and_eq_false_iff, decide_eq_true_eq, decide_eq_false_iff_not, Bool.not_true, Bool.not_false, gval, Bool.not_eq_eq_eq_not] at hc1
    refine tc_exit (tq_then_exit (tq_then_exit (tq_blk_here ?_)))
    refine tq_next ?_
    refine tc_seq ?_
    refine tc_region ?_
    refine tl_p (pr_move rfl) rfl ?_
    refine tl_p (pr_assign rfl) rfl ?_
    refine tl_next ?_
    refine tc_ret ?_
    exact tq_ret1 .ret (.inl rfl) () rfl (by have e : j = ns.length := (by omega); subst e; rw [List.take_length]; rfl)

theorem f257_ct (c : Cap) (p o n : Int) : Rd Tryz.prog 257 #[c.v, .int .i64 p, .int .i64 o, .int .i64 n] [] [] (ii (acheck c p o n)) := by
  refine ct_intro Tryz.func257 rfl (by kernel_rfl) (n := 53) rfl rfl (E := [(0, c.v), (1, .int .i64 p), (2, .int .i64 o), (3, .int .i64 n)]) rfl ?_
  intro κ hro
  refine tc_seq ?_
  refine tc_region ?_
  refine tl_box rfl rfl (fun b4 => ?_)
  refine tl_p (pr_assign rfl) rfl ?_
  refine tl_p (pr_assign rfl) rfl ?_
  refine tl_next ?_
  refine tc_seq ?_
  refine tc_block ?_
  refine tc_seq ?_
  refine tc_seq ?_
  refine tc_region ?_
  refine tl_p (by first | exact pr_loadW Tryz.ag27 Tryz.sz27 rfl | exact pr_ldA Tryz.ag27 Tryz.sz27 rfl) rfl ?_
  refine tl_rdS (f59_ct _) (.cons rfl .nil) rfl (kk := ?_)
  refine tl_p (pr_not rfl) rfl ?_
  refine tl_p (pr_assign rfl) rfl ?_
  refine tl_next ?_
  refine tc_if rfl (fun hc1 => ?_) (fun hc1 => ?_)
  · have hd1 := hc1
    try simp only [Bool.not_eq_true', Bool.not_eq_false', Bool.or_eq_true, Bool.and_eq_true, Bool.or_eq_false_iff, Bool.and_eq_false_iff, decide_eq_true_eq, decide_eq_false_iff_not, Bool.not_true, Bool.not_false, gval, Bool.not_eq_eq_eq_not] at hc1
    refine tc_skip (tq_next ?_)
    refine tc_if_true rfl hd1 ?_
    refine tc_seq ?_
    refine tc_region ?_
    refine tl_p (pr_assign rfl) rfl ?_
    refine tl_p (pr_assign rfl) rfl ?_
    refine tl_next ?_
    refine tc_ret (tq_blk_ret (tq_then_ret ?_))
    exact tq_ret2 .ret (.inl rfl) () rfl rfl rfl (by first | rfl | (subst_vars; rfl) | (simp [acheck, wI, *, cells_agg, resV, Cap.v]; done) | (simp [acheck, wI, *, cells_agg, resV, Cap.v]; omega) | (unfold acheck; split <;> first | rfl | (exfalso; simp_all; done) | (exfalso; simp_all [wI]; first | done | omega)))
  · have hd1 := hc1
    try simp only [Bool.not_eq_true', Bool.not_eq_false', Bool.or_eq_true, Bool.and_eq_true, Bool.or_eq_false_iff, Bool.and_eq_false_iff, decide_eq_true_eq, decide_eq_false_iff_not, Bool.not_true, Bool.not_false, gval, Bool.not_eq_eq_eq_not] at hc1
    refine tc_seq ?_
    refine tc_region ?_
    refine tl_p (pr_move rfl) rfl ?_
    refine tl_rdS (f119_ct _) (.cons rfl .nil) rfl (kk := ?_)
    refine tl_p (pr_not rfl) rfl ?_
    refine tl_p (pr_assign rfl) rfl ?_
    refine tl_next ?_
    refine tc_if rfl (fun hc3 => ?_) (fun hc3 => ?_)
    · have hd3 := hc3
      try simp only [Bool.not_eq_true', Bool.not_eq_false', Bool.or_eq_true, Bool.and_eq_true, Bool.or_eq_false_iff, Bool.and_eq_false_iff, decide_eq_true_eq, decide_eq_false_iff_not, Bool.not_true, Bool.not_false, gval, Bool.not_eq_eq_eq_not] at hc3
      refine tc_skip (tq_next ?_)
      refine tc_if_true rfl hd3 ?_
      refine tc_seq ?_
      refine tc_region ?_
      refine tl_p (pr_assign rfl) rfl ?_
      refine tl_p (pr_assign rfl) rfl ?_
      refine tl_next ?_
      refine tc_ret (tq_blk_ret (tq_then_ret ?_))
      exact tq_ret2 .ret (.inl rfl) () rfl rfl rfl (by first | rfl | (subst_vars; rfl) | (simp [acheck, wI, *, cells_agg, resV, Cap.v]; done) | (simp [acheck, wI, *, cells_agg, resV, Cap.v]; omega) | (unfold acheck; split <;> first | rfl | (exfalso; simp_all; done) | (exfalso; simp_all [wI]; first | done | omega)))
    · have hd3 := hc3
      try simp only [Bool.not_eq_true', Bool.not_eq_false', Bool.or_eq_true, Bool.and_eq_true, Bool.or_eq_false_iff, Bool.and_eq_false_iff, decide_eq_true_eq, decide_eq_false_iff_not, Bool.not_true, Bool.not_false, gval, Bool.not_eq_eq_eq_not] at hc3
      refine tc_seq ?_
      refine tc_region ?_
      refine tl_p (pr_move rfl) rfl ?_
      refine tl_p (pr_lss rfl rfl) rfl ?_
      refine tl_p (pr_assign rfl) rfl ?_
      refine tl_next ?_
      refine tc_if rfl (fun hc5 => ?_) (fun hc5 => ?_)
      · have hd5 := hc5
        try simp only [Bool.not_eq_true', Bool.not_eq_false', Bool.or_eq_true, Bool.and_eq_true, Bool.or_eq_false_iff, Bool.and_eq_false_iff, decide_eq_true_eq, decide_eq_false_iff_not, Bool.not_true, Bool.not_false, gval, Bool.not_eq_eq_eq_not] at hc5
        refine tc_skip (tq_next ?_)
        refine tc_if_true rfl hd5 ?_
        refine tc_seq ?_
        refine tc_region ?_
        refine tl_p (pr_assign rfl) rfl ?_
        refine tl_p (pr_assign rfl) rfl ?_
        refine tl_next ?_
        refine tc_ret (tq_blk_ret (tq_then_ret ?_))
        exact tq_ret2 .ret (.inl rfl) () rfl rfl rfl (by first | rfl | (subst_vars; rfl) | (simp [acheck, wI, *, cells_agg, resV, Cap.v]; done) | (simp [acheck, wI, *, cells_agg, resV, Cap.v]; omega) | (unfold acheck; split <;> first | rfl | (exfalso; simp_all; done) | (exfalso; simp_all [wI]; first | done | omega)))
      · have hd5 := hc5
        try simp only [Bool.not_eq_true', Bool.not_eq_false', Bool.or_eq_true, Bool.and_eq_true, Bool.or_eq_false_iff, Bool.and_eq_false_iff, decide_eq_true_eq, decide_eq_false_iff_not, Bool.not_true, Bool.not_false, gval, Bool.not_eq_eq_eq_not] at hc5
        refine tc_region ?_
        refine tl_p (pr_move rfl) rfl ?_
        refine tl_p (pr_gtr rfl rfl) rfl ?_
        refine tl_p (pr_assign rfl) rfl ?_
        refine tl_next ?_
        refine tc_if rfl (fun hc7 => ?_) (fun hc7 => ?_)
        · have hd7 := hc7
          try simp only [Bool.not_eq_true', Bool.not_eq_false', Bool.or_eq_true, Bool.and_eq_true, Bool.or_eq_false_iff, Bool.and_eq_false_iff, decide_eq_true_eq, decide_eq_false_iff_not, Bool.not_true, Bool.not_false, gval, Bool.not_eq_eq_eq_not] at hc7
          refine tc_seq ?_
          refine tc_region ?_
          refine tl_p (pr_assign rfl) rfl ?_
          refine tl_p (pr_assign rfl) rfl ?_
          refine tl_next ?_
          refine tc_ret (tq_blk_ret (tq_then_ret ?_))
          exact tq_ret2 .ret (.inl rfl) () rfl rfl rfl (by first | rfl | (subst_vars; rfl) | (simp [acheck, wI, *, cells_agg, resV, Cap.v]; done) | (simp [acheck, wI, *, cells_agg, resV, Cap.v]; omega) | (unfold acheck; split <;> first | rfl | (exfalso; simp_all; done) | (exfalso; simp_all [wI]; first | done | omega)))
        · have hd7 := hc7
          try simp only [Bool.not_eq_true', Bool.not_eq_false', Bool.or_eq_true, Bool.and_eq_true, Bool.or_eq_false_iff, Bool.and_eq_false_iff, decide_eq_true_eq, decide_eq_false_iff_not, Bool.not_true, Bool.not_false, gval, Bool.not_eq_eq_eq_not] at hc7
          refine tc_seq ?_
          refine tc_region ?_
          refine tl_p (pr_fieldAddr Tryz.fo27_0 rfl) rfl ?_
          refine tl_p (pr_ld Tryz.ag4 rfl) rfl ?_
          refine tl_p (pr_not rfl) rfl ?_
          refine tl_p (pr_assign rfl) rfl ?_
          refine tl_next ?_
          refine tc_if rfl (fun hc8 => ?_) (fun hc8 => ?_)
          · have hd8 := hc8
            try simp only [Bool.not_eq_true', Bool.not_eq_false', Bool.or_eq_true, Bool.and_eq_true, Bool.or_eq_false_iff, Bool.and_eq_false_iff, decide_eq_true_eq, decide_eq_false_iff_not, Bool.not_true, Bool.not_false, gval, Bool.not_eq_eq_eq_not] at hc8
            refine tc_seq ?_
            refine tc_region ?_
            refine tl_p (pr_assign rfl) rfl ?_
            refine tl_p (pr_assign rfl) rfl ?_
            refine tl_next ?_
            refine tc_ret (tq_blk_ret (tq_then_ret ?_))
            exact tq_ret2 .ret (.inl rfl) () rfl rfl rfl (by first | rfl | (subst_vars; rfl) | (simp [acheck, wI, *, cells_agg, resV, Cap.v]; done) | (simp [acheck, wI, *, cells_agg, resV, Cap.v]; omega) | (unfold acheck; split <;> first | rfl | (exfalso; simp_all; done) | (exfalso; simp_all [wI]; first | done | omega)))
          · have hd8 := hc8
            try simp only [Bool.not_eq_true', Bool.not_eq_false', Bool.or_eq_true, Bool.and_eq_true, Bool.or_eq_false_iff, Bool.and_eq_false_iff, decide_eq_true_eq, decide_eq_false_iff_not, Bool.not_true, Bool.not_false, gval, Bool.not_eq_eq_eq_not] at hc8
            refine tc_seq ?_
            refine tc_region ?_
            refine tl_p (pr_fieldAddr Tryz.fo27_5 rfl) rfl ?_
            refine tl_p (pr_ld Tryz.ag3 rfl) rfl ?_
            refine tl_p (pr_neq rfl rfl) rfl ?_
            refine tl_p (pr_assign rfl) rfl ?_
            refine tl_next ?_
            refine tc_if rfl (fun hc9 => ?_) (fun hc9 => ?_)
            · have hd9 := hc9
              try simp only [Bool.not_eq_true', Bool.not_eq_false', Bool.or_eq_true, Bool.and_eq_true, Bool.or_eq_false_iff, Bool.and_eq_false_iff, decide_eq_true_eq, decide_eq_false_iff_not, Bool.not_true, Bool.not_false, gval, Bool.not_eq_eq_eq_not] at hc9
              refine tc_seq ?_
              refine tc_region ?_
              refine tl_p (pr_assign rfl) rfl ?_
              refine tl_p (pr_assign rfl) rfl ?_
              refine tl_next ?_
              refine tc_ret (tq_blk_ret (tq_then_ret ?_))
              exact tq_ret2 .ret (.inl rfl) () rfl rfl rfl (by first | rfl | (subst_vars; rfl) | (simp [acheck, wI, *, cells_agg, resV, Cap.v]; done) | (simp [acheck, wI, *, cells_agg, resV, Cap.v]; omega) | (unfold acheck; split <;> first | rfl | (exfalso; simp_all; done) | (exfalso; simp_all [wI]; first | done | omega)))
            · have hd9 := hc9
              try simp only [Bool.not_eq_true', Bool.not_eq_false', Bool.or_eq_true, Bool.and_eq_true, Bool.or_eq_false_iff, Bool.and_eq_false_iff, decide_eq_true_eq, decide_eq_false_iff_not, Bool.not_true, Bool.not_false, gval, Bool.not_eq_eq_eq_not] at hc9
              refine tc_seq ?_
              refine tc_region ?_
              refine tl_p (pr_fieldAddr Tryz.fo27_4 rfl) rfl ?_
              refine tl_p (pr_ld Tryz.ag3 rfl) rfl ?_
              refine tl_p (pr_move rfl) rfl ?_
              refine tl_rdS (f110_ct _ _) (.cons rfl (.cons rfl .nil)) rfl (kk := ?_)
              refine tl_p (pr_not rfl) rfl ?_
              refine tl_p (pr_assign rfl) rfl ?_
              refine tl_next ?_
              refine tc_if rfl (fun hc10 => ?_) (fun hc10 => ?_)
              · have hd10 := hc10
                try simp only [Bool.not_eq_true', Bool.not_eq_false', Bool.or_eq_true, Bool.and_eq_true, Bool.or_eq_false_iff, Bool.and_eq_false_iff, decide_eq_true_eq, decide_eq_false_iff_not, Bool.not_true, Bool.not_false, gval, Bool.not_eq_eq_eq_not] at hc10
                refine tc_seq ?_
                refine tc_region ?_
                refine tl_p (pr_assign rfl) rfl ?_
                refine tl_p (pr_assign rfl) rfl ?_
                refine tl_next ?_
                refine tc_ret (tq_blk_ret (tq_then_ret ?_))
                exact tq_ret2 .ret (.inl rfl) () rfl rfl rfl (by first | rfl | (subst_vars; rfl) | (simp [acheck, wI, *, cells_agg, resV, Cap.v]; done) | (simp [acheck, wI, *, cells_agg, resV, Cap.v]; omega) | (unfold acheck; split <;> first | rfl | (exfalso; simp_all; done) | (exfalso; simp_all [wI]; first | done | omega)))
              · have hd10 := hc10
                try simp only [Bool.not_eq_true', Bool.not_eq_false', Bool.or_eq_true, Bool.and_eq_true, Bool.or_eq_false_iff, Bool.and_eq_false_iff, decide_eq_true_eq, decide_eq_false_iff_not, Bool.not_true, Bool.not_false, gval, Bool.not_eq_eq_eq_not] at hc10
                refine tc_seq ?_
                refine tc_region ?_
                refine tl_p (pr_move rfl) rfl ?_
                refine tl_rdS (f123_ct _) (.cons rfl .nil) rfl (kk := ?_)
                refine tl_p (pr_not rfl) rfl ?_
                refine tl_p (pr_move rfl) rfl ?_
                refine tl_gf rfl rfl (fun h => by first | exact pr_loadW Tryz.ag27 Tryz.sz27 rfl | exact pr_ldA Tryz.ag27 Tryz.sz27 rfl) (by intro _ h; cases h) rfl ?_
                refine tl_gf rfl rfl (fun h => pr_fieldAddr Tryz.fo27_3 rfl) (by intro _ h; cases h) rfl ?_
                refine tl_gf rfl rfl (fun h => pr_ld Tryz.ag3 (gv rfl h)) (by intro _ h; cases h) rfl ?_
                refine tl_gf rfl rfl (fun h => pr_move rfl) (by intro _ h; cases h) rfl ?_
                refine tl_gf rfl rfl (fun h => pr_add (gv rfl h) (gv rfl h)) (by intro _ h; cases h) rfl ?_
                refine tl_gf rfl rfl (fun h => pr_move rfl) (by intro _ h; cases h) rfl ?_
                refine tl_rdgfS rfl rfl (fun h => ⟨f237_ct _ _ _, .cons (gv rfl h) (.cons (gv rfl h) (.cons (gv rfl h) .nil))⟩) rfl (kk := ?_)
                refine tl_gf rfl rfl (fun h => pr_not (gv rfl h)) (by intro _ h; cases h) rfl ?_
                refine tl_p (pr_or rfl rfl rfl) rfl ?_
                refine tl_p (pr_assign rfl) rfl ?_
                refine tl_next ?_
                refine tc_if rfl (fun hc11 => ?_) (fun hc11 => ?_)
                · have hd11 := hc11
                  try simp only [Bool.not_eq_true', Bool.not_eq_false', Bool.or_eq_true, Bool.and_eq_true, Bool.or_eq_false_iff, Bool.and_eq_false_iff, decide_eq_true_eq, decide_eq_false_iff_not, Bool.not_true, Bool.not_false, gval, Bool.not_eq_eq_eq_not] at hc11
                  refine tc_seq ?_
                  refine tc_region ?_
                  refine tl_p (pr_assign rfl) rfl ?_
                  refine tl_p (pr_assign rfl) rfl ?_
                  refine tl_next ?_
                  refine tc_ret (tq_blk_ret (tq_then_ret ?_))
                  exact tq_ret2 .ret (.inl rfl) () rfl rfl rfl (by first | rfl | (subst_vars; rfl) | (simp [acheck, wI, *, cells_agg, resV, Cap.v]; done) | (simp [acheck, wI, *, cells_agg, resV, Cap.v]; omega) | (unfold acheck; split <;> first | rfl | (exfalso; simp_all; done) | (exfalso; simp_all [wI]; first | done | omega)))
                · have hd11 := hc11
                  try simp only [Bool.not_eq_true', Bool.not_eq_false', Bool.or_eq_true, Bool.and_eq_true, Bool.or_eq_false_iff, Bool.and_eq_false_iff, decide_eq_true_eq, decide_eq_false_iff_not, Bool.not_true, Bool.not_false, gval, Bool.not_eq_eq_eq_not] at hc11
                  refine tc_skip (tq_blk_normal (tq_next ?_))
                  refine tc_seq ?_
                  refine tc_region ?_
                  refine tl_p (pr_fieldAddr Tryz.fo27_3 rfl) rfl ?_
                  refine tl_p (pr_ld Tryz.ag3 rfl) rfl ?_
                  refine tl_p (pr_move rfl) rfl ?_
                  refine tl_p (pr_add rfl rfl) rfl ?_
                  refine tl_p (pr_assign rfl) rfl ?_
                  refine tl_p (pr_assign rfl) rfl ?_
                  refine tl_next ?_
                  refine tc_ret ?_
                  exact tq_ret2 .ret (.inl rfl) () rfl rfl rfl (by first | rfl | (subst_vars; rfl) | (simp [acheck, wI, *, cells_agg, resV, Cap.v]; done) | (simp [acheck, wI, *, cells_agg, resV, Cap.v]; omega) | (unfold acheck; split <;> first | rfl | (exfalso; simp_all; done) | (exfalso; simp_all [wI]; first | done | omega)))

end Go.Proofs

namespace Go.Proofs
open Go Go.Sz
attribute [local irreducible] pt lift exs own emp
theorem Tryz.ag236 : aggB Tryz.prog 236 = some true := by kernel_rfl
theorem Tryz.ag44 : aggB Tryz.prog 44 = some false := by kernel_rfl
theorem Tryz.bld236 : bldS Tryz.prog 236 = some ([(0, 1), (1, 1)], (.agg #[.bool false, .int .i64 0] : Value).cells) := by kernel_rfl
theorem Tryz.fo236_0 : fOff Tryz.prog 236 0 = some (0, 1, false) := by kernel_rfl
theorem Tryz.fo236_1 : fOff Tryz.prog 236 1 = some (1, 1, false) := by kernel_rfl
theorem Tryz.sf241 : slcF Tryz.prog 241 = some (236, 2, 16) := by kernel_rfl
theorem Tryz.sl241 : slcOf Tryz.prog 241 = some (236, 2) := by kernel_rfl
theorem Tryz.sz236 : szOf Tryz.prog 236 = some 2 := by kernel_rfl
theorem Tryz.sz3 : szOf Tryz.prog 3 = some 1 := by kernel_rfl
theorem Tryz.z236 : zeroV Tryz.prog 236 = some (.agg #[.bool false, .int .i64 0]) := by kernel_rfl
theorem Tryz.z3 : zeroV Tryz.prog 3 = some (.int .i64 0) := by kernel_rfl
theorem Tryz.bl236_0_1 {n : Nat} {D : List Deferred} {E : Env} {L : List HProp} {κ : Ctx} {T : TypeId} {x0 x1 : Operand} {a0 a1 : Value} (h0 : E.ev x0 = some a0) (h1 : E.ev x1 = some a1) (o0 : oneV a0 = true := by rfl) (o1 : oneV a1 = true := by rfl) :
    PR Tryz.prog (.build 236 #[(0, x0), (1, x1)]) T n D E L κ (.agg #[a0, a1]) := by
  refine pr_buildS Tryz.bld236 (.cons h0 (.cons h1 .nil)) ?_
  simp [Instr.fill, cells_agg, cells_one o0, cells_one o1]
theorem Tryz.bl27_ {n : Nat} {D : List Deferred} {E : Env} {L : List HProp} {κ : Ctx} {T : TypeId} : PR Tryz.prog (.build 27 #[]) T n D E L κ (.agg #[.bool false, .int .i64 0, .int .i64 0, .int .i64 0, .int .i64 0, .int .i64 0]) :=
  pr_buildS (ws := []) Tryz.bld27 .nil rfl
def aeven (c : Cap) (need off n : Int) : Int × Int := if (acheck c need off n).1.tmod n = 0 then acheck c need off n else (0, 51)
def astep (c : Cap) (n : Int) : Cap × Bool :=
  if capRight c = true ∧ c.tag = true ∧ c.typ = 0 ∧ near n = true ∧ c.base ≤ wI (c.pos + n) ∧ wI (c.pos + n) ≤ c.top then ({ c with pos := wI (c.pos + n) }, true) else (nullC, false)
abbrev cb (p : Cap × Bool) : Value := .tuple #[p.1.v, .bool p.2]
abbrev ci (p : Cap × Int) : Value := .tuple #[p.1.v, .int .i64 p.2]
theorem ints_ok {ns : List Int} : allOne (ints ns) = true := allOne_iff.2 fun v hv => by
  simp only [List.mem_map] at hv
  obtain ⟨i, _, rfl⟩ := hv
  rfl
abbrev Must := Bool × Int
def mustL (m : Must) : List Value := [.bool m.1, .int .i64 m.2]
abbrev mustV (m : Must) : Value := .agg #[.bool m.1, .int .i64 m.2]
theorem must_len (m : Must) : (mustL m).length = 2 := rfl
abbrev mustsL (l : List Must) : List Value := l.flatMap mustL
theorem musts_ok {l : List Must} : allOne (mustsL l) = true := allOne_iff.2 fun v hv => by
  simp only [List.mem_flatMap, mustL, List.mem_cons, List.not_mem_nil, or_false] at hv
  obtain ⟨i, _, rfl | rfl⟩ := hv <;> rfl
def mfirst : List Must → Int
  | [] => 0
  | m :: l => if m.1 then mfirst l else m.2
theorem mfirst_drop {l : List Must} {j : Nat} (h : j < l.length) : mfirst (l.drop j) = if l[j].1 then mfirst (l.drop (j + 1)) else l[j].2 := by
  rw [List.drop_eq_getElem_cons h]; rfl
def mRight (c : Cap) : Must := (capRight c, 1)
def mTag (c : Cap) : Must := (c.tag, 41)
def mSealed (c : Cap) (b : Bool) : Must := ((!decide (c.typ = 0)) == b, 42)
def mHas (c : Cap) (p : Int) : Must := (permHas c.perms p, 44)
def mSpans (c : Cap) (n : Int) : Must := (capIn c c.pos n, 43)
def mUsed (c : Cap) : List Must := [mRight c, mTag c, mSealed c false]
def mAuth (c : Cap) (p : Int) : List Must := mUsed c ++ [mHas c p, mSpans c 1, (decide (2 ≤ c.pos) && decide (c.pos ≤ 255), 45)]
def made (c c' : Cap) (l : List Must) : Cap × Int := if mfirst l = 0 then (c', 0) else (nullC, mfirst l)

theorem f238_ct (c : Cap) (o n : Int) (s : Shp) (ns : List Int) (hs : Sok 1 s ns.length (ints ns)) : Rd Tryz.prog 238 #[c.v, .int .i64 o, .int .i64 n, sv s ns.length] (ra s (ints ns)) [] (ii (acheck c (permOf ns) o n)) := by
  refine ct_intro Tryz.func238 rfl (by kernel_rfl) (n := 18) rfl rfl (E := [(0, c.v), (1, .int .i64 o), (2, .int .i64 n), (3, sv s ns.length)]) rfl ?_
  intro κ hro
  refine tc_seq ?_
  refine tc_region ?_
  refine tl_box rfl rfl (fun b4 => ?_)
  refine tl_p (pr_assign rfl) rfl ?_
  refine tl_p (pr_assign rfl) rfl ?_
  refine tl_next ?_
  refine tc_seq ?_
  refine tc_draw Tryz.mixed [0, 1, 2, 3, 4, 5, 6, 7] (by kernel_rfl) ?_
  refine td_q 0 10 (pm_of rfl rfl rfl (fun _ kq => tl_p (by first | exact pr_loadW Tryz.ag27 Tryz.sz27 rfl | exact pr_ldA Tryz.ag27 Tryz.sz27 rfl) rfl kq)) rfl rfl rfl ?_
  refine td_q 1 11 (pm_of rfl rfl rfl (fun _ kq => tl_p (pr_move rfl) rfl kq)) rfl rfl rfl ?_
  refine td_q 2 12 (pm_of rfl rfl rfl (fun _ kq => tl_rdS (f258_ct _ _ (by assumption)) (.cons rfl .nil) rfl (kk := kq))) rfl rfl rfl ?_
  refine td_q 3 13 (pm_of rfl rfl rfl (fun _ kq => tl_p (pr_move rfl) rfl kq)) rfl rfl rfl ?_
  refine td_q 4 14 (pm_of rfl rfl rfl (fun _ kq => tl_p (pr_move rfl) rfl kq)) rfl rfl rfl ?_
  refine td_q 5 15 (pm_of rfl rfl rfl (fun _ kq => tl_rdS (f257_ct _ _ _ _) (.cons rfl (.cons rfl (.cons rfl (.cons rfl .nil)))) rfl (kk := kq))) rfl rfl rfl ?_
  refine td_q 6 16 (pm_of rfl rfl rfl (fun _ kq => tl_p (pr_extract rfl rfl) rfl kq)) rfl rfl rfl ?_
  refine td_q 7 17 (pm_of rfl rfl rfl (fun _ kq => tl_p (pr_extract rfl rfl) rfl kq)) rfl rfl rfl ?_
  refine td_e1 8 (by kernel_rfl) ?_
  refine te rfl ?_
  refine tl_p (pr_assign rfl) rfl ?_
  refine td_next (pd := []) (by kernel_rfl) (.nil) ?_
  refine td_e1 9 (by kernel_rfl) ?_
  refine te rfl ?_
  refine tl_p (pr_assign rfl) rfl ?_
  refine td_next (pd := []) (by kernel_rfl) (.nil) ?_
  refine td_done (by kernel_rfl) ?_
  refine tq_next ?_
  refine tc_ret ?_
  exact tq_ret2 .ret (.inl rfl) () rfl rfl rfl rfl

theorem f193_ct (c : Cap) (o n : Int) (hn : n ≠ 0) (s : Shp) (ns : List Int) (hs : Sok 1 s ns.length (ints ns)) : Rd Tryz.prog 193 #[c.v, .int .i64 o, .int .i64 n, sv s ns.length] (ra s (ints ns)) [] (ii (aeven c (permOf ns) o n)) := by
  refine ct_intro Tryz.func193 rfl (by kernel_rfl) (n := 26) rfl rfl (E := [(0, c.v), (1, .int .i64 o), (2, .int .i64 n), (3, sv s ns.length)]) rfl ?_
  intro κ hro
  refine tc_seq ?_
  refine tc_region ?_
  refine tl_box rfl rfl (fun b4 => ?_)
  refine tl_p (pr_assign rfl) rfl ?_
  refine tl_p (pr_assign rfl) rfl ?_
  refine tl_next ?_
  refine tc_seq ?_
  refine tc_region ?_
  refine tl_p (by first | exact pr_loadW Tryz.ag27 Tryz.sz27 rfl | exact pr_ldA Tryz.ag27 Tryz.sz27 rfl) rfl ?_
  refine tl_p (pr_move rfl) rfl ?_
  refine tl_p (pr_move rfl) rfl ?_
  refine tl_p (pr_move rfl) rfl ?_
  refine tl_rdS (f238_ct _ _ _ _ ns (by first | assumption | exact Sow.toSok (by assumption))) (.cons rfl (.cons rfl (.cons rfl (.cons rfl .nil)))) rfl (kk := ?_)
  refine tl_p (pr_move rfl) rfl ?_
  refine tl_p (pr_extract rfl rfl) rfl ?_
  refine tl_p (pr_extract rfl rfl) rfl ?_
  refine tl_p (pr_assign rfl) rfl ?_
  refine tl_p (pr_assign rfl) rfl ?_
  refine tl_next ?_
  refine tc_seq ?_
  refine tc_seq ?_
  refine tc_region ?_
  refine tl_p (pr_move rfl) rfl ?_
  refine tl_p (pr_move rfl) rfl ?_
  refine tl_p (pr_rem rfl rfl hn) rfl ?_
  refine tl_p (pr_neq rfl rfl) rfl ?_
  refine tl_next ?_
  refine tc_if rfl (fun hc1 => ?_) (fun hc1 => ?_)
  · have hd1 := hc1
    try simp only [Bool.not_eq_true', Bool.not_eq_false', Bool.or_eq_true, Bool.and_eq_true, Bool.or_eq_false_iff, Bool.and_eq_false_iff, decide_eq_true_eq, decide_eq_false_iff_not, Bool.not_true, Bool.not_false, gval, Bool.not_eq_eq_eq_not] at hc1
    refine tc_seq ?_
    refine tc_region ?_
    refine tl_p (pr_assign rfl) rfl ?_
    refine tl_p (pr_assign rfl) rfl ?_
    refine tl_next ?_
    refine tc_ret (tq_then_ret ?_)
    exact tq_ret2 .ret (.inl rfl) () rfl rfl rfl (by first | rfl | (subst_vars; rfl) | (simp [aeven, *, cells_agg, resV, Cap.v]; done) | (simp [aeven, *, cells_agg, resV, Cap.v]; omega) | (unfold aeven; split <;> first | rfl | (exfalso; simp_all; done) | (exfalso; simp_all [wI]; first | done | omega)))
  · have hd1 := hc1
    try simp only [Bool.not_eq_true', Bool.not_eq_false', Bool.or_eq_true, Bool.and_eq_true, Bool.or_eq_false_iff, Bool.and_eq_false_iff, decide_eq_true_eq, decide_eq_false_iff_not, Bool.not_true, Bool.not_false, gval, Bool.not_eq_eq_eq_not] at hc1
    refine tc_skip (tq_next ?_)
    refine tc_seq ?_
    refine tc_region ?_
    refine tl_p (pr_move rfl) rfl ?_
    refine tl_p (pr_move rfl) rfl ?_
    refine tl_p (pr_assign rfl) rfl ?_
    refine tl_p (pr_assign rfl) rfl ?_
    refine tl_next ?_
    refine tc_ret ?_
    exact tq_ret2 .ret (.inl rfl) () rfl rfl rfl (by first | rfl | (subst_vars; rfl) | (simp [aeven, *, cells_agg, resV, Cap.v]; done) | (simp [aeven, *, cells_agg, resV, Cap.v]; omega) | (unfold aeven; split <;> first | rfl | (exfalso; simp_all; done) | (exfalso; simp_all [wI]; first | done | omega)))

theorem f206_ct (c : Cap) (o n : Int) : Rd Tryz.prog 206 #[c.v, .int .i64 o, .int .i64 n] [] [] (ii (acheck c (permOf [1]) o n)) := by
  refine ct_intro Tryz.func206 rfl (by kernel_rfl) (n := 15) rfl rfl (E := [(0, c.v), (1, .int .i64 o), (2, .int .i64 n)]) rfl ?_
  intro κ hro
  refine tc_seq ?_
  refine tc_region ?_
  refine tl_box rfl rfl (fun b3 => ?_)
  refine tl_p (pr_assign rfl) rfl ?_
  refine tl_p (pr_assign rfl) rfl ?_
  refine tl_next ?_
  refine tc_seq ?_
  refine tc_region ?_
  refine tl_p (by first | exact pr_loadW Tryz.ag27 Tryz.sz27 rfl | exact pr_ldA Tryz.ag27 Tryz.sz27 rfl) rfl ?_
  refine tl_p (pr_move rfl) rfl ?_
  refine tl_p (pr_move rfl) rfl ?_
  refine tl_buildS Tryz.sf25 Tryz.z3 rfl (.cons rfl .nil) rfl rfl rfl rfl rfl (kk := fun s11 hs11 ms11 => ?_)
  refine tl_rdS (f238_ct _ _ _ _ [1] (by first | assumption | exact Sow.toSok (by assumption))) (.cons rfl (.cons rfl (.cons rfl (.cons rfl .nil)))) rfl (kk := ?_)
  refine tl_p (pr_extract rfl rfl) rfl ?_
  refine tl_p (pr_extract rfl rfl) rfl ?_
  refine tl_p (pr_assign rfl) rfl ?_
  refine tl_p (pr_assign rfl) rfl ?_
  refine tl_next ?_
  refine tc_ret ?_
  exact tq_ret2 .ret (.inl rfl) () rfl rfl rfl rfl

theorem f209_ct (c : Cap) (o n : Int) : Rd Tryz.prog 209 #[c.v, .int .i64 o, .int .i64 n] [] [] (ii (acheck c (permOf [2]) o n)) := by
  refine ct_intro Tryz.func209 rfl (by kernel_rfl) (n := 15) rfl rfl (E := [(0, c.v), (1, .int .i64 o), (2, .int .i64 n)]) rfl ?_
  intro κ hro
  refine tc_seq ?_
  refine tc_region ?_
  refine tl_box rfl rfl (fun b3 => ?_)
  refine tl_p (pr_assign rfl) rfl ?_
  refine tl_p (pr_assign rfl) rfl ?_
  refine tl_next ?_
  refine tc_seq ?_
  refine tc_region ?_
  refine tl_p (by first | exact pr_loadW Tryz.ag27 Tryz.sz27 rfl | exact pr_ldA Tryz.ag27 Tryz.sz27 rfl) rfl ?_
  refine tl_p (pr_move rfl) rfl ?_
  refine tl_p (pr_move rfl) rfl ?_
  refine tl_buildS Tryz.sf25 Tryz.z3 rfl (.cons rfl .nil) rfl rfl rfl rfl rfl (kk := fun s11 hs11 ms11 => ?_)
  refine tl_rdS (f238_ct _ _ _ _ [2] (by first | assumption | exact Sow.toSok (by assumption))) (.cons rfl (.cons rfl (.cons rfl (.cons rfl .nil)))) rfl (kk := ?_)
  refine tl_p (pr_extract rfl rfl) rfl ?_
  refine tl_p (pr_extract rfl rfl) rfl ?_
  refine tl_p (pr_assign rfl) rfl ?_
  refine tl_p (pr_assign rfl) rfl ?_
  refine tl_next ?_
  refine tc_ret ?_
  exact tq_ret2 .ret (.inl rfl) () rfl rfl rfl rfl

theorem f121_ct (c : Cap) : Rd Tryz.prog 121 #[c.v] [] [] (ii (aeven c (permOf [4]) 0 4)) := by
  refine ct_intro Tryz.func121 rfl (by kernel_rfl) (n := 9) rfl rfl (E := [(0, c.v)]) rfl ?_
  intro κ hro
  refine tc_seq ?_
  refine tc_region ?_
  refine tl_box rfl rfl (fun b1 => ?_)
  refine tl_p (pr_assign rfl) rfl ?_
  refine tl_p (pr_assign rfl) rfl ?_
  refine tl_next ?_
  refine tc_seq ?_
  refine tc_region ?_
  refine tl_p (by first | exact pr_loadW Tryz.ag27 Tryz.sz27 rfl | exact pr_ldA Tryz.ag27 Tryz.sz27 rfl) rfl ?_
  refine tl_buildS Tryz.sf25 Tryz.z3 rfl (.cons rfl .nil) rfl rfl rfl rfl rfl (kk := fun s5 hs5 ms5 => ?_)
  refine tl_rdS (f193_ct _ _ _ (by first | assumption | decide) _ [4] (by first | assumption | exact Sow.toSok (by assumption))) (.cons rfl (.cons rfl (.cons rfl (.cons rfl .nil)))) rfl (kk := ?_)
  refine tl_p (pr_extract rfl rfl) rfl ?_
  refine tl_p (pr_extract rfl rfl) rfl ?_
  refine tl_p (pr_assign rfl) rfl ?_
  refine tl_p (pr_assign rfl) rfl ?_
  refine tl_next ?_
  refine tc_ret ?_
  exact tq_ret2 .ret (.inl rfl) () rfl rfl rfl rfl

theorem f211_ct (c : Cap) (o : Int) : Rd Tryz.prog 211 #[c.v, .int .i64 o] [] [] (ii (aeven c (permOf [1, 8]) o 16)) := by
  refine ct_intro Tryz.func211 rfl (by kernel_rfl) (n := 12) rfl rfl (E := [(0, c.v), (1, .int .i64 o)]) rfl ?_
  intro κ hro
  refine tc_seq ?_
  refine tc_region ?_
  refine tl_box rfl rfl (fun b2 => ?_)
  refine tl_p (pr_assign rfl) rfl ?_
  refine tl_p (pr_assign rfl) rfl ?_
  refine tl_next ?_
  refine tc_seq ?_
  refine tc_region ?_
  refine tl_p (by first | exact pr_loadW Tryz.ag27 Tryz.sz27 rfl | exact pr_ldA Tryz.ag27 Tryz.sz27 rfl) rfl ?_
  refine tl_p (pr_move rfl) rfl ?_
  refine tl_buildS Tryz.sf25 Tryz.z3 rfl (.cons rfl (.cons rfl .nil)) rfl rfl rfl rfl rfl (kk := fun s8 hs8 ms8 => ?_)
  refine tl_rdS (f193_ct _ _ _ (by first | assumption | decide) _ [1, 8] (by first | assumption | exact Sow.toSok (by assumption))) (.cons rfl (.cons rfl (.cons rfl (.cons rfl .nil)))) rfl (kk := ?_)
  refine tl_p (pr_extract rfl rfl) rfl ?_
  refine tl_p (pr_extract rfl rfl) rfl ?_
  refine tl_p (pr_assign rfl) rfl ?_
  refine tl_p (pr_assign rfl) rfl ?_
  refine tl_next ?_
  refine tc_ret ?_
  exact tq_ret2 .ret (.inl rfl) () rfl rfl rfl rfl

theorem f212_ct (c : Cap) (o : Int) : Rd Tryz.prog 212 #[c.v, .int .i64 o] [] [] (ii (aeven c (permOf [2, 16]) o 16)) := by
  refine ct_intro Tryz.func212 rfl (by kernel_rfl) (n := 12) rfl rfl (E := [(0, c.v), (1, .int .i64 o)]) rfl ?_
  intro κ hro
  refine tc_seq ?_
  refine tc_region ?_
  refine tl_box rfl rfl (fun b2 => ?_)
  refine tl_p (pr_assign rfl) rfl ?_
  refine tl_p (pr_assign rfl) rfl ?_
  refine tl_next ?_
  refine tc_seq ?_
  refine tc_region ?_
  refine tl_p (by first | exact pr_loadW Tryz.ag27 Tryz.sz27 rfl | exact pr_ldA Tryz.ag27 Tryz.sz27 rfl) rfl ?_
  refine tl_p (pr_move rfl) rfl ?_
  refine tl_buildS Tryz.sf25 Tryz.z3 rfl (.cons rfl (.cons rfl .nil)) rfl rfl rfl rfl rfl (kk := fun s8 hs8 ms8 => ?_)
  refine tl_rdS (f193_ct _ _ _ (by first | assumption | decide) _ [2, 16] (by first | assumption | exact Sow.toSok (by assumption))) (.cons rfl (.cons rfl (.cons rfl (.cons rfl .nil)))) rfl (kk := ?_)
  refine tl_p (pr_extract rfl rfl) rfl ?_
  refine tl_p (pr_extract rfl rfl) rfl ?_
  refine tl_p (pr_assign rfl) rfl ?_
  refine tl_p (pr_assign rfl) rfl ?_
  refine tl_next ?_
  refine tc_ret ?_
  exact tq_ret2 .ret (.inl rfl) () rfl rfl rfl rfl

theorem f63_ct (c : Cap) (n : Int) : Rd Tryz.prog 63 #[c.v, .int .i64 n] [] [] (cb (astep c n)) := by
  refine ct_intro Tryz.func63 rfl (by kernel_rfl) (n := 49) rfl rfl (E := [(0, c.v), (1, .int .i64 n)]) rfl ?_
  intro κ hro
  refine tc_seq ?_
  refine tc_region ?_
  refine tl_box rfl rfl (fun b2 => ?_)
  refine tl_alloc Tryz.z27 rfl (fun b4 => ?_)
  refine tl_p (pr_assign rfl) rfl ?_
  refine tl_next ?_
  refine tc_seq ?_
  refine tc_seq ?_
  refine tc_region ?_
  refine tl_p (by first | exact pr_loadW Tryz.ag27 Tryz.sz27 rfl | exact pr_ldA Tryz.ag27 Tryz.sz27 rfl) rfl ?_
  refine tl_rdS (f59_ct _) (.cons rfl .nil) rfl (kk := ?_)
  refine tl_p (pr_not rfl) rfl ?_
  refine tl_p (pr_move rfl) rfl ?_
  refine tl_gf rfl rfl (fun h => pr_fieldAddr Tryz.fo27_0 rfl) (by intro _ h; cases h) rfl ?_
  refine tl_gf rfl rfl (fun h => pr_ld Tryz.ag4 (gv rfl h)) (by intro _ h; cases h) rfl ?_
  refine tl_gf rfl rfl (fun h => pr_not (gv rfl h)) (by intro _ h; cases h) rfl ?_
  refine tl_p (pr_or rfl rfl rfl) rfl ?_
  refine tl_p (pr_move rfl) rfl ?_
  refine tl_gf rfl rfl (fun h => pr_fieldAddr Tryz.fo27_5 rfl) (by intro _ h; cases h) rfl ?_
  refine tl_gf rfl rfl (fun h => pr_ld Tryz.ag3 (gv rfl h)) (by intro _ h; cases h) rfl ?_
  refine tl_gf rfl rfl (fun h => pr_neq (gv rfl h) rfl) (by intro _ h; cases h) rfl ?_
  refine tl_p (pr_or rfl rfl rfl) rfl ?_
  refine tl_p (pr_move rfl) rfl ?_
  refine tl_gf rfl rfl (fun h => pr_move rfl) (by intro _ h; cases h) rfl ?_
  refine tl_rdgfS rfl rfl (fun h => ⟨f123_ct _, .cons (gv rfl h) .nil⟩) rfl (kk := ?_)
  refine tl_gf rfl rfl (fun h => pr_not (gv rfl h)) (by intro _ h; cases h) rfl ?_
  refine tl_p (pr_or rfl rfl rfl) rfl ?_
  refine tl_p (pr_move rfl) rfl ?_
  refine tl_gf rfl rfl (fun h => pr_fieldAddr Tryz.fo27_3 rfl) (by intro _ h; cases h) rfl ?_
  refine tl_gf rfl rfl (fun h => pr_ld Tryz.ag3 (gv rfl h)) (by intro _ h; cases h) rfl ?_
  refine tl_gf rfl rfl (fun h => pr_move rfl) (by intro _ h; cases h) rfl ?_
  refine tl_gf rfl rfl (fun h => pr_add (gv rfl h) (gv rfl h)) (by intro _ h; cases h) rfl ?_
  refine tl_gf rfl rfl (fun h => pr_fieldAddr Tryz.fo27_1 rfl) (by intro _ h; cases h) rfl ?_
  refine tl_gf rfl rfl (fun h => pr_ld Tryz.ag3 (gv rfl h)) (by intro _ h; cases h) rfl ?_
  refine tl_gf rfl rfl (fun h => pr_lss (gv rfl h) (gv rfl h)) (by intro _ h; cases h) rfl ?_
  refine tl_p (pr_or rfl rfl rfl) rfl ?_
  refine tl_p (pr_move rfl) rfl ?_
  refine tl_gf rfl rfl (fun h => pr_fieldAddr Tryz.fo27_3 rfl) (by intro _ h; cases h) rfl ?_
  refine tl_gf rfl rfl (fun h => pr_ld Tryz.ag3 (gv rfl h)) (by intro _ h; cases h) rfl ?_
  refine tl_gf rfl rfl (fun h => pr_move rfl) (by intro _ h; cases h) rfl ?_
  refine tl_gf rfl rfl (fun h => pr_add (gv rfl h) (gv rfl h)) (by intro _ h; cases h) rfl ?_
  refine tl_gf rfl rfl (fun h => pr_fieldAddr Tryz.fo27_2 rfl) (by intro _ h; cases h) rfl ?_
  refine tl_gf rfl rfl (fun h => pr_ld Tryz.ag3 (gv rfl h)) (by intro _ h; cases h) rfl ?_
  refine tl_gf rfl rfl (fun h => pr_gtr (gv rfl h) (gv rfl h)) (by intro _ h; cases h) rfl ?_
  refine tl_p (pr_or rfl rfl rfl) rfl ?_
  refine tl_next ?_
  refine tc_if rfl (fun hc1 => ?_) (fun hc1 => ?_)
  · have hd1 := hc1
    try simp only [Bool.not_eq_true', Bool.not_eq_false', Bool.or_eq_true, Bool.and_eq_true, Bool.or_eq_false_iff, Bool.and_eq_false_iff, decide_eq_true_eq, decide_eq_false_iff_not, Bool.not_true, Bool.not_false, gval, Bool.not_eq_eq_eq_not] at hc1
    refine tc_seq ?_
    refine tc_region ?_
    refine tl_p (Tryz.bl27_ ) rfl ?_
    refine tl_storeW Tryz.sz27 rfl rfl (k := ?_)
    refine tl_p (pr_assign rfl) rfl ?_
    refine tl_next ?_
    refine tc_ret (tq_then_ret ?_)
    exact tq_retG .ret (.inl rfl) () rfl (.cellA Tryz.ag27 Tryz.sz27 rfl (.tmp rfl .nil)) (by first | rfl | (subst_vars; rfl) | (simp [astep, wI, *, cells_agg, resV, Cap.v]; done) | (simp [astep, wI, *, cells_agg, resV, Cap.v]; omega) | (unfold astep; split <;> first | rfl | (exfalso; simp_all; done) | (exfalso; simp_all [wI]; first | done | omega)))
  · have hd1 := hc1
    try simp only [Bool.not_eq_true', Bool.not_eq_false', Bool.or_eq_true, Bool.and_eq_true, Bool.or_eq_false_iff, Bool.and_eq_false_iff, decide_eq_true_eq, decide_eq_false_iff_not, Bool.not_true, Bool.not_false, gval, Bool.not_eq_eq_eq_not] at hc1
    refine tc_skip (tq_next ?_)
    refine tc_seq ?_
    refine tc_region ?_
    refine tl_p (pr_fieldAddr Tryz.fo27_3 rfl) rfl ?_
    refine tl_p (pr_ld Tryz.ag3 rfl) rfl ?_
    refine tl_p (pr_move rfl) rfl ?_
    refine tl_p (pr_add rfl rfl) rfl ?_
    refine tl_p (pr_fieldAddr Tryz.fo27_3 rfl) rfl ?_
    refine tl_st Tryz.sz3 rfl rfl (k := ?_)
    refine tl_next ?_
    refine tc_seq ?_
    refine tc_region ?_
    refine tl_p (by first | exact pr_loadW Tryz.ag27 Tryz.sz27 rfl | exact pr_ldA Tryz.ag27 Tryz.sz27 rfl) rfl ?_
    refine tl_storeW Tryz.sz27 rfl rfl (k := ?_)
    refine tl_p (pr_assign rfl) rfl ?_
    refine tl_next ?_
    refine tc_ret ?_
    exact tq_retG .ret (.inl rfl) () rfl (.cellA Tryz.ag27 Tryz.sz27 rfl (.tmp rfl .nil)) (by first | rfl | (subst_vars; rfl) | (simp [astep, wI, *, cells_agg, resV, Cap.v]; done) | (simp [astep, wI, *, cells_agg, resV, Cap.v]; omega) | (unfold astep; split <;> first | rfl | (exfalso; simp_all; done) | (exfalso; simp_all [wI]; first | done | omega)))

theorem f260_ct (s : Shp) (l : List Must) (hs : Sok 2 s l.length (mustsL l)) : Rd Tryz.prog 260 #[sv s l.length] (ra s (mustsL l)) [] (.int .i64 (mfirst l)) := by
  refine ct_intro Tryz.func260 rfl (by kernel_rfl) (n := 17) rfl rfl (E := [(0, sv s l.length)]) rfl ?_
  intro κ hro
  have hb := hs.bnd
  refine tc_seq ?_
  refine tc_region ?_
  refine tl_p (pr_assign rfl) rfl ?_
  refine tl_next ?_
  refine tc_seq ?_
  refine tc_seq ?_
  refine tc_region ?_
  refine tl_p (pr_move rfl) rfl ?_
  refine tl_p (pr_lenS Tryz.sf241 rfl) rfl ?_
  refine tl_p (pr_move rfl) rfl ?_
  refine tl_next ?_
  refine tc_block ?_
  refine tc_loopP (X := Nat) (fun j => j ≤ l.length ∧ mfirst (l.drop j) = mfirst l) (fun j => [(5, sv s l.length), (6, .int .i64 l.length), (7, .int .i64 (j : Int))]) (fun j => []) (fun j => l.length - j) 0 ⟨by omega, rfl⟩ (.cons rfl (.cons rfl (.cons rfl .nil))) (fun j hj => ?_)
  have hj1 := hj.1
  refine tc_seq ?_
  refine tc_region ?_
  refine tl_p (pr_lss rfl rfl) rfl ?_
  refine tl_next ?_
  refine tc_seq ?_
  refine tc_if rfl (fun hc1 => ?_) (fun hc1 => ?_)
  · have hd1 := hc1
    try simp only [Bool.not_eq_true', Bool.not_eq_false', Bool.or_eq_true, Bool.and_eq_true, Bool.or_eq_false_iff, Bool.and_eq_false_iff, decide_eq_true_eq, decide_eq_false_iff_not, Bool.not_true, Bool.not_false, gval, Bool.not_eq_eq_eq_not] at hc1
    refine tc_skip (tq_next ?_)
    refine tc_seq ?_
    refine tc_block ?_
    refine tc_seq ?_
    refine tc_region ?_
    refine tl_p (pr_ixE Tryz.sl241 rfl rfl) rfl ?_
    refine tl_p (pr_ldEA Tryz.ag236 Tryz.sz236 rfl (c := mustsL l) (m := mustL (l[j]'(by omega))) (fm_le must_len l j (by omega)) (fm_cut must_len l j (by simp))) rfl ?_
    refine tl_alloc Tryz.z236 rfl (fun b4 => ?_)
    refine tl_storeW Tryz.sz236 rfl rfl (k := ?_)
    refine tl_next ?_
    refine tc_seq ?_
    refine tc_region ?_
    refine tl_p (pr_fieldAddr Tryz.fo236_0 rfl) rfl ?_
    refine tl_p (pr_ld Tryz.ag4 rfl) rfl ?_
    refine tl_p (pr_not rfl) rfl ?_
    refine tl_next ?_
    refine tc_if rfl (fun hc2 => ?_) (fun hc2 => ?_)
    · have hd2 := hc2
      try simp only [Bool.not_eq_true', Bool.not_eq_false', Bool.or_eq_true, Bool.and_eq_true, Bool.or_eq_false_iff, Bool.and_eq_false_iff, decide_eq_true_eq, decide_eq_false_iff_not, Bool.not_true, Bool.not_false, gval, Bool.not_eq_eq_eq_not] at hc2
      refine tc_seq ?_
      refine tc_region ?_
      refine tl_p (pr_fieldAddr Tryz.fo236_1 rfl) rfl ?_
      refine tl_p (pr_ld Tryz.ag44 rfl) rfl ?_
      refine tl_p (pr_assign rfl) rfl ?_
      refine tl_next ?_
      refine tc_ret (tq_blk_ret (tq_then_ret (tq_then_ret (tq_blk_ret (tq_then_ret ?_)))))
      exact tq_ret1 .ret (.inl rfl) () rfl (by rw [← hj.2, mfirst_drop (l := l) (j := j) (by omega), if_neg (by simpa using hc2)]; rfl)
    · have hd2 := hc2
      try simp only [Bool.not_eq_true', Bool.not_eq_false', Bool.or_eq_true, Bool.and_eq_true, Bool.or_eq_false_iff, Bool.and_eq_false_iff, decide_eq_true_eq, decide_eq_false_iff_not, Bool.not_true, Bool.not_false, gval, Bool.not_eq_eq_eq_not] at hc2
      refine tc_skip (tq_blk_normal (tq_next ?_))
      refine tc_region ?_
      refine tl_p (pr_addN rfl rfl (by omega)) rfl ?_
      refine tl_p (pr_move rfl) rfl ?_
      refine tl_nil ?_
      exact tq_roundP (j + 1) ⟨by omega, by rw [← hj.2, mfirst_drop (l := l) (j := j) (by omega), if_pos (by first | assumption | simpa using hc2)]⟩ (by omega) (.cons rfl (.cons rfl (.cons rfl .nil)))
  · have hd1 := hc1
    try simp only [Bool.not_eq_true', Bool.not_eq_false', Bool.or_eq_true, Bool.and_eq_true, Bool.or_eq_false_iff, Bool.and_eq_false_iff, decide_eq_true_eq, decide_eq_false_iff_not, Bool.not_true, Bool.not_false, gval, Bool.not_eq_eq_eq_not] at hc1
    refine tc_exit (tq_then_exit (tq_then_exit (tq_blk_here ?_)))
    refine tq_next ?_
    refine tc_seq ?_
    refine tc_region ?_
    refine tl_p (pr_assign rfl) rfl ?_
    refine tl_next ?_
    refine tc_ret ?_
    exact tq_ret1 .ret (.inl rfl) () rfl (by have e : j = l.length := (by omega); rw [← hj.2, e, List.drop_length]; rfl)

theorem f243_ct (c : Cap) : Rd Tryz.prog 243 #[c.v] [] [] (mustV (mRight c)) := by
  refine ct_intro Tryz.func243 rfl (by kernel_rfl) (n := 6) rfl rfl (E := [(0, c.v)]) rfl ?_
  intro κ hro
  refine tc_seq ?_
  refine tc_region ?_
  refine tl_box rfl rfl (fun b1 => ?_)
  refine tl_alloc Tryz.z236 rfl (fun b2 => ?_)
  refine tl_next ?_
  refine tc_seq ?_
  refine tc_region ?_
  refine tl_p (by first | exact pr_loadW Tryz.ag27 Tryz.sz27 rfl | exact pr_ldA Tryz.ag27 Tryz.sz27 rfl) rfl ?_
  refine tl_rdS (f59_ct _) (.cons rfl .nil) rfl (kk := ?_)
  refine tl_p (Tryz.bl236_0_1 rfl rfl) rfl ?_
  refine tl_storeW Tryz.sz236 rfl rfl (k := ?_)
  refine tl_next ?_
  refine tc_ret ?_
  exact tq_retG .ret (.inl rfl) () rfl (.cellA Tryz.ag236 Tryz.sz236 rfl .nil) rfl

theorem f250_ct (c : Cap) : Rd Tryz.prog 250 #[c.v] [] [] (mustV (mTag c)) := by
  refine ct_intro Tryz.func250 rfl (by kernel_rfl) (n := 6) rfl rfl (E := [(0, c.v)]) rfl ?_
  intro κ hro
  refine tc_seq ?_
  refine tc_region ?_
  refine tl_box rfl rfl (fun b1 => ?_)
  refine tl_alloc Tryz.z236 rfl (fun b2 => ?_)
  refine tl_next ?_
  refine tc_seq ?_
  refine tc_region ?_
  refine tl_p (pr_fieldAddr Tryz.fo27_0 rfl) rfl ?_
  refine tl_p (pr_ld Tryz.ag4 rfl) rfl ?_
  refine tl_p (Tryz.bl236_0_1 rfl rfl) rfl ?_
  refine tl_storeW Tryz.sz236 rfl rfl (k := ?_)
  refine tl_next ?_
  refine tc_ret ?_
  exact tq_retG .ret (.inl rfl) () rfl (.cellA Tryz.ag236 Tryz.sz236 rfl .nil) rfl

theorem f251_ct (c : Cap) (b : Bool) : Rd Tryz.prog 251 #[c.v, .bool b] [] [] (mustV (mSealed c b)) := by
  refine ct_intro Tryz.func251 rfl (by kernel_rfl) (n := 11) rfl rfl (E := [(0, c.v), (1, .bool b)]) rfl ?_
  intro κ hro
  refine tc_seq ?_
  refine tc_region ?_
  refine tl_box rfl rfl (fun b2 => ?_)
  refine tl_alloc Tryz.z236 rfl (fun b4 => ?_)
  refine tl_next ?_
  refine tc_seq ?_
  refine tc_region ?_
  refine tl_p (pr_fieldAddr Tryz.fo27_5 rfl) rfl ?_
  refine tl_p (pr_ld Tryz.ag3 rfl) rfl ?_
  refine tl_p (pr_neq rfl rfl) rfl ?_
  refine tl_p (pr_move rfl) rfl ?_
  refine tl_p (pr_eqlB Tryz.underlying4 rfl rfl) rfl ?_
  refine tl_p (Tryz.bl236_0_1 rfl rfl) rfl ?_
  refine tl_storeW Tryz.sz236 rfl rfl (k := ?_)
  refine tl_next ?_
  refine tc_ret ?_
  exact tq_retG .ret (.inl rfl) () rfl (.cellA Tryz.ag236 Tryz.sz236 rfl .nil) rfl

theorem f254_ct (c : Cap) (p : Int) : Rd Tryz.prog 254 #[c.v, .int .i64 p] [] [] (mustV (mHas c p)) := by
  refine ct_intro Tryz.func254 rfl (by kernel_rfl) (n := 10) rfl rfl (E := [(0, c.v), (1, .int .i64 p)]) rfl ?_
  intro κ hro
  refine tc_seq ?_
  refine tc_region ?_
  refine tl_box rfl rfl (fun b2 => ?_)
  refine tl_alloc Tryz.z236 rfl (fun b4 => ?_)
  refine tl_next ?_
  refine tc_seq ?_
  refine tc_region ?_
  refine tl_p (pr_fieldAddr Tryz.fo27_4 rfl) rfl ?_
  refine tl_p (pr_ld Tryz.ag3 rfl) rfl ?_
  refine tl_p (pr_move rfl) rfl ?_
  refine tl_rdS (f110_ct _ _) (.cons rfl (.cons rfl .nil)) rfl (kk := ?_)
  refine tl_p (Tryz.bl236_0_1 rfl rfl) rfl ?_
  refine tl_storeW Tryz.sz236 rfl rfl (k := ?_)
  refine tl_next ?_
  refine tc_ret ?_
  exact tq_retG .ret (.inl rfl) () rfl (.cellA Tryz.ag236 Tryz.sz236 rfl .nil) rfl

theorem f246_ct (c : Cap) (n : Int) : Rd Tryz.prog 246 #[c.v, .int .i64 n] [] [] (mustV (mSpans c n)) := by
  refine ct_intro Tryz.func246 rfl (by kernel_rfl) (n := 11) rfl rfl (E := [(0, c.v), (1, .int .i64 n)]) rfl ?_
  intro κ hro
  refine tc_seq ?_
  refine tc_region ?_
  refine tl_box rfl rfl (fun b2 => ?_)
  refine tl_alloc Tryz.z236 rfl (fun b4 => ?_)
  refine tl_next ?_
  refine tc_seq ?_
  refine tc_region ?_
  refine tl_p (by first | exact pr_loadW Tryz.ag27 Tryz.sz27 rfl | exact pr_ldA Tryz.ag27 Tryz.sz27 rfl) rfl ?_
  refine tl_p (pr_fieldAddr Tryz.fo27_3 rfl) rfl ?_
  refine tl_p (pr_ld Tryz.ag3 rfl) rfl ?_
  refine tl_p (pr_move rfl) rfl ?_
  refine tl_rdS (f237_ct _ _ _) (.cons rfl (.cons rfl (.cons rfl .nil))) rfl (kk := ?_)
  refine tl_p (Tryz.bl236_0_1 rfl rfl) rfl ?_
  refine tl_storeW Tryz.sz236 rfl rfl (k := ?_)
  refine tl_next ?_
  refine tc_ret ?_
  exact tq_retG .ret (.inl rfl) () rfl (.cellA Tryz.ag236 Tryz.sz236 rfl .nil) rfl

end Go.Proofs

namespace Go.Proofs
open Go Go.Sz
attribute [local irreducible] pt lift exs own emp

abbrev capO (c : Cap) : Obj := .cells #[.bool c.tag, .int .i64 c.base, .int .i64 c.top, .int .i64 c.pos, .int .i64 c.perms, .int .i64 c.typ] 27 (0, 0)
abbrev intO (n : Int) : Obj := .cells #[.int .i64 n] 3 (0, 0)
def dMove (c : Cap) (p : Int) : Cap × Int := made c { c with pos := (intC p).pos } [mRight c, (!c.tag || decide (c.typ = 0), 42)]
def dBounds (c : Cap) (n : Int) : Cap × Int := made c { c with base := c.pos, top := wI (c.pos + n) } (mUsed c ++ [mSpans c n])
def dPerms (c : Cap) (p : Int) : Cap × Int := made c { c with perms := bAnd .i64 c.perms p } (mUsed c ++ [(permRight p, 1)])
def dSeal (c y : Cap) : Cap × Int := made c { c with typ := y.pos } (mUsed c ++ mAuth y 32)
def dUnseal (c y : Cap) : Cap × Int := made c { c with typ := 0 } ([mRight c, mTag c, mSealed c true] ++ mAuth y 64 ++ [(decide (y.pos = c.typ), 45)])
def dEnter (c : Cap) : Cap × Int := made c { c with typ := 1 } (mUsed c ++ [mHas c 4])

theorem f245_ct (c : Cap) : Ct Tryz.prog 245 #[c.v] [] [] (X := {s : Shp // Sow 2 s 3 (mustsL (mUsed c))}) (fun x => sv x.1 3) (fun x N => sl x.1 (mustsL (mUsed c)) :: N) := by
  refine ct_intro Tryz.func245 rfl (by kernel_rfl) (n := 10) rfl rfl (E := [(0, c.v)]) rfl ?_
  intro κ hro
  refine tc_seq ?_
  refine tc_region ?_
  refine tl_box rfl rfl (fun b1 => ?_)
  refine tl_p (pr_assign rfl) rfl ?_
  refine tl_next ?_
  refine tc_seq ?_
  refine tc_draw Tryz.mixed [0, 1, 2, 3, 4, 5] (by kernel_rfl) ?_
  refine td_q 0 3 (pm_of rfl rfl rfl (fun _ kq => tl_p (by first | exact pr_loadW Tryz.ag27 Tryz.sz27 rfl | exact pr_ldA Tryz.ag27 Tryz.sz27 rfl) rfl kq)) rfl rfl rfl ?_
  refine td_q 1 4 (pm_of rfl rfl rfl (fun _ kq => tl_rdS (f243_ct _) (.cons rfl .nil) rfl (kk := kq))) rfl rfl rfl ?_
  refine td_q 2 5 (pm_of rfl rfl rfl (fun _ kq => tl_p (by first | exact pr_loadW Tryz.ag27 Tryz.sz27 rfl | exact pr_ldA Tryz.ag27 Tryz.sz27 rfl) rfl kq)) rfl rfl rfl ?_
  refine td_q 3 6 (pm_of rfl rfl rfl (fun _ kq => tl_rdS (f250_ct _) (.cons rfl .nil) rfl (kk := kq))) rfl rfl rfl ?_
  refine td_q 4 7 (pm_of rfl rfl rfl (fun _ kq => tl_p (by first | exact pr_loadW Tryz.ag27 Tryz.sz27 rfl | exact pr_ldA Tryz.ag27 Tryz.sz27 rfl) rfl kq)) rfl rfl rfl ?_
  refine td_q 5 8 (pm_of rfl rfl rfl (fun _ kq => tl_rdS (f251_ct _ _) (.cons rfl (.cons rfl .nil)) rfl (kk := kq))) rfl rfl rfl ?_
  refine td_e1 6 (by kernel_rfl) ?_
  refine te rfl ?_
  refine tl_buildS Tryz.sf241 Tryz.z236 rfl (.cons rfl (.cons rfl (.cons rfl .nil))) rfl rfl rfl rfl rfl (kk := fun s9 hs9 ms9 => ?_)
  refine td_next (pd := []) (by kernel_rfl) (.nil) ?_
  refine td_e1 7 (by kernel_rfl) ?_
  refine te rfl ?_
  refine tl_p (pr_assign rfl) rfl ?_
  refine td_next (pd := []) (by kernel_rfl) (.nil) ?_
  refine td_done (by kernel_rfl) ?_
  refine tq_next ?_
  refine tc_ret ?_
  exact tq_ret1 .ret (.inl rfl) ⟨_, hs9⟩ rfl rfl

theorem f249_ct (c : Cap) (p : Int) : Ct Tryz.prog 249 #[c.v, .int .i64 p] [] [] (X := {s : Shp // Sow 2 s 6 (mustsL (mAuth c p))}) (fun x => sv x.1 6) (fun x N => sl x.1 (mustsL (mAuth c p)) :: N) := by
  refine ct_intro Tryz.func249 rfl (by kernel_rfl) (n := 23) rfl rfl (E := [(0, c.v), (1, .int .i64 p)]) rfl ?_
  intro κ hro
  refine tc_seq ?_
  refine tc_region ?_
  refine tl_box rfl rfl (fun b2 => ?_)
  refine tl_p (pr_assign rfl) rfl ?_
  refine tl_next ?_
  refine tc_seq ?_
  refine tc_draw Tryz.mixed [0, 2, 3, 4, 5, 6, 7, 8, 9, 10, 11, 12, 13, 14, 15] (by kernel_rfl) ?_
  refine td_q 0 5 (pm_of rfl rfl rfl (fun _ kq => tl_p (by first | exact pr_loadW Tryz.ag27 Tryz.sz27 rfl | exact pr_ldA Tryz.ag27 Tryz.sz27 rfl) rfl kq)) rfl rfl rfl ?_
  refine td_q 2 7 (pm_of rfl rfl rfl (fun _ kq => tl_p (by first | exact pr_loadW Tryz.ag27 Tryz.sz27 rfl | exact pr_ldA Tryz.ag27 Tryz.sz27 rfl) rfl kq)) rfl rfl rfl ?_
  refine td_q 3 8 (pm_of rfl rfl rfl (fun _ kq => tl_p (pr_move rfl) rfl kq)) rfl rfl rfl ?_
  refine td_q 5 10 (pm_of rfl rfl rfl (fun _ kq => tl_p (by first | exact pr_loadW Tryz.ag27 Tryz.sz27 rfl | exact pr_ldA Tryz.ag27 Tryz.sz27 rfl) rfl kq)) rfl rfl rfl ?_
  refine td_q 7 12 (pm_of rfl rfl rfl (fun _ kq => tl_p (pr_fieldAddr Tryz.fo27_3 rfl) rfl kq)) rfl rfl rfl ?_
  refine td_q 8 13 (pm_of rfl rfl rfl (fun _ kq => tl_p (pr_ld Tryz.ag3 rfl) rfl kq)) rfl rfl rfl ?_
  refine td_q 9 14 (pm_of rfl rfl rfl (fun _ kq => tl_p (pr_geq rfl rfl) rfl kq)) rfl rfl rfl ?_
  refine td_e1 1 (by kernel_rfl) ?_
  refine te rfl ?_
  refine tl_callS (f245_ct _) (.cons rfl .nil) rfl (kk := fun ⟨s6, hs6⟩ => ?_)
  refine td_next (pd := [9, 8, 7, 5, 3, 2]) (by kernel_rfl) (.cons rfl (pm_of rfl rfl rfl (fun _ kq => tl_p (pr_geq rfl rfl) rfl kq)) (.cons rfl (pm_of rfl rfl rfl (fun _ kq => tl_p (pr_ld Tryz.ag3 rfl) rfl kq)) (.cons rfl (pm_of rfl rfl rfl (fun _ kq => tl_p (pr_fieldAddr Tryz.fo27_3 rfl) rfl kq)) (.cons rfl (pm_of rfl rfl rfl (fun _ kq => tl_p (by first | exact pr_loadW Tryz.ag27 Tryz.sz27 rfl | exact pr_ldA Tryz.ag27 Tryz.sz27 rfl) rfl kq)) (.cons rfl (pm_of rfl rfl rfl (fun _ kq => tl_p (pr_move rfl) rfl kq)) (.cons rfl (pm_of rfl rfl rfl (fun _ kq => tl_p (by first | exact pr_loadW Tryz.ag27 Tryz.sz27 rfl | exact pr_ldA Tryz.ag27 Tryz.sz27 rfl) rfl kq)) .nil)))))) ?_
  refine td_q 4 9 (pm_of rfl rfl rfl (fun _ kq => tl_rdS (f254_ct _ _) (.cons rfl (.cons rfl .nil)) rfl (kk := kq))) rfl rfl rfl ?_
  refine td_q 6 11 (pm_of rfl rfl rfl (fun _ kq => tl_rdS (f246_ct _ _) (.cons rfl (.cons rfl .nil)) rfl (kk := kq))) rfl rfl rfl ?_
  refine td_q 10 15 (pm_of rfl rfl rfl (fun _ kq => tl_p (pr_move rfl) rfl kq)) rfl rfl rfl ?_
  refine td_q 11 16 (pm_of rfl rfl rfl (fun _ kq => tl_gt rfl rfl (fun h => pr_fieldAddr Tryz.fo27_3 rfl) (by intro _ h; cases h) rfl kq)) rfl rfl rfl ?_
  refine td_q 12 17 (pm_of rfl rfl rfl (fun _ kq => tl_gt rfl rfl (fun h => pr_ld Tryz.ag3 (gv rfl h)) (by intro _ h; cases h) rfl kq)) rfl rfl rfl ?_
  refine td_q 13 18 (pm_of rfl rfl rfl (fun _ kq => tl_gt rfl rfl (fun h => pr_leq (gv rfl h) rfl) (by intro _ h; cases h) rfl kq)) rfl rfl rfl ?_
  refine td_q 14 19 (pm_of rfl rfl rfl (fun _ kq => tl_p (pr_and rfl rfl rfl) rfl kq)) rfl rfl rfl ?_
  refine td_q 15 20 (pm_of rfl rfl rfl (fun _ kq => tl_p (Tryz.bl236_0_1 rfl rfl) rfl kq)) rfl rfl rfl ?_
  refine td_e1 16 (by kernel_rfl) ?_
  refine te rfl ?_
  refine tl_buildS Tryz.sf241 Tryz.z236 rfl (.cons rfl (.cons rfl (.cons rfl .nil))) rfl rfl rfl rfl rfl (kk := fun s21 hs21 ms21 => ?_)
  refine td_next (pd := []) (by kernel_rfl) (.nil) ?_
  refine td_e1 17 (by kernel_rfl) ?_
  refine te rfl ?_
  refine tl_append Tryz.sf241 Tryz.z236 rfl rfl rfl (by assumption) (Sow.toSok (by assumption)) rfl (by omega) rfl (kk := fun s22 hs22 => ?_)
  refine td_next (pd := []) (by kernel_rfl) (.nil) ?_
  refine td_e1 18 (by kernel_rfl) ?_
  refine te rfl ?_
  refine tl_p (pr_assign rfl) rfl ?_
  refine td_next (pd := []) (by kernel_rfl) (.nil) ?_
  refine td_done (by kernel_rfl) ?_
  refine tq_next ?_
  refine tc_ret ?_
  exact tq_ret1 .ret (.inl rfl) ⟨_, hs22⟩ rfl rfl

theorem f242_ct (b q : Nat) (c : Cap) (p : Int) : Ct Tryz.prog 242 #[ad b 0, ad q 0] [(q, intO p)] [pt b (capO c)] (fun _ : Unit => .tuple #[]) (fun _ N => pt b (capO ({ c with pos := (intC p).pos })) :: N) := by
  refine ct_intro Tryz.func242 rfl (by kernel_rfl) (n := 9) rfl rfl (E := [(0, ad b 0), (1, ad q 0)]) rfl ?_
  intro κ hro
  have hq : κ.frame q = some (intO p) := hro _ (List.Mem.head _)
  refine tc_region ?_
  refine tl_p (pr_move rfl) rfl ?_
  refine tl_p (pr_ld Tryz.ag3 rfl) rfl ?_
  refine tl_rdS (f149_ct _) (.cons rfl .nil) rfl (kk := ?_)
  refine tl_rdS (f68_ct _) (.cons rfl .nil) rfl (kk := ?_)
  refine tl_p (pr_nilCheck rfl) rfl ?_
  refine tl_p (pr_fieldAddr Tryz.fo27_3 rfl) rfl ?_
  refine tl_st Tryz.sz3 rfl rfl (k := ?_)
  refine tl_nil ?_
  exact tq_ret0 .normal (.inr rfl) () rfl rfl

theorem f244_ct (b q : Nat) (c : Cap) (n : Int) : Ct Tryz.prog 244 #[ad b 0, ad q 0] [(q, intO n)] [pt b (capO c)] (fun _ : Unit => .tuple #[]) (fun _ N => pt b (capO ({ c with base := c.pos, top := wI (c.pos + n) })) :: N) := by
  refine ct_intro Tryz.func244 rfl (by kernel_rfl) (n := 19) rfl rfl (E := [(0, ad b 0), (1, ad q 0)]) rfl ?_
  intro κ hro
  have hq : κ.frame q = some (intO n) := hro _ (List.Mem.head _)
  refine tc_draw Tryz.mixed [0, 1, 2, 3, 4, 5, 6, 7, 8, 9, 10, 11, 12, 13, 15, 16] (by kernel_rfl) ?_
  refine td_q 0 3 (pm_of rfl rfl rfl (fun _ kq => tl_p (pr_move rfl) rfl kq)) rfl rfl rfl ?_
  refine td_q 1 4 (pm_of rfl rfl rfl (fun _ kq => tl_p (pr_move rfl) rfl kq)) rfl rfl rfl ?_
  refine td_q 2 5 (pm_of rfl rfl rfl (fun _ kq => tl_p (pr_move rfl) rfl kq)) rfl rfl rfl ?_
  refine td_q 3 6 (pm_of rfl rfl rfl (fun _ kq => tl_p (pr_nilCheck rfl) rfl kq)) rfl rfl rfl ?_
  refine td_q 4 7 (pm_of rfl rfl rfl (fun _ kq => tl_p (pr_fieldAddr Tryz.fo27_3 rfl) rfl kq)) rfl rfl rfl ?_
  refine td_q 5 8 (pm_of rfl rfl rfl (fun _ kq => tl_p (pr_ld Tryz.ag3 rfl) rfl kq)) rfl rfl rfl ?_
  refine td_q 6 9 (pm_of rfl rfl rfl (fun _ kq => tl_p (pr_move rfl) rfl kq)) rfl rfl rfl ?_
  refine td_q 7 10 (pm_of rfl rfl rfl (fun _ kq => tl_p (pr_nilCheck rfl) rfl kq)) rfl rfl rfl ?_
  refine td_q 8 11 (pm_of rfl rfl rfl (fun _ kq => tl_p (pr_fieldAddr Tryz.fo27_3 rfl) rfl kq)) rfl rfl rfl ?_
  refine td_q 9 12 (pm_of rfl rfl rfl (fun _ kq => tl_p (pr_ld Tryz.ag3 rfl) rfl kq)) rfl rfl rfl ?_
  refine td_q 10 13 (pm_of rfl rfl rfl (fun _ kq => tl_p (pr_ld Tryz.ag3 rfl) rfl kq)) rfl rfl rfl ?_
  refine td_q 11 14 (pm_of rfl rfl rfl (fun _ kq => tl_p (pr_add rfl rfl) rfl kq)) rfl rfl rfl ?_
  refine td_q 12 15 (pm_of rfl rfl rfl (fun _ kq => tl_p (pr_nilCheck rfl) rfl kq)) rfl rfl rfl ?_
  refine td_q 13 16 (pm_of rfl rfl rfl (fun _ kq => tl_p (pr_fieldAddr Tryz.fo27_1 rfl) rfl kq)) rfl rfl rfl ?_
  refine td_e1 14 (by kernel_rfl) ?_
  refine te rfl ?_
  refine tl_st Tryz.sz3 rfl rfl (k := ?_)
  refine td_next (pd := [11, 10, 1]) (by kernel_rfl) (.cons rfl (pm_of rfl rfl rfl (fun _ kq => tl_p (pr_add rfl rfl) rfl kq)) (.cons rfl (pm_of rfl rfl rfl (fun _ kq => tl_p (pr_ld Tryz.ag3 rfl) rfl kq)) (.cons rfl (pm_of rfl rfl rfl (fun _ kq => tl_p (pr_move rfl) rfl kq)) .nil))) ?_
  refine td_q 15 17 (pm_of rfl rfl rfl (fun _ kq => tl_p (pr_nilCheck rfl) rfl kq)) rfl rfl rfl ?_
  refine td_q 16 18 (pm_of rfl rfl rfl (fun _ kq => tl_p (pr_fieldAddr Tryz.fo27_2 rfl) rfl kq)) rfl rfl rfl ?_
  refine td_e1 17 (by kernel_rfl) ?_
  refine te rfl ?_
  refine tl_st Tryz.sz3 rfl rfl (k := ?_)
  refine td_next (pd := []) (by kernel_rfl) (.nil) ?_
  refine td_done (by kernel_rfl) ?_
  exact tq_ret0 .normal (.inr rfl) () rfl rfl

theorem f247_ct (b q : Nat) (c : Cap) (p : Int) : Ct Tryz.prog 247 #[ad b 0, ad q 0] [(q, intO p)] [pt b (capO c)] (fun _ : Unit => .tuple #[]) (fun _ N => pt b (capO ({ c with perms := bAnd .i64 c.perms p })) :: N) := by
  refine ct_intro Tryz.func247 rfl (by kernel_rfl) (n := 11) rfl rfl (E := [(0, ad b 0), (1, ad q 0)]) rfl ?_
  intro κ hro
  have hq : κ.frame q = some (intO p) := hro _ (List.Mem.head _)
  refine tc_draw Tryz.mixed [0, 1, 2, 3, 4, 5, 6, 7] (by kernel_rfl) ?_
  refine td_q 0 3 (pm_of rfl rfl rfl (fun _ kq => tl_p (pr_move rfl) rfl kq)) rfl rfl rfl ?_
  refine td_q 1 4 (pm_of rfl rfl rfl (fun _ kq => tl_p (pr_nilCheck rfl) rfl kq)) rfl rfl rfl ?_
  refine td_q 2 5 (pm_of rfl rfl rfl (fun _ kq => tl_p (pr_fieldAddr Tryz.fo27_4 rfl) rfl kq)) rfl rfl rfl ?_
  refine td_q 3 6 (pm_of rfl rfl rfl (fun _ kq => tl_p (pr_ld Tryz.ag3 rfl) rfl kq)) rfl rfl rfl ?_
  refine td_q 4 7 (pm_of rfl rfl rfl (fun _ kq => tl_p (pr_ld Tryz.ag3 rfl) rfl kq)) rfl rfl rfl ?_
  refine td_q 5 8 (pm_of rfl rfl rfl (fun _ kq => tl_p (pr_bAnd rfl rfl) rfl kq)) rfl rfl rfl ?_
  refine td_q 6 9 (pm_of rfl rfl rfl (fun _ kq => tl_p (pr_nilCheck rfl) rfl kq)) rfl rfl rfl ?_
  refine td_q 7 10 (pm_of rfl rfl rfl (fun _ kq => tl_p (pr_fieldAddr Tryz.fo27_4 rfl) rfl kq)) rfl rfl rfl ?_
  refine td_e1 8 (by kernel_rfl) ?_
  refine te rfl ?_
  refine tl_st Tryz.sz3 rfl rfl (k := ?_)
  refine td_next (pd := []) (by kernel_rfl) (.nil) ?_
  refine td_done (by kernel_rfl) ?_
  exact tq_ret0 .normal (.inr rfl) () rfl rfl

theorem f248_ct (b q : Nat) (c : Cap) (y : Cap) : Ct Tryz.prog 248 #[ad b 0, ad q 0] [(q, capO y)] [pt b (capO c)] (fun _ : Unit => .tuple #[]) (fun _ N => pt b (capO ({ c with typ := y.pos })) :: N) := by
  refine ct_intro Tryz.func248 rfl (by kernel_rfl) (n := 8) rfl rfl (E := [(0, ad b 0), (1, ad q 0)]) rfl ?_
  intro κ hro
  have hq : κ.frame q = some (capO y) := hro _ (List.Mem.head _)
  refine tc_region ?_
  refine tl_p (pr_move rfl) rfl ?_
  refine tl_p (pr_fieldAddr Tryz.fo27_3 rfl) rfl ?_
  refine tl_p (pr_ld Tryz.ag3 rfl) rfl ?_
  refine tl_p (pr_nilCheck rfl) rfl ?_
  refine tl_p (pr_fieldAddr Tryz.fo27_5 rfl) rfl ?_
  refine tl_st Tryz.sz3 rfl rfl (k := ?_)
  refine tl_nil ?_
  exact tq_ret0 .normal (.inr rfl) () rfl rfl

theorem f252_ct (b : Nat) (c : Cap)  : Ct Tryz.prog 252 #[ad b 0] [] [pt b (capO c)] (fun _ : Unit => .tuple #[]) (fun _ N => pt b (capO ({ c with typ := 0 })) :: N) := by
  refine ct_intro Tryz.func252 rfl (by kernel_rfl) (n := 5) rfl rfl (E := [(0, ad b 0)]) rfl ?_
  intro κ hro
  refine tc_region ?_
  refine tl_p (pr_move rfl) rfl ?_
  refine tl_p (pr_nilCheck rfl) rfl ?_
  refine tl_p (pr_fieldAddr Tryz.fo27_5 rfl) rfl ?_
  refine tl_st Tryz.sz3 rfl rfl (k := ?_)
  refine tl_nil ?_
  exact tq_ret0 .normal (.inr rfl) () rfl rfl

theorem f253_ct (b : Nat) (c : Cap)  : Ct Tryz.prog 253 #[ad b 0] [] [pt b (capO c)] (fun _ : Unit => .tuple #[]) (fun _ N => pt b (capO ({ c with typ := 1 })) :: N) := by
  refine ct_intro Tryz.func253 rfl (by kernel_rfl) (n := 5) rfl rfl (E := [(0, ad b 0)]) rfl ?_
  intro κ hro
  refine tc_region ?_
  refine tl_p (pr_move rfl) rfl ?_
  refine tl_p (pr_nilCheck rfl) rfl ?_
  refine tl_p (pr_fieldAddr Tryz.fo27_5 rfl) rfl ?_
  refine tl_st Tryz.sz3 rfl rfl (k := ?_)
  refine tl_nil ?_
  exact tq_ret0 .normal (.inr rfl) () rfl rfl

theorem f241_ct (c c2 : Cap) (s : Shp) (l : List Must) (k : Nat) (cs : List Value) (rc : List (Nat × Obj)) (hC : ∀ b, Ct Tryz.prog k (ad b 0 :: cs).toArray rc [pt b (capO c)] (fun _ : Unit => .tuple #[]) (fun _ N => pt b (capO c2) :: N)) (hs : Sok 2 s l.length (mustsL l)) : Rd Tryz.prog 241 #[c.v, .func (.func k) #[] cs.toArray, sv s l.length] (rc ++ ra s (mustsL l)) [] (ci (made c c2 l)) := by
  refine ct_intro Tryz.func241 rfl (by kernel_rfl) (n := 18) rfl rfl (E := [(0, c.v), (1, .func (.func k) #[] cs.toArray), (2, sv s l.length)]) rfl ?_
  intro κ hro
  obtain ⟨hr1, hr2⟩ := Reads.app hro
  refine tc_seq ?_
  refine tc_region ?_
  refine tl_box rfl rfl (fun b3 => ?_)
  refine tl_alloc Tryz.z27 rfl (fun b6 => ?_)
  refine tl_p (pr_assign rfl) rfl ?_
  refine tl_next ?_
  refine tc_seq ?_
  refine tc_seq ?_
  refine tc_region ?_
  refine tl_p (pr_move rfl) rfl ?_
  refine tl_rdS (f260_ct _ _ (by first | assumption | exact Sow.toSok (by assumption))) (.cons rfl .nil) rfl (kk := ?_)
  refine tl_p (pr_assign rfl) rfl ?_
  refine tl_next ?_
  refine tc_seq ?_
  refine tc_region ?_
  refine tl_p (pr_move rfl) rfl ?_
  refine tl_p (pr_neq rfl rfl) rfl ?_
  refine tl_next ?_
  refine tc_if rfl (fun hc1 => ?_) (fun hc1 => ?_)
  · have hd1 := hc1
    try simp only [Bool.not_eq_true', Bool.not_eq_false', Bool.or_eq_true, Bool.and_eq_true, Bool.or_eq_false_iff, Bool.and_eq_false_iff, decide_eq_true_eq, decide_eq_false_iff_not, Bool.not_true, Bool.not_false, gval, Bool.not_eq_eq_eq_not] at hc1
    refine tc_seq ?_
    refine tc_region ?_
    refine tl_p (Tryz.bl27_ ) rfl ?_
    refine tl_p (pr_move rfl) rfl ?_
    refine tl_storeW Tryz.sz27 rfl rfl (k := ?_)
    refine tl_p (pr_assign rfl) rfl ?_
    refine tl_next ?_
    refine tc_ret (tq_then_ret ?_)
    exact tq_retG .ret (.inl rfl) () rfl (.cellA Tryz.ag27 Tryz.sz27 rfl (.tmp rfl .nil)) (by first | rfl | (subst_vars; rfl) | (simp [made, *, cells_agg, resV, Cap.v]; done) | (simp [made, *, cells_agg, resV, Cap.v]; omega) | (unfold made; split <;> first | rfl | (exfalso; simp_all; done) | (exfalso; simp_all [wI]; first | done | omega)))
  · have hd1 := hc1
    try simp only [Bool.not_eq_true', Bool.not_eq_false', Bool.or_eq_true, Bool.and_eq_true, Bool.or_eq_false_iff, Bool.and_eq_false_iff, decide_eq_true_eq, decide_eq_false_iff_not, Bool.not_true, Bool.not_false, gval, Bool.not_eq_eq_eq_not] at hc1
    refine tc_skip (tq_next ?_)
    refine tc_seq ?_
    refine tc_region ?_
    refine tl_p (pr_move rfl) rfl ?_
    refine tl_callV (hC b3) rfl (.cons rfl .nil) rfl (hro := Rdbs.of hr1) (kk := fun _ => ?_)
    refine tl_next ?_
    refine tc_seq ?_
    refine tc_region ?_
    refine tl_p (by first | exact pr_loadW Tryz.ag27 Tryz.sz27 rfl | exact pr_ldA Tryz.ag27 Tryz.sz27 rfl) rfl ?_
    refine tl_storeW Tryz.sz27 rfl rfl (k := ?_)
    refine tl_p (pr_assign rfl) rfl ?_
    refine tl_next ?_
    refine tc_ret ?_
    exact tq_retG .ret (.inl rfl) () rfl (.cellA Tryz.ag27 Tryz.sz27 rfl (.tmp rfl .nil)) (by first | rfl | (subst_vars; rfl) | (simp [made, *, cells_agg, resV, Cap.v]; done) | (simp [made, *, cells_agg, resV, Cap.v]; omega) | (unfold made; split <;> first | rfl | (exfalso; simp_all; done) | (exfalso; simp_all [wI]; first | done | omega)))

theorem f213_ct (c : Cap) (p : Int) : Rd Tryz.prog 213 #[c.v, .int .i64 p] [] [] (ci (dMove c p)) := by
  refine ct_intro Tryz.func213 rfl (by kernel_rfl) (n := 25) rfl rfl (E := [(0, c.v), (1, .int .i64 p)]) rfl ?_
  intro κ hro
  refine tc_seq ?_
  refine tc_region ?_
  refine tl_box rfl rfl (fun b2 => ?_)
  refine tl_box rfl rfl (fun b3 => ?_)
  refine tl_alloc Tryz.z27 rfl (fun b4 => ?_)
  refine tl_p (pr_assign rfl) rfl ?_
  refine tl_next ?_
  refine tc_seq ?_
  refine tc_region ?_
  refine tl_p (pr_fieldAddr Tryz.fo27_0 rfl) rfl ?_
  refine tl_p (pr_ld Tryz.ag4 rfl) rfl ?_
  refine tl_p (pr_not rfl) rfl ?_
  refine tl_p (pr_move rfl) rfl ?_
  refine tl_gf rfl rfl (fun h => pr_fieldAddr Tryz.fo27_5 rfl) (by intro _ h; cases h) rfl ?_
  refine tl_gf rfl rfl (fun h => pr_ld Tryz.ag3 (gv rfl h)) (by intro _ h; cases h) rfl ?_
  refine tl_gf rfl rfl (fun h => pr_eql (gv rfl h) rfl) (by intro _ h; cases h) rfl ?_
  refine tl_p (pr_or rfl rfl rfl) rfl ?_
  refine tl_p (Tryz.bl236_0_1 rfl rfl) rfl ?_
  refine tl_alloc Tryz.z236 rfl (fun b6 => ?_)
  refine tl_storeW Tryz.sz236 rfl rfl (k := ?_)
  refine tl_next ?_
  refine tc_seq ?_
  refine tc_draw Tryz.mixed [0, 1, 2, 3, 4, 6, 7, 8] (by kernel_rfl) ?_
  refine td_q 0 16 (pm_of rfl rfl rfl (fun _ kq => tl_p (by first | exact pr_loadW Tryz.ag27 Tryz.sz27 rfl | exact pr_ldA Tryz.ag27 Tryz.sz27 rfl) rfl kq)) rfl rfl rfl ?_
  refine td_q 1 17 (pm_of rfl rfl rfl (fun _ kq => tl_p (pr_mkf (.nil) (.cons rfl .nil)) rfl kq)) rfl rfl rfl ?_
  refine td_q 2 18 (pm_of rfl rfl rfl (fun _ kq => tl_p (by first | exact pr_loadW Tryz.ag27 Tryz.sz27 rfl | exact pr_ldA Tryz.ag27 Tryz.sz27 rfl) rfl kq)) rfl rfl rfl ?_
  refine td_q 3 19 (pm_of rfl rfl rfl (fun _ kq => tl_rdS (f243_ct _) (.cons rfl .nil) rfl (kk := kq))) rfl rfl rfl ?_
  refine td_q 4 20 (pm_of rfl rfl rfl (fun _ kq => tl_p (by first | exact pr_loadW Tryz.ag236 Tryz.sz236 rfl | exact pr_ldA Tryz.ag236 Tryz.sz236 rfl) rfl kq)) rfl rfl rfl ?_
  refine td_e1 5 (by kernel_rfl) ?_
  refine te rfl ?_
  refine tl_buildS Tryz.sf241 Tryz.z236 rfl (.cons rfl (.cons rfl .nil)) rfl rfl rfl rfl rfl (kk := fun s21 hs21 ms21 => ?_)
  refine td_next (pd := [1, 0]) (by kernel_rfl) (.cons rfl (pm_of rfl rfl rfl (fun _ kq => tl_p (pr_mkf (.nil) (.cons rfl .nil)) rfl kq)) (.cons rfl (pm_of rfl rfl rfl (fun _ kq => tl_p (by first | exact pr_loadW Tryz.ag27 Tryz.sz27 rfl | exact pr_ldA Tryz.ag27 Tryz.sz27 rfl) rfl kq)) .nil)) ?_
  refine td_q 6 22 (pm_of rfl rfl rfl (fun _ kq => tl_rdS (f241_ct c { c with pos := (intC p).pos } _ [mRight c, (!c.tag || decide (c.typ = 0), 42)] 242 [ad b3 0] [(b3, intO p)] (fun b => f242_ct b b3 c p) (Sow.toSok (by assumption))) (.cons rfl (.cons rfl (.cons rfl .nil))) rfl (kk := kq))) rfl rfl rfl ?_
  refine td_q 7 23 (pm_of rfl rfl rfl (fun _ kq => tl_p (pr_extract rfl rfl) rfl kq)) rfl rfl rfl ?_
  refine td_q 8 24 (pm_of rfl rfl rfl (fun _ kq => tl_p (pr_extract rfl rfl) rfl kq)) rfl rfl rfl ?_
  refine td_e1 9 (by kernel_rfl) ?_
  refine te rfl ?_
  refine tl_storeW Tryz.sz27 rfl rfl (k := ?_)
  refine td_next (pd := []) (by kernel_rfl) (.nil) ?_
  refine td_e1 10 (by kernel_rfl) ?_
  refine te rfl ?_
  refine tl_p (pr_assign rfl) rfl ?_
  refine td_next (pd := []) (by kernel_rfl) (.nil) ?_
  refine td_done (by kernel_rfl) ?_
  refine tq_next ?_
  refine tc_ret ?_
  exact tq_retG .ret (.inl rfl) () rfl (.cellA Tryz.ag27 Tryz.sz27 rfl (.tmp rfl .nil)) rfl

theorem f214_ct (c : Cap) (n : Int) : Rd Tryz.prog 214 #[c.v, .int .i64 n] [] [] (ci (dBounds c n)) := by
  refine ct_intro Tryz.func214 rfl (by kernel_rfl) (n := 18) rfl rfl (E := [(0, c.v), (1, .int .i64 n)]) rfl ?_
  intro κ hro
  refine tc_seq ?_
  refine tc_region ?_
  refine tl_box rfl rfl (fun b2 => ?_)
  refine tl_box rfl rfl (fun b3 => ?_)
  refine tl_alloc Tryz.z27 rfl (fun b4 => ?_)
  refine tl_p (pr_assign rfl) rfl ?_
  refine tl_next ?_
  refine tc_seq ?_
  refine tc_draw Tryz.mixed [0, 1, 2, 4, 5, 6, 9, 10, 11] (by kernel_rfl) ?_
  refine td_q 0 6 (pm_of rfl rfl rfl (fun _ kq => tl_p (by first | exact pr_loadW Tryz.ag27 Tryz.sz27 rfl | exact pr_ldA Tryz.ag27 Tryz.sz27 rfl) rfl kq)) rfl rfl rfl ?_
  refine td_q 1 7 (pm_of rfl rfl rfl (fun _ kq => tl_p (pr_mkf (.nil) (.cons rfl .nil)) rfl kq)) rfl rfl rfl ?_
  refine td_q 2 8 (pm_of rfl rfl rfl (fun _ kq => tl_p (by first | exact pr_loadW Tryz.ag27 Tryz.sz27 rfl | exact pr_ldA Tryz.ag27 Tryz.sz27 rfl) rfl kq)) rfl rfl rfl ?_
  refine td_q 4 10 (pm_of rfl rfl rfl (fun _ kq => tl_p (by first | exact pr_loadW Tryz.ag27 Tryz.sz27 rfl | exact pr_ldA Tryz.ag27 Tryz.sz27 rfl) rfl kq)) rfl rfl rfl ?_
  refine td_q 5 11 (pm_of rfl rfl rfl (fun _ kq => tl_p (pr_ld Tryz.ag3 rfl) rfl kq)) rfl rfl rfl ?_
  refine td_e1 3 (by kernel_rfl) ?_
  refine te rfl ?_
  refine tl_callS (f245_ct _) (.cons rfl .nil) rfl (kk := fun ⟨s9, hs9⟩ => ?_)
  refine td_next (pd := [5, 4, 1, 0]) (by kernel_rfl) (.cons rfl (pm_of rfl rfl rfl (fun _ kq => tl_p (pr_ld Tryz.ag3 rfl) rfl kq)) (.cons rfl (pm_of rfl rfl rfl (fun _ kq => tl_p (by first | exact pr_loadW Tryz.ag27 Tryz.sz27 rfl | exact pr_ldA Tryz.ag27 Tryz.sz27 rfl) rfl kq)) (.cons rfl (pm_of rfl rfl rfl (fun _ kq => tl_p (pr_mkf (.nil) (.cons rfl .nil)) rfl kq)) (.cons rfl (pm_of rfl rfl rfl (fun _ kq => tl_p (by first | exact pr_loadW Tryz.ag27 Tryz.sz27 rfl | exact pr_ldA Tryz.ag27 Tryz.sz27 rfl) rfl kq)) .nil)))) ?_
  refine td_q 6 12 (pm_of rfl rfl rfl (fun _ kq => tl_rdS (f246_ct _ _) (.cons rfl (.cons rfl .nil)) rfl (kk := kq))) rfl rfl rfl ?_
  refine td_e1 7 (by kernel_rfl) ?_
  refine te rfl ?_
  refine tl_buildS Tryz.sf241 Tryz.z236 rfl (.cons rfl .nil) rfl rfl rfl rfl rfl (kk := fun s13 hs13 ms13 => ?_)
  refine td_next (pd := [1, 0]) (by kernel_rfl) (.cons rfl (pm_of rfl rfl rfl (fun _ kq => tl_p (pr_mkf (.nil) (.cons rfl .nil)) rfl kq)) (.cons rfl (pm_of rfl rfl rfl (fun _ kq => tl_p (by first | exact pr_loadW Tryz.ag27 Tryz.sz27 rfl | exact pr_ldA Tryz.ag27 Tryz.sz27 rfl) rfl kq)) .nil)) ?_
  refine td_e1 8 (by kernel_rfl) ?_
  refine te rfl ?_
  refine tl_append Tryz.sf241 Tryz.z236 rfl rfl rfl (by assumption) (Sow.toSok (by assumption)) rfl (by omega) rfl (kk := fun s14 hs14 => ?_)
  refine td_next (pd := [1, 0]) (by kernel_rfl) (.cons rfl (pm_of rfl rfl rfl (fun _ kq => tl_p (pr_mkf (.nil) (.cons rfl .nil)) rfl kq)) (.cons rfl (pm_of rfl rfl rfl (fun _ kq => tl_p (by first | exact pr_loadW Tryz.ag27 Tryz.sz27 rfl | exact pr_ldA Tryz.ag27 Tryz.sz27 rfl) rfl kq)) .nil)) ?_
  refine td_q 9 15 (pm_of rfl rfl rfl (fun _ kq => tl_rdS (f241_ct c { c with base := c.pos, top := wI (c.pos + n) } _ (mUsed c ++ [mSpans c n]) 244 [ad b3 0] [(b3, intO n)] (fun b => f244_ct b b3 c n) (Sow.toSok (by assumption))) (.cons rfl (.cons rfl (.cons rfl .nil))) rfl (kk := kq))) rfl rfl rfl ?_
  refine td_q 10 16 (pm_of rfl rfl rfl (fun _ kq => tl_p (pr_extract rfl rfl) rfl kq)) rfl rfl rfl ?_
  refine td_q 11 17 (pm_of rfl rfl rfl (fun _ kq => tl_p (pr_extract rfl rfl) rfl kq)) rfl rfl rfl ?_
  refine td_e1 12 (by kernel_rfl) ?_
  refine te rfl ?_
  refine tl_storeW Tryz.sz27 rfl rfl (k := ?_)
  refine td_next (pd := []) (by kernel_rfl) (.nil) ?_
  refine td_e1 13 (by kernel_rfl) ?_
  refine te rfl ?_
  refine tl_p (pr_assign rfl) rfl ?_
  refine td_next (pd := []) (by kernel_rfl) (.nil) ?_
  refine td_done (by kernel_rfl) ?_
  refine tq_next ?_
  refine tc_ret ?_
  exact tq_retG .ret (.inl rfl) () rfl (.cellA Tryz.ag27 Tryz.sz27 rfl (.tmp rfl .nil)) rfl

theorem f215_ct (c : Cap) (p : Int) : Rd Tryz.prog 215 #[c.v, .int .i64 p] [] [] (ci (dPerms c p)) := by
  refine ct_intro Tryz.func215 rfl (by kernel_rfl) (n := 18) rfl rfl (E := [(0, c.v), (1, .int .i64 p)]) rfl ?_
  intro κ hro
  refine tc_seq ?_
  refine tc_region ?_
  refine tl_box rfl rfl (fun b2 => ?_)
  refine tl_box rfl rfl (fun b3 => ?_)
  refine tl_alloc Tryz.z27 rfl (fun b4 => ?_)
  refine tl_p (pr_assign rfl) rfl ?_
  refine tl_next ?_
  refine tc_seq ?_
  refine tc_draw Tryz.mixed [0, 1, 2, 4, 5, 6, 9, 10, 11] (by kernel_rfl) ?_
  refine td_q 0 6 (pm_of rfl rfl rfl (fun _ kq => tl_p (by first | exact pr_loadW Tryz.ag27 Tryz.sz27 rfl | exact pr_ldA Tryz.ag27 Tryz.sz27 rfl) rfl kq)) rfl rfl rfl ?_
  refine td_q 1 7 (pm_of rfl rfl rfl (fun _ kq => tl_p (pr_mkf (.nil) (.cons rfl .nil)) rfl kq)) rfl rfl rfl ?_
  refine td_q 2 8 (pm_of rfl rfl rfl (fun _ kq => tl_p (by first | exact pr_loadW Tryz.ag27 Tryz.sz27 rfl | exact pr_ldA Tryz.ag27 Tryz.sz27 rfl) rfl kq)) rfl rfl rfl ?_
  refine td_q 4 10 (pm_of rfl rfl rfl (fun _ kq => tl_p (pr_ld Tryz.ag3 rfl) rfl kq)) rfl rfl rfl ?_
  refine td_e1 3 (by kernel_rfl) ?_
  refine te rfl ?_
  refine tl_callS (f245_ct _) (.cons rfl .nil) rfl (kk := fun ⟨s9, hs9⟩ => ?_)
  refine td_next (pd := [4, 1, 0]) (by kernel_rfl) (.cons rfl (pm_of rfl rfl rfl (fun _ kq => tl_p (pr_ld Tryz.ag3 rfl) rfl kq)) (.cons rfl (pm_of rfl rfl rfl (fun _ kq => tl_p (pr_mkf (.nil) (.cons rfl .nil)) rfl kq)) (.cons rfl (pm_of rfl rfl rfl (fun _ kq => tl_p (by first | exact pr_loadW Tryz.ag27 Tryz.sz27 rfl | exact pr_ldA Tryz.ag27 Tryz.sz27 rfl) rfl kq)) .nil))) ?_
  refine td_q 5 11 (pm_of rfl rfl rfl (fun _ kq => tl_rdS (f119_ct _) (.cons rfl .nil) rfl (kk := kq))) rfl rfl rfl ?_
  refine td_q 6 12 (pm_of rfl rfl rfl (fun _ kq => tl_p (Tryz.bl236_0_1 rfl rfl) rfl kq)) rfl rfl rfl ?_
  refine td_e1 7 (by kernel_rfl) ?_
  refine te rfl ?_
  refine tl_buildS Tryz.sf241 Tryz.z236 rfl (.cons rfl .nil) rfl rfl rfl rfl rfl (kk := fun s13 hs13 ms13 => ?_)
  refine td_next (pd := [1, 0]) (by kernel_rfl) (.cons rfl (pm_of rfl rfl rfl (fun _ kq => tl_p (pr_mkf (.nil) (.cons rfl .nil)) rfl kq)) (.cons rfl (pm_of rfl rfl rfl (fun _ kq => tl_p (by first | exact pr_loadW Tryz.ag27 Tryz.sz27 rfl | exact pr_ldA Tryz.ag27 Tryz.sz27 rfl) rfl kq)) .nil)) ?_
  refine td_e1 8 (by kernel_rfl) ?_
  refine te rfl ?_
  refine tl_append Tryz.sf241 Tryz.z236 rfl rfl rfl (by assumption) (Sow.toSok (by assumption)) rfl (by omega) rfl (kk := fun s14 hs14 => ?_)
  refine td_next (pd := [1, 0]) (by kernel_rfl) (.cons rfl (pm_of rfl rfl rfl (fun _ kq => tl_p (pr_mkf (.nil) (.cons rfl .nil)) rfl kq)) (.cons rfl (pm_of rfl rfl rfl (fun _ kq => tl_p (by first | exact pr_loadW Tryz.ag27 Tryz.sz27 rfl | exact pr_ldA Tryz.ag27 Tryz.sz27 rfl) rfl kq)) .nil)) ?_
  refine td_q 9 15 (pm_of rfl rfl rfl (fun _ kq => tl_rdS (f241_ct c { c with perms := bAnd .i64 c.perms p } _ (mUsed c ++ [(permRight p, 1)]) 247 [ad b3 0] [(b3, intO p)] (fun b => f247_ct b b3 c p) (Sow.toSok (by assumption))) (.cons rfl (.cons rfl (.cons rfl .nil))) rfl (kk := kq))) rfl rfl rfl ?_
  refine td_q 10 16 (pm_of rfl rfl rfl (fun _ kq => tl_p (pr_extract rfl rfl) rfl kq)) rfl rfl rfl ?_
  refine td_q 11 17 (pm_of rfl rfl rfl (fun _ kq => tl_p (pr_extract rfl rfl) rfl kq)) rfl rfl rfl ?_
  refine td_e1 12 (by kernel_rfl) ?_
  refine te rfl ?_
  refine tl_storeW Tryz.sz27 rfl rfl (k := ?_)
  refine td_next (pd := []) (by kernel_rfl) (.nil) ?_
  refine td_e1 13 (by kernel_rfl) ?_
  refine te rfl ?_
  refine tl_p (pr_assign rfl) rfl ?_
  refine td_next (pd := []) (by kernel_rfl) (.nil) ?_
  refine td_done (by kernel_rfl) ?_
  refine tq_next ?_
  refine tc_ret ?_
  exact tq_retG .ret (.inl rfl) () rfl (.cellA Tryz.ag27 Tryz.sz27 rfl (.tmp rfl .nil)) rfl

theorem f216_ct (c y : Cap) : Rd Tryz.prog 216 #[c.v, y.v] [] [] (ci (dSeal c y)) := by
  refine ct_intro Tryz.func216 rfl (by kernel_rfl) (n := 16) rfl rfl (E := [(0, c.v), (1, y.v)]) rfl ?_
  intro κ hro
  refine tc_seq ?_
  refine tc_region ?_
  refine tl_box rfl rfl (fun b2 => ?_)
  refine tl_box rfl rfl (fun b3 => ?_)
  refine tl_alloc Tryz.z27 rfl (fun b4 => ?_)
  refine tl_p (pr_assign rfl) rfl ?_
  refine tl_next ?_
  refine tc_seq ?_
  refine tc_draw Tryz.mixed [0, 1, 2, 4, 7, 8, 9] (by kernel_rfl) ?_
  refine td_q 0 6 (pm_of rfl rfl rfl (fun _ kq => tl_p (by first | exact pr_loadW Tryz.ag27 Tryz.sz27 rfl | exact pr_ldA Tryz.ag27 Tryz.sz27 rfl) rfl kq)) rfl rfl rfl ?_
  refine td_q 1 7 (pm_of rfl rfl rfl (fun _ kq => tl_p (pr_mkf (.nil) (.cons rfl .nil)) rfl kq)) rfl rfl rfl ?_
  refine td_q 2 8 (pm_of rfl rfl rfl (fun _ kq => tl_p (by first | exact pr_loadW Tryz.ag27 Tryz.sz27 rfl | exact pr_ldA Tryz.ag27 Tryz.sz27 rfl) rfl kq)) rfl rfl rfl ?_
  refine td_q 4 10 (pm_of rfl rfl rfl (fun _ kq => tl_p (by first | exact pr_loadW Tryz.ag27 Tryz.sz27 rfl | exact pr_ldA Tryz.ag27 Tryz.sz27 rfl) rfl kq)) rfl rfl rfl ?_
  refine td_e1 3 (by kernel_rfl) ?_
  refine te rfl ?_
  refine tl_callS (f245_ct _) (.cons rfl .nil) rfl (kk := fun ⟨s9, hs9⟩ => ?_)
  refine td_next (pd := [4, 1, 0]) (by kernel_rfl) (.cons rfl (pm_of rfl rfl rfl (fun _ kq => tl_p (by first | exact pr_loadW Tryz.ag27 Tryz.sz27 rfl | exact pr_ldA Tryz.ag27 Tryz.sz27 rfl) rfl kq)) (.cons rfl (pm_of rfl rfl rfl (fun _ kq => tl_p (pr_mkf (.nil) (.cons rfl .nil)) rfl kq)) (.cons rfl (pm_of rfl rfl rfl (fun _ kq => tl_p (by first | exact pr_loadW Tryz.ag27 Tryz.sz27 rfl | exact pr_ldA Tryz.ag27 Tryz.sz27 rfl) rfl kq)) .nil))) ?_
  refine td_e1 5 (by kernel_rfl) ?_
  refine te rfl ?_
  refine tl_callS (f249_ct _ _) (.cons rfl (.cons rfl .nil)) rfl (kk := fun ⟨s11, hs11⟩ => ?_)
  refine td_next (pd := [1, 0]) (by kernel_rfl) (.cons rfl (pm_of rfl rfl rfl (fun _ kq => tl_p (pr_mkf (.nil) (.cons rfl .nil)) rfl kq)) (.cons rfl (pm_of rfl rfl rfl (fun _ kq => tl_p (by first | exact pr_loadW Tryz.ag27 Tryz.sz27 rfl | exact pr_ldA Tryz.ag27 Tryz.sz27 rfl) rfl kq)) .nil)) ?_
  refine td_e1 6 (by kernel_rfl) ?_
  refine te rfl ?_
  refine tl_append Tryz.sf241 Tryz.z236 rfl rfl rfl (by assumption) (Sow.toSok (by assumption)) musts_ok (by omega) rfl (kk := fun s12 hs12 => ?_)
  refine td_next (pd := [1, 0]) (by kernel_rfl) (.cons rfl (pm_of rfl rfl rfl (fun _ kq => tl_p (pr_mkf (.nil) (.cons rfl .nil)) rfl kq)) (.cons rfl (pm_of rfl rfl rfl (fun _ kq => tl_p (by first | exact pr_loadW Tryz.ag27 Tryz.sz27 rfl | exact pr_ldA Tryz.ag27 Tryz.sz27 rfl) rfl kq)) .nil)) ?_
  refine td_q 7 13 (pm_of rfl rfl rfl (fun _ kq => tl_rdS (f241_ct c { c with typ := y.pos } _ (mUsed c ++ mAuth y 32) 248 [ad b3 0] [(b3, capO y)] (fun b => f248_ct b b3 c y) (Sow.toSok (by assumption))) (.cons rfl (.cons rfl (.cons rfl .nil))) rfl (kk := kq))) rfl rfl rfl ?_
  refine td_q 8 14 (pm_of rfl rfl rfl (fun _ kq => tl_p (pr_extract rfl rfl) rfl kq)) rfl rfl rfl ?_
  refine td_q 9 15 (pm_of rfl rfl rfl (fun _ kq => tl_p (pr_extract rfl rfl) rfl kq)) rfl rfl rfl ?_
  refine td_e1 10 (by kernel_rfl) ?_
  refine te rfl ?_
  refine tl_storeW Tryz.sz27 rfl rfl (k := ?_)
  refine td_next (pd := []) (by kernel_rfl) (.nil) ?_
  refine td_e1 11 (by kernel_rfl) ?_
  refine te rfl ?_
  refine tl_p (pr_assign rfl) rfl ?_
  refine td_next (pd := []) (by kernel_rfl) (.nil) ?_
  refine td_done (by kernel_rfl) ?_
  refine tq_next ?_
  refine tc_ret ?_
  exact tq_retG .ret (.inl rfl) () rfl (.cellA Tryz.ag27 Tryz.sz27 rfl (.tmp rfl .nil)) rfl

theorem f217_ct (c y : Cap) : Rd Tryz.prog 217 #[c.v, y.v] [] [] (ci (dUnseal c y)) := by
  refine ct_intro Tryz.func217 rfl (by kernel_rfl) (n := 30) rfl rfl (E := [(0, c.v), (1, y.v)]) rfl ?_
  intro κ hro
  refine tc_seq ?_
  refine tc_region ?_
  refine tl_box rfl rfl (fun b2 => ?_)
  refine tl_box rfl rfl (fun b3 => ?_)
  refine tl_alloc Tryz.z27 rfl (fun b4 => ?_)
  refine tl_p (pr_assign rfl) rfl ?_
  refine tl_next ?_
  refine tc_seq ?_
  refine tc_draw Tryz.mixed [0, 1, 2, 3, 4, 5, 7] (by kernel_rfl) ?_
  refine td_q 0 7 (pm_of rfl rfl rfl (fun _ kq => tl_p (by first | exact pr_loadW Tryz.ag27 Tryz.sz27 rfl | exact pr_ldA Tryz.ag27 Tryz.sz27 rfl) rfl kq)) rfl rfl rfl ?_
  refine td_q 1 8 (pm_of rfl rfl rfl (fun _ kq => tl_rdS (f243_ct _) (.cons rfl .nil) rfl (kk := kq))) rfl rfl rfl ?_
  refine td_q 2 9 (pm_of rfl rfl rfl (fun _ kq => tl_p (by first | exact pr_loadW Tryz.ag27 Tryz.sz27 rfl | exact pr_ldA Tryz.ag27 Tryz.sz27 rfl) rfl kq)) rfl rfl rfl ?_
  refine td_q 3 10 (pm_of rfl rfl rfl (fun _ kq => tl_rdS (f250_ct _) (.cons rfl .nil) rfl (kk := kq))) rfl rfl rfl ?_
  refine td_q 4 11 (pm_of rfl rfl rfl (fun _ kq => tl_p (by first | exact pr_loadW Tryz.ag27 Tryz.sz27 rfl | exact pr_ldA Tryz.ag27 Tryz.sz27 rfl) rfl kq)) rfl rfl rfl ?_
  refine td_q 5 12 (pm_of rfl rfl rfl (fun _ kq => tl_rdS (f251_ct _ _) (.cons rfl (.cons rfl .nil)) rfl (kk := kq))) rfl rfl rfl ?_
  refine td_q 7 14 (pm_of rfl rfl rfl (fun _ kq => tl_p (by first | exact pr_loadW Tryz.ag27 Tryz.sz27 rfl | exact pr_ldA Tryz.ag27 Tryz.sz27 rfl) rfl kq)) rfl rfl rfl ?_
  refine td_e2 6 8 (by kernel_rfl) ?_ ?_
  · skip
    refine te rfl ?_
    refine tl_buildS Tryz.sf241 Tryz.z236 rfl (.cons rfl (.cons rfl (.cons rfl .nil))) rfl rfl rfl rfl rfl (kk := fun s13 hs13 ms13 => ?_)
    refine td_next (pd := [7]) (by kernel_rfl) (.cons rfl (pm_of rfl rfl rfl (fun _ kq => tl_p (by first | exact pr_loadW Tryz.ag27 Tryz.sz27 rfl | exact pr_ldA Tryz.ag27 Tryz.sz27 rfl) rfl kq)) .nil) ?_
    refine td_e1 8 (by kernel_rfl) ?_
    refine te rfl ?_
    refine tl_callS (f249_ct _ _) (.cons rfl (.cons rfl .nil)) rfl (kk := fun ⟨s15, hs15⟩ => ?_)
    refine td_next (pd := []) (by kernel_rfl) (.nil) ?_
    refine td_e1 9 (by kernel_rfl) ?_
    refine te rfl ?_
    refine tl_append Tryz.sf241 Tryz.z236 rfl rfl rfl (by assumption) (Sow.toSok (by assumption)) musts_ok (by omega) rfl (kk := fun s16 hs16 => ?_)
    refine td_next (pd := []) (by kernel_rfl) (.nil) ?_
    refine td_e1 10 (by kernel_rfl) ?_
    refine te rfl ?_
    refine tl_p (pr_assign rfl) rfl ?_
    refine td_next (pd := []) (by kernel_rfl) (.nil) ?_
    refine td_done (by kernel_rfl) ?_
    refine tq_next ?_
    refine tc_seq ?_
    refine tc_draw Tryz.mixed [0, 1, 2, 3, 4, 5, 6, 7, 10, 11, 12] (by kernel_rfl) ?_
    refine td_q 0 17 (pm_of rfl rfl rfl (fun _ kq => tl_p (by first | exact pr_loadW Tryz.ag27 Tryz.sz27 rfl | exact pr_ldA Tryz.ag27 Tryz.sz27 rfl) rfl kq)) rfl rfl rfl ?_
    refine td_q 1 18 (pm_of rfl rfl rfl (fun _ kq => tl_p (pr_move rfl) rfl kq)) rfl rfl rfl ?_
    refine td_q 2 19 (pm_of rfl rfl rfl (fun _ kq => tl_p (pr_fieldAddr Tryz.fo27_3 rfl) rfl kq)) rfl rfl rfl ?_
    refine td_q 3 20 (pm_of rfl rfl rfl (fun _ kq => tl_p (pr_ld Tryz.ag3 rfl) rfl kq)) rfl rfl rfl ?_
    refine td_q 4 21 (pm_of rfl rfl rfl (fun _ kq => tl_p (pr_fieldAddr Tryz.fo27_5 rfl) rfl kq)) rfl rfl rfl ?_
    refine td_q 5 22 (pm_of rfl rfl rfl (fun _ kq => tl_p (pr_ld Tryz.ag3 rfl) rfl kq)) rfl rfl rfl ?_
    refine td_q 6 23 (pm_of rfl rfl rfl (fun _ kq => tl_p (pr_eql rfl rfl) rfl kq)) rfl rfl rfl ?_
    refine td_q 7 24 (pm_of rfl rfl rfl (fun _ kq => tl_p (Tryz.bl236_0_1 rfl rfl) rfl kq)) rfl rfl rfl ?_
    refine td_e1 8 (by kernel_rfl) ?_
    refine te rfl ?_
    refine tl_buildS Tryz.sf241 Tryz.z236 rfl (.cons rfl .nil) rfl rfl rfl rfl rfl (kk := fun s25 hs25 ms25 => ?_)
    refine td_next (pd := [1, 0]) (by kernel_rfl) (.cons rfl (pm_of rfl rfl rfl (fun _ kq => tl_p (pr_move rfl) rfl kq)) (.cons rfl (pm_of rfl rfl rfl (fun _ kq => tl_p (by first | exact pr_loadW Tryz.ag27 Tryz.sz27 rfl | exact pr_ldA Tryz.ag27 Tryz.sz27 rfl) rfl kq)) .nil)) ?_
    refine td_e1 9 (by kernel_rfl) ?_
    refine te rfl ?_
    refine tl_append Tryz.sf241 Tryz.z236 rfl rfl rfl (by assumption) (Sow.toSok (by assumption)) rfl (by omega) rfl (kk := fun s26 hs26 => ?_)
    refine td_next (pd := [0]) (by kernel_rfl) (.cons rfl (pm_of rfl rfl rfl (fun _ kq => tl_p (by first | exact pr_loadW Tryz.ag27 Tryz.sz27 rfl | exact pr_ldA Tryz.ag27 Tryz.sz27 rfl) rfl kq)) .nil) ?_
    refine td_q 10 27 (pm_of rfl rfl rfl (fun _ kq => tl_rdS (f241_ct c { c with typ := 0 } _ ([mRight c, mTag c, mSealed c true] ++ mAuth y 64 ++ [(decide (y.pos = c.typ), 45)]) 252 [] [] (fun b => f252_ct b c) (Sow.toSok (by assumption))) (.cons rfl (.cons rfl (.cons rfl .nil))) rfl (kk := kq))) rfl rfl rfl ?_
    refine td_q 11 28 (pm_of rfl rfl rfl (fun _ kq => tl_p (pr_extract rfl rfl) rfl kq)) rfl rfl rfl ?_
    refine td_q 12 29 (pm_of rfl rfl rfl (fun _ kq => tl_p (pr_extract rfl rfl) rfl kq)) rfl rfl rfl ?_
    refine td_e1 13 (by kernel_rfl) ?_
    refine te rfl ?_
    refine tl_storeW Tryz.sz27 rfl rfl (k := ?_)
    refine td_next (pd := []) (by kernel_rfl) (.nil) ?_
    refine td_e1 14 (by kernel_rfl) ?_
    refine te rfl ?_
    refine tl_p (pr_assign rfl) rfl ?_
    refine td_next (pd := []) (by kernel_rfl) (.nil) ?_
    refine td_done (by kernel_rfl) ?_
    refine tq_next ?_
    refine tc_ret ?_
    exact tq_retG .ret (.inl rfl) () rfl (.cellA Tryz.ag27 Tryz.sz27 rfl (.tmp rfl .nil)) rfl
  · skip
    refine te rfl ?_
    refine tl_callS (f249_ct _ _) (.cons rfl (.cons rfl .nil)) rfl (kk := fun ⟨s15, hs15⟩ => ?_)
    refine td_next (pd := []) (by kernel_rfl) (.nil) ?_
    refine td_e1 6 (by kernel_rfl) ?_
    refine te rfl ?_
    refine tl_buildS Tryz.sf241 Tryz.z236 rfl (.cons rfl (.cons rfl (.cons rfl .nil))) rfl rfl rfl rfl rfl (kk := fun s13 hs13 ms13 => ?_)
    refine td_next (pd := [7]) (by kernel_rfl) (.cons rfl (pm_of rfl rfl rfl (fun _ kq => tl_p (by first | exact pr_loadW Tryz.ag27 Tryz.sz27 rfl | exact pr_ldA Tryz.ag27 Tryz.sz27 rfl) rfl kq)) .nil) ?_
    refine td_e1 9 (by kernel_rfl) ?_
    refine te rfl ?_
    refine tl_append Tryz.sf241 Tryz.z236 rfl rfl rfl (by assumption) (Sow.toSok (by assumption)) musts_ok (by omega) rfl (kk := fun s16 hs16 => ?_)
    refine td_next (pd := []) (by kernel_rfl) (.nil) ?_
    refine td_e1 10 (by kernel_rfl) ?_
    refine te rfl ?_
    refine tl_p (pr_assign rfl) rfl ?_
    refine td_next (pd := []) (by kernel_rfl) (.nil) ?_
    refine td_done (by kernel_rfl) ?_
    refine tq_next ?_
    refine tc_seq ?_
    refine tc_draw Tryz.mixed [0, 1, 2, 3, 4, 5, 6, 7, 10, 11, 12] (by kernel_rfl) ?_
    refine td_q 0 17 (pm_of rfl rfl rfl (fun _ kq => tl_p (by first | exact pr_loadW Tryz.ag27 Tryz.sz27 rfl | exact pr_ldA Tryz.ag27 Tryz.sz27 rfl) rfl kq)) rfl rfl rfl ?_
    refine td_q 1 18 (pm_of rfl rfl rfl (fun _ kq => tl_p (pr_move rfl) rfl kq)) rfl rfl rfl ?_
    refine td_q 2 19 (pm_of rfl rfl rfl (fun _ kq => tl_p (pr_fieldAddr Tryz.fo27_3 rfl) rfl kq)) rfl rfl rfl ?_
    refine td_q 3 20 (pm_of rfl rfl rfl (fun _ kq => tl_p (pr_ld Tryz.ag3 rfl) rfl kq)) rfl rfl rfl ?_
    refine td_q 4 21 (pm_of rfl rfl rfl (fun _ kq => tl_p (pr_fieldAddr Tryz.fo27_5 rfl) rfl kq)) rfl rfl rfl ?_
    refine td_q 5 22 (pm_of rfl rfl rfl (fun _ kq => tl_p (pr_ld Tryz.ag3 rfl) rfl kq)) rfl rfl rfl ?_
    refine td_q 6 23 (pm_of rfl rfl rfl (fun _ kq => tl_p (pr_eql rfl rfl) rfl kq)) rfl rfl rfl ?_
    refine td_q 7 24 (pm_of rfl rfl rfl (fun _ kq => tl_p (Tryz.bl236_0_1 rfl rfl) rfl kq)) rfl rfl rfl ?_
    refine td_e1 8 (by kernel_rfl) ?_
    refine te rfl ?_
    refine tl_buildS Tryz.sf241 Tryz.z236 rfl (.cons rfl .nil) rfl rfl rfl rfl rfl (kk := fun s25 hs25 ms25 => ?_)
    refine td_next (pd := [1, 0]) (by kernel_rfl) (.cons rfl (pm_of rfl rfl rfl (fun _ kq => tl_p (pr_move rfl) rfl kq)) (.cons rfl (pm_of rfl rfl rfl (fun _ kq => tl_p (by first | exact pr_loadW Tryz.ag27 Tryz.sz27 rfl | exact pr_ldA Tryz.ag27 Tryz.sz27 rfl) rfl kq)) .nil)) ?_
    refine td_e1 9 (by kernel_rfl) ?_
    refine te rfl ?_
    refine tl_append Tryz.sf241 Tryz.z236 rfl rfl rfl (by assumption) (Sow.toSok (by assumption)) rfl (by omega) rfl (kk := fun s26 hs26 => ?_)
    refine td_next (pd := [0]) (by kernel_rfl) (.cons rfl (pm_of rfl rfl rfl (fun _ kq => tl_p (by first | exact pr_loadW Tryz.ag27 Tryz.sz27 rfl | exact pr_ldA Tryz.ag27 Tryz.sz27 rfl) rfl kq)) .nil) ?_
    refine td_q 10 27 (pm_of rfl rfl rfl (fun _ kq => tl_rdS (f241_ct c { c with typ := 0 } _ ([mRight c, mTag c, mSealed c true] ++ mAuth y 64 ++ [(decide (y.pos = c.typ), 45)]) 252 [] [] (fun b => f252_ct b c) (Sow.toSok (by assumption))) (.cons rfl (.cons rfl (.cons rfl .nil))) rfl (kk := kq))) rfl rfl rfl ?_
    refine td_q 11 28 (pm_of rfl rfl rfl (fun _ kq => tl_p (pr_extract rfl rfl) rfl kq)) rfl rfl rfl ?_
    refine td_q 12 29 (pm_of rfl rfl rfl (fun _ kq => tl_p (pr_extract rfl rfl) rfl kq)) rfl rfl rfl ?_
    refine td_e1 13 (by kernel_rfl) ?_
    refine te rfl ?_
    refine tl_storeW Tryz.sz27 rfl rfl (k := ?_)
    refine td_next (pd := []) (by kernel_rfl) (.nil) ?_
    refine td_e1 14 (by kernel_rfl) ?_
    refine te rfl ?_
    refine tl_p (pr_assign rfl) rfl ?_
    refine td_next (pd := []) (by kernel_rfl) (.nil) ?_
    refine td_done (by kernel_rfl) ?_
    refine tq_next ?_
    refine tc_ret ?_
    exact tq_retG .ret (.inl rfl) () rfl (.cellA Tryz.ag27 Tryz.sz27 rfl (.tmp rfl .nil)) rfl

theorem f218_ct (c : Cap) : Rd Tryz.prog 218 #[c.v] [] [] (ci (dEnter c)) := by
  refine ct_intro Tryz.func218 rfl (by kernel_rfl) (n := 14) rfl rfl (E := [(0, c.v)]) rfl ?_
  intro κ hro
  refine tc_seq ?_
  refine tc_region ?_
  refine tl_box rfl rfl (fun b1 => ?_)
  refine tl_alloc Tryz.z27 rfl (fun b2 => ?_)
  refine tl_p (pr_assign rfl) rfl ?_
  refine tl_next ?_
  refine tc_seq ?_
  refine tc_draw Tryz.mixed [0, 1, 3, 4, 7, 8, 9] (by kernel_rfl) ?_
  refine td_q 0 4 (pm_of rfl rfl rfl (fun _ kq => tl_p (by first | exact pr_loadW Tryz.ag27 Tryz.sz27 rfl | exact pr_ldA Tryz.ag27 Tryz.sz27 rfl) rfl kq)) rfl rfl rfl ?_
  refine td_q 1 5 (pm_of rfl rfl rfl (fun _ kq => tl_p (by first | exact pr_loadW Tryz.ag27 Tryz.sz27 rfl | exact pr_ldA Tryz.ag27 Tryz.sz27 rfl) rfl kq)) rfl rfl rfl ?_
  refine td_q 3 7 (pm_of rfl rfl rfl (fun _ kq => tl_p (by first | exact pr_loadW Tryz.ag27 Tryz.sz27 rfl | exact pr_ldA Tryz.ag27 Tryz.sz27 rfl) rfl kq)) rfl rfl rfl ?_
  refine td_e1 2 (by kernel_rfl) ?_
  refine te rfl ?_
  refine tl_callS (f245_ct _) (.cons rfl .nil) rfl (kk := fun ⟨s6, hs6⟩ => ?_)
  refine td_next (pd := [3, 0]) (by kernel_rfl) (.cons rfl (pm_of rfl rfl rfl (fun _ kq => tl_p (by first | exact pr_loadW Tryz.ag27 Tryz.sz27 rfl | exact pr_ldA Tryz.ag27 Tryz.sz27 rfl) rfl kq)) (.cons rfl (pm_of rfl rfl rfl (fun _ kq => tl_p (by first | exact pr_loadW Tryz.ag27 Tryz.sz27 rfl | exact pr_ldA Tryz.ag27 Tryz.sz27 rfl) rfl kq)) .nil)) ?_
  refine td_q 4 8 (pm_of rfl rfl rfl (fun _ kq => tl_rdS (f254_ct _ _) (.cons rfl (.cons rfl .nil)) rfl (kk := kq))) rfl rfl rfl ?_
  refine td_e1 5 (by kernel_rfl) ?_
  refine te rfl ?_
  refine tl_buildS Tryz.sf241 Tryz.z236 rfl (.cons rfl .nil) rfl rfl rfl rfl rfl (kk := fun s9 hs9 ms9 => ?_)
  refine td_next (pd := [0]) (by kernel_rfl) (.cons rfl (pm_of rfl rfl rfl (fun _ kq => tl_p (by first | exact pr_loadW Tryz.ag27 Tryz.sz27 rfl | exact pr_ldA Tryz.ag27 Tryz.sz27 rfl) rfl kq)) .nil) ?_
  refine td_e1 6 (by kernel_rfl) ?_
  refine te rfl ?_
  refine tl_append Tryz.sf241 Tryz.z236 rfl rfl rfl (by assumption) (Sow.toSok (by assumption)) rfl (by omega) rfl (kk := fun s10 hs10 => ?_)
  refine td_next (pd := [0]) (by kernel_rfl) (.cons rfl (pm_of rfl rfl rfl (fun _ kq => tl_p (by first | exact pr_loadW Tryz.ag27 Tryz.sz27 rfl | exact pr_ldA Tryz.ag27 Tryz.sz27 rfl) rfl kq)) .nil) ?_
  refine td_q 7 11 (pm_of rfl rfl rfl (fun _ kq => tl_rdS (f241_ct c { c with typ := 1 } _ (mUsed c ++ [mHas c 4]) 253 [] [] (fun b => f253_ct b c) (Sow.toSok (by assumption))) (.cons rfl (.cons rfl (.cons rfl .nil))) rfl (kk := kq))) rfl rfl rfl ?_
  refine td_q 8 12 (pm_of rfl rfl rfl (fun _ kq => tl_p (pr_extract rfl rfl) rfl kq)) rfl rfl rfl ?_
  refine td_q 9 13 (pm_of rfl rfl rfl (fun _ kq => tl_p (pr_extract rfl rfl) rfl kq)) rfl rfl rfl ?_
  refine td_e1 10 (by kernel_rfl) ?_
  refine te rfl ?_
  refine tl_storeW Tryz.sz27 rfl rfl (k := ?_)
  refine td_next (pd := []) (by kernel_rfl) (.nil) ?_
  refine td_e1 11 (by kernel_rfl) ?_
  refine te rfl ?_
  refine tl_p (pr_assign rfl) rfl ?_
  refine td_next (pd := []) (by kernel_rfl) (.nil) ?_
  refine td_done (by kernel_rfl) ?_
  refine tq_next ?_
  refine tc_ret ?_
  exact tq_retG .ret (.inl rfl) () rfl (.cellA Tryz.ag27 Tryz.sz27 rfl (.tmp rfl .nil)) rfl

end Go.Proofs

namespace Go.Proofs
open Go Go.Sz
attribute [local irreducible] pt lift exs own emp
theorem Tryz.ag178 : aggB Tryz.prog 178 = some false := by kernel_rfl
theorem Tryz.bld180 : bldS Tryz.prog 180 = some ([(0, 1), (1, 1)], (.agg #[.nilFunc, .bool false] : Value).cells) := by kernel_rfl
theorem Tryz.fo180_0 : fOff Tryz.prog 180 0 = some (0, 1, false) := by kernel_rfl
theorem Tryz.fo180_1 : fOff Tryz.prog 180 1 = some (1, 1, false) := by kernel_rfl
theorem Tryz.it22 : intOfT Tryz.prog 22 = some .u32 := by kernel_rfl
theorem Tryz.it3 : intOfT Tryz.prog 3 = some .i64 := by kernel_rfl
theorem Tryz.mp182 : mapT Tryz.prog 182 = some (3, 180, .i64) := by kernel_rfl
theorem Tryz.sz180 : szOf Tryz.prog 180 = some 2 := by kernel_rfl
theorem Tryz.z180 : zeroV Tryz.prog 180 = some (.agg #[.nilFunc, .bool false]) := by kernel_rfl
theorem Tryz.bl180_0 {n : Nat} {D : List Deferred} {E : Env} {L : List HProp} {κ : Ctx} {T : TypeId} {x0 : Operand} {a0 : Value} (h0 : E.ev x0 = some a0) (o0 : oneV a0 = true := by rfl) :
    PR Tryz.prog (.build 180 #[(0, x0)]) T n D E L κ (.agg #[a0, .bool false]) := by
  refine pr_buildS Tryz.bld180 (.cons h0 .nil) ?_
  simp [Instr.fill, cells_agg, cells_one o0]
theorem Tryz.bl180_0_1 {n : Nat} {D : List Deferred} {E : Env} {L : List HProp} {κ : Ctx} {T : TypeId} {x0 x1 : Operand} {a0 a1 : Value} (h0 : E.ev x0 = some a0) (h1 : E.ev x1 = some a1) (o0 : oneV a0 = true := by rfl) (o1 : oneV a1 = true := by rfl) :
    PR Tryz.prog (.build 180 #[(0, x0), (1, x1)]) T n D E L κ (.agg #[a0, a1]) := by
  refine pr_buildS Tryz.bld180 (.cons h0 (.cons h1 .nil)) ?_
  simp [Instr.fill, cells_agg, cells_one o0, cells_one o1]
theorem cap_len (c : Cap) : c.l.length = 6 := rfl
abbrev capsL (l : List Cap) : List Value := l.flatMap Cap.l
theorem caps_ok {l : List Cap} : allOne (capsL l) = true := allOne_iff.2 fun v hv => by
  simp only [List.mem_flatMap, Cap.l, List.mem_cons, List.not_mem_nil, or_false] at hv
  obtain ⟨i, _, rfl | rfl | rfl | rfl | rfl | rfl⟩ := hv <;> rfl
abbrev fileS (b : Nat) : Sh := ⟨b, 8, [], [], 103, (0, 0)⟩
abbrev fileA (b : Nat) (l : List Cap) : HProp := sl (.mem (fileS b)) (capsL l)
def getR (l : List Cap) (r : Int) : Cap := if isReg r then l.getD r.toNat nullC else nullC
def setR (l : List Cap) (r : Int) (c : Cap) : List Cap := if isReg r && capRight c then l.set r.toNat c else l
theorem isReg_iff {r : Int} : isReg r = true ↔ 0 ≤ r ∧ r < 8 := by simp [isReg]
/-! numbers of 32 bits -/
def u32 (i : Int) : Int := IntKind.u32.wrap i
def truth (b : Bool) : Int := if b then 1 else 0
def aluG (op : Int) : Option ((Int → Int → Int) × Bool) :=
  if op = 3 then some (fun x y => u32 (x + y), false) else if op = 4 then some (fun x y => u32 (x - y), false) else if op = 5 then some (fun x y => u32 (x * y), false) else
  if op = 6 then some (fun x y => u32 (x.tdiv y), true) else if op = 7 then some (fun x y => truth (decide (x < y)), false) else if op = 8 then some (fun x y => truth (decide (x = y)), false) else none
abbrev ruleV (k : Nat) (b : Bool) : Value := .agg #[.func (.func k) #[] #[], .bool b]
abbrev rulesE : List (Int × Value) := [(3, ruleV 196 false), (4, ruleV 197 false), (5, ruleV 198 false), (6, ruleV 199 true), (7, ruleV 200 false), (8, ruleV 202 false)]
def aluDo (op a b : Int) : Int × Int :=
  match aluG op with
  | none => (0, 151)
  | some (g, d) => if d = true ∧ u32 b = 0 then (0, 201) else (wI (g (u32 a) (u32 b)), 0)
def aluIs (op : Int) : Bool := decide (3 ≤ op) && decide (op ≤ 8)

theorem f201_ct (b : Bool) : Rd Tryz.prog 201 #[.bool b] [] [] (.int .u32 (truth b)) := by
  refine ct_intro Tryz.func201 rfl (by kernel_rfl) (n := 4) rfl rfl (E := [(0, .bool b)]) rfl ?_
  intro κ hro
  refine tc_seq ?_
  refine tc_region ?_
  refine tl_p (pr_assign rfl) rfl ?_
  refine tl_next ?_
  refine tc_seq ?_
  refine tc_seq ?_
  refine tc_region ?_
  refine tl_p (pr_move rfl) rfl ?_
  refine tl_next ?_
  refine tc_if rfl (fun hc1 => ?_) (fun hc1 => ?_)
  · have hd1 := hc1
    try simp only [Bool.not_eq_true', Bool.not_eq_false', Bool.or_eq_true, Bool.and_eq_true, Bool.or_eq_false_iff, Bool.and_eq_false_iff, decide_eq_true_eq, decide_eq_false_iff_not, Bool.not_true, Bool.not_false, gval, Bool.not_eq_eq_eq_not] at hc1
    refine tc_seq ?_
    refine tc_region ?_
    refine tl_p (pr_assign rfl) rfl ?_
    refine tl_next ?_
    refine tc_ret (tq_then_ret ?_)
    exact tq_retE1 .ret (.inl rfl) () rfl rfl (by first | rfl | (subst_vars; rfl) | (simp [truth, *, cells_agg, resV, Cap.v]; done) | (simp [truth, *, cells_agg, resV, Cap.v]; omega) | (unfold truth; split <;> first | rfl | (exfalso; simp_all; done) | (exfalso; simp_all [wI]; first | done | omega)))
  · have hd1 := hc1
    try simp only [Bool.not_eq_true', Bool.not_eq_false', Bool.or_eq_true, Bool.and_eq_true, Bool.or_eq_false_iff, Bool.and_eq_false_iff, decide_eq_true_eq, decide_eq_false_iff_not, Bool.not_true, Bool.not_false, gval, Bool.not_eq_eq_eq_not] at hc1
    refine tc_skip (tq_next ?_)
    refine tc_seq ?_
    refine tc_region ?_
    refine tl_p (pr_assign rfl) rfl ?_
    refine tl_next ?_
    refine tc_ret ?_
    exact tq_retE1 .ret (.inl rfl) () rfl rfl (by first | rfl | (subst_vars; rfl) | (simp [truth, *, cells_agg, resV, Cap.v]; done) | (simp [truth, *, cells_agg, resV, Cap.v]; omega) | (unfold truth; split <;> first | rfl | (exfalso; simp_all; done) | (exfalso; simp_all [wI]; first | done | omega)))

theorem f196_ct (x y : Int) : Rd Tryz.prog 196 #[.int .u32 x, .int .u32 y] [] [] (.int .u32 (u32 (x + y))) := by
  refine ct_intro Tryz.func196 rfl (by kernel_rfl) (n := 8) rfl rfl (E := [(0, .int .u32 x), (1, .int .u32 y)]) rfl ?_
  intro κ hro
  refine tc_seq ?_
  refine tc_region ?_
  refine tl_p (pr_assign rfl) rfl ?_
  refine tl_next ?_
  refine tc_seq ?_
  refine tc_region ?_
  refine tl_p (pr_move rfl) rfl ?_
  refine tl_p (pr_move rfl) rfl ?_
  refine tl_p (pr_add rfl rfl) rfl ?_
  refine tl_p (pr_assign rfl) rfl ?_
  refine tl_next ?_
  refine tc_ret ?_
  exact tq_ret1 .ret (.inl rfl) () rfl rfl

theorem f197_ct (x y : Int) : Rd Tryz.prog 197 #[.int .u32 x, .int .u32 y] [] [] (.int .u32 (u32 (x - y))) := by
  refine ct_intro Tryz.func197 rfl (by kernel_rfl) (n := 8) rfl rfl (E := [(0, .int .u32 x), (1, .int .u32 y)]) rfl ?_
  intro κ hro
  refine tc_seq ?_
  refine tc_region ?_
  refine tl_p (pr_assign rfl) rfl ?_
  refine tl_next ?_
  refine tc_seq ?_
  refine tc_region ?_
  refine tl_p (pr_move rfl) rfl ?_
  refine tl_p (pr_move rfl) rfl ?_
  refine tl_p (pr_sub rfl rfl) rfl ?_
  refine tl_p (pr_assign rfl) rfl ?_
  refine tl_next ?_
  refine tc_ret ?_
  exact tq_ret1 .ret (.inl rfl) () rfl rfl

theorem f198_ct (x y : Int) : Rd Tryz.prog 198 #[.int .u32 x, .int .u32 y] [] [] (.int .u32 (u32 (x * y))) := by
  refine ct_intro Tryz.func198 rfl (by kernel_rfl) (n := 8) rfl rfl (E := [(0, .int .u32 x), (1, .int .u32 y)]) rfl ?_
  intro κ hro
  refine tc_seq ?_
  refine tc_region ?_
  refine tl_p (pr_assign rfl) rfl ?_
  refine tl_next ?_
  refine tc_seq ?_
  refine tc_region ?_
  refine tl_p (pr_move rfl) rfl ?_
  refine tl_p (pr_move rfl) rfl ?_
  refine tl_p (pr_mul rfl rfl) rfl ?_
  refine tl_p (pr_assign rfl) rfl ?_
  refine tl_next ?_
  refine tc_ret ?_
  exact tq_ret1 .ret (.inl rfl) () rfl rfl

theorem f199_ct (x y : Int) (hy : y ≠ 0) : Rd Tryz.prog 199 #[.int .u32 x, .int .u32 y] [] [] (.int .u32 (u32 (x.tdiv y))) := by
  refine ct_intro Tryz.func199 rfl (by kernel_rfl) (n := 8) rfl rfl (E := [(0, .int .u32 x), (1, .int .u32 y)]) rfl ?_
  intro κ hro
  refine tc_seq ?_
  refine tc_region ?_
  refine tl_p (pr_assign rfl) rfl ?_
  refine tl_next ?_
  refine tc_seq ?_
  refine tc_region ?_
  refine tl_p (pr_move rfl) rfl ?_
  refine tl_p (pr_move rfl) rfl ?_
  refine tl_p (pr_quo rfl rfl hy) rfl ?_
  refine tl_p (pr_assign rfl) rfl ?_
  refine tl_next ?_
  refine tc_ret ?_
  exact tq_ret1 .ret (.inl rfl) () rfl rfl

theorem f200_ct (x y : Int) : Rd Tryz.prog 200 #[.int .u32 x, .int .u32 y] [] [] (.int .u32 (truth (decide (x < y)))) := by
  refine ct_intro Tryz.func200 rfl (by kernel_rfl) (n := 9) rfl rfl (E := [(0, .int .u32 x), (1, .int .u32 y)]) rfl ?_
  intro κ hro
  refine tc_seq ?_
  refine tc_region ?_
  refine tl_p (pr_assign rfl) rfl ?_
  refine tl_next ?_
  refine tc_seq ?_
  refine tc_region ?_
  refine tl_p (pr_move rfl) rfl ?_
  refine tl_p (pr_move rfl) rfl ?_
  refine tl_p (pr_lss rfl rfl) rfl ?_
  refine tl_rdS (f201_ct _) (.cons rfl .nil) rfl (kk := ?_)
  refine tl_p (pr_assign rfl) rfl ?_
  refine tl_next ?_
  refine tc_ret ?_
  exact tq_ret1 .ret (.inl rfl) () rfl rfl

theorem f202_ct (x y : Int) : Rd Tryz.prog 202 #[.int .u32 x, .int .u32 y] [] [] (.int .u32 (truth (decide (x = y)))) := by
  refine ct_intro Tryz.func202 rfl (by kernel_rfl) (n := 9) rfl rfl (E := [(0, .int .u32 x), (1, .int .u32 y)]) rfl ?_
  intro κ hro
  refine tc_seq ?_
  refine tc_region ?_
  refine tl_p (pr_assign rfl) rfl ?_
  refine tl_next ?_
  refine tc_seq ?_
  refine tc_region ?_
  refine tl_p (pr_move rfl) rfl ?_
  refine tl_p (pr_move rfl) rfl ?_
  refine tl_p (pr_eql rfl rfl) rfl ?_
  refine tl_rdS (f201_ct _) (.cons rfl .nil) rfl (kk := ?_)
  refine tl_p (pr_assign rfl) rfl ?_
  refine tl_next ?_
  refine tc_ret ?_
  exact tq_ret1 .ret (.inl rfl) () rfl rfl

theorem f124_ct  : Ct Tryz.prog 124 #[] [] [] (X := Nat) (fun b => .map (some b)) (fun b N => pt b (mapO rulesE) :: N) := by
  refine ct_intro Tryz.func124 rfl (by kernel_rfl) (n := 9) rfl rfl (E := []) rfl ?_
  intro κ hro
  refine tc_seq ?_
  refine tc_region ?_
  refine tl_p (pr_assign rfl) rfl ?_
  refine tl_next ?_
  refine tc_seq ?_
  refine tc_region ?_
  refine tl_makeMap rfl (fun b1 => ?_)
  refine tl_p (Tryz.bl180_0 rfl) rfl ?_
  refine tl_insert Tryz.mp182 rfl rfl rfl rfl (kc := ?_)
  refine tl_p (Tryz.bl180_0 rfl) rfl ?_
  refine tl_insert Tryz.mp182 rfl rfl rfl rfl (kc := ?_)
  refine tl_p (Tryz.bl180_0 rfl) rfl ?_
  refine tl_insert Tryz.mp182 rfl rfl rfl rfl (kc := ?_)
  refine tl_p (Tryz.bl180_0_1 rfl rfl) rfl ?_
  refine tl_insert Tryz.mp182 rfl rfl rfl rfl (kc := ?_)
  refine tl_p (Tryz.bl180_0 rfl) rfl ?_
  refine tl_insert Tryz.mp182 rfl rfl rfl rfl (kc := ?_)
  refine tl_p (Tryz.bl180_0 rfl) rfl ?_
  refine tl_insert Tryz.mp182 rfl rfl rfl rfl (kc := ?_)
  refine tl_p (pr_move rfl) rfl ?_
  refine tl_p (pr_assign rfl) rfl ?_
  refine tl_next ?_
  refine tc_ret ?_
  exact tq_ret1 .ret (.inl rfl) b1 rfl rfl

theorem rules_is (op : Int) : (mapGet op rulesE).isSome = aluIs op := by
  simp only [mapGet, aluIs]
  repeat' split
  all_goals first | (subst_vars; rfl) | (simp; omega)
theorem rules_agg (op : Int) : ∃ f b, (mapGet op rulesE).getD (.agg #[.nilFunc, .bool false]) = .agg #[f, .bool b] ∧ oneV f = true := by
  simp only [mapGet]
  repeat' split
  all_goals exact ⟨_, _, rfl, rfl⟩

theorem lookup_rule {op : Int} {v : Value} {i : Bool} {n : Nat} {D : List Deferred} {E : Env} {L : List HProp} {κ : Ctx} {T : TypeId} {x y : Operand} {b : Nat} (hf : (mapGet op rulesE).getD (.agg #[.nilFunc, .bool false]) = v) (h0 : (mapGet op rulesE).isSome = i)
    (hx : E.ev x = some (.map (some b))) (hy : E.ev y = some (.int .i64 op)) (hr : Rdb L κ b (mapO rulesE) := by first | exact Rdb.fr (by assumption) | exact Rdb.own (by repeat (first | exact Has.here | apply Has.there))) : PR Tryz.prog (.lookup 182 x y true) T n D E L κ (.tuple #[v, .bool i]) := by
  have h := (pr_lookup2 (P := Tryz.prog) (n := n) (D := D) (L := L) (κ := κ) (T := T) Tryz.mp182 Tryz.z180 hx hy hr).1
  rw [hf, h0] at h; exact h

theorem f64_ct (op : Int) : Rd Tryz.prog 64 #[.int .i64 op] [] [] (.bool (aluIs op)) := by
  refine ct_intro Tryz.func64 rfl (by kernel_rfl) (n := 12) rfl rfl (E := [(0, .int .i64 op)]) rfl ?_
  intro κ hro
  obtain ⟨f0, b0, hf0, h1f⟩ := rules_agg op
  have h0 := rules_is op
  refine tc_seq ?_
  refine tc_region ?_
  refine tl_p (pr_assign rfl) rfl ?_
  refine tl_next ?_
  refine tc_seq ?_
  refine tc_region ?_
  refine tl_callS (f124_ct ) (.nil) rfl (kk := fun m6 => ?_)
  refine tl_p (pr_move rfl) rfl ?_
  refine tl_p (lookup_rule hf0 h0 rfl rfl) rfl ?_
  refine tl_p (pr_move rfl) rfl ?_
  refine tl_p (pr_extract rfl rfl) rfl ?_
  refine tl_p (pr_extract rfl rfl) rfl ?_
  refine tl_alloc Tryz.z180 rfl (fun b3 => ?_)
  refine tl_storeW Tryz.sz180 rfl rfl (h1 := by show (oneV f0 && (true && true)) = true; rw [h1f]; rfl) (k := ?_)
  refine tl_p (pr_assign rfl) rfl ?_
  refine tl_next ?_
  refine tc_seq ?_
  refine tc_region ?_
  refine tl_p (pr_move rfl) rfl ?_
  refine tl_p (pr_assign rfl) rfl ?_
  refine tl_next ?_
  refine tc_ret ?_
  exact tq_ret1 .ret (.inl rfl) () rfl rfl

theorem f126_none (op a b : Int) (hg : mapGet op rulesE = none) : Rd Tryz.prog 126 #[.int .i64 op, .int .i64 a, .int .i64 b] [] [] (ii (0, 151)) := by
  refine ct_intro Tryz.func126 rfl (by kernel_rfl) (n := 38) rfl rfl (E := [(0, .int .i64 op), (1, .int .i64 a), (2, .int .i64 b)]) rfl ?_
  intro κ hro
  have hf0 : (mapGet op rulesE).getD (.agg #[.nilFunc, .bool false]) = .agg #[.nilFunc, .bool false] := by rw [hg]; rfl
  have h0 : (mapGet op rulesE).isSome = false := by rw [hg]; rfl
  refine tc_seq ?_
  refine tc_region ?_
  refine tl_p (pr_assign rfl) rfl ?_
  refine tl_p (pr_assign rfl) rfl ?_
  refine tl_next ?_
  refine tc_seq ?_
  refine tc_region ?_
  refine tl_p (pr_move rfl) rfl ?_
  refine tl_p (pr_conv Tryz.it22 Tryz.underlying3 rfl) rfl ?_
  refine tl_p (pr_move rfl) rfl ?_
  refine tl_p (pr_conv Tryz.it22 Tryz.underlying3 rfl) rfl ?_
  refine tl_p (pr_assign rfl) rfl ?_
  refine tl_p (pr_assign rfl) rfl ?_
  refine tl_next ?_
  refine tc_seq ?_
  refine tc_region ?_
  refine tl_callS (f124_ct ) (.nil) rfl (kk := fun m17 => ?_)
  refine tl_p (pr_move rfl) rfl ?_
  refine tl_p (lookup_rule hf0 h0 rfl rfl) rfl ?_
  refine tl_p (pr_move rfl) rfl ?_
  refine tl_p (pr_extract rfl rfl) rfl ?_
  refine tl_p (pr_extract rfl rfl) rfl ?_
  refine tl_alloc Tryz.z180 rfl (fun b10 => ?_)
  refine tl_storeW Tryz.sz180 rfl rfl (k := ?_)
  refine tl_p (pr_assign rfl) rfl ?_
  refine tl_next ?_
  refine tc_seq ?_
  refine tc_block ?_
  refine tc_seq ?_
  refine tc_region ?_
  refine tl_p (pr_move rfl) rfl ?_
  refine tl_p (pr_not rfl) rfl ?_
  refine tl_p (pr_assign rfl) rfl ?_
  refine tl_next ?_
  refine tc_if_true rfl (rfl) ?_
  refine tc_seq ?_
  refine tc_region ?_
  refine tl_p (pr_assign rfl) rfl ?_
  refine tl_p (pr_assign rfl) rfl ?_
  refine tl_next ?_
  refine tc_ret (tq_blk_ret (tq_then_ret ?_))
  exact tq_ret2 .ret (.inl rfl) () rfl rfl rfl rfl

theorem f126_some (op a b : Int) (k : Nat) (dv : Bool) (g : Int → Int → Int) (hg : mapGet op rulesE = some (ruleV k dv)) (hk : ∀ x y, (dv = true → y ≠ 0) → Rd Tryz.prog k #[.int .u32 x, .int .u32 y] [] [] (.int .u32 (g x y))) : Rd Tryz.prog 126 #[.int .i64 op, .int .i64 a, .int .i64 b] [] [] (ii (if dv = true ∧ u32 b = 0 then (0, 201) else (wI (g (u32 a) (u32 b)), 0))) := by
  refine ct_intro Tryz.func126 rfl (by kernel_rfl) (n := 38) rfl rfl (E := [(0, .int .i64 op), (1, .int .i64 a), (2, .int .i64 b)]) rfl ?_
  intro κ hro
  have hf0 : (mapGet op rulesE).getD (.agg #[.nilFunc, .bool false]) = ruleV k dv := by rw [hg]; rfl
  have h0 : (mapGet op rulesE).isSome = true := by rw [hg]; rfl
  refine tc_seq ?_
  refine tc_region ?_
  refine tl_p (pr_assign rfl) rfl ?_
  refine tl_p (pr_assign rfl) rfl ?_
  refine tl_next ?_
  refine tc_seq ?_
  refine tc_region ?_
  refine tl_p (pr_move rfl) rfl ?_
  refine tl_p (pr_conv Tryz.it22 Tryz.underlying3 rfl) rfl ?_
  refine tl_p (pr_move rfl) rfl ?_
  refine tl_p (pr_conv Tryz.it22 Tryz.underlying3 rfl) rfl ?_
  refine tl_p (pr_assign rfl) rfl ?_
  refine tl_p (pr_assign rfl) rfl ?_
  refine tl_next ?_
  refine tc_seq ?_
  refine tc_region ?_
  refine tl_callS (f124_ct ) (.nil) rfl (kk := fun m17 => ?_)
  refine tl_p (pr_move rfl) rfl ?_
  refine tl_p (lookup_rule hf0 h0 rfl rfl) rfl ?_
  refine tl_p (pr_move rfl) rfl ?_
  refine tl_p (pr_extract rfl rfl) rfl ?_
  refine tl_p (pr_extract rfl rfl) rfl ?_
  refine tl_alloc Tryz.z180 rfl (fun b10 => ?_)
  refine tl_storeW Tryz.sz180 rfl rfl (k := ?_)
  refine tl_p (pr_assign rfl) rfl ?_
  refine tl_next ?_
  refine tc_seq ?_
  refine tc_block ?_
  refine tc_seq ?_
  refine tc_region ?_
  refine tl_p (pr_move rfl) rfl ?_
  refine tl_p (pr_not rfl) rfl ?_
  refine tl_p (pr_assign rfl) rfl ?_
  refine tl_next ?_
  refine tc_if_false rfl (rfl) ?_
  refine tc_seq ?_
  refine tc_region ?_
  refine tl_p (pr_fieldAddr Tryz.fo180_1 rfl) rfl ?_
  refine tl_p (pr_ld Tryz.ag4 rfl) rfl ?_
  refine tl_p (pr_move rfl) rfl ?_
  refine tl_gt rfl rfl (fun h => pr_move rfl) (by intro _ h; cases h) rfl ?_
  refine tl_gt rfl rfl (fun h => pr_eql (gv rfl h) rfl) (by intro _ h; cases h) rfl ?_
  refine tl_p (pr_and rfl rfl rfl) rfl ?_
  refine tl_p (pr_assign rfl) rfl ?_
  refine tl_next ?_
  refine tc_if rfl (fun hc2 => ?_) (fun hc2 => ?_)
  · have hd2 := hc2
    try simp only [Bool.not_eq_true', Bool.not_eq_false', Bool.or_eq_true, Bool.and_eq_true, Bool.or_eq_false_iff, Bool.and_eq_false_iff, decide_eq_true_eq, decide_eq_false_iff_not, Bool.not_true, Bool.not_false, gval, Bool.not_eq_eq_eq_not] at hc2
    refine tc_seq ?_
    refine tc_region ?_
    refine tl_p (pr_assign rfl) rfl ?_
    refine tl_p (pr_assign rfl) rfl ?_
    refine tl_next ?_
    refine tc_ret (tq_blk_ret (tq_then_ret ?_))
    exact tq_ret2 .ret (.inl rfl) () rfl rfl rfl (by have h : dv = true ∧ u32 b = 0 := (by simpa [u32] using hd2); rw [if_pos h])
  · have hd2 := hc2
    try simp only [Bool.not_eq_true', Bool.not_eq_false', Bool.or_eq_true, Bool.and_eq_true, Bool.or_eq_false_iff, Bool.and_eq_false_iff, decide_eq_true_eq, decide_eq_false_iff_not, Bool.not_true, Bool.not_false, gval, Bool.not_eq_eq_eq_not] at hc2
    refine tc_skip (tq_blk_normal (tq_next ?_))
    refine tc_seq ?_
    refine tc_region ?_
    refine tl_p (pr_fieldAddr Tryz.fo180_0 rfl) rfl ?_
    refine tl_p (pr_ld Tryz.ag178 rfl) rfl ?_
    refine tl_p (pr_move rfl) rfl ?_
    refine tl_p (pr_move rfl) rfl ?_
    refine tl_rdV (hk (u32 a) (u32 b) (fun e => by intro e2; simp [u32, e, e2] at hd2; simp_all [u32])) rfl (.cons rfl (.cons rfl .nil)) rfl (kk := ?_)
    refine tl_p (pr_conv Tryz.it3 Tryz.underlying22 rfl) rfl ?_
    refine tl_p (pr_assign rfl) rfl ?_
    refine tl_p (pr_assign rfl) rfl ?_
    refine tl_next ?_
    refine tc_ret ?_
    exact tq_ret2 .ret (.inl rfl) () rfl rfl rfl (by have h : ¬ (dv = true ∧ u32 b = 0) := (by simpa [u32] using hd2); rw [if_neg h]; rfl)

theorem f126_ct (op a b : Int) : Rd Tryz.prog 126 #[.int .i64 op, .int .i64 a, .int .i64 b] [] [] (ii (aluDo op a b)) := by
  unfold aluDo aluG
  by_cases h3 : op = 3
  · subst h3; exact (f126_some 3 a b 196 false _ rfl fun x y _ => f196_ct x y).val (by simp)
  by_cases h4 : op = 4
  · subst h4; exact (f126_some 4 a b 197 false _ rfl fun x y _ => f197_ct x y).val (by simp)
  by_cases h5 : op = 5
  · subst h5; exact (f126_some 5 a b 198 false _ rfl fun x y _ => f198_ct x y).val (by simp)
  by_cases h6 : op = 6
  · subst h6; exact (f126_some 6 a b 199 true _ rfl fun x y h => f199_ct x y (h rfl)).val (by simp)
  by_cases h7 : op = 7
  · subst h7; exact (f126_some 7 a b 200 false _ rfl fun x y _ => f200_ct x y).val (by simp)
  by_cases h8 : op = 8
  · subst h8; exact (f126_some 8 a b 202 false _ rfl fun x y _ => f202_ct x y).val (by simp)
  · exact (f126_none op a b (by simp [mapGet, *])).val (by simp [*])

end Go.Proofs

namespace Go.Proofs
open Go Go.Sz
attribute [local irreducible] pt lift exs own emp
theorem Tryz.ag5 : aggB Tryz.prog 5 = some false := by kernel_rfl
theorem Tryz.it5 : intOfT Tryz.prog 5 = some .u8 := by kernel_rfl
theorem Tryz.sf24 : slcF Tryz.prog 24 = some (27, 6, 48) := by kernel_rfl
theorem Tryz.sf64 : slcF Tryz.prog 64 = some (5, 1, 1) := by kernel_rfl
theorem Tryz.sl24 : slcOf Tryz.prog 24 = some (27, 6) := by kernel_rfl
theorem Tryz.sl64 : slcOf Tryz.prog 64 = some (5, 1) := by kernel_rfl
theorem Tryz.sz5 : szOf Tryz.prog 5 = some 1 := by kernel_rfl
theorem Tryz.z5 : zeroV Tryz.prog 5 = some (.int .u8 0) := by kernel_rfl
theorem caps_n {s : Shp} {n : Nat} {l : List Cap} (h : Sok 6 s n (capsL l)) : l.length = n := by
  have := h.len; rw [fm_len cap_len] at this; omega
theorem caps_eq {l : List Cap} {n : Nat} (h : l.length = n) : cutL (capsL l) 0 (n * 6) = capsL l := by
  unfold cutL
  rw [List.drop_zero, List.take_of_length_le]
  rw [fm_len cap_len]; omega
abbrev u8s (ns : List Int) : List Value := ns.map (Value.int .u8)
theorem u8s_ok {ns : List Int} : allOne (u8s ns) = true := allOne_iff.2 fun v hv => by
  simp only [List.mem_map] at hv
  obtain ⟨i, _, rfl⟩ := hv
  rfl
theorem u8s_n {s : Shp} {n : Nat} {l : List Int} (h : Sok 1 s n (u8s l)) : l.length = n := by
  have := h.len; simp at this; omega
theorem made_one (z : Value) (k : Nat) : (madeCells #[z] (k * 1)).toList = List.replicate k z := by
  have e : madeCells #[z] (k * 1) = Array.replicate k z := by
    apply Array.ext
    · simp [size_madeCells]
    · intro i h1 h2
      simp [madeCells, Nat.mod_one]
  rw [e]; simp
def byteAt (n : Int) (i : Nat) : Int := IntKind.u8.wrap (n.fdiv (2 ^ min (8 * (i : Int)).toNat 64))
def bytesI (n : Int) (k i : Nat) : List Int := (List.range k).map fun q => if k - 1 - q < i then byteAt n (k - 1 - q) else 0
def bytesOf (n : Int) (k : Nat) : List Int := bytesI n k k
theorem bytesI_zero (n : Int) (k : Nat) : u8s (bytesI n k 0) = List.replicate k (.int .u8 0) := by
  unfold bytesI u8s
  apply List.ext_getElem <;> simp
theorem bytesI_len (n : Int) (k i : Nat) : (bytesI n k i).length = k := by simp [bytesI]
theorem bytesI_set {n : Int} {k i : Nat} (h : i < k) : (bytesI n k i).set (k - 1 - i) (byteAt n i) = bytesI n k (i + 1) := by
  unfold bytesI
  apply List.ext_getElem
  · simp
  · intro q h1 h2
    simp at h1 h2
    rw [List.getElem_set]
    by_cases e : k - 1 - i = q
    · subst e
      simp [show k - 1 - (k - 1 - i) = i from by omega]
    · simp [e, show k - 1 - q < i + 1 ↔ k - 1 - q < i from by omega]
def numOf (l : List Int) : Int := l.foldl (fun n c => bOr .u32 (IntKind.u32.wrap (n * 2 ^ min (8 : Int).toNat 32)) (IntKind.u32.wrap c)) 0
theorem numOf_take {l : List Int} {j : Nat} (h : j < l.length) : numOf (l.take (j + 1)) = bOr .u32 (IntKind.u32.wrap (numOf (l.take j) * 2 ^ min (8 : Int).toNat 32)) (IntKind.u32.wrap l[j]) := by
  rw [List.take_succ_eq_append_getElem h, numOf, List.foldl_append]; rfl
theorem put_one {l : List Value} {i : Nat} {v : Value} (h : i < l.length) : putAt l i [v] = l.set i v := by
  unfold putAt
  rw [List.set_eq_take_append_cons_drop, if_pos h]
  simp
def idxF (p : Cap → Bool) : Nat → List Cap → Int
  | _, [] => -1
  | j, c :: l => if p c then j else idxF p (j + 1) l
theorem idxF_drop {p : Cap → Bool} {l : List Cap} {j : Nat} (h : j < l.length) : idxF p j (l.drop j) = if p l[j] then (j : Int) else idxF p (j + 1) (l.drop (j + 1)) := by
  rw [List.drop_eq_getElem_cons h]; rfl
theorem idxF_any {p : Cap → Bool} : ∀ (l : List Cap) (j : Nat), decide (0 ≤ idxF p j l) = l.any p
  | [], _ => rfl
  | c :: l, j => by
    simp only [idxF, List.any_cons]
    by_cases e : p c = true
    · simp [e]
    · simp [e]; simpa using idxF_any l (j + 1)

theorem f210_ct (n : Int) (k : Nat) (hk : 1 ≤ k ∧ k ≤ 4) : Ct Tryz.prog 210 #[.int .i64 n, .int .i64 (k : Int)] [] [] (X := {s : Shp // Sow 1 s k (u8s (bytesOf n k))}) (fun x => sv x.1 k) (fun x N => sl x.1 (u8s (bytesOf n k)) :: N) := by
  refine ct_intro Tryz.func210 rfl (by kernel_rfl) (n := 32) rfl rfl (E := [(0, .int .i64 n), (1, .int .i64 (k : Int))]) rfl ?_
  intro κ hro
  have hz0 := bytesI_zero n k
  refine tc_seq ?_
  refine tc_region ?_
  refine tl_p (pr_assign rfl) rfl ?_
  refine tl_next ?_
  refine tc_seq ?_
  refine tc_seq ?_
  refine tc_region ?_
  refine tl_p (pr_move rfl) rfl ?_
  refine tl_p (pr_lss rfl rfl) rfl ?_
  refine tl_p (pr_move rfl) rfl ?_
  refine tl_gf rfl rfl (fun h => pr_move rfl) (by intro _ h; cases h) rfl ?_
  refine tl_gf rfl rfl (fun h => pr_gtr (gv rfl h) rfl) (by intro _ h; cases h) rfl ?_
  refine tl_p (pr_or rfl rfl rfl) rfl ?_
  refine tl_next ?_
  refine tc_if_false rfl (by simp; omega) ?_
  refine tc_skip (tq_next ?_)
  refine tc_seq ?_
  refine tc_region ?_
  refine tl_p (pr_move rfl) rfl ?_
  refine tl_make Tryz.sf64 Tryz.z5 rfl rfl (by omega) ((made_one _ _).trans (bytesI_zero n k).symm) rfl (kk := fun s14 hs14 ms14 => ?_)
  refine tl_p (pr_assign rfl) rfl ?_
  refine tl_next ?_
  refine tc_seq ?_
  refine tc_seq ?_
  refine tc_region ?_
  refine tl_p (pr_move rfl) rfl ?_
  refine tl_p (pr_move rfl) rfl ?_
  refine tl_next ?_
  refine tc_block ?_
  refine tc_loopP (X := Nat) (fun j => j ≤ k) (fun j => [(5, sv s14 k), (15, .int .i64 (k : Int)), (16, .int .i64 (j : Int)), (1, .int .i64 (k : Int)), (0, .int .i64 n)]) (fun j => [sl s14 (u8s (bytesI n k j))]) (fun j => k - j) 0 (by omega) (.cons rfl (.cons rfl (.cons rfl (.cons rfl (.cons rfl .nil))))) (fun j hj => ?_)
  have ok : Sok 1 s14 k (u8s (bytesI n k j)) := ⟨by simp [bytesI_len], hs14.far, hs14.cap, hs14.bnd⟩
  refine tc_seq ?_
  refine tc_region ?_
  refine tl_p (pr_lss rfl rfl) rfl ?_
  refine tl_next ?_
  refine tc_seq ?_
  refine tc_if rfl (fun hc2 => ?_) (fun hc2 => ?_)
  · have hd2 := hc2
    try simp only [Bool.not_eq_true', Bool.not_eq_false', Bool.or_eq_true, Bool.and_eq_true, Bool.or_eq_false_iff, Bool.and_eq_false_iff, decide_eq_true_eq, decide_eq_false_iff_not, Bool.not_true, Bool.not_false, gval, Bool.not_eq_eq_eq_not] at hc2
    refine tc_skip (tq_next ?_)
    refine tc_seq ?_
    refine tc_block ?_
    refine tc_seq ?_
    refine tc_region ?_
    refine tl_p (pr_move rfl) rfl ?_
    refine tl_p (pr_assign rfl) rfl ?_
    refine tl_next ?_
    refine tc_region ?_
    refine tl_p (pr_move rfl) rfl ?_
    refine tl_p (pr_move rfl) rfl ?_
    refine tl_p (pr_subN rfl rfl (by omega)) rfl ?_
    refine tl_p (pr_move rfl) rfl ?_
    refine tl_p (pr_subN rfl rfl (by omega)) rfl ?_
    refine tl_p (pr_move rfl) rfl ?_
    refine tl_p (pr_move rfl) rfl ?_
    refine tl_p (pr_mulN rfl rfl (by omega)) rfl ?_
    refine tl_p (pr_shr rfl rfl (by omega)) rfl ?_
    refine tl_p (pr_conv Tryz.it5 Tryz.underlying3 rfl) rfl ?_
    refine tl_p (pr_ixE Tryz.sl64 rfl rfl (by omega) (by omega) ok) rfl ?_
    refine tl_stE (s := s14) (j := k - 1 - j) (c := u8s (bytesI n k j)) (c' := u8s (bytesI n k (j + 1))) Tryz.sz5 (by show some (ea s14 (((k : Int) - 1 - (j : Int)).toNat * 1)) = _; congr 2; omega) rfl (by simp [bytesI_len]; omega) (by show putAt _ _ [Value.int .u8 (byteAt n j)] = _; rw [put_one (by simp [bytesI_len]; omega), ← List.map_set, bytesI_set (by omega)]) (fun g e => (hs14.room g e).1) (k := ?_)
    refine tl_nil (tq_blk_normal (tq_next ?_))
    refine tc_region ?_
    refine tl_p (pr_addN rfl rfl (by omega)) rfl ?_
    refine tl_p (pr_move rfl) rfl ?_
    refine tl_nil ?_
    exact tq_roundP (j + 1) (by omega) (by omega) (.cons rfl (.cons rfl (.cons rfl (.cons rfl (.cons rfl .nil)))))
  · have hd2 := hc2
    try simp only [Bool.not_eq_true', Bool.not_eq_false', Bool.or_eq_true, Bool.and_eq_true, Bool.or_eq_false_iff, Bool.and_eq_false_iff, decide_eq_true_eq, decide_eq_false_iff_not, Bool.not_true, Bool.not_false, gval, Bool.not_eq_eq_eq_not] at hc2
    refine tc_exit (tq_then_exit (tq_then_exit (tq_blk_here ?_)))
    refine tq_next ?_
    refine tc_seq ?_
    refine tc_region ?_
    refine tl_p (pr_move rfl) rfl ?_
    refine tl_p (pr_assign rfl) rfl ?_
    refine tl_next ?_
    refine tc_ret ?_
    have e : j = k := by omega
    subst e
    exact tq_ret1 .ret (.inl rfl) ⟨s14, ⟨ok, hs14.tame, hs14.room⟩⟩ rfl rfl

theorem f208_ct (s : Shp) (n : Nat) (ns : List Int) (hs : Sok 1 s n (u8s ns)) : Rd Tryz.prog 208 #[sv s n] (ra s (u8s ns)) [] (.int .i64 (wI (numOf ns))) := by
  refine ct_intro Tryz.func208 rfl (by kernel_rfl) (n := 20) rfl rfl (E := [(0, sv s n)]) rfl ?_
  intro κ hro
  have hn := u8s_n hs
  have hb := hs.bnd
  refine tc_seq ?_
  refine tc_region ?_
  refine tl_p (pr_assign rfl) rfl ?_
  refine tl_next ?_
  refine tc_seq ?_
  refine tc_region ?_
  refine tl_p (pr_assign rfl) rfl ?_
  refine tl_next ?_
  refine tc_seq ?_
  refine tc_seq ?_
  refine tc_region ?_
  refine tl_p (pr_move rfl) rfl ?_
  refine tl_p (pr_lenS Tryz.sf64 rfl) rfl ?_
  refine tl_p (pr_move rfl) rfl ?_
  refine tl_next ?_
  refine tc_block ?_
  refine tc_loopP (X := Nat) (fun j => j ≤ n) (fun j => [(6, sv s n), (7, .int .i64 n), (8, .int .i64 (j : Int)), (3, .int .u32 (numOf (ns.take j)))]) (fun j => []) (fun j => n - j) 0 (by omega) (.cons rfl (.cons rfl (.cons rfl (.cons rfl .nil)))) (fun j hj => ?_)
  refine tc_seq ?_
  refine tc_region ?_
  refine tl_p (pr_lss rfl rfl) rfl ?_
  refine tl_next ?_
  refine tc_seq ?_
  refine tc_if rfl (fun hc1 => ?_) (fun hc1 => ?_)
  · have hd1 := hc1
    try simp only [Bool.not_eq_true', Bool.not_eq_false', Bool.or_eq_true, Bool.and_eq_true, Bool.or_eq_false_iff, Bool.and_eq_false_iff, decide_eq_true_eq, decide_eq_false_iff_not, Bool.not_true, Bool.not_false, gval, Bool.not_eq_eq_eq_not] at hc1
    refine tc_skip (tq_next ?_)
    refine tc_seq ?_
    refine tc_block ?_
    refine tc_seq ?_
    refine tc_region ?_
    refine tl_p (pr_ixE Tryz.sl64 rfl rfl) rfl ?_
    refine tl_p (pr_ldE Tryz.ag5 rfl (c := u8s ns) (v := .int .u8 (ns[j]'(by omega))) (by simp)) rfl ?_
    refine tl_p (pr_assign rfl) rfl ?_
    refine tl_next ?_
    refine tc_region ?_
    refine tl_p (pr_move rfl) rfl ?_
    refine tl_p (pr_shl rfl rfl (by decide)) rfl ?_
    refine tl_p (pr_move rfl) rfl ?_
    refine tl_p (pr_conv Tryz.it22 Tryz.underlying5 rfl) rfl ?_
    refine tl_p (pr_bOr rfl rfl) rfl ?_
    refine tl_p (pr_assign rfl) rfl ?_
    refine tl_nil (tq_blk_normal (tq_next ?_))
    refine tc_region ?_
    refine tl_p (pr_addN rfl rfl (by omega)) rfl ?_
    refine tl_p (pr_move rfl) rfl ?_
    refine tl_nil ?_
    exact tq_roundP (j + 1) (by omega) (by omega) (.cons rfl (.cons rfl (.cons rfl (.cons (by rw [numOf_take (by omega)]; rfl) .nil))))
  · have hd1 := hc1
    try simp only [Bool.not_eq_true', Bool.not_eq_false', Bool.or_eq_true, Bool.and_eq_true, Bool.or_eq_false_iff, Bool.and_eq_false_iff, decide_eq_true_eq, decide_eq_false_iff_not, Bool.not_true, Bool.not_false, gval, Bool.not_eq_eq_eq_not] at hc1
    refine tc_exit (tq_then_exit (tq_then_exit (tq_blk_here ?_)))
    refine tq_next ?_
    refine tc_seq ?_
    refine tc_region ?_
    refine tl_p (pr_move rfl) rfl ?_
    refine tl_p (pr_conv Tryz.it3 Tryz.underlying22 rfl) rfl ?_
    refine tl_p (pr_assign rfl) rfl ?_
    refine tl_next ?_
    refine tc_ret ?_
    exact tq_ret1 .ret (.inl rfl) () rfl (by have e : j = ns.length := (by omega); subst e; rw [List.take_length]; rfl)

theorem f61_ct (s : Shp) (n : Nat) (l : List Cap) (hs : Sok 6 s n (capsL l)) (hb : n ≤ 1048576) : Ct Tryz.prog 61 #[sv s n] (ra s (capsL l)) [] (X := {s : Shp // Sow 6 s n (capsL l)}) (fun x => sv x.1 n) (fun x N => sl x.1 (capsL l) :: N) := by
  refine ct_intro Tryz.func61 rfl (by kernel_rfl) (n := 8) rfl rfl (E := [(0, sv s n)]) rfl ?_
  intro κ hro
  refine tc_seq ?_
  refine tc_region ?_
  refine tl_p (pr_assign rfl) rfl ?_
  refine tl_next ?_
  refine tc_seq ?_
  refine tc_seq ?_
  refine tc_region ?_
  refine tl_p (pr_move rfl) rfl ?_
  refine tl_p (pr_eqlS Tryz.sf24 rfl) rfl ?_
  refine tl_next ?_
  refine tc_if rfl (fun hc1 => ?_) (fun hc1 => ?_)
  · have hd1 := hc1
    try simp only [Bool.not_eq_true', Bool.not_eq_false', Bool.or_eq_true, Bool.and_eq_true, Bool.or_eq_false_iff, Bool.and_eq_false_iff, decide_eq_true_eq, decide_eq_false_iff_not, Bool.not_true, Bool.not_false, gval, Bool.not_eq_eq_eq_not] at hc1
    refine tc_seq ?_
    refine tc_region ?_
    refine tl_p (pr_assign rfl) rfl ?_
    refine tl_next ?_
    refine tc_ret (tq_then_ret ?_)
    have e0 : s = .nil := by cases s <;> simp_all [isNilS]
    subst e0
    have e1 := hs.far (fun _ e => by cases e)
    have e2 : l = [] := List.eq_nil_of_length_eq_zero (by rw [caps_n hs, e1])
    subst e2; subst e1
    refine tq_imp (fun w s => s.emp_mk) ?_
    exact tq_ret1 .ret (.inl rfl) ⟨.nil, Sow.nil⟩ rfl rfl
  · have hd1 := hc1
    try simp only [Bool.not_eq_true', Bool.not_eq_false', Bool.or_eq_true, Bool.and_eq_true, Bool.or_eq_false_iff, Bool.and_eq_false_iff, decide_eq_true_eq, decide_eq_false_iff_not, Bool.not_true, Bool.not_false, gval, Bool.not_eq_eq_eq_not] at hc1
    refine tc_skip (tq_next ?_)
    refine tc_seq ?_
    refine tc_region ?_
    refine tl_buildS Tryz.sf24 Tryz.z27 rfl (.nil) rfl rfl rfl rfl rfl (kk := fun s5 hs5 ms5 => ?_)
    refine tl_p (pr_move rfl) rfl ?_
    refine tl_append Tryz.sf24 Tryz.z27 rfl rfl rfl (by assumption) hs caps_ok (by omega) rfl (kk := fun s7 hs7 => ?_)
    refine tl_p (pr_assign rfl) rfl ?_
    refine tl_next ?_
    refine tc_ret ?_
    rw [show 0 + n = n from Nat.zero_add n] at hs7
    exact tq_retE1 .ret (.inl rfl) ⟨s7, hs7⟩ rfl rfl (by rw [Nat.zero_add])

theorem f181_ct (s : Shp) (n : Nat) (l : List Cap) (k : Nat) (cs : List Value) (rc : List (Nat × Obj)) (p : Cap → Bool) (hp : ∀ c, Rd Tryz.prog k (c.v :: cs).toArray rc [] (.bool (p c))) (hs : Sok 6 s n (capsL l)) : Rd Tryz.prog 181 #[sv s n, .func (.func k) #[] cs.toArray] (rc ++ ra s (capsL l)) [] (.int .i64 (idxF p 0 l)) := by
  refine ct_intro Tryz.func181 rfl (by kernel_rfl) (n := 19) rfl rfl (E := [(0, sv s n), (1, .func (.func k) #[] cs.toArray)]) rfl ?_
  intro κ hro
  obtain ⟨hr1, hr2⟩ := Reads.app hro
  have hn := caps_n hs
  have hb := hs.bnd
  refine tc_seq ?_
  refine tc_region ?_
  refine tl_p (pr_assign rfl) rfl ?_
  refine tl_next ?_
  refine tc_seq ?_
  refine tc_seq ?_
  refine tc_region ?_
  refine tl_p (pr_move rfl) rfl ?_
  refine tl_p (pr_lenS Tryz.sf24 rfl) rfl ?_
  refine tl_p (pr_move rfl) rfl ?_
  refine tl_next ?_
  refine tc_block ?_
  refine tc_loopP (X := Nat) (fun j => j ≤ n ∧ idxF p j (l.drop j) = idxF p 0 l) (fun j => [(0, sv s n), (1, .func (.func k) #[] cs.toArray), (7, .int .i64 n), (8, .int .i64 (j : Int))]) (fun j => []) (fun j => n - j) 0 ⟨by omega, rfl⟩ (.cons rfl (.cons rfl (.cons rfl (.cons rfl .nil)))) (fun j hj => ?_)
  have hj1 := hj.1
  refine tc_seq ?_
  refine tc_region ?_
  refine tl_p (pr_lss rfl rfl) rfl ?_
  refine tl_next ?_
  refine tc_seq ?_
  refine tc_if rfl (fun hc1 => ?_) (fun hc1 => ?_)
  · have hd1 := hc1
    try simp only [Bool.not_eq_true', Bool.not_eq_false', Bool.or_eq_true, Bool.and_eq_true, Bool.or_eq_false_iff, Bool.and_eq_false_iff, decide_eq_true_eq, decide_eq_false_iff_not, Bool.not_true, Bool.not_false, gval, Bool.not_eq_eq_eq_not] at hc1
    refine tc_skip (tq_next ?_)
    refine tc_seq ?_
    refine tc_block ?_
    refine tc_seq ?_
    refine tc_region ?_
    refine tl_p (pr_move rfl) rfl ?_
    refine tl_p (pr_assign rfl) rfl ?_
    refine tl_next ?_
    refine tc_seq ?_
    refine tc_region ?_
    refine tl_p (pr_move rfl) rfl ?_
    refine tl_p (pr_move rfl) rfl ?_
    refine tl_p (pr_move rfl) rfl ?_
    refine tl_p (pr_ixE Tryz.sl24 rfl rfl) rfl ?_
    refine tl_p (pr_ldEA Tryz.ag27 Tryz.sz27 rfl (c := capsL l) (m := Cap.l (l[j]'(by omega))) (fm_le cap_len l j (by omega)) (fm_cut cap_len l j (by simp))) rfl ?_
    refine tl_rdV (hp (l[j]'(by omega))) rfl (.cons rfl .nil) rfl (hro := Rdbs.of hr1) (kk := ?_)
    refine tl_next ?_
    refine tc_if rfl (fun hc2 => ?_) (fun hc2 => ?_)
    · have hd2 := hc2
      try simp only [Bool.not_eq_true', Bool.not_eq_false', Bool.or_eq_true, Bool.and_eq_true, Bool.or_eq_false_iff, Bool.and_eq_false_iff, decide_eq_true_eq, decide_eq_false_iff_not, Bool.not_true, Bool.not_false, gval, Bool.not_eq_eq_eq_not] at hc2
      refine tc_seq ?_
      refine tc_region ?_
      refine tl_p (pr_move rfl) rfl ?_
      refine tl_p (pr_assign rfl) rfl ?_
      refine tl_next ?_
      refine tc_ret (tq_blk_ret (tq_then_ret (tq_then_ret (tq_blk_ret (tq_then_ret ?_)))))
      exact tq_ret1 .ret (.inl rfl) () rfl (by rw [← hj.2, idxF_drop (l := l) (j := j) (by omega), if_pos (by simpa using hd2)]; rfl)
    · have hd2 := hc2
      try simp only [Bool.not_eq_true', Bool.not_eq_false', Bool.or_eq_true, Bool.and_eq_true, Bool.or_eq_false_iff, Bool.and_eq_false_iff, decide_eq_true_eq, decide_eq_false_iff_not, Bool.not_true, Bool.not_false, gval, Bool.not_eq_eq_eq_not] at hc2
      refine tc_skip (tq_blk_normal (tq_next ?_))
      refine tc_region ?_
      refine tl_p (pr_addN rfl rfl (by omega)) rfl ?_
      refine tl_p (pr_move rfl) rfl ?_
      refine tl_nil ?_
      exact tq_roundP (j + 1) ⟨by omega, by rw [← hj.2, idxF_drop (l := l) (j := j) (by omega), if_neg (by simpa using hd2)]⟩ (by omega) (.cons rfl (.cons rfl (.cons rfl (.cons rfl .nil))))
  · have hd1 := hc1
    try simp only [Bool.not_eq_true', Bool.not_eq_false', Bool.or_eq_true, Bool.and_eq_true, Bool.or_eq_false_iff, Bool.and_eq_false_iff, decide_eq_true_eq, decide_eq_false_iff_not, Bool.not_true, Bool.not_false, gval, Bool.not_eq_eq_eq_not] at hc1
    refine tc_exit (tq_then_exit (tq_then_exit (tq_blk_here ?_)))
    refine tq_next ?_
    refine tc_seq ?_
    refine tc_region ?_
    refine tl_p (pr_assign rfl) rfl ?_
    refine tl_next ?_
    refine tc_ret ?_
    exact tq_ret1 .ret (.inl rfl) () rfl (by rw [← hj.2, List.drop_of_length_le (by omega)]; rfl)

theorem f99_ct (s : Shp) (n : Nat) (l : List Cap) (k : Nat) (cs : List Value) (rc : List (Nat × Obj)) (p : Cap → Bool) (hp : ∀ c, Rd Tryz.prog k (c.v :: cs).toArray rc [] (.bool (p c))) (hs : Sok 6 s n (capsL l)) : Rd Tryz.prog 99 #[sv s n, .func (.func k) #[] cs.toArray] (rc ++ ra s (capsL l)) [] (.bool (l.any p)) := by
  refine ct_intro Tryz.func99 rfl (by kernel_rfl) (n := 9) rfl rfl (E := [(0, sv s n), (1, .func (.func k) #[] cs.toArray)]) rfl ?_
  intro κ hro
  have hr := hro
  refine tc_seq ?_
  refine tc_region ?_
  refine tl_p (pr_assign rfl) rfl ?_
  refine tl_next ?_
  refine tc_seq ?_
  refine tc_region ?_
  refine tl_p (pr_move rfl) rfl ?_
  refine tl_p (pr_move rfl) rfl ?_
  refine tl_rdS (f181_ct _ _ _ k cs rc p hp hs) (.cons rfl (.cons rfl .nil)) rfl (kk := ?_)
  refine tl_p (pr_geq rfl rfl) rfl ?_
  refine tl_p (pr_assign rfl) rfl ?_
  refine tl_next ?_
  refine tc_ret ?_
  exact tq_ret1 .ret (.inl rfl) () rfl (by rw [← idxF_any l 0]; rfl)

theorem f182_ct (c : Cap) : Rd Tryz.prog 182 #[c.v] [] [] (.bool (!capRight c)) := by
  refine ct_intro Tryz.func182 rfl (by kernel_rfl) (n := 6) rfl rfl (E := [(0, c.v)]) rfl ?_
  intro κ hro
  refine tc_seq ?_
  refine tc_region ?_
  refine tl_box rfl rfl (fun b1 => ?_)
  refine tl_p (pr_assign rfl) rfl ?_
  refine tl_next ?_
  refine tc_seq ?_
  refine tc_region ?_
  refine tl_p (by first | exact pr_loadW Tryz.ag27 Tryz.sz27 rfl | exact pr_ldA Tryz.ag27 Tryz.sz27 rfl) rfl ?_
  refine tl_rdS (f59_ct _) (.cons rfl .nil) rfl (kk := ?_)
  refine tl_p (pr_not rfl) rfl ?_
  refine tl_p (pr_assign rfl) rfl ?_
  refine tl_next ?_
  refine tc_ret ?_
  exact tq_ret1 .ret (.inl rfl) () rfl rfl

theorem f232_ct (c : Cap) : Rd Tryz.prog 232 #[c.v] [] [] (.bool (!capRight c)) := by
  refine ct_intro Tryz.func232 rfl (by kernel_rfl) (n := 6) rfl rfl (E := [(0, c.v)]) rfl ?_
  intro κ hro
  refine tc_seq ?_
  refine tc_region ?_
  refine tl_box rfl rfl (fun b1 => ?_)
  refine tl_p (pr_assign rfl) rfl ?_
  refine tl_next ?_
  refine tc_seq ?_
  refine tc_region ?_
  refine tl_p (by first | exact pr_loadW Tryz.ag27 Tryz.sz27 rfl | exact pr_ldA Tryz.ag27 Tryz.sz27 rfl) rfl ?_
  refine tl_rdS (f59_ct _) (.cons rfl .nil) rfl (kk := ?_)
  refine tl_p (pr_not rfl) rfl ?_
  refine tl_p (pr_assign rfl) rfl ?_
  refine tl_next ?_
  refine tc_ret ?_
  exact tq_ret1 .ret (.inl rfl) () rfl rfl

theorem f98_ct (c : Cap) : Rd Tryz.prog 98 #[c.v] [] [] (.bool (!capRight c)) := by
  refine ct_intro Tryz.func98 rfl (by kernel_rfl) (n := 6) rfl rfl (E := [(0, c.v)]) rfl ?_
  intro κ hro
  refine tc_seq ?_
  refine tc_region ?_
  refine tl_box rfl rfl (fun b1 => ?_)
  refine tl_p (pr_assign rfl) rfl ?_
  refine tl_next ?_
  refine tc_seq ?_
  refine tc_region ?_
  refine tl_p (by first | exact pr_loadW Tryz.ag27 Tryz.sz27 rfl | exact pr_ldA Tryz.ag27 Tryz.sz27 rfl) rfl ?_
  refine tl_rdS (f59_ct _) (.cons rfl .nil) rfl (kk := ?_)
  refine tl_p (pr_not rfl) rfl ?_
  refine tl_p (pr_assign rfl) rfl ?_
  refine tl_next ?_
  refine tc_ret ?_
  exact tq_ret1 .ret (.inl rfl) () rfl rfl

def allRight (l : List Cap) : Bool := l.all capRight
theorem any_right (l : List Cap) : (!l.any fun c => !capRight c) = allRight l := by
  unfold allRight; induction l with
  | nil => rfl
  | cons c l ih => simp only [List.any_cons, List.all_cons, Bool.not_or, Bool.not_not, ih]
theorem f183_ct (s : Shp) (n : Nat) (l : List Cap) (hs : Sok 6 s n (capsL l)) : Rd Tryz.prog 183 #[sv s n] (ra s (capsL l)) [] (.bool (allRight l)) := by
  refine ct_intro Tryz.func183 rfl (by kernel_rfl) (n := 8) rfl rfl (E := [(0, sv s n)]) rfl ?_
  intro κ hro
  refine tc_seq ?_
  refine tc_region ?_
  refine tl_p (pr_assign rfl) rfl ?_
  refine tl_next ?_
  refine tc_seq ?_
  refine tc_region ?_
  refine tl_p (pr_assign rfl) rfl ?_
  refine tl_next ?_
  refine tc_seq ?_
  refine tc_region ?_
  refine tl_p (pr_move rfl) rfl ?_
  refine tl_p (pr_move rfl) rfl ?_
  refine tl_rdS (f99_ct _ _ l 232 [] [] (fun c => !capRight c) (fun c => f232_ct c) (by first | assumption | exact Sow.toSok (by assumption))) (.cons rfl (.cons rfl .nil)) rfl (kk := ?_)
  refine tl_p (pr_not rfl) rfl ?_
  refine tl_p (pr_assign rfl) rfl ?_
  refine tl_next ?_
  refine tc_ret ?_
  exact tq_ret1 .ret (.inl rfl) () rfl (by rw [← any_right]; rfl)

end Go.Proofs

namespace Go.Proofs
open Go Go.Sz
attribute [local irreducible] pt lift exs own emp
theorem Tryz.ar101 : arrOf Tryz.prog 101 = some (8, 6, true) := by kernel_rfl
theorem Tryz.bld103 : bldS Tryz.prog 103 = some ([(0, 48)], (.agg #[.bool false, .int .i64 0, .int .i64 0, .int .i64 0, .int .i64 0, .int .i64 0, .bool false, .int .i64 0, .int .i64 0, .int .i64 0, .int .i64 0, .int .i64 0, .bool false, .int .i64 0, .int .i64 0, .int .i64 0, .int .i64 0, .int .i64 0, .bool false, .int .i64 0, .int .i64 0, .int .i64 0, .int .i64 0, .int .i64 0, .bool false, .int .i64 0, .int .i64 0, .int .i64 0, .int .i64 0, .int .i64 0, .bool false, .int .i64 0, .int .i64 0, .int .i64 0, .int .i64 0, .int .i64 0, .bool false, .int .i64 0, .int .i64 0, .int .i64 0, .int .i64 0, .int .i64 0, .bool false, .int .i64 0, .int .i64 0, .int .i64 0, .int .i64 0, .int .i64 0] : Value).cells) := by kernel_rfl
theorem Tryz.bld117 : bldS Tryz.prog 117 = some ([(0, 1)], (.agg #[.slice none 0 0] : Value).cells) := by kernel_rfl
theorem Tryz.fo103_0 : fOff Tryz.prog 103 0 = some (0, 48, true) := by kernel_rfl
theorem Tryz.bl103_ {n : Nat} {D : List Deferred} {E : Env} {L : List HProp} {κ : Ctx} {T : TypeId} : PR Tryz.prog (.build 103 #[]) T n D E L κ (.agg #[.bool false, .int .i64 0, .int .i64 0, .int .i64 0, .int .i64 0, .int .i64 0, .bool false, .int .i64 0, .int .i64 0, .int .i64 0, .int .i64 0, .int .i64 0, .bool false, .int .i64 0, .int .i64 0, .int .i64 0, .int .i64 0, .int .i64 0, .bool false, .int .i64 0, .int .i64 0, .int .i64 0, .int .i64 0, .int .i64 0, .bool false, .int .i64 0, .int .i64 0, .int .i64 0, .int .i64 0, .int .i64 0, .bool false, .int .i64 0, .int .i64 0, .int .i64 0, .int .i64 0, .int .i64 0, .bool false, .int .i64 0, .int .i64 0, .int .i64 0, .int .i64 0, .int .i64 0, .bool false, .int .i64 0, .int .i64 0, .int .i64 0, .int .i64 0, .int .i64 0]) :=
  pr_buildS (ws := []) Tryz.bld103 .nil rfl
theorem Tryz.bl117_ {n : Nat} {D : List Deferred} {E : Env} {L : List HProp} {κ : Ctx} {T : TypeId} : PR Tryz.prog (.build 117 #[]) T n D E L κ (.agg #[.slice none 0 0]) :=
  pr_buildS (ws := []) Tryz.bld117 .nil rfl
structure Fr where
  pos : Cap
  a : Cap
  b : Cap
  c : Cap
  d : Cap
  deriving DecidableEq
def Fr.caps (f : Fr) : List Cap := [f.pos, f.a, f.b, f.c, f.d]
def Fr.regs (f : Fr) : List Cap := [f.a, f.b, f.c, f.d]
def Fr.l (f : Fr) : List Value := capsL f.caps
def Fr.v (f : Fr) : Value := .agg (List.toArray f.l)
theorem fr_len (f : Fr) : f.l.length = 30 := rfl
abbrev frL (l : List Fr) : List Value := l.flatMap Fr.l
theorem fr_ok {l : List Fr} : allOne (frL l) = true := allOne_iff.2 fun v hv => by
  obtain ⟨i, _, h⟩ := List.mem_flatMap.1 hv
  exact allOne_iff.1 (caps_ok (l := i.caps)) v h
abbrev nullF : Fr := ⟨nullC, nullC, nullC, nullC, nullC⟩
abbrev stkO (v : Value) : Obj := .cells #[v] 117 (0, 0)
def stkA (b : Nat) (l : List Fr) : HProp := exs fun s => own [lift (Sow 30 s l.length (frL l) ∧ l.length ≤ 16), pt b (stkO (sv s l.length)), sl s (frL l)]
theorem stk_mk {b : Nat} {l : List Fr} {s : Shp} {L : List HProp} {κ : Ctx} {w : World} (h : Sow 30 s l.length (frL l)) (h2 : l.length ≤ 16) (s0 : St (pt b (stkO (sv s l.length)) :: sl s (frL l) :: L) κ w) : St (stkA b l :: L) κ w := by
  unfold stkA
  exact St.exs_mk s (St.own_mk (St.lift_mk ⟨h, h2⟩ s0))
theorem tq_stk {Q : Exit → Act → World → Prop} {e : Exit} {n : Nat} {D : List Deferred} {E : Env} {L R : List HProp} {κ : Ctx} {b : Nat} (l : List Fr) {s : Shp} (h : Sow 30 s l.length (frL l)) (h2 : l.length ≤ 16) (k : TQ Q e n D E (stkA b l :: R) κ)
    (hp : Pick L [pt b (stkO (sv s l.length)), sl s (frL l)] R := by repeat (first | exact Pick.nil | exact Rem.here | apply Rem.there | apply Pick.cons)) : TQ Q e n D E L κ :=
  tq_imp (fun w s0 => stk_mk h h2 (s0.pick hp)) k
theorem setR_len (l : List Cap) (r : Int) (c : Cap) : (setR l r c).length = l.length := by unfold setR; split <;> simp
def clearR (l : List Cap) (i j : Nat) : List Cap := l.take i ++ List.replicate (j - i) nullC ++ l.drop j
theorem at_getD {l : List Cap} {i : Nat} (h : i < l.length) : l[i]? = some (l.getD i nullC) := by simp [h]

theorem f113_ct  : Ct Tryz.prog 113 #[] [] [] (X := Nat) (fun b => ad b 0) (fun b N => fileA b (List.replicate 8 nullC) :: N) := by
  refine ct_intro Tryz.func113 rfl (by kernel_rfl) (n := 3) rfl rfl (E := []) rfl ?_
  intro κ hro
  refine tc_seq ?_
  refine tc_region ?_
  refine tl_p (pr_assign rfl) rfl ?_
  refine tl_next ?_
  refine tc_seq ?_
  refine tc_region ?_
  refine tl_p (Tryz.bl103_ ) rfl ?_
  refine tl_box rfl rfl (fun b2 => ?_)
  refine tl_p (pr_assign rfl) rfl ?_
  refine tl_next ?_
  refine tc_ret ?_
  exact tq_ret1 .ret (.inl rfl) b2 rfl rfl

theorem f114_ct  : Ct Tryz.prog 114 #[] [] [] (X := Nat) (fun b => ad b 0) (fun b N => stkA b [] :: N) := by
  refine ct_intro Tryz.func114 rfl (by kernel_rfl) (n := 3) rfl rfl (E := []) rfl ?_
  intro κ hro
  refine tc_seq ?_
  refine tc_region ?_
  refine tl_p (pr_assign rfl) rfl ?_
  refine tl_next ?_
  refine tc_seq ?_
  refine tc_region ?_
  refine tl_p (Tryz.bl117_ ) rfl ?_
  refine tl_box rfl rfl (fun b2 => ?_)
  refine tl_p (pr_assign rfl) rfl ?_
  refine tl_next ?_
  refine tc_ret ?_
  refine tq_imp (fun w s0 => stk_mk (b := b2) (l := []) (s := .nil) Sow.nil (by simp) ((s0.emp_mk).perm (.swap _ _ _))) ?_
  exact tq_ret1 .ret (.inl rfl) b2 rfl rfl

theorem f23_ct (rb : Nat) (regs : List Cap) (hl : regs.length = 8) (r : Int) : Rd Tryz.prog 23 #[ad rb 0, .int .i64 r] (ra (.mem (fileS rb)) (capsL regs)) [] ((getR regs r).v) := by
  refine ct_intro Tryz.func23 rfl (by kernel_rfl) (n := 15) rfl rfl (E := [(0, ad rb 0), (1, .int .i64 r)]) rfl ?_
  intro κ hro
  refine tc_seq ?_
  refine tc_region ?_
  refine tl_alloc Tryz.z27 rfl (fun b4 => ?_)
  refine tl_next ?_
  refine tc_seq ?_
  refine tc_seq ?_
  refine tc_region ?_
  refine tl_p (pr_move rfl) rfl ?_
  refine tl_rdS (f58_ct _) (.cons rfl .nil) rfl (kk := ?_)
  refine tl_p (pr_not rfl) rfl ?_
  refine tl_next ?_
  refine tc_if rfl (fun hc1 => ?_) (fun hc1 => ?_)
  · have hd1 := hc1
    try simp only [Bool.not_eq_true', Bool.not_eq_false', Bool.or_eq_true, Bool.and_eq_true, Bool.or_eq_false_iff, Bool.and_eq_false_iff, decide_eq_true_eq, decide_eq_false_iff_not, Bool.not_true, Bool.not_false, gval, Bool.not_eq_eq_eq_not] at hc1
    refine tc_seq ?_
    refine tc_region ?_
    refine tl_rdS (f67_ct ) (.nil) rfl (kk := ?_)
    refine tl_storeW Tryz.sz27 rfl rfl (k := ?_)
    refine tl_next ?_
    refine tc_ret (tq_then_ret ?_)
    exact tq_retG .ret (.inl rfl) () rfl (.cellA Tryz.ag27 Tryz.sz27 rfl .nil) (by unfold getR; rw [if_neg (by simp [hc1])]; rfl)
  · have hd1 := hc1
    try simp only [Bool.not_eq_true', Bool.not_eq_false', Bool.or_eq_true, Bool.and_eq_true, Bool.or_eq_false_iff, Bool.and_eq_false_iff, decide_eq_true_eq, decide_eq_false_iff_not, Bool.not_true, Bool.not_false, gval, Bool.not_eq_eq_eq_not] at hc1
    have hq := isReg_iff.1 hc1
    refine tc_skip (tq_next ?_)
    refine tc_seq ?_
    refine tc_region ?_
    refine tl_p (pr_move rfl) rfl ?_
    refine tl_p (pr_move rfl) rfl ?_
    refine tl_p (pr_nilCheck rfl) rfl ?_
    refine tl_p (pr_fieldAddr Tryz.fo103_0 rfl) rfl ?_
    refine tl_p (pr_indexA Tryz.ar101 rfl rfl (by have := isReg_iff.1 hc1; omega) (by have := isReg_iff.1 hc1; omega)) rfl ?_
    refine tl_p (pr_ldEA Tryz.ag27 Tryz.sz27 rfl (s := .mem (fileS rb)) (c := capsL regs) (m := Cap.l (regs.getD r.toNat nullC)) (fm_le cap_len regs r.toNat (by omega)) (fm_cut cap_len regs r.toNat (at_getD (by omega)))) rfl ?_
    refine tl_storeW Tryz.sz27 rfl rfl (k := ?_)
    refine tl_next ?_
    refine tc_ret ?_
    exact tq_retG .ret (.inl rfl) () rfl (.cellA Tryz.ag27 Tryz.sz27 rfl .nil) (by unfold getR; rw [if_pos hc1]; rfl)

theorem f24_ct (rb : Nat) (regs : List Cap) (hl : regs.length = 8) (r : Int) : Rd Tryz.prog 24 #[ad rb 0, .int .i64 r] (ra (.mem (fileS rb)) (capsL regs)) [] (.int .i64 (getR regs r).pos) := by
  refine ct_intro Tryz.func24 rfl (by kernel_rfl) (n := 9) rfl rfl (E := [(0, ad rb 0), (1, .int .i64 r)]) rfl ?_
  intro κ hro
  refine tc_seq ?_
  refine tc_region ?_
  refine tl_p (pr_assign rfl) rfl ?_
  refine tl_next ?_
  refine tc_seq ?_
  refine tc_region ?_
  refine tl_p (pr_move rfl) rfl ?_
  refine tl_p (pr_move rfl) rfl ?_
  refine tl_rdS (f23_ct _ _ (by first | assumption | simp [setR_len, *]) _) (.cons rfl (.cons rfl .nil)) rfl (kk := ?_)
  refine tl_rdS (f68_ct _) (.cons rfl .nil) rfl (kk := ?_)
  refine tl_p (pr_assign rfl) rfl ?_
  refine tl_next ?_
  refine tc_ret ?_
  exact tq_ret1 .ret (.inl rfl) () rfl rfl

theorem f16_ct (rb : Nat) (regs : List Cap) (hl : regs.length = 8) (r : Int) (c : Cap) : Ct Tryz.prog 16 #[ad rb 0, .int .i64 r, c.v] [] [fileA rb regs] (fun _ : Unit => .bool (isReg r && capRight c)) (fun _ N => fileA rb (setR regs r c) :: N) := by
  refine ct_intro Tryz.func16 rfl (by kernel_rfl) (n := 21) rfl rfl (E := [(0, ad rb 0), (1, .int .i64 r), (2, c.v)]) rfl ?_
  intro κ hro
  refine tc_seq ?_
  refine tc_region ?_
  refine tl_box rfl rfl (fun b5 => ?_)
  refine tl_p (pr_assign rfl) rfl ?_
  refine tl_next ?_
  refine tc_seq ?_
  refine tc_seq ?_
  refine tc_region ?_
  refine tl_p (pr_move rfl) rfl ?_
  refine tl_rdS (f58_ct _) (.cons rfl .nil) rfl (kk := ?_)
  refine tl_p (pr_not rfl) rfl ?_
  refine tl_p (pr_move rfl) rfl ?_
  refine tl_gf rfl rfl (fun h => by first | exact pr_loadW Tryz.ag27 Tryz.sz27 rfl | exact pr_ldA Tryz.ag27 Tryz.sz27 rfl) (by intro _ h; cases h) rfl ?_
  refine tl_rdgfS rfl rfl (fun h => ⟨f59_ct _, .cons (gv rfl h) .nil⟩) rfl (kk := ?_)
  refine tl_gf rfl rfl (fun h => pr_not (gv rfl h)) (by intro _ h; cases h) rfl ?_
  refine tl_p (pr_or rfl rfl rfl) rfl ?_
  refine tl_next ?_
  refine tc_if rfl (fun hc1 => ?_) (fun hc1 => ?_)
  · have hd1 := hc1
    try simp only [Bool.not_eq_true', Bool.not_eq_false', Bool.or_eq_true, Bool.and_eq_true, Bool.or_eq_false_iff, Bool.and_eq_false_iff, decide_eq_true_eq, decide_eq_false_iff_not, Bool.not_true, Bool.not_false, gval, Bool.not_eq_eq_eq_not] at hc1
    refine tc_seq ?_
    refine tc_region ?_
    refine tl_p (pr_assign rfl) rfl ?_
    refine tl_next ?_
    refine tc_ret (tq_then_ret ?_)
    have e : (isReg r && capRight c) = false := by simp; intro h; simp_all
    have e2 : setR regs r c = regs := by unfold setR; rw [if_neg (by simp [e])]
    exact tq_retE1 .ret (.inl rfl) () rfl rfl (by rw [e]) (by rw [e2]; repeat (first | exact Pick.nil | exact Rem.here | apply Rem.there | apply Pick.cons))
  · have hd1 := hc1
    try simp only [Bool.not_eq_true', Bool.not_eq_false', Bool.or_eq_true, Bool.and_eq_true, Bool.or_eq_false_iff, Bool.and_eq_false_iff, decide_eq_true_eq, decide_eq_false_iff_not, Bool.not_true, Bool.not_false, gval, Bool.not_eq_eq_eq_not] at hc1
    have hq := isReg_iff.1 hc1.1
    refine tc_skip (tq_next ?_)
    refine tc_seq ?_
    refine tc_draw Tryz.mixed [0, 1, 2, 3, 4, 5] (by kernel_rfl) ?_
    refine td_q 0 15 (pm_of rfl rfl rfl (fun _ kq => tl_p (pr_move rfl) rfl kq)) rfl rfl rfl ?_
    refine td_q 1 16 (pm_of rfl rfl rfl (fun _ kq => tl_p (pr_move rfl) rfl kq)) rfl rfl rfl ?_
    refine td_q 2 17 (pm_of rfl rfl rfl (fun _ kq => tl_p (by first | exact pr_loadW Tryz.ag27 Tryz.sz27 rfl | exact pr_ldA Tryz.ag27 Tryz.sz27 rfl) rfl kq)) rfl rfl rfl ?_
    refine td_q 3 18 (pm_of rfl rfl rfl (fun _ kq => tl_p (pr_nilCheck rfl) rfl kq)) rfl rfl rfl ?_
    refine td_q 4 19 (pm_of rfl rfl rfl (fun _ kq => tl_p (pr_fieldAddr Tryz.fo103_0 rfl) rfl kq)) rfl rfl rfl ?_
    refine td_q 5 20 (pm_of rfl rfl rfl (fun _ kq => tl_p (pr_indexA Tryz.ar101 rfl rfl (by omega) (by omega)) rfl kq)) rfl rfl rfl ?_
    refine td_e1 6 (by kernel_rfl) ?_
    refine te rfl ?_
    refine tl_stE (s := .mem (fileS rb)) (c := capsL regs) (c' := capsL (setR regs r c)) Tryz.sz27 rfl rfl (fm_le cap_len regs r.toNat (by omega)) ((fm_put cap_len regs r.toNat c (by omega)).trans (by unfold setR; rw [if_pos (by simp [hc1])])) (fun g e => by cases e; rfl) (k := ?_)
    refine td_next (pd := []) (by kernel_rfl) (.nil) ?_
    refine td_done (by kernel_rfl) ?_
    refine tq_next ?_
    refine tc_seq ?_
    refine tc_region ?_
    refine tl_p (pr_assign rfl) rfl ?_
    refine tl_next ?_
    refine tc_ret ?_
    exact tq_retE1 .ret (.inl rfl) () rfl rfl (by simp [hc1])

theorem f18_ct (rb : Nat) (regs : List Cap) (hl : regs.length = 8) : Ct Tryz.prog 18 #[ad rb 0] (ra (.mem (fileS rb)) (capsL regs)) [] (X := {s : Shp // Sow 6 s 8 (capsL regs)}) (fun x => sv x.1 8) (fun x N => sl x.1 (capsL regs) :: N) := by
  refine ct_intro Tryz.func18 rfl (by kernel_rfl) (n := 8) rfl rfl (E := [(0, ad rb 0)]) rfl ?_
  intro κ hro
  have hk : Sok 6 (cutS (capsL regs) 0 48 8 (.mem (fileS rb))) 8 (capsL regs) := by
      have h := Sok.cut (sz := 6) (k := 8) (j := 0) (cap := 8) (s := .mem (fileS rb)) (c := capsL regs) ⟨_, rfl⟩ (by rw [fm_len cap_len]; omega) (by omega) (by omega)
      rwa [caps_eq hl] at h
  have hrd : ∀ L, RdS L κ (cutS (capsL regs) 0 48 8 (.mem (fileS rb))) (capsL regs) := fun L => by
      have h := RdS.cut (L := L) (κ := κ) (j := 0) (m := 8 * 6) (cap := 8) (c := capsL regs) (s := .mem (fileS rb)) (by rw [fm_len cap_len]; omega) (Reads.sl hro)
      rwa [caps_eq hl] at h
  have hrd0 := hrd []
  refine tc_seq ?_
  refine tc_region ?_
  refine tl_p (pr_assign rfl) rfl ?_
  refine tl_next ?_
  refine tc_seq ?_
  refine tc_region ?_
  refine tl_p (pr_move rfl) rfl ?_
  refine tl_p (pr_nilCheck rfl) rfl ?_
  refine tl_p (pr_fieldAddr Tryz.fo103_0 rfl) rfl ?_
  refine tl_p (pr_sliceC (l := 0) (q := 8) (.mem (fileS rb)) (capsL regs) Tryz.ar101 rfl .no .no (by omega) (by omega) (by omega) (by rw [fm_len cap_len]; omega)) rfl ?_
  refine tl_callS (f61_ct _ 8 regs hk (by omega)) (.cons rfl .nil) rfl (kk := fun ⟨s7, hs7⟩ => ?_)
  refine tl_p (pr_assign rfl) rfl ?_
  refine tl_next ?_
  refine tc_ret ?_
  exact tq_ret1 .ret (.inl rfl) ⟨s7, hs7⟩ rfl rfl

end Go.Proofs

namespace Go.Proofs
open Go Go.Sz
attribute [local irreducible] pt lift exs own emp
theorem Tryz.ag101 : aggB Tryz.prog 101 = some true := by kernel_rfl
theorem Tryz.ag115 : aggB Tryz.prog 115 = some false := by kernel_rfl
theorem Tryz.ag189 : aggB Tryz.prog 189 = some true := by kernel_rfl
theorem Tryz.ar187 : arrOf Tryz.prog 187 = some (4, 6, true) := by kernel_rfl
theorem Tryz.fo117_0 : fOff Tryz.prog 117 0 = some (0, 1, false) := by kernel_rfl
theorem Tryz.fo189_0 : fOff Tryz.prog 189 0 = some (0, 6, true) := by kernel_rfl
theorem Tryz.fo189_1 : fOff Tryz.prog 189 1 = some (6, 24, true) := by kernel_rfl
theorem Tryz.sf115 : slcF Tryz.prog 115 = some (189, 30, 240) := by kernel_rfl
theorem Tryz.sz101 : szOf Tryz.prog 101 = some 48 := by kernel_rfl
theorem Tryz.sz115 : szOf Tryz.prog 115 = some 1 := by kernel_rfl
theorem Tryz.sz189 : szOf Tryz.prog 189 = some 30 := by kernel_rfl
theorem Tryz.z189 : zeroV Tryz.prog 189 = some (.agg #[.bool false, .int .i64 0, .int .i64 0, .int .i64 0, .int .i64 0, .int .i64 0, .bool false, .int .i64 0, .int .i64 0, .int .i64 0, .int .i64 0, .int .i64 0, .bool false, .int .i64 0, .int .i64 0, .int .i64 0, .int .i64 0, .int .i64 0, .bool false, .int .i64 0, .int .i64 0, .int .i64 0, .int .i64 0, .int .i64 0, .bool false, .int .i64 0, .int .i64 0, .int .i64 0, .int .i64 0, .int .i64 0]) := by kernel_rfl
theorem tq_stkE {Q : Exit → Act → World → Prop} {e : Exit} {n : Nat} {D : List Deferred} {E : Env} {L R : List HProp} {κ : Ctx} {b : Nat} (l : List Fr) {s : Shp} {k : Nat} {c : List Value} (h : Sow 30 s k c) (hk : k = l.length) (hc : c = frL l) (h2 : l.length ≤ 16) (kk : TQ Q e n D E (stkA b l :: R) κ)
    (hp : Pick L [pt b (stkO (sv s k)), sl s c] R := by repeat (first | exact Pick.nil | exact Rem.here | apply Rem.there | apply Pick.cons)) : TQ Q e n D E L κ := by
  subst hk; subst hc
  exact tq_stk l h h2 kk hp
theorem allR_one (c : Cap) : allRight [c] = capRight c := by simp [allRight]
def pushOk (fs : List Fr) (f : Fr) : Bool := decide (fs.length < 16) && capRight f.pos && allRight f.regs
def pushF (fs : List Fr) (f : Fr) : List Fr := if pushOk fs f then fs ++ [f] else fs
def popF (fs : List Fr) : Fr × Bool := match fs.getLast? with
  | some f => (f, true)
  | none => (nullF, false)
def putRegs (regs l : List Cap) : List Cap := if l.length = 8 ∧ allRight l = true then l else regs
theorem clear_put {regs : List Cap} (hl : regs.length = 8) : putAt (capsL regs) 24 (Builtin.zeroCells (nullC.v).cells 3).toList = capsL (clearR regs 4 7) := by
  have e : (Builtin.zeroCells (nullC.v).cells 3).toList = capsL (List.replicate 3 nullC) := by kernel_rfl
  rw [e]
  have := fm_puts cap_len regs 4 (List.replicate 3 nullC)
  exact this
theorem clear_len {regs : List Cap} (hl : regs.length = 8) : (clearR regs 4 7).length = 8 := by simp [clearR]; omega

theorem f100_ct (rb : Nat) (regs : List Cap) (hl : regs.length = 8) (s : Shp) (n : Nat) (l : List Cap) (hs : Sok 6 s n (capsL l)) : Ct Tryz.prog 100 #[ad rb 0, sv s n] (ra s (capsL l)) [fileA rb regs] (fun _ : Unit => .bool (decide (l.length = 8) && allRight l)) (fun _ N => fileA rb (putRegs regs l) :: N) := by
  refine ct_intro Tryz.func100 rfl (by kernel_rfl) (n := 20) rfl rfl (E := [(0, ad rb 0), (1, sv s n)]) rfl ?_
  intro κ hro
  have hn := caps_n hs
  have har := any_right l
  refine tc_seq ?_
  refine tc_region ?_
  refine tl_p (pr_assign rfl) rfl ?_
  refine tl_next ?_
  refine tc_seq ?_
  refine tc_region ?_
  refine tl_p (pr_assign rfl) rfl ?_
  refine tl_next ?_
  refine tc_seq ?_
  refine tc_seq ?_
  refine tc_region ?_
  refine tl_p (pr_move rfl) rfl ?_
  refine tl_p (pr_lenS Tryz.sf24 rfl) rfl ?_
  refine tl_p (pr_neq rfl rfl) rfl ?_
  refine tl_p (pr_move rfl) rfl ?_
  refine tl_gf rfl rfl (fun h => pr_move rfl) (by intro _ h; cases h) rfl ?_
  refine tl_gf rfl rfl (fun h => pr_move rfl) (by intro _ h; cases h) rfl ?_
  refine tl_rdgfS rfl rfl (fun h => ⟨f99_ct _ _ l 182 [] [] (fun c => !capRight c) (fun c => f182_ct c) (by first | assumption | exact Sow.toSok (by assumption)), .cons (gv rfl h) (.cons (gv rfl h) .nil)⟩) rfl (kk := ?_)
  refine tl_p (pr_or rfl rfl rfl) rfl ?_
  refine tl_next ?_
  refine tc_if rfl (fun hc1 => ?_) (fun hc1 => ?_)
  · have hd1 := hc1
    try simp only [Bool.not_eq_true', Bool.not_eq_false', Bool.or_eq_true, Bool.and_eq_true, Bool.or_eq_false_iff, Bool.and_eq_false_iff, decide_eq_true_eq, decide_eq_false_iff_not, Bool.not_true, Bool.not_false, gval, Bool.not_eq_eq_eq_not] at hc1
    refine tc_seq ?_
    refine tc_region ?_
    refine tl_p (pr_assign rfl) rfl ?_
    refine tl_next ?_
    refine tc_ret (tq_then_ret ?_)
    have e : ¬ (l.length = 8 ∧ allRight l = true) := by rintro ⟨h8, h9⟩; rw [← har] at h9; simp at hd1 h9; rcases hd1 with h | ⟨x, hx, hx2⟩; (· omega); (· have := h9 x hx; simp_all)
    have e2 : putRegs regs l = regs := by unfold putRegs; rw [if_neg e]
    exact tq_retE1 .ret (.inl rfl) () rfl rfl (by congr 1; symm; simpa using e) (by rw [e2]; repeat (first | exact Pick.nil | exact Rem.here | apply Rem.there | apply Pick.cons))
  · have hd1 := hc1
    try simp only [Bool.not_eq_true', Bool.not_eq_false', Bool.or_eq_true, Bool.and_eq_true, Bool.or_eq_false_iff, Bool.and_eq_false_iff, decide_eq_true_eq, decide_eq_false_iff_not, Bool.not_true, Bool.not_false, gval, Bool.not_eq_eq_eq_not] at hc1
    have h8 : n = 8 := by simp at hd1; omega
    have har2 : allRight l = true := by rw [← har]; simp at hd1; simp; intro x hx; exact hd1.2 x hx
    subst h8
    have hm := hs.isM (by omega)
    refine tc_skip (tq_next ?_)
    refine tc_seq ?_
    refine tc_region ?_
    refine tl_p (pr_move rfl) rfl ?_
    refine tl_p (pr_move rfl) rfl ?_
    refine tl_p (pr_arrayAt Tryz.ar101 rfl hs (by omega) hm) rfl ?_
    refine tl_p (pr_ldEA Tryz.ag101 Tryz.sz101 rfl (c := capsL l) (m := capsL l) (by rw [fm_len cap_len]; omega) (caps_eq hn)) rfl ?_
    refine tl_p (pr_nilCheck rfl) rfl ?_
    refine tl_p (pr_fieldAddr Tryz.fo103_0 rfl) rfl ?_
    refine tl_stE (s := .mem (fileS rb)) (j := 0) (c := capsL regs) (c' := capsL l) Tryz.sz101 rfl rfl (by rw [fm_len cap_len]; omega) (by show putAt (capsL regs) 0 (capsL l) = capsL l; unfold putAt; rw [List.take_zero, List.drop_of_length_le (by rw [fm_len cap_len, fm_len cap_len]; omega)]; simp) (fun g e => by cases e; rfl) (hsz := by simp [Value.cells, fm_len cap_len, hn]) (h1 := by simpa [Value.cells] using caps_ok) (k := ?_)
    refine tl_next ?_
    refine tc_seq ?_
    refine tc_region ?_
    refine tl_p (pr_assign rfl) rfl ?_
    refine tl_next ?_
    refine tc_ret ?_
    have e2 : putRegs regs l = l := by unfold putRegs; rw [if_pos ⟨hn, har2⟩]
    exact tq_retE1 .ret (.inl rfl) () rfl rfl (by simp [hn, har2]) (by rw [e2]; repeat (first | exact Pick.nil | exact Rem.here | apply Rem.there | apply Pick.cons))

theorem f221_ct (rb : Nat) (regs : List Cap) (hl : regs.length = 8) : Ct Tryz.prog 221 #[ad rb 0, .int .i64 4, .int .i64 7] [] [fileA rb regs] (fun _ : Unit => .tuple #[]) (fun _ N => fileA rb (clearR regs 4 7) :: N) := by
  refine ct_intro Tryz.func221 rfl (by kernel_rfl) (n := 19) rfl rfl (E := [(0, ad rb 0), (1, .int .i64 4), (2, .int .i64 7)]) rfl ?_
  intro κ hro
  refine tc_seq ?_
  refine tc_region ?_
  refine tl_p (pr_move rfl) rfl ?_
  refine tl_p (pr_max rfl rfl) rfl ?_
  refine tl_p (pr_move rfl) rfl ?_
  refine tl_p (pr_min rfl rfl) rfl ?_
  refine tl_p (pr_assign rfl) rfl ?_
  refine tl_p (pr_assign rfl) rfl ?_
  refine tl_next ?_
  refine tc_seq ?_
  refine tc_region ?_
  refine tl_p (pr_move rfl) rfl ?_
  refine tl_p (pr_move rfl) rfl ?_
  refine tl_p (pr_lss rfl rfl) rfl ?_
  refine tl_next ?_
  refine tc_if_true rfl (by decide) ?_
  refine tc_region ?_
  refine tl_p (pr_move rfl) rfl ?_
  refine tl_p (pr_nilCheck rfl) rfl ?_
  refine tl_p (pr_fieldAddr Tryz.fo103_0 rfl) rfl ?_
  refine tl_p (pr_move rfl) rfl ?_
  refine tl_p (pr_move rfl) rfl ?_
  refine tl_p (pr_sliceC (l := 4) (q := 3) (h := 7) (.mem (fileS rb)) (capsL regs) Tryz.ar101 rfl (.yes rfl (by decide)) (.yes rfl (by decide)) (by omega) (by omega) (by omega) (by rw [fm_len cap_len]; omega)) rfl ?_
  refine tl_clearC (s := .mem (fileS rb)) (j := 24) (k := 3) (cap := 4) (c := capsL regs) (c' := capsL (clearR regs 4 7)) Tryz.sf24 Tryz.z27 rfl (by rw [fm_len cap_len]; omega) (by omega) (by kernel_rfl) (by kernel_rfl) (clear_put hl) (fun g e => by cases e; rfl) (kk := ?_)
  refine tl_nil ?_
  exact tq_ret0 .normal (.inr rfl) () rfl rfl

theorem f26_ct (fb : Nat) (fs : List Fr) : Rd Tryz.prog 26 #[ad fb 0] [] [stkA fb fs] (.int .i64 fs.length) := by
  refine ct_intro Tryz.func26 rfl (by kernel_rfl) (n := 8) rfl rfl (E := [(0, ad fb 0)]) rfl ?_
  intro κ hro
  refine tc_ex Rem.here fun s0 => tc_own Rem.here (tc_lift Rem.here fun hs0 => ?_)
  obtain ⟨hs0, hb0⟩ := hs0
  refine tc_seq ?_
  refine tc_region ?_
  refine tl_p (pr_assign rfl) rfl ?_
  refine tl_next ?_
  refine tc_seq ?_
  refine tc_region ?_
  refine tl_p (pr_move rfl) rfl ?_
  refine tl_p (pr_nilCheck rfl) rfl ?_
  refine tl_p (pr_fieldAddr Tryz.fo117_0 rfl) rfl ?_
  refine tl_p (pr_ld Tryz.ag115 rfl) rfl ?_
  refine tl_p (pr_lenS Tryz.sf115 rfl) rfl ?_
  refine tl_p (pr_assign rfl) rfl ?_
  refine tl_next ?_
  refine tc_ret ?_
  refine tq_stk fs hs0 hb0 ?_
  exact tq_ret1 .ret (.inl rfl) () rfl rfl

theorem f220_ct (fb : Nat) (fs : List Fr) (f : Fr) : Ct Tryz.prog 220 #[ad fb 0, f.v] [] [stkA fb fs] (fun _ : Unit => .bool (pushOk fs f)) (fun _ N => stkA fb (pushF fs f) :: N) := by
  refine ct_intro Tryz.func220 rfl (by kernel_rfl) (n := 34) rfl rfl (E := [(0, ad fb 0), (1, f.v)]) rfl ?_
  intro κ hro
  refine tc_ex Rem.here fun s0 => tc_own Rem.here (tc_lift Rem.here fun hs0 => ?_)
  obtain ⟨hs0, hb0⟩ := hs0
  have h4 : ∀ b, Sok 6 (.mem ⟨b, 4, f.pos.l, [], 189, (0, 0)⟩) 4 (capsL f.regs) := fun b => ⟨rfl, fun h => absurd rfl (h _), fun h e => (by cases e; exact Nat.le_refl _), by omega⟩
  refine tc_seq ?_
  refine tc_region ?_
  refine tl_box rfl rfl (fun b3 => ?_)
  refine tl_p (pr_assign rfl) rfl ?_
  refine tl_next ?_
  refine tc_seq ?_
  refine tc_seq ?_
  refine tc_region ?_
  refine tl_p (pr_move rfl) rfl ?_
  refine tl_p (pr_nilCheck rfl) rfl ?_
  refine tl_p (pr_fieldAddr Tryz.fo117_0 rfl) rfl ?_
  refine tl_p (pr_ld Tryz.ag115 rfl) rfl ?_
  refine tl_p (pr_lenS Tryz.sf115 rfl) rfl ?_
  refine tl_p (pr_geq rfl rfl) rfl ?_
  refine tl_p (pr_move rfl) rfl ?_
  refine tl_gf rfl rfl (fun h => pr_fieldAddr Tryz.fo189_0 rfl) (by intro _ h; cases h) rfl ?_
  refine tl_gf rfl rfl (fun h => pr_ldA Tryz.ag27 Tryz.sz27 (gv rfl h)) (by intro _ h; cases h) rfl ?_
  refine tl_split (t := 11) rfl (fun sp1 => ?_) (fun sp1 => ?_)
  · skip
    refine tl_off rfl rfl rfl rfl ?_
    refine tl_off rfl rfl rfl rfl ?_
    refine tl_off rfl rfl rfl rfl ?_
    refine tl_p (pr_pickT rfl rfl) rfl ?_
    refine tl_p (pr_move rfl) rfl ?_
    refine tl_off rfl rfl rfl rfl ?_
    refine tl_off rfl rfl rfl rfl ?_
    refine tl_off rfl rfl rfl rfl ?_
    refine tl_off rfl rfl rfl rfl ?_
    refine tl_p (pr_pickT rfl rfl) rfl ?_
    refine tl_next ?_
    refine tc_if_true rfl rfl ?_
    refine tc_seq ?_
    refine tc_region ?_
    refine tl_p (pr_assign rfl) rfl ?_
    refine tl_next ?_
    refine tc_ret (tq_then_ret ?_)
    have e : pushOk fs f = false := by unfold pushOk; have h : ¬ (fs.length < 16) := (by simp at sp1; omega); simp [h]
    refine tq_stk fs hs0 hb0 ?_
    exact tq_retE1 .ret (.inl rfl) () rfl rfl (by rw [e]) (by rw [show pushF fs f = fs from by unfold pushF; rw [e]; rfl]; repeat (first | exact Pick.nil | exact Rem.here | apply Rem.there | apply Pick.cons))
  · skip
    refine tl_on rfl rfl rfl ?_
    refine tl_buildS Tryz.sf24 Tryz.z27 rfl (.cons (gvf rfl sp1) .nil) rfl rfl (c := capsL [f.pos]) rfl rfl rfl (kk := fun s14 hs14 ms14 => ?_)
    refine tl_on rfl rfl rfl ?_
    refine tl_rdS (f183_ct _ 1 [f.pos] (Sow.toSok (by assumption))) (.cons rfl .nil) rfl (kk := ?_)
    refine tl_on rfl rfl rfl ?_
    refine tl_p (pr_not rfl) rfl ?_
    refine tl_p (pr_pickF rfl rfl) rfl ?_
    refine tl_p (pr_move rfl) rfl ?_
    refine tl_gf rfl rfl (fun h => pr_fieldAddr Tryz.fo189_1 rfl) (by intro _ h; cases h) rfl ?_
    refine tl_gf rfl rfl (fun h => pr_sliceP ⟨b3, 4, f.pos.l, [], 189, (0, 0)⟩ Tryz.ar187 (gv rfl h) .no .no (l := 0) (h := 4) (by omega) (by omega) (by omega) rfl rfl rfl) (by intro _ h; cases h) rfl ?_
    refine tl_rdgfS rfl rfl (fun h => ⟨f183_ct _ 4 f.regs (h4 b3), .cons (gv rfl h) .nil⟩) rfl (kk := ?_)
    refine tl_gf rfl rfl (fun h => pr_not (gv rfl h)) (by intro _ h; cases h) rfl ?_
    refine tl_p (pr_or rfl rfl rfl) rfl ?_
    refine tl_next ?_
    refine tc_if rfl (fun hc2 => ?_) (fun hc2 => ?_)
    · have hd2 := hc2
      try simp only [Bool.not_eq_true', Bool.not_eq_false', Bool.or_eq_true, Bool.and_eq_true, Bool.or_eq_false_iff, Bool.and_eq_false_iff, decide_eq_true_eq, decide_eq_false_iff_not, Bool.not_true, Bool.not_false, gval, Bool.not_eq_eq_eq_not] at hc2
      refine tc_seq ?_
      refine tc_region ?_
      refine tl_p (pr_assign rfl) rfl ?_
      refine tl_next ?_
      refine tc_ret (tq_then_ret ?_)
      have e : pushOk fs f = false := by unfold pushOk; rw [allR_one] at hd2; revert hd2; cases capRight f.pos <;> cases allRight f.regs <;> simp
      refine tq_stk fs hs0 hb0 ?_
      exact tq_retE1 .ret (.inl rfl) () rfl rfl (by rw [e]) (by rw [show pushF fs f = fs from by unfold pushF; rw [e]; rfl]; repeat (first | exact Pick.nil | exact Rem.here | apply Rem.there | apply Pick.cons))
    · have hd2 := hc2
      try simp only [Bool.not_eq_true', Bool.not_eq_false', Bool.or_eq_true, Bool.and_eq_true, Bool.or_eq_false_iff, Bool.and_eq_false_iff, decide_eq_true_eq, decide_eq_false_iff_not, Bool.not_true, Bool.not_false, gval, Bool.not_eq_eq_eq_not] at hc2
      refine tc_skip (tq_next ?_)
      refine tc_seq ?_
      refine tc_draw Tryz.mixed [0, 1, 2, 3, 4, 5, 8, 9] (by kernel_rfl) ?_
      refine td_q 0 24 (pm_of rfl rfl rfl (fun _ kq => tl_p (pr_move rfl) rfl kq)) rfl rfl rfl ?_
      refine td_q 1 25 (pm_of rfl rfl rfl (fun _ kq => tl_p (pr_move rfl) rfl kq)) rfl rfl rfl ?_
      refine td_q 2 26 (pm_of rfl rfl rfl (fun _ kq => tl_p (pr_nilCheck rfl) rfl kq)) rfl rfl rfl ?_
      refine td_q 3 27 (pm_of rfl rfl rfl (fun _ kq => tl_p (pr_fieldAddr Tryz.fo117_0 rfl) rfl kq)) rfl rfl rfl ?_
      refine td_q 4 28 (pm_of rfl rfl rfl (fun _ kq => tl_p (pr_ld Tryz.ag115 rfl) rfl kq)) rfl rfl rfl ?_
      refine td_q 5 29 (pm_of rfl rfl rfl (fun _ kq => tl_p (by first | exact pr_loadW Tryz.ag189 Tryz.sz189 rfl | exact pr_ldA Tryz.ag189 Tryz.sz189 rfl) rfl kq)) rfl rfl rfl ?_
      refine td_e1 6 (by kernel_rfl) ?_
      refine te rfl ?_
      refine tl_buildS Tryz.sf115 Tryz.z189 rfl (.cons rfl .nil) rfl rfl (c := frL [f]) rfl rfl rfl (kk := fun s30 hs30 ms30 => ?_)
      refine td_next (pd := [4, 3, 2, 1, 0]) (by kernel_rfl) (.cons rfl (pm_of rfl rfl rfl (fun _ kq => tl_p (pr_ld Tryz.ag115 rfl) rfl kq)) (.cons rfl (pm_of rfl rfl rfl (fun _ kq => tl_p (pr_fieldAddr Tryz.fo117_0 rfl) rfl kq)) (.cons rfl (pm_of rfl rfl rfl (fun _ kq => tl_p (pr_nilCheck rfl) rfl kq)) (.cons rfl (pm_of rfl rfl rfl (fun _ kq => tl_p (pr_move rfl) rfl kq)) (.cons rfl (pm_of rfl rfl rfl (fun _ kq => tl_p (pr_move rfl) rfl kq)) .nil))))) ?_
      refine td_e1 7 (by kernel_rfl) ?_
      refine te rfl ?_
      refine tl_append Tryz.sf115 Tryz.z189 rfl rfl rfl (by assumption) (Sow.toSok (by assumption)) fr_ok (by omega) rfl (kk := fun s31 hs31 => ?_)
      refine td_next (pd := [0]) (by kernel_rfl) (.cons rfl (pm_of rfl rfl rfl (fun _ kq => tl_p (pr_move rfl) rfl kq)) .nil) ?_
      refine td_q 8 32 (pm_of rfl rfl rfl (fun _ kq => tl_p (pr_nilCheck rfl) rfl kq)) rfl rfl rfl ?_
      refine td_q 9 33 (pm_of rfl rfl rfl (fun _ kq => tl_p (pr_fieldAddr Tryz.fo117_0 rfl) rfl kq)) rfl rfl rfl ?_
      refine td_e1 10 (by kernel_rfl) ?_
      refine te rfl ?_
      refine tl_st Tryz.sz115 rfl rfl (h1 := by first | rfl | exact sv_one _ _) (k := ?_)
      refine td_next (pd := []) (by kernel_rfl) (.nil) ?_
      refine td_done (by kernel_rfl) ?_
      refine tq_next ?_
      refine tc_seq ?_
      refine tc_region ?_
      refine tl_p (pr_assign rfl) rfl ?_
      refine tl_next ?_
      refine tc_ret ?_
      have h : fs.length < 16 := by simp at sp1; omega
      have e : pushOk fs f = true := by unfold pushOk; rw [allR_one] at hd2; simp only [h]; revert hd2; cases capRight f.pos <;> cases allRight f.regs <;> simp
      refine tq_stkE (fs ++ [f]) hs31 (by simp) (by first | exact List.flatMap_append.symm | exact (List.flatMap_append ..).symm) (by simp; omega) ?_
      exact tq_retE1 .ret (.inl rfl) () rfl rfl (by rw [e]) (by rw [show pushF fs f = fs ++ [f] from by unfold pushF; rw [if_pos e]]; repeat (first | exact Pick.nil | exact Rem.here | apply Rem.there | apply Pick.cons))

end Go.Proofs

namespace Go.Proofs
open Go Go.Sz
attribute [local irreducible] pt lift exs own emp
theorem Tryz.bld189 : bldS Tryz.prog 189 = some ([(0, 6), (6, 24)], (.agg #[.bool false, .int .i64 0, .int .i64 0, .int .i64 0, .int .i64 0, .int .i64 0, .bool false, .int .i64 0, .int .i64 0, .int .i64 0, .int .i64 0, .int .i64 0, .bool false, .int .i64 0, .int .i64 0, .int .i64 0, .int .i64 0, .int .i64 0, .bool false, .int .i64 0, .int .i64 0, .int .i64 0, .int .i64 0, .int .i64 0, .bool false, .int .i64 0, .int .i64 0, .int .i64 0, .int .i64 0, .int .i64 0] : Value).cells) := by kernel_rfl
theorem Tryz.sl115 : slcOf Tryz.prog 115 = some (189, 30) := by kernel_rfl
theorem Tryz.bl189_ {n : Nat} {D : List Deferred} {E : Env} {L : List HProp} {κ : Ctx} {T : TypeId} : PR Tryz.prog (.build 189 #[]) T n D E L κ (.agg #[.bool false, .int .i64 0, .int .i64 0, .int .i64 0, .int .i64 0, .int .i64 0, .bool false, .int .i64 0, .int .i64 0, .int .i64 0, .int .i64 0, .int .i64 0, .bool false, .int .i64 0, .int .i64 0, .int .i64 0, .int .i64 0, .int .i64 0, .bool false, .int .i64 0, .int .i64 0, .int .i64 0, .int .i64 0, .int .i64 0, .bool false, .int .i64 0, .int .i64 0, .int .i64 0, .int .i64 0, .int .i64 0]) :=
  pr_buildS (ws := []) Tryz.bld189 .nil rfl
theorem fr_n {s : Shp} {n : Nat} {l : List Fr} (h : Sok 30 s n (frL l)) : l.length = n := by
  have := h.len; rw [fm_len fr_len] at this; omega
theorem fr_getD {l : List Fr} {i : Nat} (h : i < l.length) : l[i]? = some (l.getD i nullF) := by simp [h]
abbrev lastF (fs : List Fr) : Fr := fs.getD (fs.length - 1) nullF
def popV (fs : List Fr) : Value := .tuple #[(lastF fs).v, .bool (!fs.isEmpty)]
theorem dropLast_take (fs : List Fr) : frL fs.dropLast = subL 30 (frL fs) 0 (fs.length - 1) := by
  rw [fm_sub fr_len, List.dropLast_eq_take]; simp
abbrev SS := List (Shp × Nat × List Cap)
abbrev ssV (x : Shp × Nat × List Cap) : Value := sv x.1 x.2.1
def tot (l : SS) : Nat := (l.map fun x => x.2.1).sum
def allC (l : SS) : List Cap := l.flatMap fun x => x.2.2
theorem tot_take {l : SS} {j : Nat} (h : j < l.length) : tot (l.take (j + 1)) = tot (l.take j) + l[j].2.1 := by
  rw [List.take_succ_eq_append_getElem h, tot, tot]; simp only [List.map_append, List.sum_append, List.map_cons, List.map_nil, List.sum_cons, List.sum_nil, Nat.add_zero]
theorem allC_take {l : SS} {j : Nat} (h : j < l.length) : capsL (allC (l.take (j + 1))) = capsL (allC (l.take j)) ++ capsL l[j].2.2 := by
  rw [List.take_succ_eq_append_getElem h, allC, allC]; simp only [capsL, List.flatMap_append, List.flatMap_cons, List.flatMap_nil, List.append_nil]
theorem tot_le (l : SS) (j : Nat) : tot (l.take j) ≤ tot l := by
  have h : tot (l.take j) + tot (l.drop j) = tot l := by
    unfold tot
    rw [← List.sum_append, ← List.map_append, List.take_append_drop]
  omega
theorem reads_mem {l : SS} {κ : Ctx} (h : Reads (l.flatMap fun x => ra x.1 (capsL x.2.2)) κ) {x : Shp × Nat × List Cap} (hx : x ∈ l) : Reads (ra x.1 (capsL x.2.2)) κ :=
  fun p hp => h p (List.mem_flatMap.2 ⟨x, hx, hp⟩)
theorem caps_take {fs : List Fr} {j : Nat} (h : j < fs.length) : capsL ((fs.take j).flatMap Fr.caps) ++ capsL [(fs[j]).pos] ++ capsL (fs[j]).regs = capsL ((fs.take (j + 1)).flatMap Fr.caps) := by
  rw [List.take_succ_eq_append_getElem h]; simp only [capsL, Fr.caps, Fr.regs, List.flatMap_append, List.flatMap_cons, List.flatMap_nil, List.append_nil, List.append_assoc]
def thrL (pos : Cap) (rb fb : Nat) : List Value := [.bool pos.tag, .int .i64 pos.base, .int .i64 pos.top, .int .i64 pos.pos, .int .i64 pos.perms, .int .i64 pos.typ, ad rb 0, ad fb 0]
abbrev thrO (pos : Cap) (rb fb : Nat) : Obj := .cells (List.toArray [.bool pos.tag, .int .i64 pos.base, .int .i64 pos.top, .int .i64 pos.pos, .int .i64 pos.perms, .int .i64 pos.typ, ad rb 0, ad fb 0]) 100 (0, 0)
def thrCaps (pos : Cap) (regs : List Cap) (fs : List Fr) : List Cap := pos :: regs ++ fs.flatMap Fr.caps
theorem fcaps_len (fs : List Fr) : (fs.flatMap Fr.caps).length = 5 * fs.length := by
  induction fs with
  | nil => rfl
  | cons f fs ih => simp [Fr.caps] at ih ⊢; omega

theorem f222_ct (fb : Nat) (fs : List Fr) : Ct Tryz.prog 222 #[ad fb 0] [] [stkA fb fs] (fun _ : Unit => popV fs) (fun _ N => stkA fb fs.dropLast :: N) := by
  refine ct_intro Tryz.func222 rfl (by kernel_rfl) (n := 32) rfl rfl (E := [(0, ad fb 0)]) rfl ?_
  intro κ hro
  refine tc_ex Rem.here fun s0 => tc_own Rem.here (tc_lift Rem.here fun hs0 => ?_)
  obtain ⟨hs0, hb0⟩ := hs0
  refine tc_seq ?_
  refine tc_region ?_
  refine tl_alloc Tryz.z189 rfl (fun b2 => ?_)
  refine tl_p (pr_assign rfl) rfl ?_
  refine tl_next ?_
  refine tc_seq ?_
  refine tc_region ?_
  refine tl_p (pr_move rfl) rfl ?_
  refine tl_p (pr_nilCheck rfl) rfl ?_
  refine tl_p (pr_fieldAddr Tryz.fo117_0 rfl) rfl ?_
  refine tl_p (pr_ld Tryz.ag115 rfl) rfl ?_
  refine tl_p (pr_lenS Tryz.sf115 rfl) rfl ?_
  refine tl_p (pr_subN rfl rfl (by omega)) rfl ?_
  refine tl_p (pr_assign rfl) rfl ?_
  refine tl_next ?_
  refine tc_seq ?_
  refine tc_seq ?_
  refine tc_region ?_
  refine tl_p (pr_move rfl) rfl ?_
  refine tl_p (pr_lss rfl rfl) rfl ?_
  refine tl_next ?_
  refine tc_if rfl (fun hc1 => ?_) (fun hc1 => ?_)
  · have hd1 := hc1
    try simp only [Bool.not_eq_true', Bool.not_eq_false', Bool.or_eq_true, Bool.and_eq_true, Bool.or_eq_false_iff, Bool.and_eq_false_iff, decide_eq_true_eq, decide_eq_false_iff_not, Bool.not_true, Bool.not_false, gval, Bool.not_eq_eq_eq_not] at hc1
    refine tc_seq ?_
    refine tc_region ?_
    refine tl_p (Tryz.bl189_ ) rfl ?_
    refine tl_storeW Tryz.sz189 rfl rfl (k := ?_)
    refine tl_p (pr_assign rfl) rfl ?_
    refine tl_next ?_
    refine tc_ret (tq_then_ret ?_)
    have e : fs = [] := by cases fs with
      | nil => rfl
      | cons _ _ => simp at hd1; omega
    subst e
    refine tq_stk [] hs0 hb0 ?_
    exact tq_retG .ret (.inl rfl) () rfl (.cellA Tryz.ag189 Tryz.sz189 rfl (.tmp rfl .nil)) rfl
  · have hd1 := hc1
    try simp only [Bool.not_eq_true', Bool.not_eq_false', Bool.or_eq_true, Bool.and_eq_true, Bool.or_eq_false_iff, Bool.and_eq_false_iff, decide_eq_true_eq, decide_eq_false_iff_not, Bool.not_true, Bool.not_false, gval, Bool.not_eq_eq_eq_not] at hc1
    have h1 : 1 ≤ fs.length := by simp at hd1; omega
    refine tc_skip (tq_next ?_)
    refine tc_seq ?_
    refine tc_region ?_
    refine tl_p (pr_move rfl) rfl ?_
    refine tl_p (pr_nilCheck rfl) rfl ?_
    refine tl_p (pr_fieldAddr Tryz.fo117_0 rfl) rfl ?_
    refine tl_p (pr_ld Tryz.ag115 rfl) rfl ?_
    refine tl_p (pr_move rfl) rfl ?_
    refine tl_p (pr_ixE Tryz.sl115 rfl rfl) rfl ?_
    refine tl_p (pr_ldEA Tryz.ag189 Tryz.sz189 rfl (c := frL fs) (m := Fr.l (lastF fs)) (fm_le fr_len fs ((fs.length : Int) - 1).toNat (by omega)) (fm_cut fr_len fs ((fs.length : Int) - 1).toNat (by have e : ((fs.length : Int) - 1).toNat = fs.length - 1 := (by omega); rw [e]; exact fr_getD (by omega)))) rfl ?_
    refine tl_alloc Tryz.z189 rfl (fun b5 => ?_)
    refine tl_storeW Tryz.sz189 rfl rfl (k := ?_)
    refine tl_next ?_
    refine tc_seq ?_
    refine tc_region ?_
    refine tl_p (pr_move rfl) rfl ?_
    refine tl_p (pr_move rfl) rfl ?_
    refine tl_p (pr_nilCheck rfl) rfl ?_
    refine tl_p (pr_fieldAddr Tryz.fo117_0 rfl) rfl ?_
    refine tl_p (pr_ld Tryz.ag115 rfl) rfl ?_
    refine tl_p (pr_move rfl) rfl ?_
    refine tl_p (pr_sliceS Tryz.sf115 rfl .no (.yes rfl (by omega)) (l := 0) (h := fs.length - 1)) rfl ?_
    refine tl_p (pr_nilCheck rfl) rfl ?_
    refine tl_p (pr_fieldAddr Tryz.fo117_0 rfl) rfl ?_
    refine tl_st Tryz.sz115 rfl rfl (h1 := by first | rfl | exact sv_one _ _) (k := ?_)
    refine tl_next ?_
    refine tc_seq ?_
    refine tc_region ?_
    refine tl_p (by first | exact pr_loadW Tryz.ag189 Tryz.sz189 rfl | exact pr_ldA Tryz.ag189 Tryz.sz189 rfl) rfl ?_
    refine tl_storeW Tryz.sz189 rfl rfl (k := ?_)
    refine tl_p (pr_assign rfl) rfl ?_
    refine tl_next ?_
    refine tc_ret ?_
    rw [← sl_sub (l := 0) (h := fs.length - 1) hs0.toSok (by omega) (by omega)]
    refine tq_stkE fs.dropLast (hs0.sub (l := 0) (h := fs.length - 1) (by omega) (by omega)) (by simp) (dropLast_take fs).symm (by simp; omega) ?_
    exact tq_retG .ret (.inl rfl) () rfl (.cellA Tryz.ag189 Tryz.sz189 rfl (.tmp rfl .nil)) (by unfold popV; rw [show fs.isEmpty = false from by cases fs <;> simp_all]; rfl)

theorem f72_ct (fb : Nat) (fs : List Fr) : Ct Tryz.prog 72 #[ad fb 0] [] [stkA fb fs] (X := {s : Shp // Sow 6 s (5 * fs.length) (capsL (fs.flatMap Fr.caps)) ∧ fs.length ≤ 16}) (fun x => sv x.1 (5 * fs.length)) (fun x N => sl x.1 (capsL (fs.flatMap Fr.caps)) :: stkA fb fs :: N) := by
  refine ct_intro Tryz.func72 rfl (by kernel_rfl) (n := 25) rfl rfl (E := [(0, ad fb 0)]) rfl ?_
  intro κ hro
  refine tc_ex Rem.here fun s0 => tc_own Rem.here (tc_lift Rem.here fun hs0 => ?_)
  obtain ⟨hs0, hb0⟩ := hs0
  refine tc_seq ?_
  refine tc_region ?_
  refine tl_p (pr_assign rfl) rfl ?_
  refine tl_next ?_
  refine tc_seq ?_
  refine tc_region ?_
  refine tl_p (pr_assign rfl) rfl ?_
  refine tl_next ?_
  refine tc_seq ?_
  refine tc_seq ?_
  refine tc_region ?_
  refine tl_p (pr_move rfl) rfl ?_
  refine tl_p (pr_nilCheck rfl) rfl ?_
  refine tl_p (pr_fieldAddr Tryz.fo117_0 rfl) rfl ?_
  refine tl_p (pr_ld Tryz.ag115 rfl) rfl ?_
  refine tl_p (pr_lenS Tryz.sf115 rfl) rfl ?_
  refine tl_p (pr_move rfl) rfl ?_
  refine tl_next ?_
  refine tc_block ?_
  refine tc_imp (fun w s => s.emp_mk) ?_
  refine tc_loopP (X := Nat × Shp) (fun j => j.1 ≤ fs.length ∧ Sow 6 j.2 (5 * j.1) (capsL ((fs.take j.1).flatMap Fr.caps))) (fun j => [(9, sv s0 fs.length), (10, .int .i64 fs.length), (11, .int .i64 (j.1 : Int)), (3, sv j.2 (5 * j.1))]) (fun j => [sl j.2 (capsL ((fs.take j.1).flatMap Fr.caps)), pt fb (stkO (sv s0 fs.length)), sl s0 (frL fs)]) (fun j => fs.length - j.1) (0, .nil) ⟨by omega, Sow.nil⟩ (.cons rfl (.cons rfl (.cons rfl (.cons rfl .nil)))) (fun j hj => ?_)
  have hj1 := hj.1
  have hj2 := hj.2
  refine tc_seq ?_
  refine tc_region ?_
  refine tl_p (pr_lss rfl rfl) rfl ?_
  refine tl_next ?_
  refine tc_seq ?_
  refine tc_if rfl (fun hc1 => ?_) (fun hc1 => ?_)
  · have hd1 := hc1
    try simp only [Bool.not_eq_true', Bool.not_eq_false', Bool.or_eq_true, Bool.and_eq_true, Bool.or_eq_false_iff, Bool.and_eq_false_iff, decide_eq_true_eq, decide_eq_false_iff_not, Bool.not_true, Bool.not_false, gval, Bool.not_eq_eq_eq_not] at hc1
    refine tc_skip (tq_next ?_)
    refine tc_seq ?_
    refine tc_block ?_
    refine tc_seq ?_
    refine tc_region ?_
    refine tl_p (pr_ixE Tryz.sl115 rfl rfl) rfl ?_
    refine tl_p (pr_ldEA Tryz.ag189 Tryz.sz189 rfl (c := frL fs) (m := Fr.l (fs[j.1]'(by omega))) (fm_le fr_len fs j.1 (by omega)) (fm_cut fr_len fs j.1 (by simp))) rfl ?_
    refine tl_alloc Tryz.z189 rfl (fun b5 => ?_)
    refine tl_storeW Tryz.sz189 rfl rfl (k := ?_)
    refine tl_next ?_
    refine tc_draw Tryz.mixed [0, 1, 2, 5, 6] (by kernel_rfl) ?_
    refine td_q 0 15 (pm_of rfl rfl rfl (fun _ kq => tl_p (pr_move rfl) rfl kq)) rfl rfl rfl ?_
    refine td_q 1 16 (pm_of rfl rfl rfl (fun _ kq => tl_p (pr_fieldAddr Tryz.fo189_0 rfl) rfl kq)) rfl rfl rfl ?_
    refine td_q 2 17 (pm_of rfl rfl rfl (fun _ kq => tl_p (pr_ldA Tryz.ag27 Tryz.sz27 rfl) rfl kq)) rfl rfl rfl ?_
    refine td_q 5 20 (pm_of rfl rfl rfl (fun _ kq => tl_p (pr_fieldAddr Tryz.fo189_1 rfl) rfl kq)) rfl rfl rfl ?_
    refine td_q 6 21 (pm_of rfl rfl rfl (fun _ kq => tl_p (pr_sliceP ⟨b5, 4, (fs[j.1]'(by omega)).pos.l, [], 189, (0, 0)⟩ Tryz.ar187 rfl .no .no (l := 0) (h := 4) (by omega) (by omega) (by omega) rfl rfl rfl) rfl kq)) rfl rfl rfl ?_
    refine td_e1 3 (by kernel_rfl) ?_
    refine te rfl ?_
    refine tl_buildS Tryz.sf24 Tryz.z27 rfl (.cons rfl .nil) rfl rfl (c := capsL [(fs[j.1]'(by omega)).pos]) rfl rfl rfl (kk := fun s18 hs18 ms18 => ?_)
    refine td_next (pd := [6, 5, 0]) (by kernel_rfl) (.cons rfl (pm_of rfl rfl rfl (fun _ kq => tl_p (pr_sliceP ⟨b5, 4, (fs[j.1]'(by omega)).pos.l, [], 189, (0, 0)⟩ Tryz.ar187 rfl .no .no (l := 0) (h := 4) (by omega) (by omega) (by omega) rfl rfl rfl) rfl kq)) (.cons rfl (pm_of rfl rfl rfl (fun _ kq => tl_p (pr_fieldAddr Tryz.fo189_1 rfl) rfl kq)) (.cons rfl (pm_of rfl rfl rfl (fun _ kq => tl_p (pr_move rfl) rfl kq)) .nil))) ?_
    refine td_e1 4 (by kernel_rfl) ?_
    refine te rfl ?_
    refine tl_append Tryz.sf24 Tryz.z27 rfl rfl rfl hj2 (Sow.toSok (by assumption)) caps_ok (by omega) rfl (kk := fun s19 hs19 => ?_)
    refine td_next (pd := [6, 5]) (by kernel_rfl) (.cons rfl (pm_of rfl rfl rfl (fun _ kq => tl_p (pr_sliceP ⟨b5, 4, (fs[j.1]'(by omega)).pos.l, [], 189, (0, 0)⟩ Tryz.ar187 rfl .no .no (l := 0) (h := 4) (by omega) (by omega) (by omega) rfl rfl rfl) rfl kq)) (.cons rfl (pm_of rfl rfl rfl (fun _ kq => tl_p (pr_fieldAddr Tryz.fo189_1 rfl) rfl kq)) .nil)) ?_
    refine td_e1 7 (by kernel_rfl) ?_
    refine te rfl ?_
    refine tl_append Tryz.sf24 Tryz.z27 rfl rfl rfl (by assumption) (show Sok 6 (.mem ⟨b5, 4, (fs[j.1]'(by omega)).pos.l, [], 189, (0, 0)⟩) 4 (capsL (fs[j.1]'(by omega)).regs) from ⟨rfl, fun h => absurd rfl (h _), fun h e => (by cases e; exact Nat.le_refl _), by omega⟩) caps_ok (by omega) rfl (kk := fun s22 hs22 => ?_)
    refine td_next (pd := []) (by kernel_rfl) (.nil) ?_
    refine td_e1 8 (by kernel_rfl) ?_
    refine te rfl ?_
    refine tl_p (pr_assign rfl) rfl ?_
    refine td_next (pd := []) (by kernel_rfl) (.nil) ?_
    refine td_done (by kernel_rfl) ?_
    refine tq_blk_normal (tq_next ?_)
    refine tc_region ?_
    refine tl_p (pr_addN rfl rfl (by omega)) rfl ?_
    refine tl_p (pr_move rfl) rfl ?_
    refine tl_nil ?_
    rw [caps_take (by omega)] at hs22 ⊢
    exact tq_roundP (j.1 + 1, s22) ⟨by omega, by rw [show 5 * (j.1 + 1) = 5 * j.1 + 1 + 4 from by omega]; exact hs22⟩ (by show fs.length - (j.1 + 1) < _; omega) (.cons rfl (.cons rfl (.cons rfl (.cons (by rw [show 5 * (j.1 + 1) = 5 * j.1 + 1 + 4 from by omega]; rfl) .nil))))
  · have hd1 := hc1
    try simp only [Bool.not_eq_true', Bool.not_eq_false', Bool.or_eq_true, Bool.and_eq_true, Bool.or_eq_false_iff, Bool.and_eq_false_iff, decide_eq_true_eq, decide_eq_false_iff_not, Bool.not_true, Bool.not_false, gval, Bool.not_eq_eq_eq_not] at hc1
    refine tc_exit (tq_then_exit (tq_then_exit (tq_blk_here ?_)))
    refine tq_next ?_
    refine tc_seq ?_
    refine tc_region ?_
    refine tl_p (pr_move rfl) rfl ?_
    refine tl_p (pr_assign rfl) rfl ?_
    refine tl_next ?_
    refine tc_ret ?_
    have e : j.1 = fs.length := by omega
    rw [e] at hj2 ⊢
    rw [List.take_length] at hj2 ⊢
    refine tq_stk fs hs0 hb0 ?_
    exact tq_ret1 .ret (.inl rfl) ⟨j.2, hj2, hb0⟩ rfl rfl

end Go.Proofs

namespace Go.Proofs
open Go Go.Sz
attribute [local irreducible] pt lift exs own emp
theorem Tryz.ag24 : aggB Tryz.prog 24 = some false := by kernel_rfl
theorem Tryz.sf185 : slcF Tryz.prog 185 = some (24, 1, 24) := by kernel_rfl
theorem Tryz.sl185 : slcOf Tryz.prog 185 = some (24, 1) := by kernel_rfl
theorem map_at {α : Type} {f : α → Value} {l : List α} {j : Nat} (h : j < l.length) : (l.map f)[j * 1]? = some (f l[j]) := by
  rw [Nat.mul_one, List.getElem?_map, List.getElem?_eq_getElem h]; rfl
theorem f150_ct (n : Nat) (hn : n ≤ 1048576) : Ct Tryz.prog 150 #[.slice none 0 0, .int .i64 (n : Int)] [] [] (X := {s : Shp // Sow 6 s 0 (capsL [])}) (fun x => sv x.1 0) (fun x N => sl x.1 (capsL []) :: N) := by
  refine ct_intro Tryz.func150 rfl (by kernel_rfl) (n := 27) rfl rfl (E := [(0, .slice none 0 0), (1, .int .i64 (n : Int))]) rfl ?_
  intro κ hro
  refine tc_seq ?_
  refine tc_region ?_
  refine tl_p (pr_assign rfl) rfl ?_
  refine tl_next ?_
  refine tc_seq ?_
  refine tc_seq ?_
  refine tc_region ?_
  refine tl_p (pr_move rfl) rfl ?_
  refine tl_p (pr_lss rfl rfl) rfl ?_
  refine tl_next ?_
  refine tc_if_false rfl (by simp) ?_
  refine tc_skip (tq_next ?_)
  refine tc_seq ?_
  refine tc_seq ?_
  refine tc_region ?_
  refine tl_p (pr_move rfl) rfl ?_
  refine tl_p (pr_move rfl) rfl ?_
  refine tl_p (pr_capNil Tryz.sf24 rfl) rfl ?_
  refine tl_p (pr_move rfl) rfl ?_
  refine tl_p (pr_lenS (s := .nil) (k := 0) Tryz.sf24 rfl) rfl ?_
  refine tl_p (pr_subN rfl rfl (by omega)) rfl ?_
  refine tl_p (pr_subN rfl rfl (by omega)) rfl ?_
  refine tl_p (pr_assign rfl) rfl ?_
  refine tl_next ?_
  refine tc_seq ?_
  refine tc_region ?_
  refine tl_p (pr_move rfl) rfl ?_
  refine tl_p (pr_gtr rfl rfl) rfl ?_
  refine tl_next ?_
  refine tc_if rfl (fun hc2 => ?_) (fun hc2 => ?_)
  · have hd2 := hc2
    try simp only [Bool.not_eq_true', Bool.not_eq_false', Bool.or_eq_true, Bool.and_eq_true, Bool.or_eq_false_iff, Bool.and_eq_false_iff, decide_eq_true_eq, decide_eq_false_iff_not, Bool.not_true, Bool.not_false, gval, Bool.not_eq_eq_eq_not] at hc2
    refine tc_region ?_
    refine tl_p (pr_move rfl) rfl ?_
    refine tl_p (pr_move rfl) rfl ?_
    refine tl_p (pr_capNil Tryz.sf24 rfl) rfl ?_
    refine tl_p (pr_sliceS (s := .nil) (k := 0) (c := []) (sz := 6) Tryz.sf24 rfl .no (.yes rfl rfl) (l := 0) (h := 0)) rfl ?_
    refine tl_p (pr_move rfl) rfl ?_
    refine tl_appendZ (k := n) Tryz.sf24 Tryz.it3 Tryz.z27 rfl rfl (by show some (Value.int .i64 ((n : Int) - (0 - 0))) = _; simp) (by simp at hd2; omega) (by omega) (by omega) rfl (kk := fun s22 c22 hs22 ms22 => ?_)
    refine tl_p (pr_move rfl) rfl ?_
    refine tl_p (pr_lenS (s := .nil) (k := 0) Tryz.sf24 rfl) rfl ?_
    refine tl_p (pr_sliceS Tryz.sf24 rfl .no (.yes rfl rfl) (l := 0) (h := 0)) rfl ?_
    refine tl_p (pr_assign rfl) rfl ?_
    refine tl_next ?_
    refine tc_seq ?_
    refine tc_region ?_
    refine tl_p (pr_move rfl) rfl ?_
    refine tl_p (pr_assign rfl) rfl ?_
    refine tl_next ?_
    refine tc_ret ?_
    rw [← sl_sub (l := 0) (h := 0) hs22.toSok (by omega) (by omega)]
    exact tq_ret1 .ret (.inl rfl) ⟨subS 6 c22 0 0 s22, hs22.sub (l := 0) (h := 0) (by omega) (by omega)⟩ rfl rfl
  · have hd2 := hc2
    try simp only [Bool.not_eq_true', Bool.not_eq_false', Bool.or_eq_true, Bool.and_eq_true, Bool.or_eq_false_iff, Bool.and_eq_false_iff, decide_eq_true_eq, decide_eq_false_iff_not, Bool.not_true, Bool.not_false, gval, Bool.not_eq_eq_eq_not] at hc2
    refine tc_skip (tq_next ?_)
    refine tc_seq ?_
    refine tc_region ?_
    refine tl_p (pr_move rfl) rfl ?_
    refine tl_p (pr_assign rfl) rfl ?_
    refine tl_next ?_
    refine tc_ret ?_
    refine tq_imp (fun w s => s.emp_mk) ?_
    exact tq_ret1 .ret (.inl rfl) ⟨.nil, Sow.nil⟩ rfl rfl

theorem f71_ct (s : Shp) (n : Nat) (ss : SS) (hs : Sok 1 s n (ss.map ssV)) (hB : ∀ x ∈ ss, Sok 6 x.1 x.2.1 (capsL x.2.2)) (hT : tot ss ≤ 1048576) : Ct Tryz.prog 71 #[sv s n] (ra s (ss.map ssV) ++ ss.flatMap fun x => ra x.1 (capsL x.2.2)) [] (X := {s : Shp // Sow 6 s (tot ss) (capsL (allC ss))}) (fun x => sv x.1 (tot ss)) (fun x N => sl x.1 (capsL (allC ss)) :: N) := by
  refine ct_intro Tryz.func71 rfl (by kernel_rfl) (n := 36) rfl rfl (E := [(0, sv s n)]) rfl ?_
  intro κ hro
  obtain ⟨hr1, hr2⟩ := Reads.app hro
  have hn : ss.length = n := by have := hs.len; simp at this; omega
  have hb := hs.bnd
  refine tc_seq ?_
  refine tc_region ?_
  refine tl_p (pr_assign rfl) rfl ?_
  refine tl_next ?_
  refine tc_seq ?_
  refine tc_region ?_
  refine tl_p (pr_assign rfl) rfl ?_
  refine tl_next ?_
  refine tc_seq ?_
  refine tc_seq ?_
  refine tc_region ?_
  refine tl_p (pr_move rfl) rfl ?_
  refine tl_p (pr_lenS Tryz.sf185 rfl) rfl ?_
  refine tl_p (pr_move rfl) rfl ?_
  refine tl_next ?_
  refine tc_block ?_
  refine tc_loopP (X := Nat) (fun j => j ≤ n) (fun j => [(0, sv s n), (9, sv s n), (10, .int .i64 n), (11, .int .i64 (j : Int)), (3, .int .i64 (tot (ss.take j) : Int))]) (fun j => []) (fun j => n - j) 0 (by omega) (.cons rfl (.cons rfl (.cons rfl (.cons rfl (.cons rfl .nil))))) (fun j hj => ?_)
  have ht := tot_le ss j
  refine tc_seq ?_
  refine tc_region ?_
  refine tl_p (pr_lss rfl rfl) rfl ?_
  refine tl_next ?_
  refine tc_seq ?_
  refine tc_if rfl (fun hc1 => ?_) (fun hc1 => ?_)
  · have hd1 := hc1
    try simp only [Bool.not_eq_true', Bool.not_eq_false', Bool.or_eq_true, Bool.and_eq_true, Bool.or_eq_false_iff, Bool.and_eq_false_iff, decide_eq_true_eq, decide_eq_false_iff_not, Bool.not_true, Bool.not_false, gval, Bool.not_eq_eq_eq_not] at hc1
    refine tc_skip (tq_next ?_)
    refine tc_seq ?_
    refine tc_block ?_
    refine tc_seq ?_
    refine tc_region ?_
    refine tl_p (pr_ixE Tryz.sl185 rfl rfl) rfl ?_
    refine tl_p (pr_ldE Tryz.ag24 rfl (c := ss.map ssV) (v := ssV (ss[j]'(by omega))) (map_at (by omega))) rfl ?_
    refine tl_p (pr_assign rfl) rfl ?_
    refine tl_next ?_
    refine tc_seq ?_
    refine tc_region ?_
    refine tl_p (pr_move rfl) rfl ?_
    refine tl_p (pr_move rfl) rfl ?_
    refine tl_p (pr_lenS Tryz.sf24 rfl (hB (ss[j]'(by omega)) (List.getElem_mem _))) rfl ?_
    refine tl_p (pr_addN rfl rfl (by have h2 := tot_take (l := ss) (j := j) (by omega); have h3 := tot_le ss (j + 1); omega)) rfl ?_
    refine tl_p (pr_assign rfl) rfl ?_
    refine tl_next ?_
    refine tc_seq ?_
    refine tc_region ?_
    refine tl_p (pr_move rfl) rfl ?_
    refine tl_p (pr_lss rfl rfl) rfl ?_
    refine tl_next ?_
    refine tc_if_false rfl (by simp; omega) ?_
    refine tc_skip (tq_blk_normal (tq_next ?_))
    refine tc_region ?_
    refine tl_p (pr_addN rfl rfl (by omega)) rfl ?_
    refine tl_p (pr_move rfl) rfl ?_
    refine tl_nil ?_
    exact tq_roundP (j + 1) (by omega) (by omega) (.cons rfl (.cons rfl (.cons rfl (.cons rfl (.cons (by rw [tot_take (by omega)]; rfl) .nil)))))
  · have hd1 := hc1
    try simp only [Bool.not_eq_true', Bool.not_eq_false', Bool.or_eq_true, Bool.and_eq_true, Bool.or_eq_false_iff, Bool.and_eq_false_iff, decide_eq_true_eq, decide_eq_false_iff_not, Bool.not_true, Bool.not_false, gval, Bool.not_eq_eq_eq_not] at hc1
    refine tc_exit (tq_then_exit (tq_then_exit (tq_blk_here ?_)))
    refine tq_next ?_
    refine tc_seq ?_
    refine tc_region ?_
    refine tl_p (pr_move rfl) rfl ?_
    refine tl_callS (f150_ct (tot (ss.take j)) (by omega)) (.cons rfl (.cons rfl .nil)) rfl (kk := fun ⟨s24, hs24⟩ => ?_)
    refine tl_p (pr_assign rfl) rfl ?_
    refine tl_next ?_
    refine tc_seq ?_
    refine tc_seq ?_
    refine tc_region ?_
    refine tl_p (pr_move rfl) rfl ?_
    refine tl_p (pr_lenS Tryz.sf185 rfl) rfl ?_
    refine tl_p (pr_move rfl) rfl ?_
    refine tl_next ?_
    refine tc_block ?_
    refine tc_loopP (X := Nat × Shp) (fun j => j.1 ≤ n ∧ Sow 6 j.2 (tot (ss.take j.1)) (capsL (allC (ss.take j.1)))) (fun j => [(25, sv s n), (26, .int .i64 n), (27, .int .i64 (j.1 : Int)), (6, sv j.2 (tot (ss.take j.1)))]) (fun j => [sl j.2 (capsL (allC (ss.take j.1)))]) (fun j => n - j.1) (0, s24) ⟨by omega, hs24⟩ (.cons rfl (.cons rfl (.cons rfl (.cons rfl .nil)))) (fun j hj => ?_)
    have hj1 := hj.1
    have hj2 := hj.2
    have ht := tot_le ss j.1
    refine tc_seq ?_
    refine tc_region ?_
    refine tl_p (pr_lss rfl rfl) rfl ?_
    refine tl_next ?_
    refine tc_seq ?_
    refine tc_if rfl (fun hc3 => ?_) (fun hc3 => ?_)
    · have hd3 := hc3
      try simp only [Bool.not_eq_true', Bool.not_eq_false', Bool.or_eq_true, Bool.and_eq_true, Bool.or_eq_false_iff, Bool.and_eq_false_iff, decide_eq_true_eq, decide_eq_false_iff_not, Bool.not_true, Bool.not_false, gval, Bool.not_eq_eq_eq_not] at hc3
      refine tc_skip (tq_next ?_)
      refine tc_seq ?_
      refine tc_block ?_
      refine tc_seq ?_
      refine tc_region ?_
      refine tl_p (pr_ixE Tryz.sl185 rfl rfl) rfl ?_
      refine tl_p (pr_ldE Tryz.ag24 rfl (c := ss.map ssV) (v := ssV (ss[j.1]'(by omega))) (map_at (by omega))) rfl ?_
      refine tl_p (pr_assign rfl) rfl ?_
      refine tl_next ?_
      refine tc_region ?_
      refine tl_p (pr_move rfl) rfl ?_
      refine tl_p (pr_move rfl) rfl ?_
      refine tl_append Tryz.sf24 Tryz.z27 rfl rfl rfl hj2 (hB (ss[j.1]'(by omega)) (List.getElem_mem _)) caps_ok (by have h2 := tot_take (l := ss) (j := j.1) (by omega); have h3 := tot_le ss (j.1 + 1); omega) (h2 := Reads.sl (reads_mem hr2 (List.getElem_mem (by omega)))) rfl (kk := fun s33 hs33 => ?_)
      refine tl_p (pr_assign rfl) rfl ?_
      refine tl_nil (tq_blk_normal (tq_next ?_))
      refine tc_region ?_
      refine tl_p (pr_addN rfl rfl (by omega)) rfl ?_
      refine tl_p (pr_move rfl) rfl ?_
      refine tl_nil ?_
      rw [← allC_take (by omega)]
      exact tq_roundP (j.1 + 1, s33) ⟨by omega, by rw [tot_take (by omega), allC_take (by omega)]; exact hs33⟩ (by show n - (j.1 + 1) < _; omega) (.cons rfl (.cons rfl (.cons rfl (.cons (by rw [tot_take (by omega)]; rfl) .nil))))
    · have hd3 := hc3
      try simp only [Bool.not_eq_true', Bool.not_eq_false', Bool.or_eq_true, Bool.and_eq_true, Bool.or_eq_false_iff, Bool.and_eq_false_iff, decide_eq_true_eq, decide_eq_false_iff_not, Bool.not_true, Bool.not_false, gval, Bool.not_eq_eq_eq_not] at hc3
      refine tc_exit (tq_then_exit (tq_then_exit (tq_blk_here ?_)))
      refine tq_next ?_
      refine tc_seq ?_
      refine tc_region ?_
      refine tl_p (pr_move rfl) rfl ?_
      refine tl_p (pr_assign rfl) rfl ?_
      refine tl_next ?_
      refine tc_ret ?_
      have e : j.1 = ss.length := by omega
      rw [e, List.take_length] at hj2
      rw [e, List.take_length]
      exact tq_ret1 .ret (.inl rfl) ⟨j.2, hj2⟩ rfl rfl

end Go.Proofs
