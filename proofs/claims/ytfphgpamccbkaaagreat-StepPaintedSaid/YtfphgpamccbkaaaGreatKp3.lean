/- Contracts of functions: what each computes, and what becomes of the memory that it is given. -/
import Derived.Test.YtfphgpamccbkaaaGreatProg
import Derived.Test.YtfphgpamccbkaaaGreatKp2
set_option linter.unusedVariables false
set_option linter.unusedSimpArgs false
set_option linter.unusedSectionVars false
set_option linter.unnecessarySimpa false
namespace Go.Proofs
open Go Go.Sz
attribute [local irreducible] pt lift exs own emp

abbrev m32 (n : Int) : Int := n % 4294967296
def refMul (x y : Int) : Int := m32 (wI (m32 (wI (x * (y / 65536))) * 65536 + wI (x * (y % 65536))))
def refDo (op a b : Int) : Int × Int :=
  if op = 3 then (m32 (m32 a + m32 b), 0) else if op = 4 then (m32 (m32 a - m32 b), 0) else if op = 5 then (refMul (m32 a) (m32 b), 0) else
  if op = 6 then (if m32 b = 0 then (0, 201) else (m32 a / m32 b, 0)) else if op = 7 then (if m32 a < m32 b then (1, 0) else (0, 0)) else if op = 8 then (if m32 a = m32 b then (1, 0) else (0, 0)) else (0, 151)
def fineR (k n : Int) : Bool := if k = 114 then decide (0 ≤ n) && decide (n < 8) else if k = 105 then decide (0 ≤ n) && decide (n ≤ 255) else if k = 119 then decide (-32768 ≤ n) && decide (n ≤ 32767) else decide (n = 0)
theorem kinds_a {op : Int} (h : op = 0 ∨ op = 24) : kindsS op = ⟨#[45, 45, 45]⟩ := by rcases h with rfl | rfl <;> rfl
theorem kinds_b {op : Int} (h : op = 1 ∨ op = 10) : kindsS op = ⟨#[114, 119, 118]⟩ := by rcases h with rfl | rfl <;> rfl
theorem kinds_c {op : Int} (h : op = 2 ∨ op = 22 ∨ op = 23 ∨ op = 25 ∨ op = 26 ∨ op = 27 ∨ op = 28) : kindsS op = ⟨#[114, 114, 45]⟩ := by rcases h with rfl | rfl | rfl | rfl | rfl | rfl | rfl <;> rfl
theorem kinds_d {op : Int} (h : op = 3 ∨ op = 4 ∨ op = 5 ∨ op = 6 ∨ op = 7 ∨ op = 8 ∨ op = 17 ∨ op = 18 ∨ op = 20 ∨ op = 21) : kindsS op = ⟨#[114, 114, 114]⟩ := by rcases h with rfl | rfl | rfl | rfl | rfl | rfl | rfl | rfl | rfl | rfl <;> rfl
theorem kinds_e {op : Int} (h : op = 9) : kindsS op = ⟨#[45, 119, 118]⟩ := by subst h; rfl
theorem kinds_f {op : Int} (h : op = 11 ∨ op = 12 ∨ op = 13 ∨ op = 14 ∨ op = 15 ∨ op = 16 ∨ op = 19) : kindsS op = ⟨#[114, 114, 105]⟩ := by rcases h with rfl | rfl | rfl | rfl | rfl | rfl | rfl <;> rfl
theorem kinds_g {op : Int} (h : op = 29) : kindsS op = ⟨#[105, 45, 45]⟩ := by subst h; rfl
theorem kinds_h {op : Int} (h : op < 0 ∨ 29 < op) : kindsS op = ⟨#[]⟩ := by
  unfold kindsS; rcases h with h | h
  · rw [if_pos h]
  · rw [if_neg (by omega), if_pos h]
theorem kinds_all (op : Int) : (op = 0 ∨ op = 24) ∨ (op = 1 ∨ op = 10) ∨ (op = 2 ∨ op = 22 ∨ op = 23 ∨ op = 25 ∨ op = 26 ∨ op = 27 ∨ op = 28) ∨ (op = 3 ∨ op = 4 ∨ op = 5 ∨ op = 6 ∨ op = 7 ∨ op = 8 ∨ op = 17 ∨ op = 18 ∨ op = 20 ∨ op = 21) ∨ op = 9 ∨ (op = 11 ∨ op = 12 ∨ op = 13 ∨ op = 14 ∨ op = 15 ∨ op = 16 ∨ op = 19) ∨ op = 29 ∨ (op < 0 ∨ 29 < op) := by omega
theorem kinds_or (op : Int) : kindsS op = ⟨#[45, 45, 45]⟩ ∨ kindsS op = ⟨#[114, 119, 118]⟩ ∨ kindsS op = ⟨#[114, 114, 45]⟩ ∨ kindsS op = ⟨#[114, 114, 114]⟩ ∨ kindsS op = ⟨#[45, 119, 118]⟩ ∨ kindsS op = ⟨#[114, 114, 105]⟩ ∨ kindsS op = ⟨#[105, 45, 45]⟩ ∨ kindsS op = ⟨#[]⟩ := by
  rcases kinds_all op with h | h | h | h | h | h | h | h
  · exact .inl (kinds_a h)
  · exact .inr (.inl (kinds_b h))
  · exact .inr (.inr (.inl (kinds_c h)))
  · exact .inr (.inr (.inr (.inl (kinds_d h))))
  · exact .inr (.inr (.inr (.inr (.inl (kinds_e h)))))
  · exact .inr (.inr (.inr (.inr (.inr (.inl (kinds_f h))))))
  · exact .inr (.inr (.inr (.inr (.inr (.inr (.inl (kinds_g h)))))))
  · exact .inr (.inr (.inr (.inr (.inr (.inr (.inr (kinds_h h)))))))
theorem kinds_ix (op : Int) (i : Nat) (hi : i < 3) (h : (kindsS op != ⟨#[]⟩) = true) : (kindsS op)[i]? = some ((kindsS op).data.toList.getD i 0) := by
  revert h
  rcases kinds_or op with h | h | h | h | h | h | h | h <;> rw [h] <;> intro h2 <;> first | (exact absurd h2 (by decide)) | (match i, hi with | 0, _ => rfl | 1, _ => rfl | 2, _ => rfl)
def kAt (op : Int) (i : Nat) : Int := (((kindsS op).data.toList.getD i 0).toNat : Int)
theorem fineR_eq (k n : Int) : fineR k n = !(decide (n < (boundsK k).1) || decide ((boundsK k).2 < n)) := by
  unfold fineR boundsK
  repeat' split
  all_goals (rw [Bool.eq_iff_iff]; first | (simp; done) | (simp; omega))
theorem insRight_ref (x : Ins) : insRight x = ((kindsS x.op != ⟨#[]⟩) && fineR (kAt x.op 0) x.a && fineR (kAt x.op 1) x.b && fineR (kAt x.op 2) x.c) := by
  unfold insRight
  simp only [fineR_eq, kAt]
  have key : (kindsS x.op != ⟨#[]⟩) = (decide (0 ≤ x.op) && decide (x.op ≤ 29)) := by
    rcases kinds_all x.op with h | h | h | h | h | h | h | h
    · rw [kinds_a h, show (decide (0 ≤ x.op) && decide (x.op ≤ 29)) = true from by simp; omega]; rfl
    · rw [kinds_b h, show (decide (0 ≤ x.op) && decide (x.op ≤ 29)) = true from by simp; omega]; rfl
    · rw [kinds_c h, show (decide (0 ≤ x.op) && decide (x.op ≤ 29)) = true from by simp; omega]; rfl
    · rw [kinds_d h, show (decide (0 ≤ x.op) && decide (x.op ≤ 29)) = true from by simp; omega]; rfl
    · rw [kinds_e h, show (decide (0 ≤ x.op) && decide (x.op ≤ 29)) = true from by simp; omega]; rfl
    · rw [kinds_f h, show (decide (0 ≤ x.op) && decide (x.op ≤ 29)) = true from by simp; omega]; rfl
    · rw [kinds_g h, show (decide (0 ≤ x.op) && decide (x.op ≤ 29)) = true from by simp; omega]; rfl
    · rw [kinds_h h, show (decide (0 ≤ x.op) && decide (x.op ≤ 29)) = false from by simp; omega]; rfl
  rw [← key]
  rcases kinds_or x.op with h | h | h | h | h | h | h | h <;> rw [h] <;> first | rfl | (show ((List.range 3).all _ && _) = _; simp only [fineAt, kindAt, Ins.abc, List.range, List.range.loop, List.all_cons, List.all_nil, Bool.and_true]; rw [Bool.and_comm]; simp only [Bool.and_assoc]; rfl)
def putW (x : Ins) : Int := if x.b < 0 then wI (x.b + 65536) else x.b
abbrev b8 (n : Int) : Int := IntKind.u8.wrap n
def putI (x : Ins) : List Int := if insRight x = false then [] else if kAt x.op 1 = 119 then [b8 x.op, b8 x.a, b8 (wI ((putW x).tdiv 256)), b8 ((putW x).tmod 256)] else [b8 x.op, b8 x.a, b8 x.b, b8 x.c]
theorem putI_len (x : Ins) : (putI x).length ≤ 4 := by unfold putI; repeat' split
                                                       all_goals simp

theorem f20_ct (op a b : Int) (ha : -9223372036854775808 ≤ a ∧ a ≤ 9223372036854775807) (hb : -9223372036854775808 ≤ b ∧ b ≤ 9223372036854775807) : Rd Tryz.prog 20 #[.int .i64 op, .int .i64 a, .int .i64 b] [] [] (ii (refDo op a b)) := by
  refine ct_intro Tryz.func20 rfl (by kernel_rfl) (n := 58) rfl rfl (E := [(0, .int .i64 op), (1, .int .i64 a), (2, .int .i64 b)]) rfl ?_
  intro κ hro
  refine tc_seq ?_
  refine tc_region ?_
  refine tl_p (pr_assign rfl) rfl ?_
  refine tl_p (pr_assign rfl) rfl ?_
  refine tl_next ?_
  refine tc_seq ?_
  refine tc_region ?_
  refine tl_p (pr_move rfl) rfl ?_
  refine tl_rdS (f60_ct _ (by first | omega | exact wI_lt _)) (.cons rfl .nil) rfl (kk := ?_)
  refine tl_p (pr_assign rfl) rfl ?_
  refine tl_next ?_
  refine tc_seq ?_
  refine tc_region ?_
  refine tl_p (pr_move rfl) rfl ?_
  refine tl_rdS (f60_ct _ (by first | omega | exact wI_lt _)) (.cons rfl .nil) rfl (kk := ?_)
  refine tl_p (pr_assign rfl) rfl ?_
  refine tl_next ?_
  refine tc_seq ?_
  refine tc_seq ?_
  refine tc_region ?_
  refine tl_p (pr_move rfl) rfl ?_
  refine tl_next ?_
  refine tc_block ?_
  refine tc_seq ?_
  refine tc_region ?_
  refine tl_p (pr_eql rfl rfl) rfl ?_
  refine tl_p (pr_assign rfl) rfl ?_
  refine tl_next ?_
  refine tc_if rfl (fun hc1 => ?_) (fun hc1 => ?_)
  · have hd1 := hc1
    try simp only [Bool.not_eq_true', Bool.not_eq_false', Bool.or_eq_true, Bool.and_eq_true, Bool.or_eq_false_iff, Bool.and_eq_false_iff, decide_eq_true_eq, decide_eq_false_iff_not, Bool.not_true, Bool.not_false, gval, Bool.not_eq_eq_eq_not] at hc1
    refine tc_seq ?_
    refine tc_region ?_
    refine tl_p (pr_move rfl) rfl ?_
    refine tl_p (pr_move rfl) rfl ?_
    refine tl_p (pr_addN rfl rfl (by omega)) rfl ?_
    refine tl_rdS (f60_ct _ (by first | omega | exact wI_lt _)) (.cons rfl .nil) rfl (kk := ?_)
    refine tl_p (pr_assign rfl) rfl ?_
    refine tl_p (pr_assign rfl) rfl ?_
    refine tl_next ?_
    refine tc_ret (tq_blk_ret (tq_then_ret ?_))
    exact tq_ret2 .ret (.inl rfl) () rfl rfl rfl (by first | rfl | (subst_vars; rfl) | (simp [refDo, *, cells_agg, resV, Cap.v]; done) | (simp [refDo, *, cells_agg, resV, Cap.v]; omega) | (unfold refDo; split <;> first | rfl | (exfalso; simp_all; done) | (exfalso; simp_all [wI]; first | done | omega)))
  · have hd1 := hc1
    try simp only [Bool.not_eq_true', Bool.not_eq_false', Bool.or_eq_true, Bool.and_eq_true, Bool.or_eq_false_iff, Bool.and_eq_false_iff, decide_eq_true_eq, decide_eq_false_iff_not, Bool.not_true, Bool.not_false, gval, Bool.not_eq_eq_eq_not] at hc1
    refine tc_seq ?_
    refine tc_region ?_
    refine tl_p (pr_eql rfl rfl) rfl ?_
    refine tl_p (pr_assign rfl) rfl ?_
    refine tl_next ?_
    refine tc_if rfl (fun hc2 => ?_) (fun hc2 => ?_)
    · have hd2 := hc2
      try simp only [Bool.not_eq_true', Bool.not_eq_false', Bool.or_eq_true, Bool.and_eq_true, Bool.or_eq_false_iff, Bool.and_eq_false_iff, decide_eq_true_eq, decide_eq_false_iff_not, Bool.not_true, Bool.not_false, gval, Bool.not_eq_eq_eq_not] at hc2
      refine tc_seq ?_
      refine tc_region ?_
      refine tl_p (pr_move rfl) rfl ?_
      refine tl_p (pr_move rfl) rfl ?_
      refine tl_p (pr_subN rfl rfl (by omega)) rfl ?_
      refine tl_rdS (f60_ct _ (by first | omega | exact wI_lt _)) (.cons rfl .nil) rfl (kk := ?_)
      refine tl_p (pr_assign rfl) rfl ?_
      refine tl_p (pr_assign rfl) rfl ?_
      refine tl_next ?_
      refine tc_ret (tq_blk_ret (tq_then_ret ?_))
      exact tq_ret2 .ret (.inl rfl) () rfl rfl rfl (by first | rfl | (subst_vars; rfl) | (simp [refDo, *, cells_agg, resV, Cap.v]; done) | (simp [refDo, *, cells_agg, resV, Cap.v]; omega) | (unfold refDo; split <;> first | rfl | (exfalso; simp_all; done) | (exfalso; simp_all [wI]; first | done | omega)))
    · have hd2 := hc2
      try simp only [Bool.not_eq_true', Bool.not_eq_false', Bool.or_eq_true, Bool.and_eq_true, Bool.or_eq_false_iff, Bool.and_eq_false_iff, decide_eq_true_eq, decide_eq_false_iff_not, Bool.not_true, Bool.not_false, gval, Bool.not_eq_eq_eq_not] at hc2
      refine tc_seq ?_
      refine tc_region ?_
      refine tl_p (pr_eql rfl rfl) rfl ?_
      refine tl_p (pr_assign rfl) rfl ?_
      refine tl_next ?_
      refine tc_if rfl (fun hc3 => ?_) (fun hc3 => ?_)
      · have hd3 := hc3
        try simp only [Bool.not_eq_true', Bool.not_eq_false', Bool.or_eq_true, Bool.and_eq_true, Bool.or_eq_false_iff, Bool.and_eq_false_iff, decide_eq_true_eq, decide_eq_false_iff_not, Bool.not_true, Bool.not_false, gval, Bool.not_eq_eq_eq_not] at hc3
        refine tc_seq ?_
        refine tc_region ?_
        refine tl_p (pr_move rfl) rfl ?_
        refine tl_p (pr_move rfl) rfl ?_
        refine tl_p (pr_quoN rfl rfl (by omega) (by omega) (by omega)) rfl ?_
        refine tl_p (pr_mul rfl rfl) rfl ?_
        refine tl_rdS (f60_ct _ (by first | omega | exact wI_lt _)) (.cons rfl .nil) rfl (kk := ?_)
        refine tl_p (pr_mulN rfl rfl (by omega)) rfl ?_
        refine tl_p (pr_move rfl) rfl ?_
        refine tl_p (pr_move rfl) rfl ?_
        refine tl_p (pr_remN rfl rfl (by omega) (by omega)) rfl ?_
        refine tl_p (pr_mul rfl rfl) rfl ?_
        refine tl_p (pr_add rfl rfl) rfl ?_
        refine tl_rdS (f60_ct _ (by first | omega | exact wI_lt _)) (.cons rfl .nil) rfl (kk := ?_)
        refine tl_p (pr_assign rfl) rfl ?_
        refine tl_p (pr_assign rfl) rfl ?_
        refine tl_next ?_
        refine tc_ret (tq_blk_ret (tq_then_ret ?_))
        exact tq_ret2 .ret (.inl rfl) () rfl rfl rfl (by first | rfl | (subst_vars; rfl) | (simp [refDo, *, cells_agg, resV, Cap.v]; done) | (simp [refDo, *, cells_agg, resV, Cap.v]; omega) | (unfold refDo; split <;> first | rfl | (exfalso; simp_all; done) | (exfalso; simp_all [wI]; first | done | omega)))
      · have hd3 := hc3
        try simp only [Bool.not_eq_true', Bool.not_eq_false', Bool.or_eq_true, Bool.and_eq_true, Bool.or_eq_false_iff, Bool.and_eq_false_iff, decide_eq_true_eq, decide_eq_false_iff_not, Bool.not_true, Bool.not_false, gval, Bool.not_eq_eq_eq_not] at hc3
        refine tc_seq ?_
        refine tc_region ?_
        refine tl_p (pr_eql rfl rfl) rfl ?_
        refine tl_p (pr_assign rfl) rfl ?_
        refine tl_next ?_
        refine tc_if rfl (fun hc4 => ?_) (fun hc4 => ?_)
        · have hd4 := hc4
          try simp only [Bool.not_eq_true', Bool.not_eq_false', Bool.or_eq_true, Bool.and_eq_true, Bool.or_eq_false_iff, Bool.and_eq_false_iff, decide_eq_true_eq, decide_eq_false_iff_not, Bool.not_true, Bool.not_false, gval, Bool.not_eq_eq_eq_not] at hc4
          refine tc_seq ?_
          refine tc_seq ?_
          refine tc_region ?_
          refine tl_p (pr_move rfl) rfl ?_
          refine tl_p (pr_eql rfl rfl) rfl ?_
          refine tl_next ?_
          refine tc_if rfl (fun hc5 => ?_) (fun hc5 => ?_)
          · have hd5 := hc5
            try simp only [Bool.not_eq_true', Bool.not_eq_false', Bool.or_eq_true, Bool.and_eq_true, Bool.or_eq_false_iff, Bool.and_eq_false_iff, decide_eq_true_eq, decide_eq_false_iff_not, Bool.not_true, Bool.not_false, gval, Bool.not_eq_eq_eq_not] at hc5
            refine tc_seq ?_
            refine tc_region ?_
            refine tl_p (pr_assign rfl) rfl ?_
            refine tl_p (pr_assign rfl) rfl ?_
            refine tl_next ?_
            refine tc_ret (tq_then_ret (tq_blk_ret (tq_then_ret ?_)))
            exact tq_ret2 .ret (.inl rfl) () rfl rfl rfl (by first | rfl | (subst_vars; rfl) | (simp [refDo, *, cells_agg, resV, Cap.v]; done) | (simp [refDo, *, cells_agg, resV, Cap.v]; omega) | (unfold refDo; split <;> first | rfl | (exfalso; simp_all; done) | (exfalso; simp_all [wI]; first | done | omega)))
          · have hd5 := hc5
            try simp only [Bool.not_eq_true', Bool.not_eq_false', Bool.or_eq_true, Bool.and_eq_true, Bool.or_eq_false_iff, Bool.and_eq_false_iff, decide_eq_true_eq, decide_eq_false_iff_not, Bool.not_true, Bool.not_false, gval, Bool.not_eq_eq_eq_not] at hc5
            refine tc_skip (tq_next ?_)
            refine tc_seq ?_
            refine tc_region ?_
            refine tl_p (pr_move rfl) rfl ?_
            refine tl_p (pr_move rfl) rfl ?_
            refine tl_p (pr_quoN rfl rfl (by omega) (by omega) (by omega)) rfl ?_
            refine tl_p (pr_assign rfl) rfl ?_
            refine tl_p (pr_assign rfl) rfl ?_
            refine tl_next ?_
            refine tc_ret (tq_blk_ret (tq_then_ret ?_))
            exact tq_ret2 .ret (.inl rfl) () rfl rfl rfl (by first | rfl | (subst_vars; rfl) | (simp [refDo, *, cells_agg, resV, Cap.v]; done) | (simp [refDo, *, cells_agg, resV, Cap.v]; omega) | (unfold refDo; split <;> first | rfl | (exfalso; simp_all; done) | (exfalso; simp_all [wI]; first | done | omega)))
        · have hd4 := hc4
          try simp only [Bool.not_eq_true', Bool.not_eq_false', Bool.or_eq_true, Bool.and_eq_true, Bool.or_eq_false_iff, Bool.and_eq_false_iff, decide_eq_true_eq, decide_eq_false_iff_not, Bool.not_true, Bool.not_false, gval, Bool.not_eq_eq_eq_not] at hc4
          refine tc_seq ?_
          refine tc_region ?_
          refine tl_p (pr_eql rfl rfl) rfl ?_
          refine tl_p (pr_assign rfl) rfl ?_
          refine tl_next ?_
          refine tc_if rfl (fun hc6 => ?_) (fun hc6 => ?_)
          · have hd6 := hc6
            try simp only [Bool.not_eq_true', Bool.not_eq_false', Bool.or_eq_true, Bool.and_eq_true, Bool.or_eq_false_iff, Bool.and_eq_false_iff, decide_eq_true_eq, decide_eq_false_iff_not, Bool.not_true, Bool.not_false, gval, Bool.not_eq_eq_eq_not] at hc6
            refine tc_seq ?_
            refine tc_seq ?_
            refine tc_region ?_
            refine tl_p (pr_move rfl) rfl ?_
            refine tl_p (pr_move rfl) rfl ?_
            refine tl_p (pr_lss rfl rfl) rfl ?_
            refine tl_next ?_
            refine tc_if rfl (fun hc7 => ?_) (fun hc7 => ?_)
            · have hd7 := hc7
              try simp only [Bool.not_eq_true', Bool.not_eq_false', Bool.or_eq_true, Bool.and_eq_true, Bool.or_eq_false_iff, Bool.and_eq_false_iff, decide_eq_true_eq, decide_eq_false_iff_not, Bool.not_true, Bool.not_false, gval, Bool.not_eq_eq_eq_not] at hc7
              refine tc_seq ?_
              refine tc_region ?_
              refine tl_p (pr_assign rfl) rfl ?_
              refine tl_p (pr_assign rfl) rfl ?_
              refine tl_next ?_
              refine tc_ret (tq_then_ret (tq_blk_ret (tq_then_ret ?_)))
              exact tq_ret2 .ret (.inl rfl) () rfl rfl rfl (by first | rfl | (subst_vars; rfl) | (simp [refDo, *, cells_agg, resV, Cap.v]; done) | (simp [refDo, *, cells_agg, resV, Cap.v]; omega) | (unfold refDo; split <;> first | rfl | (exfalso; simp_all; done) | (exfalso; simp_all [wI]; first | done | omega)))
            · have hd7 := hc7
              try simp only [Bool.not_eq_true', Bool.not_eq_false', Bool.or_eq_true, Bool.and_eq_true, Bool.or_eq_false_iff, Bool.and_eq_false_iff, decide_eq_true_eq, decide_eq_false_iff_not, Bool.not_true, Bool.not_false, gval, Bool.not_eq_eq_eq_not] at hc7
              refine tc_skip (tq_next ?_)
              refine tc_seq ?_
              refine tc_region ?_
              refine tl_p (pr_assign rfl) rfl ?_
              refine tl_p (pr_assign rfl) rfl ?_
              refine tl_next ?_
              refine tc_ret (tq_blk_ret (tq_then_ret ?_))
              exact tq_ret2 .ret (.inl rfl) () rfl rfl rfl (by first | rfl | (subst_vars; rfl) | (simp [refDo, *, cells_agg, resV, Cap.v]; done) | (simp [refDo, *, cells_agg, resV, Cap.v]; omega) | (unfold refDo; split <;> first | rfl | (exfalso; simp_all; done) | (exfalso; simp_all [wI]; first | done | omega)))
          · have hd6 := hc6
            try simp only [Bool.not_eq_true', Bool.not_eq_false', Bool.or_eq_true, Bool.and_eq_true, Bool.or_eq_false_iff, Bool.and_eq_false_iff, decide_eq_true_eq, decide_eq_false_iff_not, Bool.not_true, Bool.not_false, gval, Bool.not_eq_eq_eq_not] at hc6
            refine tc_seq ?_
            refine tc_region ?_
            refine tl_p (pr_eql rfl rfl) rfl ?_
            refine tl_p (pr_assign rfl) rfl ?_
            refine tl_next ?_
            refine tc_if rfl (fun hc8 => ?_) (fun hc8 => ?_)
            · have hd8 := hc8
              try simp only [Bool.not_eq_true', Bool.not_eq_false', Bool.or_eq_true, Bool.and_eq_true, Bool.or_eq_false_iff, Bool.and_eq_false_iff, decide_eq_true_eq, decide_eq_false_iff_not, Bool.not_true, Bool.not_false, gval, Bool.not_eq_eq_eq_not] at hc8
              refine tc_seq ?_
              refine tc_seq ?_
              refine tc_region ?_
              refine tl_p (pr_move rfl) rfl ?_
              refine tl_p (pr_move rfl) rfl ?_
              refine tl_p (pr_eql rfl rfl) rfl ?_
              refine tl_next ?_
              refine tc_if rfl (fun hc9 => ?_) (fun hc9 => ?_)
              · have hd9 := hc9
                try simp only [Bool.not_eq_true', Bool.not_eq_false', Bool.or_eq_true, Bool.and_eq_true, Bool.or_eq_false_iff, Bool.and_eq_false_iff, decide_eq_true_eq, decide_eq_false_iff_not, Bool.not_true, Bool.not_false, gval, Bool.not_eq_eq_eq_not] at hc9
                refine tc_seq ?_
                refine tc_region ?_
                refine tl_p (pr_assign rfl) rfl ?_
                refine tl_p (pr_assign rfl) rfl ?_
                refine tl_next ?_
                refine tc_ret (tq_then_ret (tq_blk_ret (tq_then_ret ?_)))
                exact tq_ret2 .ret (.inl rfl) () rfl rfl rfl (by first | rfl | (subst_vars; rfl) | (simp [refDo, *, cells_agg, resV, Cap.v]; done) | (simp [refDo, *, cells_agg, resV, Cap.v]; omega) | (unfold refDo; split <;> first | rfl | (exfalso; simp_all; done) | (exfalso; simp_all [wI]; first | done | omega)))
              · have hd9 := hc9
                try simp only [Bool.not_eq_true', Bool.not_eq_false', Bool.or_eq_true, Bool.and_eq_true, Bool.or_eq_false_iff, Bool.and_eq_false_iff, decide_eq_true_eq, decide_eq_false_iff_not, Bool.not_true, Bool.not_false, gval, Bool.not_eq_eq_eq_not] at hc9
                refine tc_skip (tq_next ?_)
                refine tc_seq ?_
                refine tc_region ?_
                refine tl_p (pr_assign rfl) rfl ?_
                refine tl_p (pr_assign rfl) rfl ?_
                refine tl_next ?_
                refine tc_ret (tq_blk_ret (tq_then_ret ?_))
                exact tq_ret2 .ret (.inl rfl) () rfl rfl rfl (by first | rfl | (subst_vars; rfl) | (simp [refDo, *, cells_agg, resV, Cap.v]; done) | (simp [refDo, *, cells_agg, resV, Cap.v]; omega) | (unfold refDo; split <;> first | rfl | (exfalso; simp_all; done) | (exfalso; simp_all [wI]; first | done | omega)))
            · have hd8 := hc8
              try simp only [Bool.not_eq_true', Bool.not_eq_false', Bool.or_eq_true, Bool.and_eq_true, Bool.or_eq_false_iff, Bool.and_eq_false_iff, decide_eq_true_eq, decide_eq_false_iff_not, Bool.not_true, Bool.not_false, gval, Bool.not_eq_eq_eq_not] at hc8
              refine tc_skip (tq_blk_normal (tq_next ?_))
              refine tc_seq ?_
              refine tc_region ?_
              refine tl_p (pr_assign rfl) rfl ?_
              refine tl_p (pr_assign rfl) rfl ?_
              refine tl_next ?_
              refine tc_ret ?_
              exact tq_ret2 .ret (.inl rfl) () rfl rfl rfl (by first | rfl | (subst_vars; rfl) | (simp [refDo, *, cells_agg, resV, Cap.v]; done) | (simp [refDo, *, cells_agg, resV, Cap.v]; omega) | (unfold refDo; split <;> first | rfl | (exfalso; simp_all; done) | (exfalso; simp_all [wI]; first | done | omega)))

theorem f105_ct (op : Int) : Rd Tryz.prog 105 #[.int .i64 op] [] [] (.string (kindsS op)) := by
  refine ct_intro Tryz.func105 rfl (by kernel_rfl) (n := 41) rfl rfl (E := [(0, .int .i64 op)]) rfl ?_
  intro κ hro
  refine tc_seq ?_
  refine tc_region ?_
  refine tl_p (pr_assign rfl) rfl ?_
  refine tl_next ?_
  refine tc_seq ?_
  refine tc_seq ?_
  refine tc_region ?_
  refine tl_p (pr_move rfl) rfl ?_
  refine tl_next ?_
  refine tc_block ?_
  refine tc_seq ?_
  refine tc_seq ?_
  refine tc_region ?_
  refine tl_p (pr_eql rfl rfl) rfl ?_
  refine tl_p (pr_assign rfl) rfl ?_
  refine tl_next ?_
  refine tc_if rfl (fun hc1 => ?_) (fun hc1 => ?_)
  · have hd1 := hc1
    try simp only [Bool.not_eq_true', Bool.not_eq_false', Bool.or_eq_true, Bool.and_eq_true, Bool.or_eq_false_iff, Bool.and_eq_false_iff, decide_eq_true_eq, decide_eq_false_iff_not, Bool.not_true, Bool.not_false, gval, Bool.not_eq_eq_eq_not] at hc1
    refine tc_skip (tq_next ?_)
    refine tc_if_true rfl hd1 ?_
    refine tc_seq ?_
    refine tc_region ?_
    refine tl_p (pr_assign rfl) rfl ?_
    refine tl_next ?_
    refine tc_ret (tq_blk_ret (tq_then_ret ?_))
    first | exact tq_retE1 .ret (.inl rfl) () rfl rfl (by rw [kinds_a (by omega)]) | exact tq_retE1 .ret (.inl rfl) () rfl rfl (by rw [kinds_b (by omega)]) | exact tq_retE1 .ret (.inl rfl) () rfl rfl (by rw [kinds_c (by omega)]) | exact tq_retE1 .ret (.inl rfl) () rfl rfl (by rw [kinds_d (by omega)]) | exact tq_retE1 .ret (.inl rfl) () rfl rfl (by rw [kinds_e (by omega)]) | exact tq_retE1 .ret (.inl rfl) () rfl rfl (by rw [kinds_f (by omega)]) | exact tq_retE1 .ret (.inl rfl) () rfl rfl (by rw [kinds_g (by omega)]) | exact tq_retE1 .ret (.inl rfl) () rfl rfl (by rw [kinds_h (by omega)])
  · have hd1 := hc1
    try simp only [Bool.not_eq_true', Bool.not_eq_false', Bool.or_eq_true, Bool.and_eq_true, Bool.or_eq_false_iff, Bool.and_eq_false_iff, decide_eq_true_eq, decide_eq_false_iff_not, Bool.not_true, Bool.not_false, gval, Bool.not_eq_eq_eq_not] at hc1
    refine tc_region ?_
    refine tl_p (pr_eql rfl rfl) rfl ?_
    refine tl_p (pr_assign rfl) rfl ?_
    refine tl_next ?_
    refine tc_if rfl (fun hc3 => ?_) (fun hc3 => ?_)
    · have hd3 := hc3
      try simp only [Bool.not_eq_true', Bool.not_eq_false', Bool.or_eq_true, Bool.and_eq_true, Bool.or_eq_false_iff, Bool.and_eq_false_iff, decide_eq_true_eq, decide_eq_false_iff_not, Bool.not_true, Bool.not_false, gval, Bool.not_eq_eq_eq_not] at hc3
      refine tc_seq ?_
      refine tc_region ?_
      refine tl_p (pr_assign rfl) rfl ?_
      refine tl_next ?_
      refine tc_ret (tq_blk_ret (tq_then_ret ?_))
      first | exact tq_retE1 .ret (.inl rfl) () rfl rfl (by rw [kinds_a (by omega)]) | exact tq_retE1 .ret (.inl rfl) () rfl rfl (by rw [kinds_b (by omega)]) | exact tq_retE1 .ret (.inl rfl) () rfl rfl (by rw [kinds_c (by omega)]) | exact tq_retE1 .ret (.inl rfl) () rfl rfl (by rw [kinds_d (by omega)]) | exact tq_retE1 .ret (.inl rfl) () rfl rfl (by rw [kinds_e (by omega)]) | exact tq_retE1 .ret (.inl rfl) () rfl rfl (by rw [kinds_f (by omega)]) | exact tq_retE1 .ret (.inl rfl) () rfl rfl (by rw [kinds_g (by omega)]) | exact tq_retE1 .ret (.inl rfl) () rfl rfl (by rw [kinds_h (by omega)])
    · have hd3 := hc3
      try simp only [Bool.not_eq_true', Bool.not_eq_false', Bool.or_eq_true, Bool.and_eq_true, Bool.or_eq_false_iff, Bool.and_eq_false_iff, decide_eq_true_eq, decide_eq_false_iff_not, Bool.not_true, Bool.not_false, gval, Bool.not_eq_eq_eq_not] at hc3
      refine tc_seq ?_
      refine tc_seq ?_
      refine tc_region ?_
      refine tl_p (pr_eql rfl rfl) rfl ?_
      refine tl_p (pr_assign rfl) rfl ?_
      refine tl_next ?_
      refine tc_if rfl (fun hc4 => ?_) (fun hc4 => ?_)
      · have hd4 := hc4
        try simp only [Bool.not_eq_true', Bool.not_eq_false', Bool.or_eq_true, Bool.and_eq_true, Bool.or_eq_false_iff, Bool.and_eq_false_iff, decide_eq_true_eq, decide_eq_false_iff_not, Bool.not_true, Bool.not_false, gval, Bool.not_eq_eq_eq_not] at hc4
        refine tc_skip (tq_next ?_)
        refine tc_if_true rfl hd4 ?_
        refine tc_seq ?_
        refine tc_region ?_
        refine tl_p (pr_assign rfl) rfl ?_
        refine tl_next ?_
        refine tc_ret (tq_blk_ret (tq_then_ret ?_))
        first | exact tq_retE1 .ret (.inl rfl) () rfl rfl (by rw [kinds_a (by omega)]) | exact tq_retE1 .ret (.inl rfl) () rfl rfl (by rw [kinds_b (by omega)]) | exact tq_retE1 .ret (.inl rfl) () rfl rfl (by rw [kinds_c (by omega)]) | exact tq_retE1 .ret (.inl rfl) () rfl rfl (by rw [kinds_d (by omega)]) | exact tq_retE1 .ret (.inl rfl) () rfl rfl (by rw [kinds_e (by omega)]) | exact tq_retE1 .ret (.inl rfl) () rfl rfl (by rw [kinds_f (by omega)]) | exact tq_retE1 .ret (.inl rfl) () rfl rfl (by rw [kinds_g (by omega)]) | exact tq_retE1 .ret (.inl rfl) () rfl rfl (by rw [kinds_h (by omega)])
      · have hd4 := hc4
        try simp only [Bool.not_eq_true', Bool.not_eq_false', Bool.or_eq_true, Bool.and_eq_true, Bool.or_eq_false_iff, Bool.and_eq_false_iff, decide_eq_true_eq, decide_eq_false_iff_not, Bool.not_true, Bool.not_false, gval, Bool.not_eq_eq_eq_not] at hc4
        refine tc_region ?_
        refine tl_p (pr_eql rfl rfl) rfl ?_
        refine tl_p (pr_assign rfl) rfl ?_
        refine tl_next ?_
        refine tc_if rfl (fun hc6 => ?_) (fun hc6 => ?_)
        · have hd6 := hc6
          try simp only [Bool.not_eq_true', Bool.not_eq_false', Bool.or_eq_true, Bool.and_eq_true, Bool.or_eq_false_iff, Bool.and_eq_false_iff, decide_eq_true_eq, decide_eq_false_iff_not, Bool.not_true, Bool.not_false, gval, Bool.not_eq_eq_eq_not] at hc6
          refine tc_seq ?_
          refine tc_region ?_
          refine tl_p (pr_assign rfl) rfl ?_
          refine tl_next ?_
          refine tc_ret (tq_blk_ret (tq_then_ret ?_))
          first | exact tq_retE1 .ret (.inl rfl) () rfl rfl (by rw [kinds_a (by omega)]) | exact tq_retE1 .ret (.inl rfl) () rfl rfl (by rw [kinds_b (by omega)]) | exact tq_retE1 .ret (.inl rfl) () rfl rfl (by rw [kinds_c (by omega)]) | exact tq_retE1 .ret (.inl rfl) () rfl rfl (by rw [kinds_d (by omega)]) | exact tq_retE1 .ret (.inl rfl) () rfl rfl (by rw [kinds_e (by omega)]) | exact tq_retE1 .ret (.inl rfl) () rfl rfl (by rw [kinds_f (by omega)]) | exact tq_retE1 .ret (.inl rfl) () rfl rfl (by rw [kinds_g (by omega)]) | exact tq_retE1 .ret (.inl rfl) () rfl rfl (by rw [kinds_h (by omega)])
        · have hd6 := hc6
          try simp only [Bool.not_eq_true', Bool.not_eq_false', Bool.or_eq_true, Bool.and_eq_true, Bool.or_eq_false_iff, Bool.and_eq_false_iff, decide_eq_true_eq, decide_eq_false_iff_not, Bool.not_true, Bool.not_false, gval, Bool.not_eq_eq_eq_not] at hc6
          refine tc_seq ?_
          refine tc_seq ?_
          refine tc_region ?_
          refine tl_p (pr_eql rfl rfl) rfl ?_
          refine tl_p (pr_assign rfl) rfl ?_
          refine tl_next ?_
          refine tc_if rfl (fun hc7 => ?_) (fun hc7 => ?_)
          · have hd7 := hc7
            try simp only [Bool.not_eq_true', Bool.not_eq_false', Bool.or_eq_true, Bool.and_eq_true, Bool.or_eq_false_iff, Bool.and_eq_false_iff, decide_eq_true_eq, decide_eq_false_iff_not, Bool.not_true, Bool.not_false, gval, Bool.not_eq_eq_eq_not] at hc7
            refine tc_skip (tq_next ?_)
            refine tc_if_true rfl hd7 ?_
            refine tc_seq ?_
            refine tc_region ?_
            refine tl_p (pr_assign rfl) rfl ?_
            refine tl_next ?_
            refine tc_ret (tq_blk_ret (tq_then_ret ?_))
            first | exact tq_retE1 .ret (.inl rfl) () rfl rfl (by rw [kinds_a (by omega)]) | exact tq_retE1 .ret (.inl rfl) () rfl rfl (by rw [kinds_b (by omega)]) | exact tq_retE1 .ret (.inl rfl) () rfl rfl (by rw [kinds_c (by omega)]) | exact tq_retE1 .ret (.inl rfl) () rfl rfl (by rw [kinds_d (by omega)]) | exact tq_retE1 .ret (.inl rfl) () rfl rfl (by rw [kinds_e (by omega)]) | exact tq_retE1 .ret (.inl rfl) () rfl rfl (by rw [kinds_f (by omega)]) | exact tq_retE1 .ret (.inl rfl) () rfl rfl (by rw [kinds_g (by omega)]) | exact tq_retE1 .ret (.inl rfl) () rfl rfl (by rw [kinds_h (by omega)])
          · have hd7 := hc7
            try simp only [Bool.not_eq_true', Bool.not_eq_false', Bool.or_eq_true, Bool.and_eq_true, Bool.or_eq_false_iff, Bool.and_eq_false_iff, decide_eq_true_eq, decide_eq_false_iff_not, Bool.not_true, Bool.not_false, gval, Bool.not_eq_eq_eq_not] at hc7
            refine tc_seq ?_
            refine tc_region ?_
            refine tl_p (pr_eql rfl rfl) rfl ?_
            refine tl_p (pr_assign rfl) rfl ?_
            refine tl_next ?_
            refine tc_if rfl (fun hc9 => ?_) (fun hc9 => ?_)
            · have hd9 := hc9
              try simp only [Bool.not_eq_true', Bool.not_eq_false', Bool.or_eq_true, Bool.and_eq_true, Bool.or_eq_false_iff, Bool.and_eq_false_iff, decide_eq_true_eq, decide_eq_false_iff_not, Bool.not_true, Bool.not_false, gval, Bool.not_eq_eq_eq_not] at hc9
              refine tc_skip (tq_next ?_)
              refine tc_if_true rfl hd9 ?_
              refine tc_seq ?_
              refine tc_region ?_
              refine tl_p (pr_assign rfl) rfl ?_
              refine tl_next ?_
              refine tc_ret (tq_blk_ret (tq_then_ret ?_))
              first | exact tq_retE1 .ret (.inl rfl) () rfl rfl (by rw [kinds_a (by omega)]) | exact tq_retE1 .ret (.inl rfl) () rfl rfl (by rw [kinds_b (by omega)]) | exact tq_retE1 .ret (.inl rfl) () rfl rfl (by rw [kinds_c (by omega)]) | exact tq_retE1 .ret (.inl rfl) () rfl rfl (by rw [kinds_d (by omega)]) | exact tq_retE1 .ret (.inl rfl) () rfl rfl (by rw [kinds_e (by omega)]) | exact tq_retE1 .ret (.inl rfl) () rfl rfl (by rw [kinds_f (by omega)]) | exact tq_retE1 .ret (.inl rfl) () rfl rfl (by rw [kinds_g (by omega)]) | exact tq_retE1 .ret (.inl rfl) () rfl rfl (by rw [kinds_h (by omega)])
            · have hd9 := hc9
              try simp only [Bool.not_eq_true', Bool.not_eq_false', Bool.or_eq_true, Bool.and_eq_true, Bool.or_eq_false_iff, Bool.and_eq_false_iff, decide_eq_true_eq, decide_eq_false_iff_not, Bool.not_true, Bool.not_false, gval, Bool.not_eq_eq_eq_not] at hc9
              refine tc_seq ?_
              refine tc_region ?_
              refine tl_p (pr_eql rfl rfl) rfl ?_
              refine tl_p (pr_assign rfl) rfl ?_
              refine tl_next ?_
              refine tc_if rfl (fun hc11 => ?_) (fun hc11 => ?_)
              · have hd11 := hc11
                try simp only [Bool.not_eq_true', Bool.not_eq_false', Bool.or_eq_true, Bool.and_eq_true, Bool.or_eq_false_iff, Bool.and_eq_false_iff, decide_eq_true_eq, decide_eq_false_iff_not, Bool.not_true, Bool.not_false, gval, Bool.not_eq_eq_eq_not] at hc11
                refine tc_skip (tq_next ?_)
                refine tc_if_true rfl hd11 ?_
                refine tc_seq ?_
                refine tc_region ?_
                refine tl_p (pr_assign rfl) rfl ?_
                refine tl_next ?_
                refine tc_ret (tq_blk_ret (tq_then_ret ?_))
                first | exact tq_retE1 .ret (.inl rfl) () rfl rfl (by rw [kinds_a (by omega)]) | exact tq_retE1 .ret (.inl rfl) () rfl rfl (by rw [kinds_b (by omega)]) | exact tq_retE1 .ret (.inl rfl) () rfl rfl (by rw [kinds_c (by omega)]) | exact tq_retE1 .ret (.inl rfl) () rfl rfl (by rw [kinds_d (by omega)]) | exact tq_retE1 .ret (.inl rfl) () rfl rfl (by rw [kinds_e (by omega)]) | exact tq_retE1 .ret (.inl rfl) () rfl rfl (by rw [kinds_f (by omega)]) | exact tq_retE1 .ret (.inl rfl) () rfl rfl (by rw [kinds_g (by omega)]) | exact tq_retE1 .ret (.inl rfl) () rfl rfl (by rw [kinds_h (by omega)])
              · have hd11 := hc11
                try simp only [Bool.not_eq_true', Bool.not_eq_false', Bool.or_eq_true, Bool.and_eq_true, Bool.or_eq_false_iff, Bool.and_eq_false_iff, decide_eq_true_eq, decide_eq_false_iff_not, Bool.not_true, Bool.not_false, gval, Bool.not_eq_eq_eq_not] at hc11
                refine tc_seq ?_
                refine tc_region ?_
                refine tl_p (pr_eql rfl rfl) rfl ?_
                refine tl_p (pr_assign rfl) rfl ?_
                refine tl_next ?_
                refine tc_if rfl (fun hc13 => ?_) (fun hc13 => ?_)
                · have hd13 := hc13
                  try simp only [Bool.not_eq_true', Bool.not_eq_false', Bool.or_eq_true, Bool.and_eq_true, Bool.or_eq_false_iff, Bool.and_eq_false_iff, decide_eq_true_eq, decide_eq_false_iff_not, Bool.not_true, Bool.not_false, gval, Bool.not_eq_eq_eq_not] at hc13
                  refine tc_skip (tq_next ?_)
                  refine tc_if_true rfl hd13 ?_
                  refine tc_seq ?_
                  refine tc_region ?_
                  refine tl_p (pr_assign rfl) rfl ?_
                  refine tl_next ?_
                  refine tc_ret (tq_blk_ret (tq_then_ret ?_))
                  first | exact tq_retE1 .ret (.inl rfl) () rfl rfl (by rw [kinds_a (by omega)]) | exact tq_retE1 .ret (.inl rfl) () rfl rfl (by rw [kinds_b (by omega)]) | exact tq_retE1 .ret (.inl rfl) () rfl rfl (by rw [kinds_c (by omega)]) | exact tq_retE1 .ret (.inl rfl) () rfl rfl (by rw [kinds_d (by omega)]) | exact tq_retE1 .ret (.inl rfl) () rfl rfl (by rw [kinds_e (by omega)]) | exact tq_retE1 .ret (.inl rfl) () rfl rfl (by rw [kinds_f (by omega)]) | exact tq_retE1 .ret (.inl rfl) () rfl rfl (by rw [kinds_g (by omega)]) | exact tq_retE1 .ret (.inl rfl) () rfl rfl (by rw [kinds_h (by omega)])
                · have hd13 := hc13
                  try simp only [Bool.not_eq_true', Bool.not_eq_false', Bool.or_eq_true, Bool.and_eq_true, Bool.or_eq_false_iff, Bool.and_eq_false_iff, decide_eq_true_eq, decide_eq_false_iff_not, Bool.not_true, Bool.not_false, gval, Bool.not_eq_eq_eq_not] at hc13
                  refine tc_seq ?_
                  refine tc_region ?_
                  refine tl_p (pr_eql rfl rfl) rfl ?_
                  refine tl_p (pr_assign rfl) rfl ?_
                  refine tl_next ?_
                  refine tc_if rfl (fun hc15 => ?_) (fun hc15 => ?_)
                  · have hd15 := hc15
                    try simp only [Bool.not_eq_true', Bool.not_eq_false', Bool.or_eq_true, Bool.and_eq_true, Bool.or_eq_false_iff, Bool.and_eq_false_iff, decide_eq_true_eq, decide_eq_false_iff_not, Bool.not_true, Bool.not_false, gval, Bool.not_eq_eq_eq_not] at hc15
                    refine tc_skip (tq_next ?_)
                    refine tc_if_true rfl hd15 ?_
                    refine tc_seq ?_
                    refine tc_region ?_
                    refine tl_p (pr_assign rfl) rfl ?_
                    refine tl_next ?_
                    refine tc_ret (tq_blk_ret (tq_then_ret ?_))
                    first | exact tq_retE1 .ret (.inl rfl) () rfl rfl (by rw [kinds_a (by omega)]) | exact tq_retE1 .ret (.inl rfl) () rfl rfl (by rw [kinds_b (by omega)]) | exact tq_retE1 .ret (.inl rfl) () rfl rfl (by rw [kinds_c (by omega)]) | exact tq_retE1 .ret (.inl rfl) () rfl rfl (by rw [kinds_d (by omega)]) | exact tq_retE1 .ret (.inl rfl) () rfl rfl (by rw [kinds_e (by omega)]) | exact tq_retE1 .ret (.inl rfl) () rfl rfl (by rw [kinds_f (by omega)]) | exact tq_retE1 .ret (.inl rfl) () rfl rfl (by rw [kinds_g (by omega)]) | exact tq_retE1 .ret (.inl rfl) () rfl rfl (by rw [kinds_h (by omega)])
                  · have hd15 := hc15
                    try simp only [Bool.not_eq_true', Bool.not_eq_false', Bool.or_eq_true, Bool.and_eq_true, Bool.or_eq_false_iff, Bool.and_eq_false_iff, decide_eq_true_eq, decide_eq_false_iff_not, Bool.not_true, Bool.not_false, gval, Bool.not_eq_eq_eq_not] at hc15
                    refine tc_seq ?_
                    refine tc_region ?_
                    refine tl_p (pr_eql rfl rfl) rfl ?_
                    refine tl_p (pr_assign rfl) rfl ?_
                    refine tl_next ?_
                    refine tc_if rfl (fun hc17 => ?_) (fun hc17 => ?_)
                    · have hd17 := hc17
                      try simp only [Bool.not_eq_true', Bool.not_eq_false', Bool.or_eq_true, Bool.and_eq_true, Bool.or_eq_false_iff, Bool.and_eq_false_iff, decide_eq_true_eq, decide_eq_false_iff_not, Bool.not_true, Bool.not_false, gval, Bool.not_eq_eq_eq_not] at hc17
                      refine tc_skip (tq_next ?_)
                      refine tc_if_true rfl hd17 ?_
                      refine tc_seq ?_
                      refine tc_region ?_
                      refine tl_p (pr_assign rfl) rfl ?_
                      refine tl_next ?_
                      refine tc_ret (tq_blk_ret (tq_then_ret ?_))
                      first | exact tq_retE1 .ret (.inl rfl) () rfl rfl (by rw [kinds_a (by omega)]) | exact tq_retE1 .ret (.inl rfl) () rfl rfl (by rw [kinds_b (by omega)]) | exact tq_retE1 .ret (.inl rfl) () rfl rfl (by rw [kinds_c (by omega)]) | exact tq_retE1 .ret (.inl rfl) () rfl rfl (by rw [kinds_d (by omega)]) | exact tq_retE1 .ret (.inl rfl) () rfl rfl (by rw [kinds_e (by omega)]) | exact tq_retE1 .ret (.inl rfl) () rfl rfl (by rw [kinds_f (by omega)]) | exact tq_retE1 .ret (.inl rfl) () rfl rfl (by rw [kinds_g (by omega)]) | exact tq_retE1 .ret (.inl rfl) () rfl rfl (by rw [kinds_h (by omega)])
                    · have hd17 := hc17
                      try simp only [Bool.not_eq_true', Bool.not_eq_false', Bool.or_eq_true, Bool.and_eq_true, Bool.or_eq_false_iff, Bool.and_eq_false_iff, decide_eq_true_eq, decide_eq_false_iff_not, Bool.not_true, Bool.not_false, gval, Bool.not_eq_eq_eq_not] at hc17
                      refine tc_region ?_
                      refine tl_p (pr_eql rfl rfl) rfl ?_
                      refine tl_p (pr_assign rfl) rfl ?_
                      refine tl_next ?_
                      refine tc_if rfl (fun hc19 => ?_) (fun hc19 => ?_)
                      · have hd19 := hc19
                        try simp only [Bool.not_eq_true', Bool.not_eq_false', Bool.or_eq_true, Bool.and_eq_true, Bool.or_eq_false_iff, Bool.and_eq_false_iff, decide_eq_true_eq, decide_eq_false_iff_not, Bool.not_true, Bool.not_false, gval, Bool.not_eq_eq_eq_not] at hc19
                        refine tc_seq ?_
                        refine tc_region ?_
                        refine tl_p (pr_assign rfl) rfl ?_
                        refine tl_next ?_
                        refine tc_ret (tq_blk_ret (tq_then_ret ?_))
                        first | exact tq_retE1 .ret (.inl rfl) () rfl rfl (by rw [kinds_a (by omega)]) | exact tq_retE1 .ret (.inl rfl) () rfl rfl (by rw [kinds_b (by omega)]) | exact tq_retE1 .ret (.inl rfl) () rfl rfl (by rw [kinds_c (by omega)]) | exact tq_retE1 .ret (.inl rfl) () rfl rfl (by rw [kinds_d (by omega)]) | exact tq_retE1 .ret (.inl rfl) () rfl rfl (by rw [kinds_e (by omega)]) | exact tq_retE1 .ret (.inl rfl) () rfl rfl (by rw [kinds_f (by omega)]) | exact tq_retE1 .ret (.inl rfl) () rfl rfl (by rw [kinds_g (by omega)]) | exact tq_retE1 .ret (.inl rfl) () rfl rfl (by rw [kinds_h (by omega)])
                      · have hd19 := hc19
                        try simp only [Bool.not_eq_true', Bool.not_eq_false', Bool.or_eq_true, Bool.and_eq_true, Bool.or_eq_false_iff, Bool.and_eq_false_iff, decide_eq_true_eq, decide_eq_false_iff_not, Bool.not_true, Bool.not_false, gval, Bool.not_eq_eq_eq_not] at hc19
                        refine tc_seq ?_
                        refine tc_seq ?_
                        refine tc_region ?_
                        refine tl_p (pr_eql rfl rfl) rfl ?_
                        refine tl_p (pr_assign rfl) rfl ?_
                        refine tl_next ?_
                        refine tc_if rfl (fun hc20 => ?_) (fun hc20 => ?_)
                        · have hd20 := hc20
                          try simp only [Bool.not_eq_true', Bool.not_eq_false', Bool.or_eq_true, Bool.and_eq_true, Bool.or_eq_false_iff, Bool.and_eq_false_iff, decide_eq_true_eq, decide_eq_false_iff_not, Bool.not_true, Bool.not_false, gval, Bool.not_eq_eq_eq_not] at hc20
                          refine tc_skip (tq_next ?_)
                          refine tc_if_true rfl hd20 ?_
                          refine tc_seq ?_
                          refine tc_region ?_
                          refine tl_p (pr_assign rfl) rfl ?_
                          refine tl_next ?_
                          refine tc_ret (tq_blk_ret (tq_then_ret ?_))
                          first | exact tq_retE1 .ret (.inl rfl) () rfl rfl (by rw [kinds_a (by omega)]) | exact tq_retE1 .ret (.inl rfl) () rfl rfl (by rw [kinds_b (by omega)]) | exact tq_retE1 .ret (.inl rfl) () rfl rfl (by rw [kinds_c (by omega)]) | exact tq_retE1 .ret (.inl rfl) () rfl rfl (by rw [kinds_d (by omega)]) | exact tq_retE1 .ret (.inl rfl) () rfl rfl (by rw [kinds_e (by omega)]) | exact tq_retE1 .ret (.inl rfl) () rfl rfl (by rw [kinds_f (by omega)]) | exact tq_retE1 .ret (.inl rfl) () rfl rfl (by rw [kinds_g (by omega)]) | exact tq_retE1 .ret (.inl rfl) () rfl rfl (by rw [kinds_h (by omega)])
                        · have hd20 := hc20
                          try simp only [Bool.not_eq_true', Bool.not_eq_false', Bool.or_eq_true, Bool.and_eq_true, Bool.or_eq_false_iff, Bool.and_eq_false_iff, decide_eq_true_eq, decide_eq_false_iff_not, Bool.not_true, Bool.not_false, gval, Bool.not_eq_eq_eq_not] at hc20
                          refine tc_seq ?_
                          refine tc_region ?_
                          refine tl_p (pr_eql rfl rfl) rfl ?_
                          refine tl_p (pr_assign rfl) rfl ?_
                          refine tl_next ?_
                          refine tc_if rfl (fun hc22 => ?_) (fun hc22 => ?_)
                          · have hd22 := hc22
                            try simp only [Bool.not_eq_true', Bool.not_eq_false', Bool.or_eq_true, Bool.and_eq_true, Bool.or_eq_false_iff, Bool.and_eq_false_iff, decide_eq_true_eq, decide_eq_false_iff_not, Bool.not_true, Bool.not_false, gval, Bool.not_eq_eq_eq_not] at hc22
                            refine tc_skip (tq_next ?_)
                            refine tc_if_true rfl hd22 ?_
                            refine tc_seq ?_
                            refine tc_region ?_
                            refine tl_p (pr_assign rfl) rfl ?_
                            refine tl_next ?_
                            refine tc_ret (tq_blk_ret (tq_then_ret ?_))
                            first | exact tq_retE1 .ret (.inl rfl) () rfl rfl (by rw [kinds_a (by omega)]) | exact tq_retE1 .ret (.inl rfl) () rfl rfl (by rw [kinds_b (by omega)]) | exact tq_retE1 .ret (.inl rfl) () rfl rfl (by rw [kinds_c (by omega)]) | exact tq_retE1 .ret (.inl rfl) () rfl rfl (by rw [kinds_d (by omega)]) | exact tq_retE1 .ret (.inl rfl) () rfl rfl (by rw [kinds_e (by omega)]) | exact tq_retE1 .ret (.inl rfl) () rfl rfl (by rw [kinds_f (by omega)]) | exact tq_retE1 .ret (.inl rfl) () rfl rfl (by rw [kinds_g (by omega)]) | exact tq_retE1 .ret (.inl rfl) () rfl rfl (by rw [kinds_h (by omega)])
                          · have hd22 := hc22
                            try simp only [Bool.not_eq_true', Bool.not_eq_false', Bool.or_eq_true, Bool.and_eq_true, Bool.or_eq_false_iff, Bool.and_eq_false_iff, decide_eq_true_eq, decide_eq_false_iff_not, Bool.not_true, Bool.not_false, gval, Bool.not_eq_eq_eq_not] at hc22
                            refine tc_seq ?_
                            refine tc_region ?_
                            refine tl_p (pr_eql rfl rfl) rfl ?_
                            refine tl_p (pr_assign rfl) rfl ?_
                            refine tl_next ?_
                            refine tc_if rfl (fun hc24 => ?_) (fun hc24 => ?_)
                            · have hd24 := hc24
                              try simp only [Bool.not_eq_true', Bool.not_eq_false', Bool.or_eq_true, Bool.and_eq_true, Bool.or_eq_false_iff, Bool.and_eq_false_iff, decide_eq_true_eq, decide_eq_false_iff_not, Bool.not_true, Bool.not_false, gval, Bool.not_eq_eq_eq_not] at hc24
                              refine tc_skip (tq_next ?_)
                              refine tc_if_true rfl hd24 ?_
                              refine tc_seq ?_
                              refine tc_region ?_
                              refine tl_p (pr_assign rfl) rfl ?_
                              refine tl_next ?_
                              refine tc_ret (tq_blk_ret (tq_then_ret ?_))
                              first | exact tq_retE1 .ret (.inl rfl) () rfl rfl (by rw [kinds_a (by omega)]) | exact tq_retE1 .ret (.inl rfl) () rfl rfl (by rw [kinds_b (by omega)]) | exact tq_retE1 .ret (.inl rfl) () rfl rfl (by rw [kinds_c (by omega)]) | exact tq_retE1 .ret (.inl rfl) () rfl rfl (by rw [kinds_d (by omega)]) | exact tq_retE1 .ret (.inl rfl) () rfl rfl (by rw [kinds_e (by omega)]) | exact tq_retE1 .ret (.inl rfl) () rfl rfl (by rw [kinds_f (by omega)]) | exact tq_retE1 .ret (.inl rfl) () rfl rfl (by rw [kinds_g (by omega)]) | exact tq_retE1 .ret (.inl rfl) () rfl rfl (by rw [kinds_h (by omega)])
                            · have hd24 := hc24
                              try simp only [Bool.not_eq_true', Bool.not_eq_false', Bool.or_eq_true, Bool.and_eq_true, Bool.or_eq_false_iff, Bool.and_eq_false_iff, decide_eq_true_eq, decide_eq_false_iff_not, Bool.not_true, Bool.not_false, gval, Bool.not_eq_eq_eq_not] at hc24
                              refine tc_seq ?_
                              refine tc_region ?_
                              refine tl_p (pr_eql rfl rfl) rfl ?_
                              refine tl_p (pr_assign rfl) rfl ?_
                              refine tl_next ?_
                              refine tc_if rfl (fun hc26 => ?_) (fun hc26 => ?_)
                              · have hd26 := hc26
                                try simp only [Bool.not_eq_true', Bool.not_eq_false', Bool.or_eq_true, Bool.and_eq_true, Bool.or_eq_false_iff, Bool.and_eq_false_iff, decide_eq_true_eq, decide_eq_false_iff_not, Bool.not_true, Bool.not_false, gval, Bool.not_eq_eq_eq_not] at hc26
                                refine tc_skip (tq_next ?_)
                                refine tc_if_true rfl hd26 ?_
                                refine tc_seq ?_
                                refine tc_region ?_
                                refine tl_p (pr_assign rfl) rfl ?_
                                refine tl_next ?_
                                refine tc_ret (tq_blk_ret (tq_then_ret ?_))
                                first | exact tq_retE1 .ret (.inl rfl) () rfl rfl (by rw [kinds_a (by omega)]) | exact tq_retE1 .ret (.inl rfl) () rfl rfl (by rw [kinds_b (by omega)]) | exact tq_retE1 .ret (.inl rfl) () rfl rfl (by rw [kinds_c (by omega)]) | exact tq_retE1 .ret (.inl rfl) () rfl rfl (by rw [kinds_d (by omega)]) | exact tq_retE1 .ret (.inl rfl) () rfl rfl (by rw [kinds_e (by omega)]) | exact tq_retE1 .ret (.inl rfl) () rfl rfl (by rw [kinds_f (by omega)]) | exact tq_retE1 .ret (.inl rfl) () rfl rfl (by rw [kinds_g (by omega)]) | exact tq_retE1 .ret (.inl rfl) () rfl rfl (by rw [kinds_h (by omega)])
                              · have hd26 := hc26
                                try simp only [Bool.not_eq_true', Bool.not_eq_false', Bool.or_eq_true, Bool.and_eq_true, Bool.or_eq_false_iff, Bool.and_eq_false_iff, decide_eq_true_eq, decide_eq_false_iff_not, Bool.not_true, Bool.not_false, gval, Bool.not_eq_eq_eq_not] at hc26
                                refine tc_seq ?_
                                refine tc_region ?_
                                refine tl_p (pr_eql rfl rfl) rfl ?_
                                refine tl_p (pr_assign rfl) rfl ?_
                                refine tl_next ?_
                                refine tc_if rfl (fun hc28 => ?_) (fun hc28 => ?_)
                                · have hd28 := hc28
                                  try simp only [Bool.not_eq_true', Bool.not_eq_false', Bool.or_eq_true, Bool.and_eq_true, Bool.or_eq_false_iff, Bool.and_eq_false_iff, decide_eq_true_eq, decide_eq_false_iff_not, Bool.not_true, Bool.not_false, gval, Bool.not_eq_eq_eq_not] at hc28
                                  refine tc_skip (tq_next ?_)
                                  refine tc_if_true rfl hd28 ?_
                                  refine tc_seq ?_
                                  refine tc_region ?_
                                  refine tl_p (pr_assign rfl) rfl ?_
                                  refine tl_next ?_
                                  refine tc_ret (tq_blk_ret (tq_then_ret ?_))
                                  first | exact tq_retE1 .ret (.inl rfl) () rfl rfl (by rw [kinds_a (by omega)]) | exact tq_retE1 .ret (.inl rfl) () rfl rfl (by rw [kinds_b (by omega)]) | exact tq_retE1 .ret (.inl rfl) () rfl rfl (by rw [kinds_c (by omega)]) | exact tq_retE1 .ret (.inl rfl) () rfl rfl (by rw [kinds_d (by omega)]) | exact tq_retE1 .ret (.inl rfl) () rfl rfl (by rw [kinds_e (by omega)]) | exact tq_retE1 .ret (.inl rfl) () rfl rfl (by rw [kinds_f (by omega)]) | exact tq_retE1 .ret (.inl rfl) () rfl rfl (by rw [kinds_g (by omega)]) | exact tq_retE1 .ret (.inl rfl) () rfl rfl (by rw [kinds_h (by omega)])
                                · have hd28 := hc28
                                  try simp only [Bool.not_eq_true', Bool.not_eq_false', Bool.or_eq_true, Bool.and_eq_true, Bool.or_eq_false_iff, Bool.and_eq_false_iff, decide_eq_true_eq, decide_eq_false_iff_not, Bool.not_true, Bool.not_false, gval, Bool.not_eq_eq_eq_not] at hc28
                                  refine tc_seq ?_
                                  refine tc_region ?_
                                  refine tl_p (pr_eql rfl rfl) rfl ?_
                                  refine tl_p (pr_assign rfl) rfl ?_
                                  refine tl_next ?_
                                  refine tc_if rfl (fun hc30 => ?_) (fun hc30 => ?_)
                                  · have hd30 := hc30
                                    try simp only [Bool.not_eq_true', Bool.not_eq_false', Bool.or_eq_true, Bool.and_eq_true, Bool.or_eq_false_iff, Bool.and_eq_false_iff, decide_eq_true_eq, decide_eq_false_iff_not, Bool.not_true, Bool.not_false, gval, Bool.not_eq_eq_eq_not] at hc30
                                    refine tc_skip (tq_next ?_)
                                    refine tc_if_true rfl hd30 ?_
                                    refine tc_seq ?_
                                    refine tc_region ?_
                                    refine tl_p (pr_assign rfl) rfl ?_
                                    refine tl_next ?_
                                    refine tc_ret (tq_blk_ret (tq_then_ret ?_))
                                    first | exact tq_retE1 .ret (.inl rfl) () rfl rfl (by rw [kinds_a (by omega)]) | exact tq_retE1 .ret (.inl rfl) () rfl rfl (by rw [kinds_b (by omega)]) | exact tq_retE1 .ret (.inl rfl) () rfl rfl (by rw [kinds_c (by omega)]) | exact tq_retE1 .ret (.inl rfl) () rfl rfl (by rw [kinds_d (by omega)]) | exact tq_retE1 .ret (.inl rfl) () rfl rfl (by rw [kinds_e (by omega)]) | exact tq_retE1 .ret (.inl rfl) () rfl rfl (by rw [kinds_f (by omega)]) | exact tq_retE1 .ret (.inl rfl) () rfl rfl (by rw [kinds_g (by omega)]) | exact tq_retE1 .ret (.inl rfl) () rfl rfl (by rw [kinds_h (by omega)])
                                  · have hd30 := hc30
                                    try simp only [Bool.not_eq_true', Bool.not_eq_false', Bool.or_eq_true, Bool.and_eq_true, Bool.or_eq_false_iff, Bool.and_eq_false_iff, decide_eq_true_eq, decide_eq_false_iff_not, Bool.not_true, Bool.not_false, gval, Bool.not_eq_eq_eq_not] at hc30
                                    refine tc_seq ?_
                                    refine tc_region ?_
                                    refine tl_p (pr_eql rfl rfl) rfl ?_
                                    refine tl_p (pr_assign rfl) rfl ?_
                                    refine tl_next ?_
                                    refine tc_if rfl (fun hc32 => ?_) (fun hc32 => ?_)
                                    · have hd32 := hc32
                                      try simp only [Bool.not_eq_true', Bool.not_eq_false', Bool.or_eq_true, Bool.and_eq_true, Bool.or_eq_false_iff, Bool.and_eq_false_iff, decide_eq_true_eq, decide_eq_false_iff_not, Bool.not_true, Bool.not_false, gval, Bool.not_eq_eq_eq_not] at hc32
                                      refine tc_skip (tq_next ?_)
                                      refine tc_if_true rfl hd32 ?_
                                      refine tc_seq ?_
                                      refine tc_region ?_
                                      refine tl_p (pr_assign rfl) rfl ?_
                                      refine tl_next ?_
                                      refine tc_ret (tq_blk_ret (tq_then_ret ?_))
                                      first | exact tq_retE1 .ret (.inl rfl) () rfl rfl (by rw [kinds_a (by omega)]) | exact tq_retE1 .ret (.inl rfl) () rfl rfl (by rw [kinds_b (by omega)]) | exact tq_retE1 .ret (.inl rfl) () rfl rfl (by rw [kinds_c (by omega)]) | exact tq_retE1 .ret (.inl rfl) () rfl rfl (by rw [kinds_d (by omega)]) | exact tq_retE1 .ret (.inl rfl) () rfl rfl (by rw [kinds_e (by omega)]) | exact tq_retE1 .ret (.inl rfl) () rfl rfl (by rw [kinds_f (by omega)]) | exact tq_retE1 .ret (.inl rfl) () rfl rfl (by rw [kinds_g (by omega)]) | exact tq_retE1 .ret (.inl rfl) () rfl rfl (by rw [kinds_h (by omega)])
                                    · have hd32 := hc32
                                      try simp only [Bool.not_eq_true', Bool.not_eq_false', Bool.or_eq_true, Bool.and_eq_true, Bool.or_eq_false_iff, Bool.and_eq_false_iff, decide_eq_true_eq, decide_eq_false_iff_not, Bool.not_true, Bool.not_false, gval, Bool.not_eq_eq_eq_not] at hc32
                                      refine tc_seq ?_
                                      refine tc_region ?_
                                      refine tl_p (pr_eql rfl rfl) rfl ?_
                                      refine tl_p (pr_assign rfl) rfl ?_
                                      refine tl_next ?_
                                      refine tc_if rfl (fun hc34 => ?_) (fun hc34 => ?_)
                                      · have hd34 := hc34
                                        try simp only [Bool.not_eq_true', Bool.not_eq_false', Bool.or_eq_true, Bool.and_eq_true, Bool.or_eq_false_iff, Bool.and_eq_false_iff, decide_eq_true_eq, decide_eq_false_iff_not, Bool.not_true, Bool.not_false, gval, Bool.not_eq_eq_eq_not] at hc34
                                        refine tc_skip (tq_next ?_)
                                        refine tc_if_true rfl hd34 ?_
                                        refine tc_seq ?_
                                        refine tc_region ?_
                                        refine tl_p (pr_assign rfl) rfl ?_
                                        refine tl_next ?_
                                        refine tc_ret (tq_blk_ret (tq_then_ret ?_))
                                        first | exact tq_retE1 .ret (.inl rfl) () rfl rfl (by rw [kinds_a (by omega)]) | exact tq_retE1 .ret (.inl rfl) () rfl rfl (by rw [kinds_b (by omega)]) | exact tq_retE1 .ret (.inl rfl) () rfl rfl (by rw [kinds_c (by omega)]) | exact tq_retE1 .ret (.inl rfl) () rfl rfl (by rw [kinds_d (by omega)]) | exact tq_retE1 .ret (.inl rfl) () rfl rfl (by rw [kinds_e (by omega)]) | exact tq_retE1 .ret (.inl rfl) () rfl rfl (by rw [kinds_f (by omega)]) | exact tq_retE1 .ret (.inl rfl) () rfl rfl (by rw [kinds_g (by omega)]) | exact tq_retE1 .ret (.inl rfl) () rfl rfl (by rw [kinds_h (by omega)])
                                      · have hd34 := hc34
                                        try simp only [Bool.not_eq_true', Bool.not_eq_false', Bool.or_eq_true, Bool.and_eq_true, Bool.or_eq_false_iff, Bool.and_eq_false_iff, decide_eq_true_eq, decide_eq_false_iff_not, Bool.not_true, Bool.not_false, gval, Bool.not_eq_eq_eq_not] at hc34
                                        refine tc_seq ?_
                                        refine tc_region ?_
                                        refine tl_p (pr_eql rfl rfl) rfl ?_
                                        refine tl_p (pr_assign rfl) rfl ?_
                                        refine tl_next ?_
                                        refine tc_if rfl (fun hc36 => ?_) (fun hc36 => ?_)
                                        · have hd36 := hc36
                                          try simp only [Bool.not_eq_true', Bool.not_eq_false', Bool.or_eq_true, Bool.and_eq_true, Bool.or_eq_false_iff, Bool.and_eq_false_iff, decide_eq_true_eq, decide_eq_false_iff_not, Bool.not_true, Bool.not_false, gval, Bool.not_eq_eq_eq_not] at hc36
                                          refine tc_skip (tq_next ?_)
                                          refine tc_if_true rfl hd36 ?_
                                          refine tc_seq ?_
                                          refine tc_region ?_
                                          refine tl_p (pr_assign rfl) rfl ?_
                                          refine tl_next ?_
                                          refine tc_ret (tq_blk_ret (tq_then_ret ?_))
                                          first | exact tq_retE1 .ret (.inl rfl) () rfl rfl (by rw [kinds_a (by omega)]) | exact tq_retE1 .ret (.inl rfl) () rfl rfl (by rw [kinds_b (by omega)]) | exact tq_retE1 .ret (.inl rfl) () rfl rfl (by rw [kinds_c (by omega)]) | exact tq_retE1 .ret (.inl rfl) () rfl rfl (by rw [kinds_d (by omega)]) | exact tq_retE1 .ret (.inl rfl) () rfl rfl (by rw [kinds_e (by omega)]) | exact tq_retE1 .ret (.inl rfl) () rfl rfl (by rw [kinds_f (by omega)]) | exact tq_retE1 .ret (.inl rfl) () rfl rfl (by rw [kinds_g (by omega)]) | exact tq_retE1 .ret (.inl rfl) () rfl rfl (by rw [kinds_h (by omega)])
                                        · have hd36 := hc36
                                          try simp only [Bool.not_eq_true', Bool.not_eq_false', Bool.or_eq_true, Bool.and_eq_true, Bool.or_eq_false_iff, Bool.and_eq_false_iff, decide_eq_true_eq, decide_eq_false_iff_not, Bool.not_true, Bool.not_false, gval, Bool.not_eq_eq_eq_not] at hc36
                                          refine tc_region ?_
                                          refine tl_p (pr_eql rfl rfl) rfl ?_
                                          refine tl_p (pr_assign rfl) rfl ?_
                                          refine tl_next ?_
                                          refine tc_if rfl (fun hc38 => ?_) (fun hc38 => ?_)
                                          · have hd38 := hc38
                                            try simp only [Bool.not_eq_true', Bool.not_eq_false', Bool.or_eq_true, Bool.and_eq_true, Bool.or_eq_false_iff, Bool.and_eq_false_iff, decide_eq_true_eq, decide_eq_false_iff_not, Bool.not_true, Bool.not_false, gval, Bool.not_eq_eq_eq_not] at hc38
                                            refine tc_seq ?_
                                            refine tc_region ?_
                                            refine tl_p (pr_assign rfl) rfl ?_
                                            refine tl_next ?_
                                            refine tc_ret (tq_blk_ret (tq_then_ret ?_))
                                            first | exact tq_retE1 .ret (.inl rfl) () rfl rfl (by rw [kinds_a (by omega)]) | exact tq_retE1 .ret (.inl rfl) () rfl rfl (by rw [kinds_b (by omega)]) | exact tq_retE1 .ret (.inl rfl) () rfl rfl (by rw [kinds_c (by omega)]) | exact tq_retE1 .ret (.inl rfl) () rfl rfl (by rw [kinds_d (by omega)]) | exact tq_retE1 .ret (.inl rfl) () rfl rfl (by rw [kinds_e (by omega)]) | exact tq_retE1 .ret (.inl rfl) () rfl rfl (by rw [kinds_f (by omega)]) | exact tq_retE1 .ret (.inl rfl) () rfl rfl (by rw [kinds_g (by omega)]) | exact tq_retE1 .ret (.inl rfl) () rfl rfl (by rw [kinds_h (by omega)])
                                          · have hd38 := hc38
                                            try simp only [Bool.not_eq_true', Bool.not_eq_false', Bool.or_eq_true, Bool.and_eq_true, Bool.or_eq_false_iff, Bool.and_eq_false_iff, decide_eq_true_eq, decide_eq_false_iff_not, Bool.not_true, Bool.not_false, gval, Bool.not_eq_eq_eq_not] at hc38
                                            refine tc_seq ?_
                                            refine tc_region ?_
                                            refine tl_p (pr_eql rfl rfl) rfl ?_
                                            refine tl_p (pr_assign rfl) rfl ?_
                                            refine tl_next ?_
                                            refine tc_if rfl (fun hc39 => ?_) (fun hc39 => ?_)
                                            · have hd39 := hc39
                                              try simp only [Bool.not_eq_true', Bool.not_eq_false', Bool.or_eq_true, Bool.and_eq_true, Bool.or_eq_false_iff, Bool.and_eq_false_iff, decide_eq_true_eq, decide_eq_false_iff_not, Bool.not_true, Bool.not_false, gval, Bool.not_eq_eq_eq_not] at hc39
                                              refine tc_seq ?_
                                              refine tc_region ?_
                                              refine tl_p (pr_assign rfl) rfl ?_
                                              refine tl_next ?_
                                              refine tc_ret (tq_blk_ret (tq_then_ret ?_))
                                              first | exact tq_retE1 .ret (.inl rfl) () rfl rfl (by rw [kinds_a (by omega)]) | exact tq_retE1 .ret (.inl rfl) () rfl rfl (by rw [kinds_b (by omega)]) | exact tq_retE1 .ret (.inl rfl) () rfl rfl (by rw [kinds_c (by omega)]) | exact tq_retE1 .ret (.inl rfl) () rfl rfl (by rw [kinds_d (by omega)]) | exact tq_retE1 .ret (.inl rfl) () rfl rfl (by rw [kinds_e (by omega)]) | exact tq_retE1 .ret (.inl rfl) () rfl rfl (by rw [kinds_f (by omega)]) | exact tq_retE1 .ret (.inl rfl) () rfl rfl (by rw [kinds_g (by omega)]) | exact tq_retE1 .ret (.inl rfl) () rfl rfl (by rw [kinds_h (by omega)])
                                            · have hd39 := hc39
                                              try simp only [Bool.not_eq_true', Bool.not_eq_false', Bool.or_eq_true, Bool.and_eq_true, Bool.or_eq_false_iff, Bool.and_eq_false_iff, decide_eq_true_eq, decide_eq_false_iff_not, Bool.not_true, Bool.not_false, gval, Bool.not_eq_eq_eq_not] at hc39
                                              refine tc_seq ?_
                                              refine tc_seq ?_
                                              refine tc_region ?_
                                              refine tl_p (pr_eql rfl rfl) rfl ?_
                                              refine tl_p (pr_assign rfl) rfl ?_
                                              refine tl_next ?_
                                              refine tc_if rfl (fun hc40 => ?_) (fun hc40 => ?_)
                                              · have hd40 := hc40
                                                try simp only [Bool.not_eq_true', Bool.not_eq_false', Bool.or_eq_true, Bool.and_eq_true, Bool.or_eq_false_iff, Bool.and_eq_false_iff, decide_eq_true_eq, decide_eq_false_iff_not, Bool.not_true, Bool.not_false, gval, Bool.not_eq_eq_eq_not] at hc40
                                                refine tc_skip (tq_next ?_)
                                                refine tc_if_true rfl hd40 ?_
                                                refine tc_seq ?_
                                                refine tc_region ?_
                                                refine tl_p (pr_assign rfl) rfl ?_
                                                refine tl_next ?_
                                                refine tc_ret (tq_blk_ret (tq_then_ret ?_))
                                                first | exact tq_retE1 .ret (.inl rfl) () rfl rfl (by rw [kinds_a (by omega)]) | exact tq_retE1 .ret (.inl rfl) () rfl rfl (by rw [kinds_b (by omega)]) | exact tq_retE1 .ret (.inl rfl) () rfl rfl (by rw [kinds_c (by omega)]) | exact tq_retE1 .ret (.inl rfl) () rfl rfl (by rw [kinds_d (by omega)]) | exact tq_retE1 .ret (.inl rfl) () rfl rfl (by rw [kinds_e (by omega)]) | exact tq_retE1 .ret (.inl rfl) () rfl rfl (by rw [kinds_f (by omega)]) | exact tq_retE1 .ret (.inl rfl) () rfl rfl (by rw [kinds_g (by omega)]) | exact tq_retE1 .ret (.inl rfl) () rfl rfl (by rw [kinds_h (by omega)])
                                              · have hd40 := hc40
                                                try simp only [Bool.not_eq_true', Bool.not_eq_false', Bool.or_eq_true, Bool.and_eq_true, Bool.or_eq_false_iff, Bool.and_eq_false_iff, decide_eq_true_eq, decide_eq_false_iff_not, Bool.not_true, Bool.not_false, gval, Bool.not_eq_eq_eq_not] at hc40
                                                refine tc_seq ?_
                                                refine tc_region ?_
                                                refine tl_p (pr_eql rfl rfl) rfl ?_
                                                refine tl_p (pr_assign rfl) rfl ?_
                                                refine tl_next ?_
                                                refine tc_if rfl (fun hc42 => ?_) (fun hc42 => ?_)
                                                · have hd42 := hc42
                                                  try simp only [Bool.not_eq_true', Bool.not_eq_false', Bool.or_eq_true, Bool.and_eq_true, Bool.or_eq_false_iff, Bool.and_eq_false_iff, decide_eq_true_eq, decide_eq_false_iff_not, Bool.not_true, Bool.not_false, gval, Bool.not_eq_eq_eq_not] at hc42
                                                  refine tc_skip (tq_next ?_)
                                                  refine tc_if_true rfl hd42 ?_
                                                  refine tc_seq ?_
                                                  refine tc_region ?_
                                                  refine tl_p (pr_assign rfl) rfl ?_
                                                  refine tl_next ?_
                                                  refine tc_ret (tq_blk_ret (tq_then_ret ?_))
                                                  first | exact tq_retE1 .ret (.inl rfl) () rfl rfl (by rw [kinds_a (by omega)]) | exact tq_retE1 .ret (.inl rfl) () rfl rfl (by rw [kinds_b (by omega)]) | exact tq_retE1 .ret (.inl rfl) () rfl rfl (by rw [kinds_c (by omega)]) | exact tq_retE1 .ret (.inl rfl) () rfl rfl (by rw [kinds_d (by omega)]) | exact tq_retE1 .ret (.inl rfl) () rfl rfl (by rw [kinds_e (by omega)]) | exact tq_retE1 .ret (.inl rfl) () rfl rfl (by rw [kinds_f (by omega)]) | exact tq_retE1 .ret (.inl rfl) () rfl rfl (by rw [kinds_g (by omega)]) | exact tq_retE1 .ret (.inl rfl) () rfl rfl (by rw [kinds_h (by omega)])
                                                · have hd42 := hc42
                                                  try simp only [Bool.not_eq_true', Bool.not_eq_false', Bool.or_eq_true, Bool.and_eq_true, Bool.or_eq_false_iff, Bool.and_eq_false_iff, decide_eq_true_eq, decide_eq_false_iff_not, Bool.not_true, Bool.not_false, gval, Bool.not_eq_eq_eq_not] at hc42
                                                  refine tc_seq ?_
                                                  refine tc_region ?_
                                                  refine tl_p (pr_eql rfl rfl) rfl ?_
                                                  refine tl_p (pr_assign rfl) rfl ?_
                                                  refine tl_next ?_
                                                  refine tc_if rfl (fun hc44 => ?_) (fun hc44 => ?_)
                                                  · have hd44 := hc44
                                                    try simp only [Bool.not_eq_true', Bool.not_eq_false', Bool.or_eq_true, Bool.and_eq_true, Bool.or_eq_false_iff, Bool.and_eq_false_iff, decide_eq_true_eq, decide_eq_false_iff_not, Bool.not_true, Bool.not_false, gval, Bool.not_eq_eq_eq_not] at hc44
                                                    refine tc_skip (tq_next ?_)
                                                    refine tc_if_true rfl hd44 ?_
                                                    refine tc_seq ?_
                                                    refine tc_region ?_
                                                    refine tl_p (pr_assign rfl) rfl ?_
                                                    refine tl_next ?_
                                                    refine tc_ret (tq_blk_ret (tq_then_ret ?_))
                                                    first | exact tq_retE1 .ret (.inl rfl) () rfl rfl (by rw [kinds_a (by omega)]) | exact tq_retE1 .ret (.inl rfl) () rfl rfl (by rw [kinds_b (by omega)]) | exact tq_retE1 .ret (.inl rfl) () rfl rfl (by rw [kinds_c (by omega)]) | exact tq_retE1 .ret (.inl rfl) () rfl rfl (by rw [kinds_d (by omega)]) | exact tq_retE1 .ret (.inl rfl) () rfl rfl (by rw [kinds_e (by omega)]) | exact tq_retE1 .ret (.inl rfl) () rfl rfl (by rw [kinds_f (by omega)]) | exact tq_retE1 .ret (.inl rfl) () rfl rfl (by rw [kinds_g (by omega)]) | exact tq_retE1 .ret (.inl rfl) () rfl rfl (by rw [kinds_h (by omega)])
                                                  · have hd44 := hc44
                                                    try simp only [Bool.not_eq_true', Bool.not_eq_false', Bool.or_eq_true, Bool.and_eq_true, Bool.or_eq_false_iff, Bool.and_eq_false_iff, decide_eq_true_eq, decide_eq_false_iff_not, Bool.not_true, Bool.not_false, gval, Bool.not_eq_eq_eq_not] at hc44
                                                    refine tc_seq ?_
                                                    refine tc_region ?_
                                                    refine tl_p (pr_eql rfl rfl) rfl ?_
                                                    refine tl_p (pr_assign rfl) rfl ?_
                                                    refine tl_next ?_
                                                    refine tc_if rfl (fun hc46 => ?_) (fun hc46 => ?_)
                                                    · have hd46 := hc46
                                                      try simp only [Bool.not_eq_true', Bool.not_eq_false', Bool.or_eq_true, Bool.and_eq_true, Bool.or_eq_false_iff, Bool.and_eq_false_iff, decide_eq_true_eq, decide_eq_false_iff_not, Bool.not_true, Bool.not_false, gval, Bool.not_eq_eq_eq_not] at hc46
                                                      refine tc_skip (tq_next ?_)
                                                      refine tc_if_true rfl hd46 ?_
                                                      refine tc_seq ?_
                                                      refine tc_region ?_
                                                      refine tl_p (pr_assign rfl) rfl ?_
                                                      refine tl_next ?_
                                                      refine tc_ret (tq_blk_ret (tq_then_ret ?_))
                                                      first | exact tq_retE1 .ret (.inl rfl) () rfl rfl (by rw [kinds_a (by omega)]) | exact tq_retE1 .ret (.inl rfl) () rfl rfl (by rw [kinds_b (by omega)]) | exact tq_retE1 .ret (.inl rfl) () rfl rfl (by rw [kinds_c (by omega)]) | exact tq_retE1 .ret (.inl rfl) () rfl rfl (by rw [kinds_d (by omega)]) | exact tq_retE1 .ret (.inl rfl) () rfl rfl (by rw [kinds_e (by omega)]) | exact tq_retE1 .ret (.inl rfl) () rfl rfl (by rw [kinds_f (by omega)]) | exact tq_retE1 .ret (.inl rfl) () rfl rfl (by rw [kinds_g (by omega)]) | exact tq_retE1 .ret (.inl rfl) () rfl rfl (by rw [kinds_h (by omega)])
                                                    · have hd46 := hc46
                                                      try simp only [Bool.not_eq_true', Bool.not_eq_false', Bool.or_eq_true, Bool.and_eq_true, Bool.or_eq_false_iff, Bool.and_eq_false_iff, decide_eq_true_eq, decide_eq_false_iff_not, Bool.not_true, Bool.not_false, gval, Bool.not_eq_eq_eq_not] at hc46
                                                      refine tc_seq ?_
                                                      refine tc_region ?_
                                                      refine tl_p (pr_eql rfl rfl) rfl ?_
                                                      refine tl_p (pr_assign rfl) rfl ?_
                                                      refine tl_next ?_
                                                      refine tc_if rfl (fun hc48 => ?_) (fun hc48 => ?_)
                                                      · have hd48 := hc48
                                                        try simp only [Bool.not_eq_true', Bool.not_eq_false', Bool.or_eq_true, Bool.and_eq_true, Bool.or_eq_false_iff, Bool.and_eq_false_iff, decide_eq_true_eq, decide_eq_false_iff_not, Bool.not_true, Bool.not_false, gval, Bool.not_eq_eq_eq_not] at hc48
                                                        refine tc_skip (tq_next ?_)
                                                        refine tc_if_true rfl hd48 ?_
                                                        refine tc_seq ?_
                                                        refine tc_region ?_
                                                        refine tl_p (pr_assign rfl) rfl ?_
                                                        refine tl_next ?_
                                                        refine tc_ret (tq_blk_ret (tq_then_ret ?_))
                                                        first | exact tq_retE1 .ret (.inl rfl) () rfl rfl (by rw [kinds_a (by omega)]) | exact tq_retE1 .ret (.inl rfl) () rfl rfl (by rw [kinds_b (by omega)]) | exact tq_retE1 .ret (.inl rfl) () rfl rfl (by rw [kinds_c (by omega)]) | exact tq_retE1 .ret (.inl rfl) () rfl rfl (by rw [kinds_d (by omega)]) | exact tq_retE1 .ret (.inl rfl) () rfl rfl (by rw [kinds_e (by omega)]) | exact tq_retE1 .ret (.inl rfl) () rfl rfl (by rw [kinds_f (by omega)]) | exact tq_retE1 .ret (.inl rfl) () rfl rfl (by rw [kinds_g (by omega)]) | exact tq_retE1 .ret (.inl rfl) () rfl rfl (by rw [kinds_h (by omega)])
                                                      · have hd48 := hc48
                                                        try simp only [Bool.not_eq_true', Bool.not_eq_false', Bool.or_eq_true, Bool.and_eq_true, Bool.or_eq_false_iff, Bool.and_eq_false_iff, decide_eq_true_eq, decide_eq_false_iff_not, Bool.not_true, Bool.not_false, gval, Bool.not_eq_eq_eq_not] at hc48
                                                        refine tc_seq ?_
                                                        refine tc_region ?_
                                                        refine tl_p (pr_eql rfl rfl) rfl ?_
                                                        refine tl_p (pr_assign rfl) rfl ?_
                                                        refine tl_next ?_
                                                        refine tc_if rfl (fun hc50 => ?_) (fun hc50 => ?_)
                                                        · have hd50 := hc50
                                                          try simp only [Bool.not_eq_true', Bool.not_eq_false', Bool.or_eq_true, Bool.and_eq_true, Bool.or_eq_false_iff, Bool.and_eq_false_iff, decide_eq_true_eq, decide_eq_false_iff_not, Bool.not_true, Bool.not_false, gval, Bool.not_eq_eq_eq_not] at hc50
                                                          refine tc_skip (tq_next ?_)
                                                          refine tc_if_true rfl hd50 ?_
                                                          refine tc_seq ?_
                                                          refine tc_region ?_
                                                          refine tl_p (pr_assign rfl) rfl ?_
                                                          refine tl_next ?_
                                                          refine tc_ret (tq_blk_ret (tq_then_ret ?_))
                                                          first | exact tq_retE1 .ret (.inl rfl) () rfl rfl (by rw [kinds_a (by omega)]) | exact tq_retE1 .ret (.inl rfl) () rfl rfl (by rw [kinds_b (by omega)]) | exact tq_retE1 .ret (.inl rfl) () rfl rfl (by rw [kinds_c (by omega)]) | exact tq_retE1 .ret (.inl rfl) () rfl rfl (by rw [kinds_d (by omega)]) | exact tq_retE1 .ret (.inl rfl) () rfl rfl (by rw [kinds_e (by omega)]) | exact tq_retE1 .ret (.inl rfl) () rfl rfl (by rw [kinds_f (by omega)]) | exact tq_retE1 .ret (.inl rfl) () rfl rfl (by rw [kinds_g (by omega)]) | exact tq_retE1 .ret (.inl rfl) () rfl rfl (by rw [kinds_h (by omega)])
                                                        · have hd50 := hc50
                                                          try simp only [Bool.not_eq_true', Bool.not_eq_false', Bool.or_eq_true, Bool.and_eq_true, Bool.or_eq_false_iff, Bool.and_eq_false_iff, decide_eq_true_eq, decide_eq_false_iff_not, Bool.not_true, Bool.not_false, gval, Bool.not_eq_eq_eq_not] at hc50
                                                          refine tc_region ?_
                                                          refine tl_p (pr_eql rfl rfl) rfl ?_
                                                          refine tl_p (pr_assign rfl) rfl ?_
                                                          refine tl_next ?_
                                                          refine tc_if rfl (fun hc52 => ?_) (fun hc52 => ?_)
                                                          · have hd52 := hc52
                                                            try simp only [Bool.not_eq_true', Bool.not_eq_false', Bool.or_eq_true, Bool.and_eq_true, Bool.or_eq_false_iff, Bool.and_eq_false_iff, decide_eq_true_eq, decide_eq_false_iff_not, Bool.not_true, Bool.not_false, gval, Bool.not_eq_eq_eq_not] at hc52
                                                            refine tc_seq ?_
                                                            refine tc_region ?_
                                                            refine tl_p (pr_assign rfl) rfl ?_
                                                            refine tl_next ?_
                                                            refine tc_ret (tq_blk_ret (tq_then_ret ?_))
                                                            first | exact tq_retE1 .ret (.inl rfl) () rfl rfl (by rw [kinds_a (by omega)]) | exact tq_retE1 .ret (.inl rfl) () rfl rfl (by rw [kinds_b (by omega)]) | exact tq_retE1 .ret (.inl rfl) () rfl rfl (by rw [kinds_c (by omega)]) | exact tq_retE1 .ret (.inl rfl) () rfl rfl (by rw [kinds_d (by omega)]) | exact tq_retE1 .ret (.inl rfl) () rfl rfl (by rw [kinds_e (by omega)]) | exact tq_retE1 .ret (.inl rfl) () rfl rfl (by rw [kinds_f (by omega)]) | exact tq_retE1 .ret (.inl rfl) () rfl rfl (by rw [kinds_g (by omega)]) | exact tq_retE1 .ret (.inl rfl) () rfl rfl (by rw [kinds_h (by omega)])
                                                          · have hd52 := hc52
                                                            try simp only [Bool.not_eq_true', Bool.not_eq_false', Bool.or_eq_true, Bool.and_eq_true, Bool.or_eq_false_iff, Bool.and_eq_false_iff, decide_eq_true_eq, decide_eq_false_iff_not, Bool.not_true, Bool.not_false, gval, Bool.not_eq_eq_eq_not] at hc52
                                                            refine tc_seq ?_
                                                            refine tc_region ?_
                                                            refine tl_p (pr_eql rfl rfl) rfl ?_
                                                            refine tl_p (pr_assign rfl) rfl ?_
                                                            refine tl_next ?_
                                                            refine tc_if rfl (fun hc53 => ?_) (fun hc53 => ?_)
                                                            · have hd53 := hc53
                                                              try simp only [Bool.not_eq_true', Bool.not_eq_false', Bool.or_eq_true, Bool.and_eq_true, Bool.or_eq_false_iff, Bool.and_eq_false_iff, decide_eq_true_eq, decide_eq_false_iff_not, Bool.not_true, Bool.not_false, gval, Bool.not_eq_eq_eq_not] at hc53
                                                              refine tc_seq ?_
                                                              refine tc_region ?_
                                                              refine tl_p (pr_assign rfl) rfl ?_
                                                              refine tl_next ?_
                                                              refine tc_ret (tq_blk_ret (tq_then_ret ?_))
                                                              first | exact tq_retE1 .ret (.inl rfl) () rfl rfl (by rw [kinds_a (by omega)]) | exact tq_retE1 .ret (.inl rfl) () rfl rfl (by rw [kinds_b (by omega)]) | exact tq_retE1 .ret (.inl rfl) () rfl rfl (by rw [kinds_c (by omega)]) | exact tq_retE1 .ret (.inl rfl) () rfl rfl (by rw [kinds_d (by omega)]) | exact tq_retE1 .ret (.inl rfl) () rfl rfl (by rw [kinds_e (by omega)]) | exact tq_retE1 .ret (.inl rfl) () rfl rfl (by rw [kinds_f (by omega)]) | exact tq_retE1 .ret (.inl rfl) () rfl rfl (by rw [kinds_g (by omega)]) | exact tq_retE1 .ret (.inl rfl) () rfl rfl (by rw [kinds_h (by omega)])
                                                            · have hd53 := hc53
                                                              try simp only [Bool.not_eq_true', Bool.not_eq_false', Bool.or_eq_true, Bool.and_eq_true, Bool.or_eq_false_iff, Bool.and_eq_false_iff, decide_eq_true_eq, decide_eq_false_iff_not, Bool.not_true, Bool.not_false, gval, Bool.not_eq_eq_eq_not] at hc53
                                                              refine tc_skip (tq_blk_normal (tq_next ?_))
                                                              refine tc_seq ?_
                                                              refine tc_region ?_
                                                              refine tl_p (pr_assign rfl) rfl ?_
                                                              refine tl_next ?_
                                                              refine tc_ret ?_
                                                              first | exact tq_retE1 .ret (.inl rfl) () rfl rfl (by rw [kinds_a (by omega)]) | exact tq_retE1 .ret (.inl rfl) () rfl rfl (by rw [kinds_b (by omega)]) | exact tq_retE1 .ret (.inl rfl) () rfl rfl (by rw [kinds_c (by omega)]) | exact tq_retE1 .ret (.inl rfl) () rfl rfl (by rw [kinds_d (by omega)]) | exact tq_retE1 .ret (.inl rfl) () rfl rfl (by rw [kinds_e (by omega)]) | exact tq_retE1 .ret (.inl rfl) () rfl rfl (by rw [kinds_f (by omega)]) | exact tq_retE1 .ret (.inl rfl) () rfl rfl (by rw [kinds_g (by omega)]) | exact tq_retE1 .ret (.inl rfl) () rfl rfl (by rw [kinds_h (by omega)])

theorem f189_ct (k n : Int) : Rd Tryz.prog 189 #[.int .u8 k, .int .i64 n] [] [] (.bool (fineR k n)) := by
  refine ct_intro Tryz.func189 rfl (by kernel_rfl) (n := 32) rfl rfl (E := [(0, .int .u8 k), (1, .int .i64 n)]) rfl ?_
  intro κ hro
  refine tc_seq ?_
  refine tc_region ?_
  refine tl_p (pr_assign rfl) rfl ?_
  refine tl_next ?_
  refine tc_seq ?_
  refine tc_seq ?_
  refine tc_region ?_
  refine tl_p (pr_move rfl) rfl ?_
  refine tl_next ?_
  refine tc_block ?_
  refine tc_seq ?_
  refine tc_region ?_
  refine tl_p (pr_eql rfl rfl) rfl ?_
  refine tl_p (pr_assign rfl) rfl ?_
  refine tl_next ?_
  refine tc_if rfl (fun hc1 => ?_) (fun hc1 => ?_)
  · have hd1 := hc1
    try simp only [Bool.not_eq_true', Bool.not_eq_false', Bool.or_eq_true, Bool.and_eq_true, Bool.or_eq_false_iff, Bool.and_eq_false_iff, decide_eq_true_eq, decide_eq_false_iff_not, Bool.not_true, Bool.not_false, gval, Bool.not_eq_eq_eq_not] at hc1
    refine tc_seq ?_
    refine tc_region ?_
    refine tl_p (pr_move rfl) rfl ?_
    refine tl_p (pr_geq rfl rfl) rfl ?_
    refine tl_p (pr_move rfl) rfl ?_
    refine tl_gt rfl rfl (fun h => pr_move rfl) (by intro _ h; cases h) rfl ?_
    refine tl_gt rfl rfl (fun h => pr_lss (gv rfl h) rfl) (by intro _ h; cases h) rfl ?_
    refine tl_p (pr_and rfl rfl rfl) rfl ?_
    refine tl_p (pr_assign rfl) rfl ?_
    refine tl_next ?_
    refine tc_ret (tq_blk_ret (tq_then_ret ?_))
    exact tq_retE1 .ret (.inl rfl) () rfl rfl (by first | rfl | (subst_vars; rfl) | (simp [fineR, *, cells_agg, resV, Cap.v]; done) | (simp [fineR, *, cells_agg, resV, Cap.v]; omega) | (unfold fineR; split <;> first | rfl | (exfalso; simp_all; done) | (exfalso; simp_all [wI]; first | done | omega)))
  · have hd1 := hc1
    try simp only [Bool.not_eq_true', Bool.not_eq_false', Bool.or_eq_true, Bool.and_eq_true, Bool.or_eq_false_iff, Bool.and_eq_false_iff, decide_eq_true_eq, decide_eq_false_iff_not, Bool.not_true, Bool.not_false, gval, Bool.not_eq_eq_eq_not] at hc1
    refine tc_seq ?_
    refine tc_region ?_
    refine tl_p (pr_eql rfl rfl) rfl ?_
    refine tl_p (pr_assign rfl) rfl ?_
    refine tl_next ?_
    refine tc_if rfl (fun hc2 => ?_) (fun hc2 => ?_)
    · have hd2 := hc2
      try simp only [Bool.not_eq_true', Bool.not_eq_false', Bool.or_eq_true, Bool.and_eq_true, Bool.or_eq_false_iff, Bool.and_eq_false_iff, decide_eq_true_eq, decide_eq_false_iff_not, Bool.not_true, Bool.not_false, gval, Bool.not_eq_eq_eq_not] at hc2
      refine tc_seq ?_
      refine tc_region ?_
      refine tl_p (pr_move rfl) rfl ?_
      refine tl_p (pr_geq rfl rfl) rfl ?_
      refine tl_p (pr_move rfl) rfl ?_
      refine tl_gt rfl rfl (fun h => pr_move rfl) (by intro _ h; cases h) rfl ?_
      refine tl_gt rfl rfl (fun h => pr_leq (gv rfl h) rfl) (by intro _ h; cases h) rfl ?_
      refine tl_p (pr_and rfl rfl rfl) rfl ?_
      refine tl_p (pr_assign rfl) rfl ?_
      refine tl_next ?_
      refine tc_ret (tq_blk_ret (tq_then_ret ?_))
      exact tq_retE1 .ret (.inl rfl) () rfl rfl (by first | rfl | (subst_vars; rfl) | (simp [fineR, *, cells_agg, resV, Cap.v]; done) | (simp [fineR, *, cells_agg, resV, Cap.v]; omega) | (unfold fineR; split <;> first | rfl | (exfalso; simp_all; done) | (exfalso; simp_all [wI]; first | done | omega)))
    · have hd2 := hc2
      try simp only [Bool.not_eq_true', Bool.not_eq_false', Bool.or_eq_true, Bool.and_eq_true, Bool.or_eq_false_iff, Bool.and_eq_false_iff, decide_eq_true_eq, decide_eq_false_iff_not, Bool.not_true, Bool.not_false, gval, Bool.not_eq_eq_eq_not] at hc2
      refine tc_seq ?_
      refine tc_region ?_
      refine tl_p (pr_eql rfl rfl) rfl ?_
      refine tl_p (pr_assign rfl) rfl ?_
      refine tl_next ?_
      refine tc_if rfl (fun hc3 => ?_) (fun hc3 => ?_)
      · have hd3 := hc3
        try simp only [Bool.not_eq_true', Bool.not_eq_false', Bool.or_eq_true, Bool.and_eq_true, Bool.or_eq_false_iff, Bool.and_eq_false_iff, decide_eq_true_eq, decide_eq_false_iff_not, Bool.not_true, Bool.not_false, gval, Bool.not_eq_eq_eq_not] at hc3
        refine tc_seq ?_
        refine tc_region ?_
        refine tl_p (pr_move rfl) rfl ?_
        refine tl_p (pr_geq rfl rfl) rfl ?_
        refine tl_p (pr_move rfl) rfl ?_
        refine tl_gt rfl rfl (fun h => pr_move rfl) (by intro _ h; cases h) rfl ?_
        refine tl_gt rfl rfl (fun h => pr_leq (gv rfl h) rfl) (by intro _ h; cases h) rfl ?_
        refine tl_p (pr_and rfl rfl rfl) rfl ?_
        refine tl_p (pr_assign rfl) rfl ?_
        refine tl_next ?_
        refine tc_ret (tq_blk_ret (tq_then_ret ?_))
        exact tq_retE1 .ret (.inl rfl) () rfl rfl (by first | rfl | (subst_vars; rfl) | (simp [fineR, *, cells_agg, resV, Cap.v]; done) | (simp [fineR, *, cells_agg, resV, Cap.v]; omega) | (unfold fineR; split <;> first | rfl | (exfalso; simp_all; done) | (exfalso; simp_all [wI]; first | done | omega)))
      · have hd3 := hc3
        try simp only [Bool.not_eq_true', Bool.not_eq_false', Bool.or_eq_true, Bool.and_eq_true, Bool.or_eq_false_iff, Bool.and_eq_false_iff, decide_eq_true_eq, decide_eq_false_iff_not, Bool.not_true, Bool.not_false, gval, Bool.not_eq_eq_eq_not] at hc3
        refine tc_skip (tq_blk_normal (tq_next ?_))
        refine tc_seq ?_
        refine tc_region ?_
        refine tl_p (pr_move rfl) rfl ?_
        refine tl_p (pr_eql rfl rfl) rfl ?_
        refine tl_p (pr_assign rfl) rfl ?_
        refine tl_next ?_
        refine tc_ret ?_
        exact tq_retE1 .ret (.inl rfl) () rfl rfl (by first | rfl | (subst_vars; rfl) | (simp [fineR, *, cells_agg, resV, Cap.v]; done) | (simp [fineR, *, cells_agg, resV, Cap.v]; omega) | (unfold fineR; split <;> first | rfl | (exfalso; simp_all; done) | (exfalso; simp_all [wI]; first | done | omega)))

end Go.Proofs

namespace Go.Proofs
open Go Go.Sz
attribute [local irreducible] pt lift exs own emp

theorem f106_ct (x : Ins) : Rd Tryz.prog 106 #[x.v] [] [] (.bool (insRight x)) := by
  refine ct_intro Tryz.func106 rfl (by kernel_rfl) (n := 30) rfl rfl (E := [(0, x.v)]) rfl ?_
  intro κ hro
  refine tc_seq ?_
  refine tc_region ?_
  refine tl_box rfl rfl (fun b1 => ?_)
  refine tl_p (pr_assign rfl) rfl ?_
  refine tl_next ?_
  refine tc_seq ?_
  refine tc_region ?_
  refine tl_p (pr_fieldAddr Tryz.fo33_0 rfl) rfl ?_
  refine tl_p (pr_ld Tryz.ag3 rfl) rfl ?_
  refine tl_rdS (f105_ct _) (.cons rfl .nil) rfl (kk := ?_)
  refine tl_p (pr_assign rfl) rfl ?_
  refine tl_next ?_
  refine tc_seq ?_
  refine tc_draw Tryz.mixed [0, 1, 2, 3, 4, 5, 6, 7, 8, 9, 10, 11, 12, 13, 14, 15, 16, 17, 18, 19, 20, 21, 22] (by kernel_rfl) ?_
  refine td_q 0 7 (pm_of rfl rfl rfl (fun _ kq => tl_p (pr_move rfl) rfl kq)) rfl rfl rfl ?_
  refine td_q 1 8 (pm_of rfl rfl rfl (fun _ kq => tl_p (pr_neqStr rfl rfl) rfl kq)) rfl rfl rfl ?_
  refine td_q 2 9 (pm_of rfl rfl rfl (fun _ kq => tl_p (pr_move rfl) rfl kq)) rfl rfl rfl ?_
  refine td_q 3 10 (pm_of rfl rfl rfl (fun _ kq => tl_gt rfl rfl (fun h => pr_move rfl) (by intro _ h; cases h) rfl kq)) rfl rfl rfl ?_
  refine td_q 4 11 (pm_of rfl rfl rfl (fun _ kq => tl_gt rfl rfl (fun h => pr_indexStr Tryz.underlying9 (gv rfl h) (i := 0) rfl (kinds_ix x.op 0 (by omega) h)) (by intro _ h; cases h) rfl kq)) rfl rfl rfl ?_
  refine td_q 5 12 (pm_of rfl rfl rfl (fun _ kq => tl_gt rfl rfl (fun h => pr_fieldAddr Tryz.fo33_1 rfl) (by intro _ h; cases h) rfl kq)) rfl rfl rfl ?_
  refine td_q 6 13 (pm_of rfl rfl rfl (fun _ kq => tl_gt rfl rfl (fun h => pr_ld Tryz.ag3 (gv rfl h)) (by intro _ h; cases h) rfl kq)) rfl rfl rfl ?_
  refine td_q 7 14 (pm_of rfl rfl rfl (fun _ kq => tl_rdgtS rfl rfl (fun h => ⟨f189_ct _ _, .cons (gv rfl h) (.cons (gv rfl h) .nil)⟩) rfl (kk := kq))) rfl rfl rfl ?_
  refine td_q 8 15 (pm_of rfl rfl rfl (fun _ kq => tl_p (pr_and rfl rfl rfl) rfl kq)) rfl rfl rfl ?_
  refine td_q 9 16 (pm_of rfl rfl rfl (fun _ kq => tl_p (pr_move rfl) rfl kq)) rfl rfl rfl ?_
  refine td_q 10 17 (pm_of rfl rfl rfl (fun _ kq => tl_gt rfl rfl (fun h => pr_move rfl) (by intro _ h; cases h) rfl kq)) rfl rfl rfl ?_
  refine td_q 11 18 (pm_of rfl rfl rfl (fun _ kq => tl_gt rfl rfl (fun h => pr_indexStr Tryz.underlying9 (gv rfl h) (i := 1) rfl (kinds_ix x.op 1 (by omega) (gl h))) (by intro _ h; cases h) rfl kq)) rfl rfl rfl ?_
  refine td_q 12 19 (pm_of rfl rfl rfl (fun _ kq => tl_gt rfl rfl (fun h => pr_fieldAddr Tryz.fo33_2 rfl) (by intro _ h; cases h) rfl kq)) rfl rfl rfl ?_
  refine td_q 13 20 (pm_of rfl rfl rfl (fun _ kq => tl_gt rfl rfl (fun h => pr_ld Tryz.ag3 (gv rfl h)) (by intro _ h; cases h) rfl kq)) rfl rfl rfl ?_
  refine td_q 14 21 (pm_of rfl rfl rfl (fun _ kq => tl_rdgtS rfl rfl (fun h => ⟨f189_ct _ _, .cons (gv rfl h) (.cons (gv rfl h) .nil)⟩) rfl (kk := kq))) rfl rfl rfl ?_
  refine td_q 15 22 (pm_of rfl rfl rfl (fun _ kq => tl_p (pr_and rfl rfl rfl) rfl kq)) rfl rfl rfl ?_
  refine td_q 16 23 (pm_of rfl rfl rfl (fun _ kq => tl_p (pr_move rfl) rfl kq)) rfl rfl rfl ?_
  refine td_q 17 24 (pm_of rfl rfl rfl (fun _ kq => tl_gt rfl rfl (fun h => pr_move rfl) (by intro _ h; cases h) rfl kq)) rfl rfl rfl ?_
  refine td_q 18 25 (pm_of rfl rfl rfl (fun _ kq => tl_gt rfl rfl (fun h => pr_indexStr Tryz.underlying9 (gv rfl h) (i := 2) rfl (kinds_ix x.op 2 (by omega) (gl (gl h)))) (by intro _ h; cases h) rfl kq)) rfl rfl rfl ?_
  refine td_q 19 26 (pm_of rfl rfl rfl (fun _ kq => tl_gt rfl rfl (fun h => pr_fieldAddr Tryz.fo33_3 rfl) (by intro _ h; cases h) rfl kq)) rfl rfl rfl ?_
  refine td_q 20 27 (pm_of rfl rfl rfl (fun _ kq => tl_gt rfl rfl (fun h => pr_ld Tryz.ag3 (gv rfl h)) (by intro _ h; cases h) rfl kq)) rfl rfl rfl ?_
  refine td_q 21 28 (pm_of rfl rfl rfl (fun _ kq => tl_rdgtS rfl rfl (fun h => ⟨f189_ct _ _, .cons (gv rfl h) (.cons (gv rfl h) .nil)⟩) rfl (kk := kq))) rfl rfl rfl ?_
  refine td_q 22 29 (pm_of rfl rfl rfl (fun _ kq => tl_p (pr_and rfl rfl rfl) rfl kq)) rfl rfl rfl ?_
  refine td_e1 23 (by kernel_rfl) ?_
  refine te rfl ?_
  refine tl_p (pr_assign rfl) rfl ?_
  refine td_next (pd := []) (by kernel_rfl) (.nil) ?_
  refine td_done (by kernel_rfl) ?_
  refine tq_next ?_
  refine tc_ret ?_
  exact tq_ret1 .ret (.inl rfl) () rfl (by rw [insRight_ref]; rfl)

theorem right_kinds {x : Ins} (h : insRight x = true) : (kindsS x.op != ⟨#[]⟩) = true := by
  rw [insRight_ref] at h; exact gl (gl (gl h))
abbrev PutX (x : Ins) := {s : Shp // Sow 1 s (putI x).length (u8s (putI x))}
theorem putI_no {x : Ins} (h : insRight x = false) : putI x = [] := if_pos h
theorem putI_wide {x : Ins} (h : insRight x = true) (h2 : kAt x.op 1 = 119) : putI x = [b8 x.op, b8 x.a, b8 (wI ((putW x).tdiv 256)), b8 ((putW x).tmod 256)] := by
  unfold putI; rw [if_neg (by rw [h]; simp), if_pos h2]
theorem putI_slim {x : Ins} (h : insRight x = true) (h2 : ¬ kAt x.op 1 = 119) : putI x = [b8 x.op, b8 x.a, b8 x.b, b8 x.c] := by
  unfold putI; rw [if_neg (by rw [h]; simp), if_neg h2]

theorem f115_ct (x : Ins) : Ct Tryz.prog 115 #[x.v] [] [] (X := PutX x) (fun y => sv y.1 (putI x).length) (fun y N => sl y.1 (u8s (putI x)) :: N) := by
  refine ct_intro Tryz.func115 rfl (by kernel_rfl) (n := 44) rfl rfl (E := [(0, x.v)]) rfl ?_
  intro κ hro
  refine tc_seq ?_
  refine tc_region ?_
  refine tl_box rfl rfl (fun b1 => ?_)
  refine tl_p (pr_assign rfl) rfl ?_
  refine tl_next ?_
  refine tc_seq ?_
  refine tc_seq ?_
  refine tc_region ?_
  refine tl_p (by first | exact pr_loadW Tryz.ag33 Tryz.sz33 rfl | exact pr_ldA Tryz.ag33 Tryz.sz33 rfl) rfl ?_
  refine tl_rdS (f106_ct _) (.cons rfl .nil) rfl (kk := ?_)
  refine tl_p (pr_not rfl) rfl ?_
  refine tl_next ?_
  refine tc_if rfl (fun hc1 => ?_) (fun hc1 => ?_)
  · have hd1 := hc1
    try simp only [Bool.not_eq_true', Bool.not_eq_false', Bool.or_eq_true, Bool.and_eq_true, Bool.or_eq_false_iff, Bool.and_eq_false_iff, decide_eq_true_eq, decide_eq_false_iff_not, Bool.not_true, Bool.not_false, gval, Bool.not_eq_eq_eq_not] at hc1
    refine tc_seq ?_
    refine tc_region ?_
    refine tl_p (pr_assign rfl) rfl ?_
    refine tl_next ?_
    refine tc_ret (tq_then_ret ?_)
    have e := putI_no (x := x) (by simpa using hd1)
    refine tq_imp (fun w s => s.emp_mk) ?_
    exact tq_retE1 .ret (.inl rfl) ⟨.nil, by rw [e]; exact Sow.nil⟩ rfl rfl (by show _ = sv .nil _; rw [e]; rfl) (by show Pick _ [sl .nil (u8s (putI x))] _; rw [e]; exact .cons .here .nil)
  · have hd1 := hc1
    try simp only [Bool.not_eq_true', Bool.not_eq_false', Bool.or_eq_true, Bool.and_eq_true, Bool.or_eq_false_iff, Bool.and_eq_false_iff, decide_eq_true_eq, decide_eq_false_iff_not, Bool.not_true, Bool.not_false, gval, Bool.not_eq_eq_eq_not] at hc1
    refine tc_skip (tq_next ?_)
    refine tc_seq ?_
    refine tc_seq ?_
    refine tc_region ?_
    refine tl_p (pr_fieldAddr Tryz.fo33_0 rfl) rfl ?_
    refine tl_p (pr_ld Tryz.ag3 rfl) rfl ?_
    refine tl_rdS (f105_ct _) (.cons rfl .nil) rfl (kk := ?_)
    refine tl_p (pr_indexStr Tryz.underlying9 rfl (i := 1) rfl (kinds_ix x.op 1 (by omega) (right_kinds (by simpa using hd1)))) rfl ?_
    refine tl_p (pr_eql rfl rfl) rfl ?_
    refine tl_next ?_
    refine tc_if rfl (fun hc2 => ?_) (fun hc2 => ?_)
    · have hd2 := hc2
      try simp only [Bool.not_eq_true', Bool.not_eq_false', Bool.or_eq_true, Bool.and_eq_true, Bool.or_eq_false_iff, Bool.and_eq_false_iff, decide_eq_true_eq, decide_eq_false_iff_not, Bool.not_true, Bool.not_false, gval, Bool.not_eq_eq_eq_not] at hc2
      refine tc_seq ?_
      refine tc_region ?_
      refine tl_p (pr_fieldAddr Tryz.fo33_2 rfl) rfl ?_
      refine tl_p (pr_ld Tryz.ag3 rfl) rfl ?_
      refine tl_p (pr_assign rfl) rfl ?_
      refine tl_next ?_
      refine tc_seq ?_
      refine tc_seq ?_
      refine tc_region ?_
      refine tl_p (pr_move rfl) rfl ?_
      refine tl_p (pr_lss rfl rfl) rfl ?_
      refine tl_next ?_
      refine tc_if rfl (fun hc3 => ?_) (fun hc3 => ?_)
      · have hd3 := hc3
        try simp only [Bool.not_eq_true', Bool.not_eq_false', Bool.or_eq_true, Bool.and_eq_true, Bool.or_eq_false_iff, Bool.and_eq_false_iff, decide_eq_true_eq, decide_eq_false_iff_not, Bool.not_true, Bool.not_false, gval, Bool.not_eq_eq_eq_not] at hc3
        have hp : wI (x.b + 65536) = putW x := by unfold putW; rw [if_pos hc3]
        refine tc_region ?_
        refine tl_p (pr_move rfl) rfl ?_
        refine tl_p (pr_add rfl rfl) rfl ?_
        refine tl_p (pr_assign rfl) rfl ?_
        refine tl_next ?_
        refine tc_seq ?_
        refine tc_region ?_
        refine tl_p (pr_fieldAddr Tryz.fo33_0 rfl) rfl ?_
        refine tl_p (pr_ld Tryz.ag3 rfl) rfl ?_
        refine tl_p (pr_conv Tryz.it5 Tryz.underlying3 rfl) rfl ?_
        refine tl_p (pr_fieldAddr Tryz.fo33_1 rfl) rfl ?_
        refine tl_p (pr_ld Tryz.ag3 rfl) rfl ?_
        refine tl_p (pr_conv Tryz.it5 Tryz.underlying3 rfl) rfl ?_
        refine tl_p (pr_move rfl) rfl ?_
        refine tl_p (pr_quo rfl rfl (by decide)) rfl ?_
        refine tl_p (by first | exact pr_eq (v' := .int .u8 (b8 (wI ((putW x).tdiv 256)))) (pr_conv Tryz.it5 Tryz.underlying3 rfl) (by rw [← hp]; first | done | rfl) | fail) rfl ?_
        refine tl_p (pr_move rfl) rfl ?_
        refine tl_p (pr_rem rfl rfl (by decide)) rfl ?_
        refine tl_p (pr_eq (v' := .int .u8 (b8 ((putW x).tmod 256))) (pr_conv Tryz.it5 Tryz.underlying3 rfl) (by rw [← hp]; first | done | rfl)) rfl ?_
        refine tl_buildS Tryz.sf64 Tryz.z5 rfl (.cons rfl (.cons rfl (.cons rfl (.cons rfl .nil)))) rfl rfl (c := u8s [b8 x.op, b8 x.a, b8 (wI ((putW x).tdiv 256)), b8 ((putW x).tmod 256)]) rfl rfl rfl (kk := fun s30 hs30 ms30 => ?_)
        refine tl_p (pr_assign rfl) rfl ?_
        refine tl_next ?_
        refine tc_ret (tq_then_ret ?_)
        have e := putI_wide (x := x) (by simpa using hd1) (show kAt x.op 1 = 119 from hc2)
        exact tq_retE1 .ret (.inl rfl) ⟨s30, by rw [e]; exact hs30⟩ rfl rfl (by show _ = sv s30 _; rw [e]; rfl) (by show Pick _ [sl s30 (u8s (putI x))] _; rw [e]; repeat (first | exact Pick.nil | exact Rem.here | apply Rem.there | apply Pick.cons))
      · have hd3 := hc3
        try simp only [Bool.not_eq_true', Bool.not_eq_false', Bool.or_eq_true, Bool.and_eq_true, Bool.or_eq_false_iff, Bool.and_eq_false_iff, decide_eq_true_eq, decide_eq_false_iff_not, Bool.not_true, Bool.not_false, gval, Bool.not_eq_eq_eq_not] at hc3
        have hp : x.b = putW x := by unfold putW; rw [if_neg hc3]
        refine tc_skip (tq_next ?_)
        refine tc_seq ?_
        refine tc_region ?_
        refine tl_p (pr_fieldAddr Tryz.fo33_0 rfl) rfl ?_
        refine tl_p (pr_ld Tryz.ag3 rfl) rfl ?_
        refine tl_p (pr_conv Tryz.it5 Tryz.underlying3 rfl) rfl ?_
        refine tl_p (pr_fieldAddr Tryz.fo33_1 rfl) rfl ?_
        refine tl_p (pr_ld Tryz.ag3 rfl) rfl ?_
        refine tl_p (pr_conv Tryz.it5 Tryz.underlying3 rfl) rfl ?_
        refine tl_p (pr_move rfl) rfl ?_
        refine tl_p (pr_quo rfl rfl (by decide)) rfl ?_
        refine tl_p (by first | exact pr_eq (v' := .int .u8 (b8 (wI ((putW x).tdiv 256)))) (pr_conv Tryz.it5 Tryz.underlying3 rfl) (by rw [← hp]; first | done | rfl) | fail) rfl ?_
        refine tl_p (pr_move rfl) rfl ?_
        refine tl_p (pr_rem rfl rfl (by decide)) rfl ?_
        refine tl_p (pr_eq (v' := .int .u8 (b8 ((putW x).tmod 256))) (pr_conv Tryz.it5 Tryz.underlying3 rfl) (by rw [← hp]; first | done | rfl)) rfl ?_
        refine tl_buildS Tryz.sf64 Tryz.z5 rfl (.cons rfl (.cons rfl (.cons rfl (.cons rfl .nil)))) rfl rfl (c := u8s [b8 x.op, b8 x.a, b8 (wI ((putW x).tdiv 256)), b8 ((putW x).tmod 256)]) rfl rfl rfl (kk := fun s30 hs30 ms30 => ?_)
        refine tl_p (pr_assign rfl) rfl ?_
        refine tl_next ?_
        refine tc_ret (tq_then_ret ?_)
        have e := putI_wide (x := x) (by simpa using hd1) (show kAt x.op 1 = 119 from hc2)
        exact tq_retE1 .ret (.inl rfl) ⟨s30, by rw [e]; exact hs30⟩ rfl rfl (by show _ = sv s30 _; rw [e]; rfl) (by show Pick _ [sl s30 (u8s (putI x))] _; rw [e]; repeat (first | exact Pick.nil | exact Rem.here | apply Rem.there | apply Pick.cons))
    · have hd2 := hc2
      try simp only [Bool.not_eq_true', Bool.not_eq_false', Bool.or_eq_true, Bool.and_eq_true, Bool.or_eq_false_iff, Bool.and_eq_false_iff, decide_eq_true_eq, decide_eq_false_iff_not, Bool.not_true, Bool.not_false, gval, Bool.not_eq_eq_eq_not] at hc2
      refine tc_skip (tq_next ?_)
      refine tc_seq ?_
      refine tc_region ?_
      refine tl_p (pr_fieldAddr Tryz.fo33_0 rfl) rfl ?_
      refine tl_p (pr_ld Tryz.ag3 rfl) rfl ?_
      refine tl_p (pr_conv Tryz.it5 Tryz.underlying3 rfl) rfl ?_
      refine tl_p (pr_fieldAddr Tryz.fo33_1 rfl) rfl ?_
      refine tl_p (pr_ld Tryz.ag3 rfl) rfl ?_
      refine tl_p (pr_conv Tryz.it5 Tryz.underlying3 rfl) rfl ?_
      refine tl_p (pr_fieldAddr Tryz.fo33_2 rfl) rfl ?_
      refine tl_p (pr_ld Tryz.ag3 rfl) rfl ?_
      refine tl_p (pr_conv Tryz.it5 Tryz.underlying3 rfl) rfl ?_
      refine tl_p (pr_fieldAddr Tryz.fo33_3 rfl) rfl ?_
      refine tl_p (pr_ld Tryz.ag3 rfl) rfl ?_
      refine tl_p (pr_conv Tryz.it5 Tryz.underlying3 rfl) rfl ?_
      refine tl_buildS Tryz.sf64 Tryz.z5 rfl (.cons rfl (.cons rfl (.cons rfl (.cons rfl .nil)))) rfl rfl (c := u8s [b8 x.op, b8 x.a, b8 x.b, b8 x.c]) rfl rfl rfl (kk := fun s43 hs43 ms43 => ?_)
      refine tl_p (pr_assign rfl) rfl ?_
      refine tl_next ?_
      refine tc_ret ?_
      have e := putI_slim (x := x) (by simpa using hd1) (show ¬ kAt x.op 1 = 119 from hc2)
      exact tq_retE1 .ret (.inl rfl) ⟨s43, by rw [e]; exact hs43⟩ rfl rfl (by show _ = sv s43 _; rw [e]; rfl) (by show Pick _ [sl s43 (u8s (putI x))] _; rw [e]; repeat (first | exact Pick.nil | exact Rem.here | apply Rem.there | apply Pick.cons))

end Go.Proofs

namespace Go.Proofs
open Go Go.Sz
attribute [local irreducible] pt lift exs own emp
theorem Tryz.ag23 : aggB Tryz.prog 23 = some false := by kernel_rfl
theorem Tryz.ag25 : aggB Tryz.prog 25 = some false := by kernel_rfl
theorem Tryz.fo29_0 : fOff Tryz.prog 29 0 = some (0, 1, false) := by kernel_rfl
theorem Tryz.fo29_1 : fOff Tryz.prog 29 1 = some (1, 1, false) := by kernel_rfl
theorem Tryz.fo29_2 : fOff Tryz.prog 29 2 = some (2, 1, false) := by kernel_rfl
theorem Tryz.fo29_3 : fOff Tryz.prog 29 3 = some (3, 1, false) := by kernel_rfl
theorem Tryz.fo29_4 : fOff Tryz.prog 29 4 = some (4, 6, true) := by kernel_rfl
theorem Tryz.sf23 : slcF Tryz.prog 23 = some (33, 4, 32) := by kernel_rfl
theorem Tryz.sl23 : slcOf Tryz.prog 23 = some (33, 4) := by kernel_rfl
def Ins.l (x : Ins) : List Value := [.int .i64 x.op, .int .i64 x.a, .int .i64 x.b, .int .i64 x.c]
abbrev insL (l : List Ins) : List Value := l.flatMap Ins.l
theorem ins_len (x : Ins) : x.l.length = 4 := rfl
theorem ins_n {s : Shp} {n : Nat} {l : List Ins} (h : Sok 4 s n (insL l)) : l.length = n := by have := h.len; rw [fm_len ins_len] at this; omega
def codeB (l : List Ins) : List Int := l.flatMap putI
theorem codeB_take {l : List Ins} {j : Nat} (h : j < l.length) : codeB (l.take (j + 1)) = codeB (l.take j) ++ putI l[j] := by
  rw [List.take_succ_eq_append_getElem h]; simp only [codeB, List.flatMap_append, List.flatMap_cons, List.flatMap_nil, List.append_nil]
theorem codeB_le (l : List Ins) (j : Nat) : (codeB (l.take j)).length ≤ 4 * j := by
  unfold codeB
  induction j generalizing l with
  | zero => simp
  | succ j ih =>
    cases l with
    | nil => simp
    | cons x l => have := ih l; have := putI_len x; simp [List.take_succ_cons, List.flatMap_cons] at *; omega
abbrev CodX (l : List Ins) := {s : Shp // Sow 1 s (codeB l).length (u8s (codeB l))}
structure CaseM where
  code : List Ins
  regs : List Cap
  mem : List Cap
  paint : List Int
  pos : Cap
structure CaseS where
  s1 : Shp
  n1 : Nat
  s2 : Shp
  n2 : Nat
  s3 : Shp
  n3 : Nat
  s4 : Shp
  n4 : Nat
structure CaseOk (q : CaseS) (x : CaseM) : Prop where
  h1 : Sok 4 q.s1 q.n1 (insL x.code)
  h2 : Sok 6 q.s2 q.n2 (capsL x.regs)
  h3 : Sok 6 q.s3 q.n3 (capsL x.mem)
  h4 : Sok 1 q.s4 q.n4 (ints x.paint)
abbrev caseL (q : CaseS) (x : CaseM) : List Value := [sv q.s1 q.n1, sv q.s2 q.n2, sv q.s3 q.n3, sv q.s4 q.n4, .bool x.pos.tag, .int .i64 x.pos.base, .int .i64 x.pos.top, .int .i64 x.pos.pos, .int .i64 x.pos.perms, .int .i64 x.pos.typ]
abbrev caseV (q : CaseS) (x : CaseM) : Value := .agg (List.toArray (caseL q x))
abbrev caseRo (q : CaseS) (x : CaseM) : List (Nat × Obj) := ra q.s1 (insL x.code) ++ (ra q.s2 (capsL x.regs) ++ (ra q.s3 (capsL x.mem) ++ ra q.s4 (ints x.paint)))
def greatC (x : CaseM) : Bool := x.paint.any (fun p => decide (p < 0) || decide (63 < p)) || (decide (64 < x.code.length) || decide (8 < x.regs.length) || decide (32 < x.mem.length) || decide (64 < x.paint.length))
def posC (x : CaseM) : Cap := if (refRight x.pos && x.pos.tag) = true then x.pos else ⟨true, 256, 512, 256, 5, 0⟩

theorem f55_ct (s : Shp) (n : Nat) (ns : List Ins) (hs : Sok 4 s n (insL ns)) (hb : n ≤ 64) : Ct Tryz.prog 55 #[sv s n] (ra s (insL ns)) [] (X := CodX ns) (fun x => sv x.1 (codeB ns).length) (fun x N => sl x.1 (u8s (codeB ns)) :: N) := by
  refine ct_intro Tryz.func55 rfl (by kernel_rfl) (n := 19) rfl rfl (E := [(0, sv s n)]) rfl ?_
  intro κ hro
  have hn := ins_n hs
  have hrd : ∀ L, RdS L κ s (insL ns) := fun L => Reads.sl hro
  refine tc_seq ?_
  refine tc_region ?_
  refine tl_p (pr_assign rfl) rfl ?_
  refine tl_next ?_
  refine tc_seq ?_
  refine tc_region ?_
  refine tl_p (pr_assign rfl) rfl ?_
  refine tl_next ?_
  refine tc_seq ?_
  refine tc_seq ?_
  refine tc_region ?_
  refine tl_p (pr_assign rfl) rfl ?_
  refine tl_next ?_
  refine tc_block ?_
  refine tc_imp (fun w s => s.emp_mk) ?_
  refine tc_loopP (X := Nat × Shp) (fun j => j.1 ≤ n ∧ Sow 1 j.2 (codeB (ns.take j.1)).length (u8s (codeB (ns.take j.1)))) (fun j => [(0, sv s n), (4, .int .i64 (j.1 : Int)), (3, sv j.2 (codeB (ns.take j.1)).length)]) (fun j => [sl j.2 (u8s (codeB (ns.take j.1)))]) (fun j => n - j.1) (0, .nil) ⟨by omega, Sow.nil⟩ (.cons rfl (.cons rfl (.cons rfl .nil))) (fun j hj => ?_)
  have hj1 := hj.1
  have hj2 := hj.2
  refine tc_seq ?_
  refine tc_seq ?_
  refine tc_region ?_
  refine tl_p (pr_move rfl) rfl ?_
  refine tl_p (pr_move rfl) rfl ?_
  refine tl_p (pr_lenS Tryz.sf23 rfl) rfl ?_
  refine tl_p (pr_lss rfl rfl) rfl ?_
  refine tl_next ?_
  refine tc_if rfl (fun hc1 => ?_) (fun hc1 => ?_)
  · have hd1 := hc1
    try simp only [Bool.not_eq_true', Bool.not_eq_false', Bool.or_eq_true, Bool.and_eq_true, Bool.or_eq_false_iff, Bool.and_eq_false_iff, decide_eq_true_eq, decide_eq_false_iff_not, Bool.not_true, Bool.not_false, gval, Bool.not_eq_eq_eq_not] at hc1
    refine tc_skip (tq_next ?_)
    refine tc_seq ?_
    refine tc_block ?_
    refine tc_region ?_
    refine tl_p (pr_move rfl) rfl ?_
    refine tl_p (pr_move rfl) rfl ?_
    refine tl_p (pr_move rfl) rfl ?_
    refine tl_p (pr_ixE Tryz.sl23 rfl rfl) rfl ?_
    refine tl_p (pr_ldEA Tryz.ag33 Tryz.sz33 rfl (c := insL ns) (m := Ins.l (ns[j.1]'(by omega))) (fm_le ins_len ns j.1 (by omega)) (fm_cut ins_len ns j.1 (by simp)) (hs.isM (by omega)) (hrd _)) rfl ?_
    refine tl_callS (f115_ct (ns[j.1]'(by omega))) (.cons rfl .nil) rfl (kk := fun ⟨s16, hs16⟩ => ?_)
    refine tl_append Tryz.sf64 Tryz.z5 rfl rfl rfl hj2 (Sow.toSok hs16) u8s_ok (by have := codeB_le ns j.1; have := putI_len (ns[j.1]'(by omega)); omega) rfl (kk := fun s17 hs17 => ?_)
    refine tl_p (pr_assign rfl) rfl ?_
    refine tl_nil (tq_blk_normal (tq_next ?_))
    refine tc_region ?_
    refine tl_p (pr_move rfl) rfl ?_
    refine tl_p (pr_addN rfl rfl (by omega)) rfl ?_
    refine tl_p (pr_assign rfl) rfl ?_
    refine tl_nil ?_
    rw [show u8s (codeB (ns.take j.1)) ++ u8s (putI (ns[j.1]'(by omega))) = u8s (codeB (ns.take (j.1 + 1))) from by rw [codeB_take (by omega)]; simp]
    exact tq_roundP (j.1 + 1, s17) ⟨by omega, by rw [codeB_take (by omega)]; simpa using hs17⟩ (by show n - (j.1 + 1) < _; omega) (.cons rfl (.cons rfl (.cons (by rw [codeB_take (by omega), List.length_append]; rfl) .nil)))
  · have hd1 := hc1
    try simp only [Bool.not_eq_true', Bool.not_eq_false', Bool.or_eq_true, Bool.and_eq_true, Bool.or_eq_false_iff, Bool.and_eq_false_iff, decide_eq_true_eq, decide_eq_false_iff_not, Bool.not_true, Bool.not_false, gval, Bool.not_eq_eq_eq_not] at hc1
    refine tc_exit (tq_then_exit (tq_then_exit (tq_blk_here ?_)))
    refine tq_next ?_
    refine tc_seq ?_
    refine tc_region ?_
    refine tl_p (pr_move rfl) rfl ?_
    refine tl_p (pr_assign rfl) rfl ?_
    refine tl_next ?_
    refine tc_ret ?_
    have e : j.1 = ns.length := by omega
    rw [e, List.take_length] at hj2
    rw [e, List.take_length]
    exact tq_ret1 .ret (.inl rfl) ⟨j.2, hj2⟩ rfl rfl

theorem f53_ct (q : CaseS) (x : CaseM) : Rd Tryz.prog 53 #[caseV q x] [] [] ((posC x).v) := by
  refine ct_intro Tryz.func53 rfl (by kernel_rfl) (n := 14) rfl rfl (E := [(0, caseV q x)]) rfl ?_
  intro κ hro
  refine tc_seq ?_
  refine tc_region ?_
  refine tl_box rfl rfl (fun b1 => ?_)
  refine tl_alloc Tryz.z27 rfl (fun b2 => ?_)
  refine tl_next ?_
  refine tc_seq ?_
  refine tc_seq ?_
  refine tc_region ?_
  refine tl_p (pr_fieldAddr Tryz.fo29_4 rfl) rfl ?_
  refine tl_p (pr_ldA Tryz.ag27 Tryz.sz27 rfl) rfl ?_
  refine tl_rdS (f28_ct x.pos) (.cons rfl .nil) rfl (kk := ?_)
  refine tl_p (pr_move rfl) rfl ?_
  refine tl_gt rfl rfl (fun h => pr_fieldAddr Tryz.fo29_4 rfl) (by intro _ h; cases h) rfl ?_
  refine tl_gt rfl rfl (fun h => pr_fieldAddr Tryz.fo27_0 (gv rfl h)) (by intro _ h; cases h) rfl ?_
  refine tl_gt rfl rfl (fun h => pr_ld Tryz.ag4 (gv rfl h)) (by intro _ h; cases h) rfl ?_
  refine tl_p (pr_and rfl rfl rfl) rfl ?_
  refine tl_next ?_
  refine tc_if rfl (fun hc1 => ?_) (fun hc1 => ?_)
  · have hd1 := hc1
    try simp only [Bool.not_eq_true', Bool.not_eq_false', Bool.or_eq_true, Bool.and_eq_true, Bool.or_eq_false_iff, Bool.and_eq_false_iff, decide_eq_true_eq, decide_eq_false_iff_not, Bool.not_true, Bool.not_false, gval, Bool.not_eq_eq_eq_not] at hc1
    refine tc_seq ?_
    refine tc_region ?_
    refine tl_p (pr_fieldAddr Tryz.fo29_4 rfl) rfl ?_
    refine tl_p (pr_ldA Tryz.ag27 Tryz.sz27 rfl) rfl ?_
    refine tl_storeW Tryz.sz27 rfl rfl (k := ?_)
    refine tl_next ?_
    refine tc_ret (tq_then_ret ?_)
    exact tq_retG .ret (.inl rfl) () rfl (.cellA Tryz.ag27 Tryz.sz27 rfl .nil) (by unfold posC; rw [if_pos hd1]; rfl)
  · have hd1 := hc1
    try simp only [Bool.not_eq_true', Bool.not_eq_false', Bool.or_eq_true, Bool.and_eq_true, Bool.or_eq_false_iff, Bool.and_eq_false_iff, decide_eq_true_eq, decide_eq_false_iff_not, Bool.not_true, Bool.not_false, gval, Bool.not_eq_eq_eq_not] at hc1
    refine tc_skip (tq_next ?_)
    refine tc_seq ?_
    refine tc_region ?_
    refine tl_p (Tryz.bl27_0_1_2_3_4 rfl rfl rfl rfl rfl) rfl ?_
    refine tl_storeW Tryz.sz27 rfl rfl (k := ?_)
    refine tl_next ?_
    refine tc_ret ?_
    exact tq_retG .ret (.inl rfl) () rfl (.cellA Tryz.ag27 Tryz.sz27 rfl .nil) (by unfold posC; rw [if_neg (by rw [hd1]; exact Bool.false_ne_true)]; rfl)

theorem f13_ct (q : CaseS) (x : CaseM) (hq : CaseOk q x) : Rd Tryz.prog 13 #[caseV q x] (caseRo q x) [] (.bool (greatC x)) := by
  refine ct_intro Tryz.func13 rfl (by kernel_rfl) (n := 47) rfl rfl (E := [(0, caseV q x)]) rfl ?_
  intro κ hro
  have n1 := ins_n hq.h1
  have n2 := caps_n hq.h2
  have n3 := caps_n hq.h3
  have n4 : x.paint.length = q.n4 := by have := hq.h4.len; simp at this; omega
  have b4 := hq.h4.bnd
  have hrd : ∀ L, RdS L κ q.s4 (ints x.paint) := fun L => Reads.sl (Reads.app (Reads.app (Reads.app hro).2).2).2
  refine tc_seq ?_
  refine tc_region ?_
  refine tl_box rfl rfl (fun b1 => ?_)
  refine tl_p (pr_assign rfl) rfl ?_
  refine tl_next ?_
  refine tc_seq ?_
  refine tc_seq ?_
  refine tc_region ?_
  refine tl_p (pr_assign rfl) rfl ?_
  refine tl_next ?_
  refine tc_block ?_
  refine tc_loopP (X := Nat) (fun j => j ≤ q.n4 ∧ (x.paint.take j).any (fun p => decide (p < 0) || decide (63 < p)) = false) (fun j => [(1, ad b1 0), (3, .int .i64 (j : Int))]) (fun j => [pt b1 (.cells (List.toArray (caseL q x)) 29 (0, 0))]) (fun j => q.n4 - j) 0 ⟨by omega, rfl⟩ (.cons rfl (.cons rfl .nil)) (fun j hj => ?_)
  have hj1 := hj.1
  refine tc_seq ?_
  refine tc_seq ?_
  refine tc_region ?_
  refine tl_p (pr_move rfl) rfl ?_
  refine tl_p (pr_fieldAddr Tryz.fo29_3 rfl) rfl ?_
  refine tl_p (pr_ld Tryz.ag25 rfl) rfl ?_
  refine tl_p (pr_lenS Tryz.sf25 rfl hq.h4) rfl ?_
  refine tl_p (pr_lss rfl rfl) rfl ?_
  refine tl_next ?_
  refine tc_if rfl (fun hc1 => ?_) (fun hc1 => ?_)
  · have hd1 := hc1
    try simp only [Bool.not_eq_true', Bool.not_eq_false', Bool.or_eq_true, Bool.and_eq_true, Bool.or_eq_false_iff, Bool.and_eq_false_iff, decide_eq_true_eq, decide_eq_false_iff_not, Bool.not_true, Bool.not_false, gval, Bool.not_eq_eq_eq_not] at hc1
    refine tc_skip (tq_next ?_)
    refine tc_seq ?_
    refine tc_block ?_
    refine tc_seq ?_
    refine tc_region ?_
    refine tl_p (pr_fieldAddr Tryz.fo29_3 rfl) rfl ?_
    refine tl_p (pr_ld Tryz.ag25 rfl) rfl ?_
    refine tl_p (pr_move rfl) rfl ?_
    refine tl_p (pr_ixE Tryz.sl25 rfl rfl (by omega) (by omega) hq.h4) rfl ?_
    refine tl_p (pr_ldE Tryz.ag3 rfl (c := ints x.paint) (v := .int .i64 (x.paint[j]'(by omega))) (map_at (by omega)) (hq.h4.isM (by omega)) (hrd _)) rfl ?_
    refine tl_p (pr_lss rfl rfl) rfl ?_
    refine tl_p (pr_move rfl) rfl ?_
    refine tl_gf rfl rfl (fun h => pr_fieldAddr Tryz.fo29_3 rfl) (by intro _ h; cases h) rfl ?_
    refine tl_gf rfl rfl (fun h => pr_ld Tryz.ag25 (gv rfl h)) (by intro _ h; cases h) rfl ?_
    refine tl_gf rfl rfl (fun h => pr_move rfl) (by intro _ h; cases h) rfl ?_
    refine tl_gf rfl rfl (fun h => pr_ixE Tryz.sl25 (gv rfl h) (gv rfl h) (by omega) (by omega) hq.h4) (by intro _ h; cases h) rfl ?_
    refine tl_gf rfl rfl (fun h => pr_ldE Tryz.ag3 (gv rfl h) (c := ints x.paint) (v := .int .i64 (x.paint[j]'(by omega))) (map_at (by omega)) (hq.h4.isM (by omega)) (hrd _)) (by intro _ h; cases h) rfl ?_
    refine tl_gf rfl rfl (fun h => pr_gtr (gv rfl h) rfl) (by intro _ h; cases h) rfl ?_
    refine tl_p (pr_or rfl rfl rfl) rfl ?_
    refine tl_next ?_
    refine tc_if rfl (fun hc2 => ?_) (fun hc2 => ?_)
    · have hd2 := hc2
      try simp only [Bool.not_eq_true', Bool.not_eq_false', Bool.or_eq_true, Bool.and_eq_true, Bool.or_eq_false_iff, Bool.and_eq_false_iff, decide_eq_true_eq, decide_eq_false_iff_not, Bool.not_true, Bool.not_false, gval, Bool.not_eq_eq_eq_not] at hc2
      refine tc_seq ?_
      refine tc_region ?_
      refine tl_p (pr_assign rfl) rfl ?_
      refine tl_next ?_
      refine tc_ret (tq_blk_ret (tq_then_ret (tq_then_ret (tq_blk_ret (tq_then_ret ?_)))))
      have e : greatC x = true := by unfold greatC; rw [List.any_eq_true.2 ⟨(x.paint[j]'(by omega)), List.getElem_mem _, by simpa using hd2⟩]; rfl
      exact tq_retE1 .ret (.inl rfl) () rfl rfl (by rw [e])
    · have hd2 := hc2
      try simp only [Bool.not_eq_true', Bool.not_eq_false', Bool.or_eq_true, Bool.and_eq_true, Bool.or_eq_false_iff, Bool.and_eq_false_iff, decide_eq_true_eq, decide_eq_false_iff_not, Bool.not_true, Bool.not_false, gval, Bool.not_eq_eq_eq_not] at hc2
      refine tc_skip (tq_blk_normal (tq_next ?_))
      refine tc_region ?_
      refine tl_p (pr_move rfl) rfl ?_
      refine tl_p (pr_addN rfl rfl (by omega)) rfl ?_
      refine tl_p (pr_assign rfl) rfl ?_
      refine tl_nil ?_
      exact tq_roundP (j + 1) ⟨by omega, by rw [List.take_succ_eq_append_getElem (by omega), List.any_append, hj.2]; simpa using hd2⟩ (by omega) (.cons rfl (.cons rfl .nil))
  · have hd1 := hc1
    try simp only [Bool.not_eq_true', Bool.not_eq_false', Bool.or_eq_true, Bool.and_eq_true, Bool.or_eq_false_iff, Bool.and_eq_false_iff, decide_eq_true_eq, decide_eq_false_iff_not, Bool.not_true, Bool.not_false, gval, Bool.not_eq_eq_eq_not] at hc1
    refine tc_exit (tq_then_exit (tq_then_exit (tq_blk_here ?_)))
    refine tq_next ?_
    refine tc_seq ?_
    refine tc_region ?_
    refine tl_p (pr_fieldAddr Tryz.fo29_0 rfl) rfl ?_
    refine tl_p (pr_ld Tryz.ag23 rfl) rfl ?_
    refine tl_p (pr_lenS Tryz.sf23 rfl hq.h1) rfl ?_
    refine tl_p (pr_gtr rfl rfl) rfl ?_
    refine tl_p (pr_move rfl) rfl ?_
    refine tl_gf rfl rfl (fun h => pr_fieldAddr Tryz.fo29_1 rfl) (by intro _ h; cases h) rfl ?_
    refine tl_gf rfl rfl (fun h => pr_ld Tryz.ag24 (gv rfl h)) (by intro _ h; cases h) rfl ?_
    refine tl_gf rfl rfl (fun h => pr_lenS Tryz.sf24 (gv rfl h) hq.h2) (by intro _ h; cases h) rfl ?_
    refine tl_gf rfl rfl (fun h => pr_gtr (gv rfl h) rfl) (by intro _ h; cases h) rfl ?_
    refine tl_p (pr_or rfl rfl rfl) rfl ?_
    refine tl_p (pr_move rfl) rfl ?_
    refine tl_gf rfl rfl (fun h => pr_fieldAddr Tryz.fo29_2 rfl) (by intro _ h; cases h) rfl ?_
    refine tl_gf rfl rfl (fun h => pr_ld Tryz.ag24 (gv rfl h)) (by intro _ h; cases h) rfl ?_
    refine tl_gf rfl rfl (fun h => pr_lenS Tryz.sf24 (gv rfl h) hq.h3) (by intro _ h; cases h) rfl ?_
    refine tl_gf rfl rfl (fun h => pr_gtr (gv rfl h) rfl) (by intro _ h; cases h) rfl ?_
    refine tl_p (pr_or rfl rfl rfl) rfl ?_
    refine tl_p (pr_move rfl) rfl ?_
    refine tl_gf rfl rfl (fun h => pr_fieldAddr Tryz.fo29_3 rfl) (by intro _ h; cases h) rfl ?_
    refine tl_gf rfl rfl (fun h => pr_ld Tryz.ag25 (gv rfl h)) (by intro _ h; cases h) rfl ?_
    refine tl_gf rfl rfl (fun h => pr_lenS Tryz.sf25 (gv rfl h) hq.h4) (by intro _ h; cases h) rfl ?_
    refine tl_gf rfl rfl (fun h => pr_gtr (gv rfl h) rfl) (by intro _ h; cases h) rfl ?_
    refine tl_p (pr_or rfl rfl rfl) rfl ?_
    refine tl_p (pr_assign rfl) rfl ?_
    refine tl_next ?_
    refine tc_ret ?_
    have e0 : j = x.paint.length := by omega
    have e : x.paint.any (fun p => decide (p < 0) || decide (63 < p)) = false := by have := hj.2; rwa [e0, List.take_length] at this
    exact tq_retE1 .ret (.inl rfl) () rfl rfl (by unfold greatC; rw [e, n1, n2, n3, n4]; rw [Bool.false_or]; congr 1; rw [Bool.eq_iff_iff]; simp; omega)

end Go.Proofs

namespace Go.Proofs
open Go Go.Sz
attribute [local irreducible] pt lift exs own emp
theorem Tryz.ag29 : aggB Tryz.prog 29 = some true := by kernel_rfl
theorem Tryz.sz29 : szOf Tryz.prog 29 = some 10 := by kernel_rfl
structure Pl where
  tb : Nat
  rb : Nat
  fb : Nat
  mb : Nat
  sb : Nat
  pb : Nat
  ms : Shp
  ps : Shp
def madeM0 (x : CaseM) : MemM := memSto (zeroM 4) 256 (codeB x.code)
def madeMJ (x : CaseM) (j : Nat) : MemM := (List.range j).foldl (fun m (i : Nat) => memPutC m (512 + 16 * (i : Int)) (x.mem.getD i nullC)) (madeM0 x)
def madeWJ (x : CaseM) (j : Nat) : List Int := (List.range j).foldl (fun W (i : Nat) => paintP W 64 (16 * x.paint.getD i 0) (16 * x.paint.getD i 0 + 16) true) [0]
def madeRJ (x : CaseM) (j : Nat) : List Cap := (List.range j).foldl (fun R (i : Nat) => setR R (i : Int) (x.regs.getD i nullC)) (List.replicate 8 nullC)
abbrev madeM (x : CaseM) : MemM := madeMJ x x.mem.length
abbrev madeW (x : CaseM) : List Int := madeWJ x x.paint.length
abbrev madeR (x : CaseM) : List Cap := madeRJ x x.regs.length
theorem madeMJ_succ (x : CaseM) (j : Nat) : madeMJ x (j + 1) = memPutC (madeMJ x j) (512 + 16 * (j : Int)) (x.mem.getD j nullC) := by unfold madeMJ; rw [List.range_succ, List.foldl_append]; rfl
theorem madeWJ_succ (x : CaseM) (j : Nat) : madeWJ x (j + 1) = paintP (madeWJ x j) 64 (16 * x.paint.getD j 0) (16 * x.paint.getD j 0 + 16) true := by unfold madeWJ; rw [List.range_succ, List.foldl_append]; rfl
theorem madeRJ_succ (x : CaseM) (j : Nat) : madeRJ x (j + 1) = setR (madeRJ x j) (j : Int) (x.regs.getD j nullC) := by unfold madeRJ; rw [List.range_succ, List.foldl_append]; rfl
theorem madeMJ_zero (x : CaseM) : memSto (zeroM 4) 256 (codeB x.code) = madeMJ x 0 := by unfold madeMJ madeM0; simp only [List.range_zero, List.foldl_nil]
theorem madeMJ_n (x : CaseM) (j : Nat) : (madeMJ x j).n = 4 := by
  induction j with
  | zero => show (madeM0 x).n = 4; unfold madeM0; rw [memSto_n]; rfl
  | succ j ih => rw [madeMJ_succ, memPutC_n, ih]
theorem madeWJ_len (x : CaseM) (j : Nat) : (madeWJ x j).length = 1 := by
  induction j with
  | zero => rfl
  | succ j ih => rw [madeWJ_succ, paintP_len, ih]
theorem madeRJ_len (x : CaseM) (j : Nat) : (madeRJ x j).length = 8 := by
  induction j with
  | zero => rfl
  | succ j ih => rw [madeRJ_succ, setR_len, ih]
theorem great_no {x : CaseM} (h : greatC x = false) : x.code.length ≤ 64 ∧ x.regs.length ≤ 8 ∧ x.mem.length ≤ 32 ∧ x.paint.length ≤ 64 ∧ ∀ p ∈ x.paint, 0 ≤ p ∧ p ≤ 63 := by
  unfold greatC at h
  simp at h
  obtain ⟨h1, ⟨⟨h2, h3⟩, h4⟩, h5⟩ := h
  exact ⟨h2, h3, h4, h5, fun p hp => by have := h1 p hp; omega⟩
theorem some_getD {α : Type} {l : List α} {j : Nat} (h : j < l.length) (d : α) : l[j] = l.getD j d := by simp [h]
abbrev MadeX (x : CaseM) := {p : Pl // MOk p.ms (madeM x) ∧ ShOk p.ps (madeW x) 64}
abbrev worldS (p : Pl) (pos : Cap) (regs : List Cap) (fs : List Fr) (m : MemM) (W : List Int) : List HProp :=
  [pt p.tb (thrO pos p.rb p.fb), fileA p.rb regs, stkA p.fb fs, pt p.mb (memO p.ms 4), sl p.ms m.l, pt p.sb (swO p.mb p.pb false (.slice none 0 0) 0), pt p.pb (shO p.ps 1 64), sl p.ps (u64s W)]

attribute [local irreducible] sl MemM.l memSto

theorem f14_ct (q : CaseS) (x : CaseM) (hq : CaseOk q x) (hg : greatC x = false) : Ct Tryz.prog 14 #[caseV q x] (caseRo q x) [] (X := MadeX x) (fun y => .tuple #[ad y.1.tb 0, ad y.1.mb 0, ad y.1.sb 0]) (fun y N => worldS y.1 (posC x) (madeR x) [] (madeM x) (madeW x) ++ N) := by
  refine ct_intro Tryz.func14 rfl (by kernel_rfl) (n := 100) rfl rfl (E := [(0, caseV q x)]) rfl ?_
  intro κ hro
  have n1 := ins_n hq.h1
  have n2 := caps_n hq.h2
  have n3 := caps_n hq.h3
  have n4 : x.paint.length = q.n4 := by have := hq.h4.len; simp at this; omega
  obtain ⟨g1, g2, g3, g4, g5⟩ := great_no hg
  have hr1 := (Reads.app hro).1
  have hr2 := (Reads.app (Reads.app hro).2).1
  have hr3 := (Reads.app (Reads.app (Reads.app hro).2).2).1
  have hr4 := (Reads.app (Reads.app (Reads.app hro).2).2).2
  have hrd2 : ∀ L, RdS L κ q.s2 (capsL x.regs) := fun L => Reads.sl hr2
  have hrd3 : ∀ L, RdS L κ q.s3 (capsL x.mem) := fun L => Reads.sl hr3
  have hrd4 : ∀ L, RdS L κ q.s4 (ints x.paint) := fun L => Reads.sl hr4
  refine tc_seq ?_
  refine tc_region ?_
  refine tl_box rfl rfl (fun b1 => ?_)
  refine tl_p (pr_assign rfl) rfl ?_
  refine tl_p (pr_assign rfl) rfl ?_
  refine tl_p (pr_assign rfl) rfl ?_
  refine tl_next ?_
  refine tc_seq ?_
  refine tc_region ?_
  refine tl_callS (f49_ct) (.cons rfl .nil) rfl (kk := fun ⟨⟨mb12, ms12⟩, hm12⟩ => ?_)
  refine tl_p (pr_assign rfl) rfl ?_
  refine tl_next ?_
  refine tc_seq ?_
  refine tc_region ?_
  refine tl_callS (f50_ct) (.cons rfl .nil) rfl (kk := fun ⟨⟨pb13, ps13⟩, hw13⟩ => ?_)
  refine tl_p (pr_assign rfl) rfl ?_
  refine tl_next ?_
  refine tc_seq ?_
  refine tc_seq ?_
  refine tc_region ?_
  refine tl_p (pr_move rfl) rfl ?_
  refine tl_p (pr_eqlP Tryz.underlying35 rfl (.inr ⟨_, rfl⟩)) rfl ?_
  refine tl_p (pr_move rfl) rfl ?_
  refine tl_on rfl rfl rfl ?_
  refine tl_p (pr_move rfl) rfl ?_
  refine tl_on rfl rfl rfl ?_
  refine tl_p (pr_eqlP Tryz.underlying91 rfl (.inr ⟨_, rfl⟩)) rfl ?_
  refine tl_p (pr_pickF rfl rfl) rfl ?_
  refine tl_next ?_
  refine tc_if_false rfl rfl ?_
  refine tc_skip (tq_next ?_)
  refine tc_seq ?_
  refine tc_region ?_
  refine tl_p (pr_move rfl) rfl ?_
  refine tl_p (pr_move rfl) rfl ?_
  refine tl_callS (f51_ct mb12 pb13) (.cons rfl (.cons rfl .nil)) rfl (kk := fun sb22 => ?_)
  refine tl_p (pr_assign rfl) rfl ?_
  refine tl_next ?_
  refine tc_seq ?_
  refine tc_region ?_
  refine tl_p (by first | exact pr_loadW Tryz.ag29 Tryz.sz29 rfl | exact pr_ldA Tryz.ag29 Tryz.sz29 rfl) rfl ?_
  refine tl_rdS (f53_ct q x) (.cons rfl .nil) rfl (kk := ?_)
  refine tl_callS (f52_ct (posC x)) (.cons rfl .nil) rfl (kk := fun ⟨tb25, rb25, fb25⟩ => ?_)
  refine tl_p (pr_assign rfl) rfl ?_
  refine tl_next ?_
  refine tc_seq ?_
  refine tc_seq ?_
  refine tc_region ?_
  refine tl_p (pr_move rfl) rfl ?_
  refine tl_p (pr_eqlP Tryz.underlying36 rfl (.inr ⟨_, rfl⟩)) rfl ?_
  refine tl_p (pr_move rfl) rfl ?_
  refine tl_on rfl rfl rfl ?_
  refine tl_p (pr_move rfl) rfl ?_
  refine tl_on rfl rfl rfl ?_
  refine tl_p (pr_eqlP Tryz.underlying34 rfl (.inr ⟨_, rfl⟩)) rfl ?_
  refine tl_p (pr_pickF rfl rfl) rfl ?_
  refine tl_p (pr_move rfl) rfl ?_
  refine tl_on rfl rfl rfl ?_
  refine tl_p (pr_move rfl) rfl ?_
  refine tl_on rfl rfl rfl ?_
  refine tl_rdS (f15_ct tb25 (posC x) rb25 fb25) (.cons rfl .nil) rfl (kk := ?_)
  refine tl_on rfl rfl rfl ?_
  refine tl_p (pr_eqlP Tryz.underlying39 rfl (.inr ⟨_, rfl⟩)) rfl ?_
  refine tl_p (pr_pickF rfl rfl) rfl ?_
  refine tl_next ?_
  refine tc_if_false rfl rfl ?_
  refine tc_skip (tq_next ?_)
  refine tc_seq ?_
  refine tc_region ?_
  refine tl_p (pr_move rfl) rfl ?_
  refine tl_p (pr_fieldAddr Tryz.fo29_0 rfl) rfl ?_
  refine tl_p (pr_ld Tryz.ag23 rfl) rfl ?_
  refine tl_callS (f55_ct q.s1 q.n1 x.code hq.h1 (by omega)) (.cons rfl .nil) rfl (kk := fun ⟨s40, hs40⟩ => ?_)
  refine tl_callS (f54_ct mb12 ms12 (zeroM 4) hm12 256 _ s40 (codeB x.code) (Sow.toSok hs40)) (.cons rfl (.cons rfl (.cons rfl .nil))) rfl (kk := fun _ => ?_)
  refine tl_next ?_
  refine tc_seq ?_
  refine tc_seq ?_
  refine tc_region ?_
  refine tl_p (pr_assign rfl) rfl ?_
  refine tl_next ?_
  refine tc_block ?_
  rw [show memSto (zeroM 4) 256 (codeB x.code) = madeMJ x 0 from madeMJ_zero x]
  refine tc_loopP (X := Nat) (fun j => j ≤ q.n3) (fun j => [(1, ad b1 0), (5, ad mb12 0), (6, ad pb13 0), (7, ad sb22 0), (8, ad tb25 0), (9, .int .i64 (j : Int))]) (fun j => [pt b1 (.cells (List.toArray (caseL q x)) 29 (0, 0)), pt tb25 (thrO (posC x) rb25 fb25), fileA rb25 (List.replicate 8 nullC), stkA fb25 [], pt mb12 (memO ms12 4), sl ms12 (madeMJ x j).l, pt sb22 (swO mb12 pb13 false (.slice none 0 0) 0), pt pb13 (shO ps13 1 64), sl ps13 (u64s [0])]) (fun j => q.n3 - j) 0 (by omega) (.cons rfl (.cons rfl (.cons rfl (.cons rfl (.cons rfl (.cons rfl .nil)))))) (fun j hj => ?_)
  have hmj : MOk ms12 (madeMJ x j) := hm12.of (madeMJ_n x j)
  refine tc_seq ?_
  refine tc_seq ?_
  refine tc_region ?_
  refine tl_p (pr_move rfl) rfl ?_
  refine tl_p (pr_fieldAddr Tryz.fo29_2 rfl) rfl ?_
  refine tl_p (pr_ld Tryz.ag24 rfl) rfl ?_
  refine tl_p (pr_lenS Tryz.sf24 rfl hq.h3) rfl ?_
  refine tl_p (pr_lss rfl rfl) rfl ?_
  refine tl_next ?_
  refine tc_if rfl (fun hc3 => ?_) (fun hc3 => ?_)
  · have hd3 := hc3
    try simp only [Bool.not_eq_true', Bool.not_eq_false', Bool.or_eq_true, Bool.and_eq_true, Bool.or_eq_false_iff, Bool.and_eq_false_iff, decide_eq_true_eq, decide_eq_false_iff_not, Bool.not_true, Bool.not_false, gval, Bool.not_eq_eq_eq_not] at hc3
    refine tc_skip (tq_next ?_)
    refine tc_seq ?_
    refine tc_block ?_
    refine tc_region ?_
    refine tl_p (pr_move rfl) rfl ?_
    refine tl_p (pr_move rfl) rfl ?_
    refine tl_p (pr_mulN rfl rfl (by omega)) rfl ?_
    refine tl_p (pr_addN rfl rfl (by omega)) rfl ?_
    refine tl_p (pr_fieldAddr Tryz.fo29_2 rfl) rfl ?_
    refine tl_p (pr_ld Tryz.ag24 rfl) rfl ?_
    refine tl_p (pr_move rfl) rfl ?_
    refine tl_p (pr_ixE Tryz.sl24 rfl rfl (by omega) (by omega) hq.h3) rfl ?_
    refine tl_p (pr_ldEA Tryz.ag27 Tryz.sz27 rfl (c := capsL x.mem) (m := Cap.l (x.mem[j]'(by omega))) (fm_le cap_len x.mem j (by omega)) (fm_cut cap_len x.mem j (by simp)) (hq.h3.isM (by omega)) (hrd3 _)) rfl ?_
    refine tl_callS ((f56_ct mb12 ms12 (madeMJ x j) hmj (512 + 16 * (j : Int)) (by omega) (x.mem[j]'(by omega))).cast rfl (by rw [madeMJ_n])) (.cons rfl (.cons rfl (.cons rfl .nil))) rfl (kk := fun _ => ?_)
    refine tl_nil (tq_blk_normal (tq_next ?_))
    refine tc_region ?_
    refine tl_p (pr_move rfl) rfl ?_
    refine tl_p (pr_addN rfl rfl (by omega)) rfl ?_
    refine tl_p (pr_assign rfl) rfl ?_
    refine tl_nil ?_
    rw [some_getD (l := x.mem) (by omega) nullC, ← madeMJ_succ]
    exact tq_roundP (j + 1) (by omega) (by omega) (.cons rfl (.cons rfl (.cons rfl (.cons rfl (.cons rfl (.cons rfl .nil))))))
  · have hd3 := hc3
    try simp only [Bool.not_eq_true', Bool.not_eq_false', Bool.or_eq_true, Bool.and_eq_true, Bool.or_eq_false_iff, Bool.and_eq_false_iff, decide_eq_true_eq, decide_eq_false_iff_not, Bool.not_true, Bool.not_false, gval, Bool.not_eq_eq_eq_not] at hc3
    refine tc_exit (tq_then_exit (tq_then_exit (tq_blk_here ?_)))
    refine tq_next ?_
    refine tc_seq ?_
    refine tc_seq ?_
    refine tc_region ?_
    refine tl_p (pr_assign rfl) rfl ?_
    refine tl_next ?_
    refine tc_block ?_
    have em : j = x.mem.length := by omega
    rw [em]
    clear em hj
    refine tc_loopP (X := Nat) (fun j => j ≤ q.n4) (fun j => [(1, ad b1 0), (5, ad mb12 0), (6, ad pb13 0), (7, ad sb22 0), (8, ad tb25 0), (10, .int .i64 (j : Int))]) (fun j => [pt b1 (.cells (List.toArray (caseL q x)) 29 (0, 0)), pt tb25 (thrO (posC x) rb25 fb25), fileA rb25 (List.replicate 8 nullC), stkA fb25 [], pt mb12 (memO ms12 4), sl ms12 (madeM x).l, pt sb22 (swO mb12 pb13 false (.slice none 0 0) 0), pt pb13 (shO ps13 1 64), sl ps13 (u64s (madeWJ x j))]) (fun j => q.n4 - j) 0 (by omega) (.cons rfl (.cons rfl (.cons rfl (.cons rfl (.cons rfl (.cons rfl .nil)))))) (fun j hj => ?_)
    have hwj : ShOk ps13 (madeWJ x j) 64 := hw13.of (madeWJ_len x j)
    refine tc_seq ?_
    refine tc_seq ?_
    refine tc_region ?_
    refine tl_p (pr_move rfl) rfl ?_
    refine tl_p (pr_fieldAddr Tryz.fo29_3 rfl) rfl ?_
    refine tl_p (pr_ld Tryz.ag25 rfl) rfl ?_
    refine tl_p (pr_lenS Tryz.sf25 rfl hq.h4) rfl ?_
    refine tl_p (pr_lss rfl rfl) rfl ?_
    refine tl_next ?_
    refine tc_if rfl (fun hc4 => ?_) (fun hc4 => ?_)
    · have hd4 := hc4
      try simp only [Bool.not_eq_true', Bool.not_eq_false', Bool.or_eq_true, Bool.and_eq_true, Bool.or_eq_false_iff, Bool.and_eq_false_iff, decide_eq_true_eq, decide_eq_false_iff_not, Bool.not_true, Bool.not_false, gval, Bool.not_eq_eq_eq_not] at hc4
      have hpj := g5 _ (List.getElem_mem (l := x.paint) (show j < x.paint.length by omega))
      rw [some_getD (l := x.paint) (by omega) 0] at hpj
      refine tc_skip (tq_next ?_)
      refine tc_seq ?_
      refine tc_block ?_
      refine tc_draw Tryz.mixed [0, 1, 2, 3, 4, 5, 6, 7, 8, 9, 10, 11, 12, 13] (by kernel_rfl) ?_
      refine td_q 0 66 (pm_of rfl rfl rfl (fun _ kq => tl_p (pr_move rfl) rfl kq)) rfl rfl rfl ?_
      refine td_q 1 67 (pm_of rfl rfl rfl (fun _ kq => tl_p (pr_fieldAddr Tryz.fo29_3 rfl) rfl kq)) rfl rfl rfl ?_
      refine td_q 2 68 (pm_of rfl rfl rfl (fun _ kq => tl_p (pr_ld Tryz.ag25 rfl) rfl kq)) rfl rfl rfl ?_
      refine td_q 3 69 (pm_of rfl rfl rfl (fun _ kq => tl_p (pr_move rfl) rfl kq)) rfl rfl rfl ?_
      refine td_q 4 70 (pm_of rfl rfl rfl (fun _ kq => tl_p (pr_ixE Tryz.sl25 rfl rfl (by omega) (by omega) hq.h4) rfl kq)) rfl rfl rfl ?_
      refine td_q 5 71 (pm_of rfl rfl rfl (fun _ kq => tl_p (pr_ldE Tryz.ag3 rfl (c := ints x.paint) (v := .int .i64 (x.paint.getD j 0)) (by rw [← some_getD (l := x.paint) (by omega)]; exact map_at (by omega)) (hq.h4.isM (by omega)) (hrd4 _)) rfl kq)) rfl rfl rfl ?_
      refine td_q 6 72 (pm_of rfl rfl rfl (fun _ kq => tl_p (pr_mulN rfl rfl (by omega)) rfl kq)) rfl rfl rfl ?_
      refine td_q 7 73 (pm_of rfl rfl rfl (fun _ kq => tl_p (pr_fieldAddr Tryz.fo29_3 rfl) rfl kq)) rfl rfl rfl ?_
      refine td_q 8 74 (pm_of rfl rfl rfl (fun _ kq => tl_p (pr_ld Tryz.ag25 rfl) rfl kq)) rfl rfl rfl ?_
      refine td_q 9 75 (pm_of rfl rfl rfl (fun _ kq => tl_p (pr_move rfl) rfl kq)) rfl rfl rfl ?_
      refine td_q 10 76 (pm_of rfl rfl rfl (fun _ kq => tl_p (pr_ixE Tryz.sl25 rfl rfl (by omega) (by omega) hq.h4) rfl kq)) rfl rfl rfl ?_
      refine td_q 11 77 (pm_of rfl rfl rfl (fun _ kq => tl_p (pr_ldE Tryz.ag3 rfl (c := ints x.paint) (v := .int .i64 (x.paint.getD j 0)) (by rw [← some_getD (l := x.paint) (by omega)]; exact map_at (by omega)) (hq.h4.isM (by omega)) (hrd4 _)) rfl kq)) rfl rfl rfl ?_
      refine td_q 12 78 (pm_of rfl rfl rfl (fun _ kq => tl_p (pr_mulN rfl rfl (by omega)) rfl kq)) rfl rfl rfl ?_
      refine td_q 13 79 (pm_of rfl rfl rfl (fun _ kq => tl_p (pr_addN rfl rfl (by omega)) rfl kq)) rfl rfl rfl ?_
      refine td_e1 14 (by kernel_rfl) ?_
      refine te rfl ?_
      refine tl_callS ((f57_ct pb13 ps13 (madeWJ x j) 64 hwj (16 * (x.paint.getD j 0)) (16 * (x.paint.getD j 0) + 16) true).cast rfl (by rw [madeWJ_len])) (.cons rfl (.cons rfl (.cons rfl (.cons rfl .nil)))) rfl (kk := fun _ => ?_)
      refine td_next (pd := []) (by kernel_rfl) (.nil) ?_
      refine td_done (by kernel_rfl) ?_
      refine tq_blk_normal (tq_next ?_)
      refine tc_region ?_
      refine tl_p (pr_move rfl) rfl ?_
      refine tl_p (pr_addN rfl rfl (by omega)) rfl ?_
      refine tl_p (pr_assign rfl) rfl ?_
      refine tl_nil ?_
      rw [← madeWJ_succ]
      exact tq_roundP (j + 1) (by omega) (by omega) (.cons rfl (.cons rfl (.cons rfl (.cons rfl (.cons rfl (.cons rfl .nil))))))
    · have hd4 := hc4
      try simp only [Bool.not_eq_true', Bool.not_eq_false', Bool.or_eq_true, Bool.and_eq_true, Bool.or_eq_false_iff, Bool.and_eq_false_iff, decide_eq_true_eq, decide_eq_false_iff_not, Bool.not_true, Bool.not_false, gval, Bool.not_eq_eq_eq_not] at hc4
      refine tc_exit (tq_then_exit (tq_then_exit (tq_blk_here ?_)))
      refine tq_next ?_
      refine tc_seq ?_
      refine tc_seq ?_
      refine tc_region ?_
      refine tl_p (pr_assign rfl) rfl ?_
      refine tl_next ?_
      refine tc_block ?_
      have em : j = x.paint.length := by omega
      rw [em]
      clear em hj
      refine tc_loopP (X := Nat) (fun j => j ≤ q.n2) (fun j => [(1, ad b1 0), (5, ad mb12 0), (6, ad pb13 0), (7, ad sb22 0), (8, ad tb25 0), (11, .int .i64 (j : Int))]) (fun j => [pt b1 (.cells (List.toArray (caseL q x)) 29 (0, 0)), pt tb25 (thrO (posC x) rb25 fb25), fileA rb25 (madeRJ x j), stkA fb25 [], pt mb12 (memO ms12 4), sl ms12 (madeM x).l, pt sb22 (swO mb12 pb13 false (.slice none 0 0) 0), pt pb13 (shO ps13 1 64), sl ps13 (u64s (madeW x))]) (fun j => q.n2 - j) 0 (by omega) (.cons rfl (.cons rfl (.cons rfl (.cons rfl (.cons rfl (.cons rfl .nil)))))) (fun j hj => ?_)
      refine tc_seq ?_
      refine tc_seq ?_
      refine tc_region ?_
      refine tl_p (pr_move rfl) rfl ?_
      refine tl_p (pr_fieldAddr Tryz.fo29_1 rfl) rfl ?_
      refine tl_p (pr_ld Tryz.ag24 rfl) rfl ?_
      refine tl_p (pr_lenS Tryz.sf24 rfl hq.h2) rfl ?_
      refine tl_p (pr_lss rfl rfl) rfl ?_
      refine tl_next ?_
      refine tc_if rfl (fun hc5 => ?_) (fun hc5 => ?_)
      · have hd5 := hc5
        try simp only [Bool.not_eq_true', Bool.not_eq_false', Bool.or_eq_true, Bool.and_eq_true, Bool.or_eq_false_iff, Bool.and_eq_false_iff, decide_eq_true_eq, decide_eq_false_iff_not, Bool.not_true, Bool.not_false, gval, Bool.not_eq_eq_eq_not] at hc5
        refine tc_skip (tq_next ?_)
        refine tc_seq ?_
        refine tc_block ?_
        refine tc_draw Tryz.mixed [0, 1, 2, 3, 4, 5, 6, 7] (by kernel_rfl) ?_
        refine td_q 0 88 (pm_of rfl rfl rfl (fun _ kq => tl_p (pr_move rfl) rfl kq)) rfl rfl rfl ?_
        refine td_q 1 89 (pm_of rfl rfl rfl (fun _ kq => tl_rdS (f15_ct tb25 (posC x) rb25 fb25) (.cons rfl .nil) rfl (kk := kq))) rfl rfl rfl ?_
        refine td_q 2 90 (pm_of rfl rfl rfl (fun _ kq => tl_p (pr_move rfl) rfl kq)) rfl rfl rfl ?_
        refine td_q 3 91 (pm_of rfl rfl rfl (fun _ kq => tl_p (pr_fieldAddr Tryz.fo29_1 rfl) rfl kq)) rfl rfl rfl ?_
        refine td_q 4 92 (pm_of rfl rfl rfl (fun _ kq => tl_p (pr_ld Tryz.ag24 rfl) rfl kq)) rfl rfl rfl ?_
        refine td_q 5 93 (pm_of rfl rfl rfl (fun _ kq => tl_p (pr_move rfl) rfl kq)) rfl rfl rfl ?_
        refine td_q 6 94 (pm_of rfl rfl rfl (fun _ kq => tl_p (pr_ixE Tryz.sl24 rfl rfl (by omega) (by omega) hq.h2) rfl kq)) rfl rfl rfl ?_
        refine td_q 7 95 (pm_of rfl rfl rfl (fun _ kq => tl_p (pr_ldEA Tryz.ag27 Tryz.sz27 rfl (c := capsL x.regs) (m := Cap.l (x.regs.getD j nullC)) (fm_le cap_len x.regs j (by omega)) (fm_cut cap_len x.regs j (by rw [← some_getD (l := x.regs) (by omega)]; simp)) (hq.h2.isM (by omega)) (hrd2 _)) rfl kq)) rfl rfl rfl ?_
        refine td_e1 8 (by kernel_rfl) ?_
        refine te rfl ?_
        refine tl_callS (f16_ct rb25 (madeRJ x j) (madeRJ_len x j) (j : Int) (x.regs.getD j nullC)) (.cons rfl (.cons rfl (.cons rfl .nil))) rfl (kk := fun _ => ?_)
        refine td_next (pd := []) (by kernel_rfl) (.nil) ?_
        refine td_done (by kernel_rfl) ?_
        refine tq_blk_normal (tq_next ?_)
        refine tc_region ?_
        refine tl_p (pr_move rfl) rfl ?_
        refine tl_p (pr_addN rfl rfl (by omega)) rfl ?_
        refine tl_p (pr_assign rfl) rfl ?_
        refine tl_nil ?_
        rw [← madeRJ_succ]
        exact tq_roundP (j + 1) (by omega) (by omega) (.cons rfl (.cons rfl (.cons rfl (.cons rfl (.cons rfl (.cons rfl .nil))))))
      · have hd5 := hc5
        try simp only [Bool.not_eq_true', Bool.not_eq_false', Bool.or_eq_true, Bool.and_eq_true, Bool.or_eq_false_iff, Bool.and_eq_false_iff, decide_eq_true_eq, decide_eq_false_iff_not, Bool.not_true, Bool.not_false, gval, Bool.not_eq_eq_eq_not] at hc5
        refine tc_exit (tq_then_exit (tq_then_exit (tq_blk_here ?_)))
        refine tq_next ?_
        refine tc_seq ?_
        refine tc_region ?_
        refine tl_p (pr_move rfl) rfl ?_
        refine tl_p (pr_move rfl) rfl ?_
        refine tl_p (pr_move rfl) rfl ?_
        refine tl_p (pr_assign rfl) rfl ?_
        refine tl_p (pr_assign rfl) rfl ?_
        refine tl_p (pr_assign rfl) rfl ?_
        refine tl_next ?_
        refine tc_ret ?_
        have em : j = x.regs.length := by omega
        rw [em]
        exact tq_ret3 .ret (.inl rfl) ⟨⟨tb25, rb25, fb25, mb12, sb22, pb13, ms12, ps13⟩, hm12.of (madeMJ_n x _), hw13.of (madeWJ_len x _)⟩ rfl rfl rfl rfl rfl

end Go.Proofs

namespace Go.Proofs
open Go Go.Sz
attribute [local irreducible] pt lift exs own emp

def iter (pos : Cap) (regs : List Cap) (fs : List Fr) (m : MemM) (W : List Int) : Nat → Stp
  | 0 => ⟨(0, 0, 0), pos, regs, fs, m⟩
  | j + 1 => stepF (iter pos regs fs m W j).pos (iter pos regs fs m W j).regs (iter pos regs fs m W j).fs (iter pos regs fs m W j).m W 64
def headX : CaseM := ⟨[⟨1, 1, 300, 0⟩, ⟨14, 1, 7, 4⟩, ⟨11, 2, 7, 6⟩, ⟨16, 7, 7, 1⟩, ⟨15, 3, 7, 1⟩, ⟨29, 9, 0, 0⟩, ⟨24, 0, 0, 0⟩], [nullC, nullC, nullC, nullC, nullC, nullC, nullC, dataC], [], [], nullC⟩
def headI (j : Nat) : Stp := iter (posC headX) (madeR headX) [] (madeM headX) (madeW headX) j
theorem head_right : greatC headX = false := by kernel_rfl
theorem head_d6 : (headI 6).did = (3, 9, 0) := by kernel_rfl
theorem head_d7 : (headI 7).did = (2, 0, 3) := by kernel_rfl
theorem head_d8 : (headI 8).did = (2, 0, 3) := by kernel_rfl
theorem head_fs : (headI 8).fs = [] := by kernel_rfl
theorem head_r2 : (getR (headI 8).regs 2).pos = 1 := by kernel_rfl
theorem head_r3 : getR (headI 8).regs 3 = dataC := by kernel_rfl
theorem head_pos : (headI 8).pos.pos = 280 := by kernel_rfl
theorem head_tag : memTag (headI 8).m 528 = true := by kernel_rfl

theorem putRegs_len {regs l : List Cap} (h : regs.length = 8) : (putRegs regs l).length = 8 := by unfold putRegs; split; (rename_i h2; exact h2.1); exact h
theorem exR_len {x : Ins} {nx pos : Cap} {regs : List Cap} {fs : List Fr} {m : MemM} {W : List Int} {g : Nat} (h : regs.length = 8) : (exR x nx pos regs fs m W g).length = 8 := by
  unfold exR
  repeat' split
  · exact h
  · unfold ldR; split; rw [setE_len, h]; exact h
  · exact h
  · unfold lcR; split; rw [setE_len, h]; exact h
  · rw [setE_len, h]
  · unfold caR; split; rw [setR_len, clear_len h]; exact h
  · unfold reR; split; exact h; exact putRegs_len h
  · rw [setE_len, h]
theorem stepF_len {pos : Cap} {regs : List Cap} {fs : List Fr} {m : MemM} {W : List Int} {g : Nat} (h : regs.length = 8) : (stepF pos regs fs m W g).regs.length = 8 := by
  unfold stepF
  repeat' split
  · exact h
  · exact h
  · exact h
  · dsimp only; rw [setE_len]; exact h
  · exact h
  · exact exR_len (pos := pos) h
  · exact exR_len (pos := pos) h
theorem stepF_n {pos : Cap} {regs : List Cap} {fs : List Fr} {m : MemM} {W : List Int} {g : Nat} : (stepF pos regs fs m W g).m.n = m.n := by
  unfold stepF
  repeat' split
  all_goals first | rfl | exact exM_n _ _ _
theorem iter_len {pos : Cap} {regs : List Cap} {fs : List Fr} {m : MemM} {W : List Int} (h : regs.length = 8) : ∀ j, (iter pos regs fs m W j).regs.length = 8
  | 0 => h
  | j + 1 => stepF_len (iter_len h j)
theorem iter_n {pos : Cap} {regs : List Cap} {fs : List Fr} {m : MemM} {W : List Int} : ∀ j, (iter pos regs fs m W j).m.n = m.n
  | 0 => rfl
  | j + 1 => (stepF_n).trans (iter_n j)
theorem step_ct (p : Pl) (pos : Cap) (regs : List Cap) (fs : List Fr) (m : MemM) (W : List Int) (hl : regs.length = 8) (hm : MOk p.ms m) (hn : m.n = 4) (hw : ShOk p.ps W 64) (hW : W.length = 1) :
    Ct Tryz.prog 19 #[ad p.tb 0, ad p.mb 0, ad p.sb 0] [] (worldS p pos regs fs m W) (fun _ : Unit => didV (stepF pos regs fs m W 64).did) (fun _ N => worldS p (stepF pos regs fs m W 64).pos (stepF pos regs fs m W 64).regs (stepF pos regs fs m W 64).fs (stepF pos regs fs m W 64).m W ++ N) := by
  refine Ct.wk (R := [pt p.mb (memO p.ms 4), pt p.sb (swO p.mb p.pb false (.slice none 0 0) 0), pt p.pb (shO p.ps 1 64), sl p.ps (u64s W)]) (f19_ct p.tb pos p.rb p.fb regs hl fs p.mb p.ms m hm p.sb false (.slice none 0 0) 0 p.pb p.ps W 64 hw) (by repeat (first | exact Pick.nil | exact Rem.here | apply Rem.there | apply Pick.cons)) (fun κ hr => ?_) ?_
  · rw [hn, hW]
    refine Rdbs.app ?_ (Rdbs.sl (.own (by repeat (first | exact Has.here | apply Has.there))))
    repeat (first | exact Rdbs.nil | refine Rdbs.cons (.own (by repeat (first | exact Has.here | apply Has.there))) ?_)
  · intro _ κ w st
    exact ⟨(), rfl, St.picked (R := []) (by repeat (first | exact Pick.nil | exact Rem.here | apply Rem.there | apply Pick.cons)) st⟩

end Go.Proofs

namespace Go.Proofs
open Go Go.Sz
attribute [local irreducible] pt lift exs own emp
theorem Tryz.bld29 : bldS Tryz.prog 29 = some ([(0, 1), (1, 1), (2, 1), (3, 1), (4, 6)], (.agg #[.slice none 0 0, .slice none 0 0, .slice none 0 0, .slice none 0 0, .bool false, .int .i64 0, .int .i64 0, .int .i64 0, .int .i64 0, .int .i64 0] : Value).cells) := by kernel_rfl
theorem Tryz.eqg27 : Tryz.prog.eqGuardType Tryz.prog.depth 27 = false := by kernel_rfl
theorem Tryz.eqg46 : Tryz.prog.eqGuardType Tryz.prog.depth 46 = false := by kernel_rfl
theorem Tryz.ff27 : flatF Tryz.prog 27 = some [(0, none), (1, some .i64), (2, some .i64), (3, some .i64), (4, some .i64), (5, some .i64)] := by kernel_rfl
theorem Tryz.ff46 : flatF Tryz.prog 46 = some [(0, some .i64), (1, some .i64), (2, some .i64)] := by kernel_rfl
theorem Tryz.z29 : zeroV Tryz.prog 29 = some (.agg #[.slice none 0 0, .slice none 0 0, .slice none 0 0, .slice none 0 0, .bool false, .int .i64 0, .int .i64 0, .int .i64 0, .int .i64 0, .int .i64 0]) := by kernel_rfl
theorem Tryz.bl29_0_1 {n : Nat} {D : List Deferred} {E : Env} {L : List HProp} {κ : Ctx} {T : TypeId} {x0 x1 : Operand} {a0 a1 : Value} (h0 : E.ev x0 = some a0) (h1 : E.ev x1 = some a1) (o0 : oneV a0 = true := by rfl) (o1 : oneV a1 = true := by rfl) :
    PR Tryz.prog (.build 29 #[(0, x0), (1, x1)]) T n D E L κ (.agg #[a0, a1, .slice none 0 0, .slice none 0 0, .bool false, .int .i64 0, .int .i64 0, .int .i64 0, .int .i64 0, .int .i64 0]) := by
  refine pr_buildS Tryz.bld29 (.cons h0 (.cons h1 .nil)) ?_
  simp [Instr.fill, cells_agg, cells_one o0, cells_one o1]
theorem Tryz.bl33_0 {n : Nat} {D : List Deferred} {E : Env} {L : List HProp} {κ : Ctx} {T : TypeId} {x0 : Operand} {a0 : Value} (h0 : E.ev x0 = some a0) (o0 : oneV a0 = true := by rfl) :
    PR Tryz.prog (.build 33 #[(0, x0)]) T n D E L κ (.agg #[a0, .int .i64 0, .int .i64 0, .int .i64 0]) := by
  refine pr_buildS Tryz.bld33 (.cons h0 .nil) ?_
  simp [Instr.fill, cells_agg, cells_one o0]
theorem Tryz.bl33_0_1 {n : Nat} {D : List Deferred} {E : Env} {L : List HProp} {κ : Ctx} {T : TypeId} {x0 x1 : Operand} {a0 a1 : Value} (h0 : E.ev x0 = some a0) (h1 : E.ev x1 = some a1) (o0 : oneV a0 = true := by rfl) (o1 : oneV a1 = true := by rfl) :
    PR Tryz.prog (.build 33 #[(0, x0), (1, x1)]) T n D E L κ (.agg #[a0, a1, .int .i64 0, .int .i64 0]) := by
  refine pr_buildS Tryz.bld33 (.cons h0 (.cons h1 .nil)) ?_
  simp [Instr.fill, cells_agg, cells_one o0, cells_one o1]
theorem Tryz.bl33_0_1_2 {n : Nat} {D : List Deferred} {E : Env} {L : List HProp} {κ : Ctx} {T : TypeId} {x0 x1 x2 : Operand} {a0 a1 a2 : Value} (h0 : E.ev x0 = some a0) (h1 : E.ev x1 = some a1) (h2 : E.ev x2 = some a2) (o0 : oneV a0 = true := by rfl) (o1 : oneV a1 = true := by rfl) (o2 : oneV a2 = true := by rfl) :
    PR Tryz.prog (.build 33 #[(0, x0), (1, x1), (2, x2)]) T n D E L κ (.agg #[a0, a1, a2, .int .i64 0]) := by
  refine pr_buildS Tryz.bld33 (.cons h0 (.cons h1 (.cons h2 .nil))) ?_
  simp [Instr.fill, cells_agg, cells_one o0, cells_one o1, cells_one o2]
def headW : List Int := madeW headX
theorem headW_len : headW.length = 1 := madeWJ_len _ _
theorem headI_succ (j : Nat) : headI (j + 1) = stepF (headI j).pos (headI j).regs (headI j).fs (headI j).m headW 64 := rfl
theorem hI_len (j : Nat) : (headI j).regs.length = 8 := iter_len (madeRJ_len headX _) j
theorem hI_n (j : Nat) : (headI j).m.n = 4 := (iter_n j).trans (madeMJ_n _ _)
abbrev worldI (p : Pl) (i : Stp) (W : List Int) : List HProp := worldS p i.pos i.regs i.fs i.m W
theorem stepI_ct (p : Pl) (i : Stp) (W : List Int) (hl : i.regs.length = 8) (hm : MOk p.ms i.m) (hn : i.m.n = 4) (hw : ShOk p.ps W 64) (hW : W.length = 1) :
    Ct Tryz.prog 19 #[ad p.tb 0, ad p.mb 0, ad p.sb 0] [] (worldI p i W) (fun _ : Unit => didV (stepF i.pos i.regs i.fs i.m W 64).did) (fun _ N => worldI p (stepF i.pos i.regs i.fs i.m W 64) W ++ N) := step_ct p i.pos i.regs i.fs i.m W hl hm hn hw hW
theorem headMade (q : CaseS) (hq : CaseOk q headX) : Ct Tryz.prog 14 #[caseV q headX] (caseRo q headX) [] (X := {p : Pl // MOk p.ms (headI 0).m ∧ ShOk p.ps headW 64}) (fun y => .tuple #[ad y.1.tb 0, ad y.1.mb 0, ad y.1.sb 0]) (fun y N => worldI y.1 (headI 0) headW ++ N) := by
  rw [show headI 0 = ⟨(0, 0, 0), posC headX, madeR headX, [], madeM headX⟩ from rfl, show headW = madeW headX from rfl]
  dsimp only [worldI]
  exact f14_ct q headX hq head_right
attribute [local irreducible] headI headW
theorem headS_ct (p : Pl) (hm : MOk p.ms (headI 0).m) (hw : ShOk p.ps headW 64) (j : Nat) :
    Ct Tryz.prog 19 #[ad p.tb 0, ad p.mb 0, ad p.sb 0] [] (worldI p (headI j) headW) (fun _ : Unit => didV (headI (j + 1)).did) (fun _ N => worldI p (headI (j + 1)) headW ++ N) := by
  rw [headI_succ]
  exact stepI_ct p (headI j) headW (hI_len j) (hm.of ((hI_n j).trans (hI_n 0).symm)) (hI_n j) hw headW_len
theorem head_d0 : didV (headI 0).did = didV (0, 0, 0) := by unfold headI; rfl

theorem f12_ct  : Ct Tryz.prog 12 #[] [] [] (fun _ : Unit => .bool true) (fun _ N => N) := by
  refine ct_intro Tryz.func12 rfl (by kernel_rfl) (n := 93) rfl rfl (E := []) rfl ?_
  intro κ hro
  refine tc_seq ?_
  refine tc_region ?_
  refine tl_p (pr_assign rfl) rfl ?_
  refine tl_next ?_
  refine tc_seq ?_
  refine tc_region ?_
  refine tl_p (Tryz.bl33_0_1_2 rfl rfl rfl) rfl ?_
  refine tl_p (Tryz.bl33_0_1_2_3 rfl rfl rfl rfl) rfl ?_
  refine tl_p (Tryz.bl33_0_1_2_3 rfl rfl rfl rfl) rfl ?_
  refine tl_p (Tryz.bl33_0_1_2_3 rfl rfl rfl rfl) rfl ?_
  refine tl_p (Tryz.bl33_0_1_2_3 rfl rfl rfl rfl) rfl ?_
  refine tl_p (Tryz.bl33_0_1 rfl rfl) rfl ?_
  refine tl_p (Tryz.bl33_0 rfl) rfl ?_
  refine tl_buildS Tryz.sf23 Tryz.z33 rfl (.cons rfl (.cons rfl (.cons rfl (.cons rfl (.cons rfl (.cons rfl (.cons rfl .nil))))))) rfl rfl (c := insL headX.code) rfl rfl rfl (kk := fun s16 hs16 ms16 => ?_)
  refine tl_p (Tryz.bl27_ ) rfl ?_
  refine tl_p (Tryz.bl27_ ) rfl ?_
  refine tl_p (Tryz.bl27_ ) rfl ?_
  refine tl_p (Tryz.bl27_ ) rfl ?_
  refine tl_p (Tryz.bl27_ ) rfl ?_
  refine tl_p (Tryz.bl27_ ) rfl ?_
  refine tl_p (Tryz.bl27_ ) rfl ?_
  refine tl_rdS (f22_ct ) (.nil) rfl (kk := ?_)
  refine tl_buildS Tryz.sf24 Tryz.z27 rfl (.cons rfl (.cons rfl (.cons rfl (.cons rfl (.cons rfl (.cons rfl (.cons rfl (.cons rfl .nil)))))))) rfl rfl (c := capsL headX.regs) rfl rfl rfl (kk := fun s25 hs25 ms25 => ?_)
  refine tl_p (Tryz.bl29_0_1 rfl rfl (o0 := sv_one _ _) (o1 := sv_one _ _)) rfl ?_
  refine tl_alloc Tryz.z29 rfl (fun b1 => ?_)
  refine tl_storeW Tryz.sz29 rfl rfl (h1 := by show allOne (caseL ⟨s16, 7, s25, 8, .nil, 0, .nil, 0⟩ headX) = true; simp only [allOne, sv_one]; rfl) (k := ?_)
  refine tl_next ?_
  refine tc_seq ?_
  refine tc_region ?_
  refine tl_p (by first | exact pr_loadW Tryz.ag29 Tryz.sz29 rfl | exact pr_ldA Tryz.ag29 Tryz.sz29 rfl) rfl ?_
  refine tl_callS (headMade ⟨s16, 7, s25, 8, .nil, 0, .nil, 0⟩ ⟨hs16.toSok, hs25.toSok, Sok.nil, Sok.nil⟩) (.cons rfl .nil) rfl (hro := Rdbs.app (Rdbs.sl (.own (by repeat (first | exact Has.here | apply Has.there)))) (Rdbs.app (Rdbs.sl (.own (by repeat (first | exact Has.here | apply Has.there)))) .nil)) (kk := fun ⟨p29, hm29, hw29⟩ => ?_)
  refine tl_p (pr_move rfl) rfl ?_
  refine tl_p (pr_extract rfl rfl) rfl ?_
  refine tl_p (pr_extract rfl rfl) rfl ?_
  refine tl_p (pr_extract rfl rfl) rfl ?_
  refine tl_p (pr_assign rfl) rfl ?_
  refine tl_p (pr_assign rfl) rfl ?_
  refine tl_p (pr_assign rfl) rfl ?_
  refine tl_next ?_
  refine tc_seq ?_
  refine tc_seq ?_
  refine tc_region ?_
  refine tl_p (pr_move rfl) rfl ?_
  refine tl_p (pr_eqlP Tryz.underlying34 rfl (.inr ⟨_, rfl⟩)) rfl ?_
  refine tl_next ?_
  refine tc_if_false rfl rfl ?_
  refine tc_skip (tq_next ?_)
  refine tc_seq ?_
  refine tc_region ?_
  refine tl_alloc Tryz.z46 rfl (fun b5 => ?_)
  refine tl_next ?_
  refine tc_seq ?_
  refine tc_seq ?_
  refine tc_region ?_
  refine tl_p (pr_assign rfl) rfl ?_
  refine tl_next ?_
  refine tc_block ?_
  show TC _ _ _ _ _ _ _ (pt b5 (.cells (Value.cells (didV (0, 0, 0))) 46 (0, 0)) :: _) _
  rw [← head_d0]
  refine tc_loopP (X := Nat) (fun j => j ≤ 6) (fun j => [(2, ad p29.tb 0), (3, ad p29.mb 0), (4, ad p29.sb 0), (5, ad b5 0), (6, .int .i64 (j : Int))]) (fun j => [pt b5 (.cells (Value.cells (didV (headI j).did)) 46 (0, 0))] ++ worldI p29 (headI j) headW) (fun j => 6 - j) 0 (by omega) (.cons rfl (.cons rfl (.cons rfl (.cons rfl (.cons rfl .nil))))) (fun j hj => ?_)
  refine tc_seq ?_
  refine tc_seq ?_
  refine tc_region ?_
  refine tl_p (pr_move rfl) rfl ?_
  refine tl_p (pr_lss rfl rfl) rfl ?_
  refine tl_next ?_
  refine tc_if rfl (fun hc2 => ?_) (fun hc2 => ?_)
  · have hd2 := hc2
    try simp only [Bool.not_eq_true', Bool.not_eq_false', Bool.or_eq_true, Bool.and_eq_true, Bool.or_eq_false_iff, Bool.and_eq_false_iff, decide_eq_true_eq, decide_eq_false_iff_not, Bool.not_true, Bool.not_false, gval, Bool.not_eq_eq_eq_not] at hc2
    refine tc_skip (tq_next ?_)
    refine tc_seq ?_
    refine tc_block ?_
    refine tc_region ?_
    refine tl_p (pr_move rfl) rfl ?_
    refine tl_p (pr_move rfl) rfl ?_
    refine tl_p (pr_move rfl) rfl ?_
    refine tl_callS (headS_ct p29 hm29 hw29 j) (.cons rfl (.cons rfl (.cons rfl .nil))) rfl (kk := fun _ => ?_)
    refine tl_storeW Tryz.sz46 rfl rfl (k := ?_)
    refine tl_nil (tq_blk_normal (tq_next ?_))
    refine tc_region ?_
    refine tl_p (pr_move rfl) rfl ?_
    refine tl_p (pr_addN rfl rfl (by omega)) rfl ?_
    refine tl_p (pr_assign rfl) rfl ?_
    refine tl_nil ?_
    exact tq_roundP (j + 1) (by omega) (by omega) (.cons rfl (.cons rfl (.cons rfl (.cons rfl (.cons rfl .nil)))))
  · have hd2 := hc2
    try simp only [Bool.not_eq_true', Bool.not_eq_false', Bool.or_eq_true, Bool.and_eq_true, Bool.or_eq_false_iff, Bool.and_eq_false_iff, decide_eq_true_eq, decide_eq_false_iff_not, Bool.not_true, Bool.not_false, gval, Bool.not_eq_eq_eq_not] at hc2
    have e : j = 6 := by omega
    subst e
    refine tc_exit (tq_then_exit (tq_then_exit (tq_blk_here ?_)))
    refine tq_next ?_
    refine tc_seq ?_
    refine tc_region ?_
    refine tl_p (pr_move rfl) rfl ?_
    refine tl_p (pr_move rfl) rfl ?_
    refine tl_p (pr_move rfl) rfl ?_
    refine tl_callS (headS_ct p29 hm29 hw29 6) (.cons rfl (.cons rfl (.cons rfl .nil))) rfl (kk := fun _ => ?_)
    refine tl_alloc Tryz.z46 rfl (fun b7 => ?_)
    refine tl_storeW Tryz.sz46 rfl rfl (k := ?_)
    refine tl_next ?_
    refine tc_seq ?_
    refine tc_region ?_
    refine tl_p (pr_move rfl) rfl ?_
    refine tl_p (pr_move rfl) rfl ?_
    refine tl_p (pr_move rfl) rfl ?_
    refine tl_callS (headS_ct p29 hm29 hw29 7) (.cons rfl (.cons rfl (.cons rfl .nil))) rfl (kk := fun _ => ?_)
    refine tl_alloc Tryz.z46 rfl (fun b8 => ?_)
    refine tl_storeW Tryz.sz46 rfl rfl (k := ?_)
    refine tl_next ?_
    refine tc_seq ?_
    refine tc_region ?_
    refine tl_p (by first | exact pr_loadW Tryz.ag46 Tryz.sz46 rfl | exact pr_ldA Tryz.ag46 Tryz.sz46 rfl) rfl ?_
    refine tl_p (Tryz.bl46_0_1 rfl rfl) rfl ?_
    refine tl_p (pr_eqlF Tryz.eqg46 Tryz.ff46 rfl rfl (by rw [head_d6]; first | done | rfl)) rfl ?_
    refine tl_p (pr_move rfl) rfl ?_
    refine tl_on rfl rfl rfl ?_
    refine tl_p (by first | exact pr_loadW Tryz.ag46 Tryz.sz46 rfl | exact pr_ldA Tryz.ag46 Tryz.sz46 rfl) rfl ?_
    refine tl_on rfl rfl rfl ?_
    refine tl_p (Tryz.bl46_0_2 rfl rfl) rfl ?_
    refine tl_on rfl rfl rfl ?_
    refine tl_p (pr_eqlF Tryz.eqg46 Tryz.ff46 rfl rfl (by rw [head_d7]; first | done | rfl)) rfl ?_
    refine tl_p (pr_pickT rfl rfl) rfl ?_
    refine tl_p (pr_move rfl) rfl ?_
    refine tl_on rfl rfl rfl ?_
    refine tl_p (by first | exact pr_loadW Tryz.ag46 Tryz.sz46 rfl | exact pr_ldA Tryz.ag46 Tryz.sz46 rfl) rfl ?_
    refine tl_on rfl rfl rfl ?_
    refine tl_p (by first | exact pr_loadW Tryz.ag46 Tryz.sz46 rfl | exact pr_ldA Tryz.ag46 Tryz.sz46 rfl) rfl ?_
    refine tl_on rfl rfl rfl ?_
    refine tl_p (pr_eqlF Tryz.eqg46 Tryz.ff46 rfl rfl (by rw [head_d7, head_d8]; first | done | rfl)) rfl ?_
    refine tl_p (pr_pickT rfl rfl) rfl ?_
    refine tl_p (pr_move rfl) rfl ?_
    refine tl_on rfl rfl rfl ?_
    refine tl_p (pr_move rfl) rfl ?_
    refine tl_on rfl rfl rfl ?_
    refine tl_rdS (f15_ct p29.tb (headI 8).pos p29.rb p29.fb) (.cons rfl .nil) rfl (kk := ?_)
    refine tl_on rfl rfl rfl ?_
    refine tl_rdS (f24_ct p29.rb (headI 8).regs (hI_len 8) 2) (.cons rfl (.cons rfl .nil)) rfl (kk := ?_)
    refine tl_on rfl rfl rfl ?_
    refine tl_p (pr_eq (v' := .bool true) (pr_eql rfl rfl) (by rw [head_r2]; first | done | rfl)) rfl ?_
    refine tl_p (pr_pickT rfl rfl) rfl ?_
    refine tl_p (pr_move rfl) rfl ?_
    refine tl_on rfl rfl rfl ?_
    refine tl_p (pr_move rfl) rfl ?_
    refine tl_on rfl rfl rfl ?_
    refine tl_rdS (f15_ct p29.tb (headI 8).pos p29.rb p29.fb) (.cons rfl .nil) rfl (kk := ?_)
    refine tl_on rfl rfl rfl ?_
    refine tl_rdS (f23_ct p29.rb (headI 8).regs (hI_len 8) 3) (.cons rfl (.cons rfl .nil)) rfl (kk := ?_)
    refine tl_on rfl rfl rfl ?_
    refine tl_rdS (f22_ct ) (.nil) rfl (kk := ?_)
    refine tl_on rfl rfl rfl ?_
    refine tl_p (pr_eqlF Tryz.eqg27 Tryz.ff27 rfl rfl (by rw [head_r3]; first | done | rfl)) rfl ?_
    refine tl_p (pr_pickT rfl rfl) rfl ?_
    refine tl_p (pr_move rfl) rfl ?_
    refine tl_on rfl rfl rfl ?_
    refine tl_p (pr_move rfl) rfl ?_
    refine tl_on rfl rfl rfl ?_
    refine tl_rdS (f21_ct p29.tb (headI 8).pos p29.rb p29.fb) (.cons rfl .nil) rfl (kk := ?_)
    refine tl_on rfl rfl rfl ?_
    refine tl_p (pr_field Tryz.fo27_3 rfl rfl) rfl ?_
    refine tl_on rfl rfl rfl ?_
    refine tl_p (pr_eq (v' := .bool true) (pr_eql rfl rfl) (by rw [head_pos]; first | done | rfl)) rfl ?_
    refine tl_p (pr_pickT rfl rfl) rfl ?_
    refine tl_p (pr_move rfl) rfl ?_
    refine tl_on rfl rfl rfl ?_
    refine tl_p (pr_move rfl) rfl ?_
    refine tl_on rfl rfl rfl ?_
    refine tl_callS (f29_ct p29.tb (headI 8).pos p29.rb p29.fb (headI 8).regs (hI_len 8) (headI 8).fs) (.cons rfl .nil) rfl (kk := fun ⟨s85, hs85, hb85⟩ => ?_)
    refine tl_on rfl rfl rfl ?_
    refine tl_p (pr_lenS Tryz.sf24 rfl (Sow.toSok hs85)) rfl ?_
    refine tl_on rfl rfl rfl ?_
    refine tl_p (pr_eq (v' := .bool true) (pr_eql rfl rfl) (by rw [head_fs]; first | done | rfl)) rfl ?_
    refine tl_p (pr_pickT rfl rfl) rfl ?_
    refine tl_p (pr_move rfl) rfl ?_
    refine tl_on rfl rfl rfl ?_
    refine tl_p (pr_move rfl) rfl ?_
    refine tl_on rfl rfl rfl ?_
    refine tl_rdS (Rd.val (v' := .bool true) ((f48_ct p29.mb p29.ms (headI 8).m (hm29.of ((hI_n 8).trans (hI_n 0).symm)) 528 (by omega)).cast rfl (by rw [hI_n 8])) (by rw [head_tag])) (.cons rfl (.cons rfl .nil)) rfl (kk := ?_)
    refine tl_p (pr_pickT rfl rfl) rfl ?_
    refine tl_p (pr_assign rfl) rfl ?_
    refine tl_next ?_
    refine tc_ret ?_
    exact tq_ret1 .ret (.inl rfl) () rfl rfl

end Go.Proofs

namespace Go.Proofs
open Go Go.Sz
attribute [local irreducible] pt lift exs own emp

theorem stepE_ct (p : Pl) {pos : Cap} {regs : List Cap} {fs : List Fr} {m : MemM} {W : List Int} {i : Stp} (hi : stepF pos regs fs m W 64 = i) (hl : regs.length = 8) (hm : MOk p.ms m) (hn : m.n = 4) (hw : ShOk p.ps W 64) (hW : W.length = 1) :
    Ct Tryz.prog 19 #[ad p.tb 0, ad p.mb 0, ad p.sb 0] [] (worldS p pos regs fs m W) (fun _ : Unit => didV i.did) (fun _ N => worldI p i W ++ N) := by
  subst hi; exact step_ct p pos regs fs m W hl hm hn hw hW
/-! what a step comes to -/
section
variable {pos : Cap} {regs : List Cap} {fs : List Fr} {m : MemM} {W : List Int} {g : Nat} {x : Ins}
theorem step_went (hi : insP pos m = (x, 0)) (h0 : ¬ x.op = 0) (h29 : ¬ x.op = 29) (ha : aluIs x.op = false) (he : exE x (astep pos 4).1 pos regs fs m = 0) :
    stepF pos regs fs m W g = ⟨(0, 0, 0), exN x (astep pos 4).1 pos regs fs, exR x (astep pos 4).1 pos regs fs m W g, exF x (astep pos 4).1 regs fs, exM x regs m⟩ := by
  unfold stepF; rw [hi]
  rw [if_neg (by simp), if_neg h0, if_neg h29, if_neg (by rw [ha]; simp), if_pos he]
theorem step_trap (hi : insP pos m = (x, 0)) (h0 : ¬ x.op = 0) (h29 : ¬ x.op = 29) (ha : aluIs x.op = false) (he : ¬ exE x (astep pos 4).1 pos regs fs m = 0) :
    stepF pos regs fs m W g = ⟨(2, 0, exE x (astep pos 4).1 pos regs fs m), pos, exR x (astep pos 4).1 pos regs fs m W g, exF x (astep pos 4).1 regs fs, exM x regs m⟩ := by
  unfold stepF; rw [hi]
  rw [if_neg (by simp), if_neg h0, if_neg h29, if_neg (by rw [ha]; simp), if_neg he]
theorem step_alu (hi : insP pos m = (x, 0)) (h0 : ¬ x.op = 0) (h29 : ¬ x.op = 29) (ha : aluIs x.op = true) :
    stepF pos regs fs m W g = (if (aluDo x.op (getR regs x.b).pos (getR regs x.c).pos).2 = 0 then ⟨(0, 0, 0), (astep pos 4).1, setE regs x.a (intC (aluDo x.op (getR regs x.b).pos (getR regs x.c).pos).1) 0, fs, m⟩ else ⟨(2, 0, (aluDo x.op (getR regs x.b).pos (getR regs x.c).pos).2), pos, regs, fs, m⟩) := by
  unfold stepF; rw [hi]
  rw [if_neg (by simp), if_neg h0, if_neg h29, if_pos ha]
end
theorem permRight_iff {p : Int} (h1 : -9223372036854775808 ≤ p) (h2 : p ≤ 9223372036854775807) : permRight p = (decide (0 ≤ p) && decide (p ≤ 127)) := by
  unfold permRight bAndNot
  have key : IntKind.i64.wrap ((BitVec.ofInt IntKind.i64.bits p &&& ~~~BitVec.ofInt IntKind.i64.bits 127).toNat) = 0 ↔ 0 ≤ p ∧ p ≤ 127 := by
    show IntKind.i64.wrap (((BitVec.ofInt 64 p &&& ~~~BitVec.ofInt 64 127).toNat : Nat) : Int) = 0 ↔ _
    have hx := toNat_ofInt64 p
    generalize BitVec.ofInt 64 p = x at hx
    have h3 : (x &&& ~~~BitVec.ofInt 64 127).toNat = 0 ↔ x.toNat < 128 := by
      have e1 : (~~~BitVec.ofInt 64 127 : BitVec 64) = BitVec.ofNat 64 (2 ^ 64 - 2 ^ 7) := by decide
      rw [e1]
      constructor
      · intro h
        have h4 : x &&& BitVec.ofNat 64 (2 ^ 64 - 2 ^ 7) = 0 := BitVec.eq_of_toNat_eq (by simpa using h)
        have h5 : x >>> 7 = 0 := by
          apply BitVec.eq_of_getLsbD_eq
          intro i hi
          have := congrArg (fun y : BitVec 64 => y.getLsbD (7 + i)) h4
          simp only [BitVec.getLsbD_and, BitVec.getLsbD_ushiftRight] at this ⊢
          by_cases c : 7 + i < 64
          · have e2 : (BitVec.ofNat 64 (2 ^ 64 - 2 ^ 7)).getLsbD (7 + i) = true := by
              have : ∀ j : Fin 64, 7 ≤ j.val → (BitVec.ofNat 64 (2 ^ 64 - 2 ^ 7)).getLsbD j.val = true := by decide
              exact this ⟨7 + i, c⟩ (by simp)
            rw [e2] at this; simpa using this
          · simp [BitVec.getLsbD_of_ge _ _ (show 64 ≤ 7 + i by omega)]
        have h6 : x.toNat / 2 ^ 7 = 0 := by
          have := congrArg BitVec.toNat h5
          simpa [BitVec.toNat_ushiftRight, Nat.shiftRight_eq_div_pow] using this
        have := Nat.div_eq_zero_iff.1 h6
        omega
      · intro h
        have h4 : x &&& BitVec.ofNat 64 (2 ^ 64 - 2 ^ 7) = 0 := by
          apply BitVec.eq_of_getLsbD_eq
          intro i hi
          simp only [BitVec.getLsbD_and]
          by_cases c : i < 7
          · have : ∀ j : Fin 64, j.val < 7 → (BitVec.ofNat 64 (2 ^ 64 - 2 ^ 7)).getLsbD j.val = false := by decide
            rw [this ⟨i, hi⟩ c]; simp
          · have : x.getLsbD i = false := by
              rw [BitVec.getLsbD, Nat.testBit_lt_two_pow]
              exact Nat.lt_of_lt_of_le h (show 2 ^ 7 ≤ 2 ^ i from Nat.pow_le_pow_right (n := 2) (by omega) (by omega))
            rw [this]; simp
        rw [h4]; rfl
    have hb : (x &&& ~~~BitVec.ofInt 64 127).toNat < 2 ^ 64 := BitVec.isLt _
    generalize (x &&& ~~~BitVec.ofInt 64 127).toNat = y at h3 hb
    have hw : IntKind.i64.wrap (y : Int) = 0 ↔ y = 0 := by
      unfold IntKind.wrap; simp [IntKind.bits, IntKind.signed]; split <;> omega
    rw [hw, h3]; omega
  rw [Bool.eq_iff_iff, decide_eq_true_iff, key]; simp

end Go.Proofs

namespace Go.Proofs
open Go Go.Sz
attribute [local irreducible] pt lift exs own emp

abbrev P256 (n : Int) : Cap := ⟨true, 256, 512, n, 5, 0⟩
theorem capRight_of {c : Cap} (h : 0 ≤ c.base ∧ c.base ≤ c.top ∧ c.top ≤ 16777216 ∧ 0 ≤ c.pos ∧ c.pos ≤ 4294967295) (hp : permRight c.perms = true) (ht : 0 ≤ c.typ ∧ c.typ ≤ 255) : capRight c = true := by
  unfold capRight spanRight spanHas
  simp [hp]; omega
theorem perm27 : permRight 27 = true := by kernel_rfl
theorem perm96 : permRight 96 = true := by kernel_rfl
theorem astep256 : (astep (P256 256) 4).1 = P256 260 := by kernel_rfl
theorem astep260 : (astep (P256 260) 4).1 = P256 264 := by kernel_rfl
theorem astep264 : (astep (P256 264) 4).1 = P256 268 := by kernel_rfl
theorem made_yes {c c' : Cap} {l : List Must} (h : ∀ m ∈ l, m.1 = true) : made c c' l = (c', 0) := by
  have : mfirst l = 0 := by
    induction l with
    | nil => rfl
    | cons m l ih =>
      have := h m List.mem_cons_self
      unfold mfirst; rw [if_pos this]; exact ih fun y hy => h y (List.mem_cons_of_mem _ hy)
  unfold made; rw [if_pos this]
theorem wI_of {i : Int} (h : -9223372036854775808 ≤ i ∧ i ≤ 9223372036854775807) : wI i = i := wrap_i64 h
def sealX : CaseM := ⟨[⟨20, 3, 1, 2⟩, ⟨21, 4, 3, 2⟩, ⟨11, 5, 3, 0⟩, ⟨0, 0, 0, 0⟩], [], [], [], nullC⟩
def sealM : MemM := madeM sealX
def sealW : List Int := madeW sealX
theorem seal_great : greatC sealX = false := by kernel_rfl
theorem seal_pos : posC sealX = P256 256 := by kernel_rfl
theorem seal_regs : madeR sealX = [nullC, nullC, nullC, nullC, nullC, nullC, nullC, nullC] := by kernel_rfl
theorem seal_i1 : insP (P256 256) sealM = (⟨20, 3, 1, 2⟩, 0) := by kernel_rfl
theorem seal_i2 : insP (P256 260) sealM = (⟨21, 4, 3, 2⟩, 0) := by kernel_rfl
theorem seal_i3 : insP (P256 264) sealM = (⟨11, 5, 3, 0⟩, 0) := by kernel_rfl
theorem sealM_n : sealM.n = 4 := madeMJ_n _ _
theorem sealW_len : sealW.length = 1 := madeWJ_len _ _
section
variable {k a : Int} (hk : 2 ≤ k ∧ k ≤ 201) (ha : 0 ≤ a ∧ a ≤ 255)
abbrev sealD (a t : Int) : Cap := ⟨true, 512, 768, 512 + a, 27, t⟩
abbrev sealY (k : Int) : Cap := ⟨true, k, k + 1, k, 96, 0⟩
abbrev sealR (k a : Int) (c e : Cap) : List Cap := [nullC, sealD a 0, sealY k, c, e, nullC, nullC, nullC]
include hk ha
omit hk in
theorem seal_d {t : Int} (ht : 0 ≤ t ∧ t ≤ 255) : capRight (sealD a t) = true := capRight_of (by dsimp only; omega) perm27 ht
omit ha in
theorem seal_y : capRight (sealY k) = true := capRight_of (by dsimp only; omega) perm96 (by dsimp only; omega)
omit ha in
theorem seal_in : capIn (sealY k) k 1 = true := by
  unfold capIn; simp only; rw [show IntKind.i64.wrap (k + 1 - k) = 1 from wI_of (by omega) |>.trans (by omega)]; simp; omega
theorem seal_seal : dSeal (sealD a 0) (sealY k) = (sealD a k, 0) := by
  refine made_yes ?_
  simp only [mUsed, mAuth, List.cons_append, List.nil_append, List.forall_mem_cons]
  refine ⟨seal_d ha (by omega), rfl, rfl, seal_y hk, rfl, rfl, by kernel_rfl, seal_in hk, by simp; omega, by simp⟩
theorem seal_uns : dUnseal (sealD a k) (sealY k) = (sealD a 0, 0) := by
  refine made_yes ?_
  simp only [mUsed, mAuth, List.cons_append, List.nil_append, List.append_nil, List.forall_mem_cons, mRight, mTag, mSealed, mHas, mSpans]
  refine ⟨seal_d ha (by omega), by trivial, by simp; omega, seal_y hk, by trivial, by trivial, by kernel_rfl, seal_in hk, by simp; omega, by simp, by simp⟩
theorem seal_s1 : stepF (P256 256) (sealR k a nullC nullC) [] sealM sealW 64 = ⟨(0, 0, 0), P256 260, sealR k a (sealD a k) nullC, [], sealM⟩ := by
  have e : exD (⟨20, 3, 1, 2⟩ : Ins) (sealR k a nullC nullC) = (sealD a k, 0) := seal_seal hk ha
  rw [step_went seal_i1 (by decide) (by decide) rfl (show (exD _ _).2 = 0 from by rw [e]), astep256]
  have e2 : exR (⟨20, 3, 1, 2⟩ : Ins) (P256 260) (P256 256) (sealR k a nullC nullC) [] sealM sealW 64 = sealR k a (sealD a k) nullC := by
    show setE _ _ (exD _ _).1 (exD _ _).2 = _
    rw [e]
    unfold setE setR; rw [if_pos rfl, seal_d ha (by omega)]; rfl
  rw [e2]; rfl
theorem seal_s2 : stepF (P256 260) (sealR k a (sealD a k) nullC) [] sealM sealW 64 = ⟨(0, 0, 0), P256 264, sealR k a (sealD a k) (sealD a 0), [], sealM⟩ := by
  have e : exD (⟨21, 4, 3, 2⟩ : Ins) (sealR k a (sealD a k) nullC) = (sealD a 0, 0) := seal_uns hk ha
  rw [step_went seal_i2 (by decide) (by decide) rfl (show (exD _ _).2 = 0 from by rw [e]), astep260]
  have e2 : exR (⟨21, 4, 3, 2⟩ : Ins) (P256 264) (P256 260) (sealR k a (sealD a k) nullC) [] sealM sealW 64 = sealR k a (sealD a k) (sealD a 0) := by
    show setE _ _ (exD _ _).1 (exD _ _).2 = _
    rw [e]
    unfold setE setR; rw [if_pos rfl, seal_d ha (by omega)]; rfl
  rw [e2]; rfl
theorem seal_s3 : stepF (P256 264) (sealR k a (sealD a k) (sealD a 0)) [] sealM sealW 64 = ⟨(2, 0, 42), P256 264, sealR k a (sealD a k) (sealD a 0), [], sealM⟩ := by
  have e : ldP (sealR k a (sealD a k) (sealD a 0)) ⟨11, 5, 3, 0⟩ = (0, 42) := by
    show acheck (sealD a k) 1 0 1 = _
    unfold acheck
    rw [if_neg (by rw [seal_d ha (by omega)]; simp), if_neg (by rw [show permRight 1 = true from by kernel_rfl]; simp), if_neg (by omega), if_neg (by omega), if_neg (by simp), if_pos (by dsimp only; omega)]
  have e1 : ldE (sealR k a (sealD a k) (sealD a 0)) ⟨11, 5, 3, 0⟩ sealM = 42 := by unfold ldE; rw [e]; rfl
  have e2 : ldR (sealR k a (sealD a k) (sealD a 0)) ⟨11, 5, 3, 0⟩ sealM = sealR k a (sealD a k) (sealD a 0) := by unfold ldR; rw [e]; rfl
  have h : exE (⟨11, 5, 3, 0⟩ : Ins) (P256 268) (P256 264) (sealR k a (sealD a k) (sealD a 0)) [] sealM = 42 := e1
  rw [step_trap seal_i3 (by decide) (by decide) rfl (by rw [astep264, h]; decide), astep264, h]
  have e3 : exR (⟨11, 5, 3, 0⟩ : Ins) (P256 268) (P256 264) (sealR k a (sealD a k) (sealD a 0)) [] sealM sealW 64 = sealR k a (sealD a k) (sealD a 0) := e2
  rw [e3]; rfl
end

end Go.Proofs

namespace Go.Proofs
open Go Go.Sz
attribute [local irreducible] pt lift exs own emp
theorem Tryz.bl29_0 {n : Nat} {D : List Deferred} {E : Env} {L : List HProp} {κ : Ctx} {T : TypeId} {x0 : Operand} {a0 : Value} (h0 : E.ev x0 = some a0) (o0 : oneV a0 = true := by rfl) :
    PR Tryz.prog (.build 29 #[(0, x0)]) T n D E L κ (.agg #[a0, .slice none 0 0, .slice none 0 0, .slice none 0 0, .bool false, .int .i64 0, .int .i64 0, .int .i64 0, .int .i64 0, .int .i64 0]) := by
  refine pr_buildS Tryz.bld29 (.cons h0 .nil) ?_
  simp [Instr.fill, cells_agg, cells_one o0]
theorem sealMade (q : CaseS) (hq : CaseOk q sealX) : Ct Tryz.prog 14 #[caseV q sealX] (caseRo q sealX) [] (X := {p : Pl // MOk p.ms sealM ∧ ShOk p.ps sealW 64}) (fun y => .tuple #[ad y.1.tb 0, ad y.1.mb 0, ad y.1.sb 0]) (fun y N => worldS y.1 (P256 256) [nullC, nullC, nullC, nullC, nullC, nullC, nullC, nullC] [] sealM sealW ++ N) := by
  have := f14_ct q sealX hq seal_great
  rw [seal_pos, seal_regs] at this
  exact this
theorem seal_r1 {k a : Int} (hk : 2 ≤ k ∧ k ≤ 201) (ha : 0 ≤ a ∧ a ≤ 255) : setR [nullC, nullC, nullC, nullC, nullC, nullC, nullC, nullC] 1 (sealD a 0) = [nullC, sealD a 0, nullC, nullC, nullC, nullC, nullC, nullC] := by
  unfold setR; rw [seal_d ha (by omega)]; rfl
theorem seal_r2 {k a : Int} (hk : 2 ≤ k ∧ k ≤ 201) (ha : 0 ≤ a ∧ a ≤ 255) : setR [nullC, sealD a 0, nullC, nullC, nullC, nullC, nullC, nullC] 2 (sealY k) = sealR k a nullC nullC := by
  unfold setR; rw [seal_y hk]; rfl
attribute [local irreducible] sealM sealW

theorem f5_ct (a0 a1 : Int) (h0 : 0 ≤ a0 ∧ a0 ≤ 255) (h1 : 0 ≤ a1 ∧ a1 ≤ 255) : Ct Tryz.prog 5 #[.int .u8 a0, .int .u8 a1] [] [] (fun _ : Unit => .bool true) (fun _ N => N) := by
  refine ct_intro Tryz.func5 rfl (by kernel_rfl) (n := 94) rfl rfl (E := [(0, .int .u8 a0), (1, .int .u8 a1)]) rfl ?_
  intro κ hro
  obtain ⟨k, hk⟩ : ∃ k : Int, k = 2 + a0 % 200 := ⟨_, rfl⟩
  have hk1 : 2 ≤ k ∧ k ≤ 201 := by omega
  refine tc_seq ?_
  refine tc_region ?_
  refine tl_p (pr_assign rfl) rfl ?_
  refine tl_next ?_
  refine tc_seq ?_
  refine tc_region ?_
  refine tl_callS (f12_ct) (.nil) rfl (kk := fun _ => ?_)
  refine tl_p (pr_assign rfl) rfl ?_
  refine tl_next ?_
  refine tc_seq ?_
  refine tc_region ?_
  refine tl_p (pr_move rfl) rfl ?_
  refine tl_p (pr_eq (v' := .int .u8 (k - 2)) (pr_rem rfl rfl (by decide)) (by rw [Int.tmod_eq_emod_of_nonneg h0.1]; congr 1; omega)) rfl ?_
  refine tl_p (pr_eqI (j := k - 2) (pr_conv Tryz.it3 Tryz.underlying5 rfl) (wI_of (by omega))) rfl ?_
  refine tl_p (pr_eqI (j := k) (pr_addN rfl rfl (by omega)) (by omega)) rfl ?_
  refine tl_p (pr_assign rfl) rfl ?_
  refine tl_next ?_
  refine tc_seq ?_
  refine tc_region ?_
  refine tl_p (Tryz.bl33_0_1_2_3 rfl rfl rfl rfl) rfl ?_
  refine tl_p (Tryz.bl33_0_1_2_3 rfl rfl rfl rfl) rfl ?_
  refine tl_p (Tryz.bl33_0_1_2 rfl rfl rfl) rfl ?_
  refine tl_p (Tryz.bl33_ ) rfl ?_
  refine tl_buildS Tryz.sf23 Tryz.z33 rfl (.cons rfl (.cons rfl (.cons rfl (.cons rfl .nil)))) rfl rfl (c := insL sealX.code) rfl rfl rfl (kk := fun s24 hs24 ms24 => ?_)
  refine tl_p (Tryz.bl29_0 rfl (o0 := sv_one _ _)) rfl ?_
  refine tl_alloc Tryz.z29 rfl (fun b7 => ?_)
  refine tl_storeW Tryz.sz29 rfl rfl (h1 := by show allOne (caseL ⟨s24, 4, .nil, 0, .nil, 0, .nil, 0⟩ sealX) = true; simp only [allOne, sv_one]; rfl) (k := ?_)
  refine tl_next ?_
  refine tc_seq ?_
  refine tc_region ?_
  refine tl_p (by first | exact pr_loadW Tryz.ag29 Tryz.sz29 rfl | exact pr_ldA Tryz.ag29 Tryz.sz29 rfl) rfl ?_
  refine tl_callS (sealMade ⟨s24, 4, .nil, 0, .nil, 0, .nil, 0⟩ ⟨hs24.toSok, Sok.nil, Sok.nil, Sok.nil⟩) (.cons rfl .nil) rfl (hro := Rdbs.app (Rdbs.sl (.own (by repeat (first | exact Has.here | apply Has.there)))) .nil) (kk := fun ⟨p28, hm28, hw28⟩ => ?_)
  refine tl_p (pr_move rfl) rfl ?_
  refine tl_p (pr_extract rfl rfl) rfl ?_
  refine tl_p (pr_extract rfl rfl) rfl ?_
  refine tl_p (pr_extract rfl rfl) rfl ?_
  refine tl_p (pr_assign rfl) rfl ?_
  refine tl_p (pr_assign rfl) rfl ?_
  refine tl_p (pr_assign rfl) rfl ?_
  refine tl_next ?_
  refine tc_seq ?_
  refine tc_seq ?_
  refine tc_region ?_
  refine tl_p (pr_move rfl) rfl ?_
  refine tl_p (pr_eqlP Tryz.underlying34 rfl (.inr ⟨_, rfl⟩)) rfl ?_
  refine tl_next ?_
  refine tc_if_false rfl rfl ?_
  refine tc_skip (tq_next ?_)
  refine tc_seq ?_
  refine tc_region ?_
  refine tl_rdS (f22_ct ) (.nil) rfl (kk := ?_)
  refine tl_alloc Tryz.z27 rfl (fun b11 => ?_)
  refine tl_storeW Tryz.sz27 rfl rfl (k := ?_)
  refine tl_next ?_
  refine tc_seq ?_
  refine tc_region ?_
  refine tl_p (pr_move rfl) rfl ?_
  refine tl_p (pr_eqI (j := a1) (pr_conv Tryz.it3 Tryz.underlying5 rfl) (wI_of (by omega))) rfl ?_
  refine tl_p (pr_addN rfl rfl (by omega)) rfl ?_
  refine tl_p (pr_fieldAddr Tryz.fo27_3 rfl) rfl ?_
  refine tl_st Tryz.sz3 rfl rfl (k := ?_)
  refine tl_next ?_
  refine tc_seq ?_
  refine tc_draw Tryz.mixed [0, 1, 2] (by kernel_rfl) ?_
  refine td_q 0 39 (pm_of rfl rfl rfl (fun _ kq => tl_p (pr_move rfl) rfl kq)) rfl rfl rfl ?_
  refine td_q 1 40 (pm_of rfl rfl rfl (fun _ kq => tl_rdS (f15_ct p28.tb _ p28.rb p28.fb) (.cons rfl .nil) rfl (kk := kq))) rfl rfl rfl ?_
  refine td_q 2 41 (pm_of rfl rfl rfl (fun _ kq => tl_p (by first | exact pr_loadW Tryz.ag27 Tryz.sz27 rfl | exact pr_ldA Tryz.ag27 Tryz.sz27 rfl) rfl kq)) rfl rfl rfl ?_
  refine td_e1 3 (by kernel_rfl) ?_
  refine te rfl ?_
  refine tl_callS (f16_ct p28.rb [nullC, nullC, nullC, nullC, nullC, nullC, nullC, nullC] rfl 1 (sealD a1 0)) (.cons rfl (.cons rfl (.cons rfl .nil))) rfl (kk := fun _ => ?_)
  refine td_next (pd := []) (by kernel_rfl) (.nil) ?_
  refine td_done (by kernel_rfl) ?_
  refine tq_next ?_
  refine tc_seq ?_
  refine tc_region ?_
  refine tl_p (pr_move rfl) rfl ?_
  refine tl_rdS (f15_ct p28.tb _ p28.rb p28.fb) (.cons rfl .nil) rfl (kk := ?_)
  refine tl_p (pr_move rfl) rfl ?_
  refine tl_p (pr_move rfl) rfl ?_
  refine tl_p (pr_addN rfl rfl (by omega)) rfl ?_
  refine tl_p (pr_move rfl) rfl ?_
  refine tl_p (Tryz.bl27_0_1_2_3_4 rfl rfl rfl rfl rfl) rfl ?_
  refine tl_callS (f16_ct p28.rb (setR [nullC, nullC, nullC, nullC, nullC, nullC, nullC, nullC] 1 (sealD a1 0)) (by rw [setR_len]; rfl) 2 (sealY k)) (.cons rfl (.cons rfl (.cons rfl .nil))) rfl (kk := fun _ => ?_)
  rw [seal_r1 hk1 h1, seal_r2 hk1 h1]
  refine tl_next ?_
  refine tc_seq ?_
  refine tc_region ?_
  refine tl_p (pr_move rfl) rfl ?_
  refine tl_p (pr_move rfl) rfl ?_
  refine tl_p (pr_move rfl) rfl ?_
  refine tl_callS (stepE_ct p28 (seal_s1 hk1 h1) rfl hm28 sealM_n hw28 sealW_len) (.cons rfl (.cons rfl (.cons rfl .nil))) rfl (kk := fun _ => ?_)
  refine tl_alloc Tryz.z46 rfl (fun b12 => ?_)
  refine tl_storeW Tryz.sz46 rfl rfl (k := ?_)
  refine tl_next ?_
  refine tc_seq ?_
  refine tc_region ?_
  refine tl_p (pr_move rfl) rfl ?_
  refine tl_p (pr_move rfl) rfl ?_
  refine tl_p (pr_move rfl) rfl ?_
  refine tl_callS (stepE_ct p28 (seal_s2 hk1 h1) rfl hm28 sealM_n hw28 sealW_len) (.cons rfl (.cons rfl (.cons rfl .nil))) rfl (kk := fun _ => ?_)
  refine tl_alloc Tryz.z46 rfl (fun b13 => ?_)
  refine tl_storeW Tryz.sz46 rfl rfl (k := ?_)
  refine tl_next ?_
  refine tc_seq ?_
  refine tc_region ?_
  refine tl_p (pr_move rfl) rfl ?_
  refine tl_p (pr_move rfl) rfl ?_
  refine tl_p (pr_move rfl) rfl ?_
  refine tl_callS (stepE_ct p28 (seal_s3 hk1 h1) rfl hm28 sealM_n hw28 sealW_len) (.cons rfl (.cons rfl (.cons rfl .nil))) rfl (kk := fun _ => ?_)
  refine tl_alloc Tryz.z46 rfl (fun b14 => ?_)
  refine tl_storeW Tryz.sz46 rfl rfl (k := ?_)
  refine tl_next ?_
  refine tc_seq ?_
  refine tc_draw Tryz.mixed [0, 1, 2, 3, 4, 5, 6, 7, 8, 9, 10, 11, 12, 13, 14, 15, 16, 17, 18, 19, 20, 21, 22, 23, 24, 25, 26, 27, 28, 29, 30] (by kernel_rfl) ?_
  refine td_q 0 63 (pm_of rfl rfl rfl (fun _ kq => tl_p (pr_move rfl) rfl kq)) rfl rfl rfl ?_
  refine td_q 1 64 (pm_of rfl rfl rfl (fun _ kq => tl_p (pr_move rfl) rfl kq)) rfl rfl rfl ?_
  refine td_q 2 65 (pm_of rfl rfl rfl (fun _ kq => tl_gt rfl rfl (fun h => by first | exact pr_loadW Tryz.ag46 Tryz.sz46 rfl | exact pr_ldA Tryz.ag46 Tryz.sz46 rfl) (by intro _ h; cases h) rfl kq)) rfl rfl rfl ?_
  refine td_q 3 66 (pm_of rfl rfl rfl (fun _ kq => tl_gt rfl rfl (fun h => Tryz.bl46_ ) (by intro _ h; cases h) rfl kq)) rfl rfl rfl ?_
  refine td_q 4 67 (pm_of rfl rfl rfl (fun _ kq => tl_gt rfl rfl (fun h => pr_eqlF Tryz.eqg46 Tryz.ff46 (gv rfl h) (gv rfl h) rfl) (by intro _ h; cases h) rfl kq)) rfl rfl rfl ?_
  refine td_q 5 68 (pm_of rfl rfl rfl (fun _ kq => tl_p (pr_and rfl rfl rfl) rfl kq)) rfl rfl rfl ?_
  refine td_q 6 69 (pm_of rfl rfl rfl (fun _ kq => tl_p (pr_move rfl) rfl kq)) rfl rfl rfl ?_
  refine td_q 7 70 (pm_of rfl rfl rfl (fun _ kq => tl_gt rfl rfl (fun h => by first | exact pr_loadW Tryz.ag46 Tryz.sz46 rfl | exact pr_ldA Tryz.ag46 Tryz.sz46 rfl) (by intro _ h; cases h) rfl kq)) rfl rfl rfl ?_
  refine td_q 8 71 (pm_of rfl rfl rfl (fun _ kq => tl_gt rfl rfl (fun h => by first | exact pr_loadW Tryz.ag46 Tryz.sz46 rfl | exact pr_ldA Tryz.ag46 Tryz.sz46 rfl) (by intro _ h; cases h) rfl kq)) rfl rfl rfl ?_
  refine td_q 9 72 (pm_of rfl rfl rfl (fun _ kq => tl_gt rfl rfl (fun h => pr_eqlF Tryz.eqg46 Tryz.ff46 (gv rfl h) (gv rfl h) rfl) (by intro _ h; cases h) rfl kq)) rfl rfl rfl ?_
  refine td_q 10 73 (pm_of rfl rfl rfl (fun _ kq => tl_p (pr_and rfl rfl rfl) rfl kq)) rfl rfl rfl ?_
  refine td_q 11 74 (pm_of rfl rfl rfl (fun _ kq => tl_p (pr_move rfl) rfl kq)) rfl rfl rfl ?_
  refine td_q 12 75 (pm_of rfl rfl rfl (fun _ kq => tl_gt rfl rfl (fun h => pr_move rfl) (by intro _ h; cases h) rfl kq)) rfl rfl rfl ?_
  refine td_q 13 76 (pm_of rfl rfl rfl (fun _ kq => tl_rdgtS rfl rfl (fun h => ⟨f15_ct p28.tb _ p28.rb p28.fb, .cons (gv rfl h) .nil⟩) rfl (kk := kq))) rfl rfl rfl ?_
  refine td_q 14 77 (pm_of rfl rfl rfl (fun _ kq => tl_rdgtS rfl rfl (fun h => ⟨f23_ct p28.rb (sealR k a1 (sealD a1 k) (sealD a1 0)) rfl 3, .cons (gv rfl h) (.cons rfl .nil)⟩) rfl (kk := kq))) rfl rfl rfl ?_
  refine td_q 15 78 (pm_of rfl rfl rfl (fun _ kq => tl_gt rfl rfl (fun h => pr_field Tryz.fo27_5 (gv rfl h) rfl) (by intro _ h; cases h) rfl kq)) rfl rfl rfl ?_
  refine td_q 16 79 (pm_of rfl rfl rfl (fun _ kq => tl_gt rfl rfl (fun h => pr_move rfl) (by intro _ h; cases h) rfl kq)) rfl rfl rfl ?_
  refine td_q 17 80 (pm_of rfl rfl rfl (fun _ kq => tl_gt rfl rfl (fun h => pr_eq (v' := .bool true) (pr_eql (gv rfl h) (gv rfl h)) (by show Value.bool (decide (k = k)) = _; simp)) (by intro _ h; cases h) rfl kq)) rfl rfl rfl ?_
  refine td_q 18 81 (pm_of rfl rfl rfl (fun _ kq => tl_p (pr_and rfl rfl rfl) rfl kq)) rfl rfl rfl ?_
  refine td_q 19 82 (pm_of rfl rfl rfl (fun _ kq => tl_p (pr_move rfl) rfl kq)) rfl rfl rfl ?_
  refine td_q 20 83 (pm_of rfl rfl rfl (fun _ kq => tl_gt rfl rfl (fun h => pr_move rfl) (by intro _ h; cases h) rfl kq)) rfl rfl rfl ?_
  refine td_q 21 84 (pm_of rfl rfl rfl (fun _ kq => tl_rdgtS rfl rfl (fun h => ⟨f15_ct p28.tb _ p28.rb p28.fb, .cons (gv rfl h) .nil⟩) rfl (kk := kq))) rfl rfl rfl ?_
  refine td_q 22 85 (pm_of rfl rfl rfl (fun _ kq => tl_rdgtS rfl rfl (fun h => ⟨f23_ct p28.rb (sealR k a1 (sealD a1 k) (sealD a1 0)) rfl 4, .cons (gv rfl h) (.cons rfl .nil)⟩) rfl (kk := kq))) rfl rfl rfl ?_
  refine td_q 23 86 (pm_of rfl rfl rfl (fun _ kq => tl_gt rfl rfl (fun h => by first | exact pr_loadW Tryz.ag27 Tryz.sz27 rfl | exact pr_ldA Tryz.ag27 Tryz.sz27 rfl) (by intro _ h; cases h) rfl kq)) rfl rfl rfl ?_
  refine td_q 24 87 (pm_of rfl rfl rfl (fun _ kq => tl_gt rfl rfl (fun h => pr_eqlF Tryz.eqg27 Tryz.ff27 (gv rfl h) (gv rfl h) (b := true) (by simp [eqAt, eqCell, getR, isReg])) (by intro _ h; cases h) rfl kq)) rfl rfl rfl ?_
  refine td_q 25 88 (pm_of rfl rfl rfl (fun _ kq => tl_p (pr_and rfl rfl rfl) rfl kq)) rfl rfl rfl ?_
  refine td_q 26 89 (pm_of rfl rfl rfl (fun _ kq => tl_p (pr_move rfl) rfl kq)) rfl rfl rfl ?_
  refine td_q 27 90 (pm_of rfl rfl rfl (fun _ kq => tl_gt rfl rfl (fun h => by first | exact pr_loadW Tryz.ag46 Tryz.sz46 rfl | exact pr_ldA Tryz.ag46 Tryz.sz46 rfl) (by intro _ h; cases h) rfl kq)) rfl rfl rfl ?_
  refine td_q 28 91 (pm_of rfl rfl rfl (fun _ kq => tl_gt rfl rfl (fun h => Tryz.bl46_0_2 rfl rfl) (by intro _ h; cases h) rfl kq)) rfl rfl rfl ?_
  refine td_q 29 92 (pm_of rfl rfl rfl (fun _ kq => tl_gt rfl rfl (fun h => pr_eqlF Tryz.eqg46 Tryz.ff46 (gv rfl h) (gv rfl h) rfl) (by intro _ h; cases h) rfl kq)) rfl rfl rfl ?_
  refine td_q 30 93 (pm_of rfl rfl rfl (fun _ kq => tl_p (pr_and rfl rfl rfl) rfl kq)) rfl rfl rfl ?_
  refine td_e1 31 (by kernel_rfl) ?_
  refine te rfl ?_
  refine tl_p (pr_assign rfl) rfl ?_
  refine td_next (pd := []) (by kernel_rfl) (.nil) ?_
  refine td_done (by kernel_rfl) ?_
  refine tq_next ?_
  refine tc_ret ?_
  exact tq_ret1 .ret (.inl rfl) () rfl rfl

end Go.Proofs

namespace Go.Proofs
open Go Go.Sz
attribute [local irreducible] pt lift exs own emp

/-! memory, read behind a store -/
theorem bs_get {m : MemM} {a k i : Nat} (h : i < (m.bs a k).length) : (m.bs a k)[i] = m.B (a + i) := by simp [MemM.bs]
theorem bs_congr {m m' : MemM} {a k : Nat} (h : ∀ x, a ≤ x → x < a + k → m.B x = m'.B x) : m.bs a k = m'.bs a k := by
  unfold MemM.bs
  apply List.map_congr_left
  intro q hq; simp at hq
  exact h _ (by omega) (by omega)
theorem bs_sto_out {m : MemM} {a k p : Nat} {l : List Int} (h : p + k ≤ a ∨ a + l.length ≤ p) : (m.sto a l).bs p k = m.bs p k := by
  apply bs_congr
  intro x h1 h2
  show (if a ≤ x ∧ x < a + l.length then l.getD (x - a) 0 else m.B x) = _
  rw [if_neg (by omega)]
theorem bs_sto_in {m : MemM} {a k p : Nat} {l : List Int} (h1 : a ≤ p) (h2 : p + k ≤ a + l.length) : (m.sto a l).bs p k = (l.drop (p - a)).take k := by
  apply List.ext_getElem
  · simp [MemM.bs]; omega
  · intro i g1 g2
    rw [bs_get]
    simp [MemM.bs] at g1
    show (if a ≤ p + i ∧ p + i < a + l.length then l.getD (p + i - a) 0 else m.B (p + i)) = _
    rw [if_pos (by omega)]
    simp only [List.getElem_take, List.getElem_drop]
    rw [List.getD_eq_getElem?_getD, List.getElem?_eq_getElem (by omega)]
    simp only [Option.getD_some]
    congr 1; omega
theorem memIn_of4 {m : MemM} {p k : Int} (hn : m.n = 4) (h0 : 0 ≤ p) (hk : 0 ≤ k) (h : p + k ≤ 1024) : memIn m p k = true := by
  unfold memIn; rw [hn]; simp; omega
theorem memLoad_of {m : MemM} {p k : Int} (h : memIn m p k = true) : memLoad m p k = m.bs p.toNat k.toNat := if_pos h
theorem memSto_of {m : MemM} {p : Int} {l : List Int} (h : memIn m p l.length = true) : memSto m p l = m.sto p.toNat l := if_pos h
/-! instructions, put and got -/
theorem putI_4 {x : Ins} (h : insRight x = true) : (putI x).length = 4 := by
  by_cases c : kAt x.op 1 = 119
  · rw [putI_wide h c]; rfl
  · rw [putI_slim h c]; rfl
theorem code_at {l : List Ins} (h : ∀ x ∈ l, insRight x = true) {i : Nat} (hi : i < l.length) : ((codeB l).drop (4 * i)).take 4 = putI l[i] := by
  induction l generalizing i with
  | nil => simp at hi
  | cons x l ih =>
    have hx := putI_4 (h x List.mem_cons_self)
    show ((putI x ++ codeB l).drop (4 * i)).take 4 = _
    cases i with
    | zero => simp [← hx]
    | succ i =>
      rw [show 4 * (i + 1) = (putI x).length + 4 * i from by omega, List.drop_append, List.drop_of_length_le (by omega), List.nil_append, Nat.add_sub_cancel_left, ih (fun y hy => h y (List.mem_cons_of_mem _ hy)) (by simpa using hi)]
      rfl
theorem codeB_len {l : List Ins} (h : ∀ x ∈ l, insRight x = true) : (codeB l).length = 4 * l.length := by
  induction l with
  | nil => rfl
  | cons x l ih =>
    show (putI x ++ codeB l).length = _
    rw [List.length_append, putI_4 (h x List.mem_cons_self), ih fun y hy => h y (List.mem_cons_of_mem _ hy), List.length_cons]; omega
theorem fine_bd {k n : Int} (h : fineR k n = true) : -32768 ≤ n ∧ n ≤ 32767 ∧ (¬ k = 119 → 0 ≤ n ∧ n ≤ 255) ∧ (¬ k = 114 → ¬ k = 105 → ¬ k = 119 → n = 0) := by
  unfold fineR at h
  repeat' split at h
  all_goals simp at h; omega
theorem wide_kinds {op : Int} : wideOp op = decide (kAt op 1 = 119) := by
  unfold wideOp kAt
  rcases kinds_or op with h | h | h | h | h | h | h | h <;> rw [h] <;> rfl
theorem kinds_wide {op : Int} (h : kAt op 1 = 119) : ¬ kAt op 0 = 119 ∧ kAt op 2 = 118 := by
  revert h
  unfold kAt
  rcases kinds_or op with h | h | h | h | h | h | h | h <;> rw [h] <;> decide
theorem kinds_slim {op : Int} : ¬ kAt op 0 = 119 ∧ ¬ kAt op 2 = 119 := by
  unfold kAt
  rcases kinds_or op with h | h | h | h | h | h | h | h <;> rw [h] <;> decide
theorem right_bd {x : Ins} (h : insRight x = true) : 0 ≤ x.op ∧ x.op ≤ 29 ∧ 0 ≤ x.a ∧ x.a ≤ 255 ∧ 0 ≤ x.c ∧ x.c ≤ 255 ∧ -32768 ≤ x.b ∧ x.b ≤ 32767 ∧ (¬ kAt x.op 1 = 119 → 0 ≤ x.b ∧ x.b ≤ 255) ∧ (kAt x.op 1 = 119 → x.c = 0) := by
  have h2 := h
  rw [insRight_ref] at h
  simp only [Bool.and_eq_true] at h
  obtain ⟨⟨⟨_, ha⟩, hb⟩, hc⟩ := h
  have ⟨k0, k2⟩ := kinds_slim (op := x.op)
  have fa := fine_bd ha
  have fb := fine_bd hb
  have fc := fine_bd hc
  have ⟨a1, a2⟩ := fa.2.2.1 k0
  have ⟨c1, c2⟩ := fc.2.2.1 k2
  have ho : 0 ≤ x.op ∧ x.op ≤ 29 := by
    unfold insRight at h2; simp at h2; exact h2.2
  refine ⟨ho.1, ho.2, a1, a2, c1, c2, fb.1, fb.2.1, fb.2.2.1, fun hw => ?_⟩
  have := (kinds_wide hw).2
  exact fc.2.2.2 (by omega) (by omega) (by omega)
theorem b8_of {n : Int} (h : 0 ≤ n ∧ n ≤ 255) : b8 n = n := by unfold b8 IntKind.wrap; simp [IntKind.bits, IntKind.signed]; omega
theorem bOr_hi {k : IntKind} (hk : k = .u16 ∨ k = .u32) {x c : Int} (hx : 0 ≤ x) (hc : 0 ≤ c ∧ c ≤ 255) (hm : x * 256 + 255 < 2 ^ k.bits) : bOr k (x * 256) c = x * 256 + c := by
  obtain ⟨n, rfl⟩ : ∃ n : Nat, x = n := ⟨x.toNat, by omega⟩
  obtain ⟨q, rfl⟩ : ∃ q : Nat, c = q := ⟨c.toNat, by omega⟩
  have key : ∀ w : Nat, n * 256 + 255 < 2 ^ w → (BitVec.ofInt w ((n : Int) * 256) ||| BitVec.ofInt w (q : Int)).toNat = n * 256 + q := by
    clear hm hk
    intro w hw
    have g1 : n * 256 < 2 ^ w := Nat.lt_of_le_of_lt (Nat.le_add_right _ _) hw
    have hq : q ≤ 255 := by omega
    have g2 : q < 2 ^ w := Nat.lt_of_le_of_lt (Nat.le_trans hq (Nat.le_add_left _ _)) hw
    have hq2 : q < 2 ^ 8 := Nat.lt_succ_of_le hq
    clear hw
    have q1 : n * 256 % 2 ^ w = n * 256 := Nat.mod_eq_of_lt g1
    have q2 : q % 2 ^ w = q := Nat.mod_eq_of_lt g2
    rw [show ((n : Int) * 256) = ((n * 256 : Nat) : Int) from by omega, BitVec.ofInt_natCast, BitVec.ofInt_natCast, BitVec.toNat_or, BitVec.toNat_ofNat, BitVec.toNat_ofNat, q1, q2]
    rw [show n * 256 = n <<< 8 from by rw [Nat.shiftLeft_eq], Nat.shiftLeft_add_eq_or_of_lt hq2]
  unfold bOr
  have hm' : n * 256 + 255 < 2 ^ k.bits := by
    rcases hk with rfl | rfl
    · have e : (2 : Int) ^ IntKind.u16.bits = 65536 := rfl
      rw [e] at hm; show _ < 65536; omega
    · have e : (2 : Int) ^ IntKind.u32.bits = 4294967296 := rfl
      rw [e] at hm; show _ < 4294967296; omega
  rw [key _ hm']
  rcases hk with rfl | rfl
  · unfold IntKind.wrap; simp [IntKind.bits, IntKind.signed] at hm' ⊢; omega
  · unfold IntKind.wrap; simp [IntKind.bits, IntKind.signed] at hm' ⊢; omega
theorem w16_of {b : Int} (h : -32768 ≤ b ∧ b ≤ 32767) {b' : Int} (hb : b' = if b < 0 then b + 65536 else b) : w16 (b' / 256) (b' % 256) = b := by
  have h1 : 0 ≤ b' ∧ b' ≤ 65535 := by subst hb; split <;> omega
  unfold w16
  have e1 : IntKind.u16.wrap (b' / 256) = b' / 256 := by unfold IntKind.wrap; simp [IntKind.bits, IntKind.signed]; omega
  have e2 : IntKind.u16.wrap (b' % 256) = b' % 256 := by unfold IntKind.wrap; simp [IntKind.bits, IntKind.signed]; omega
  have e3 : IntKind.u16.wrap (b' / 256 * 2 ^ min (8 : Int).toNat IntKind.u16.bits) = b' / 256 * 256 := by
    rw [show (2 : Int) ^ min (8 : Int).toNat IntKind.u16.bits = 256 from rfl]
    unfold IntKind.wrap; simp [IntKind.bits, IntKind.signed]; omega
  rw [e1, e2, e3, bOr_hi (.inl rfl) (by omega) (by omega) (by show _ < (2 : Int) ^ 16; omega)]
  rw [show b' / 256 * 256 + b' % 256 = b' from by omega]
  rw [wrap_i64 (by unfold IntKind.wrap; simp [IntKind.bits, IntKind.signed]; omega)]
  unfold IntKind.wrap; simp [IntKind.bits, IntKind.signed]
  subst hb; split <;> omega
theorem insGet_put {x : Ins} (h : insRight x = true) : insGet (putI x) = (x, 0) := by
  obtain ⟨o1, o2, a1, a2, c1, c2, b1, b2, bs, cz⟩ := right_bd h
  have hI : insRaw (putI x) = x := by
    by_cases c : kAt x.op 1 = 119
    · rw [putI_wide h c]
      unfold insRaw
      have e0 : ([b8 x.op, b8 x.a, b8 (wI ((putW x).tdiv 256)), b8 ((putW x).tmod 256)] : List Int).getD 0 0 = x.op := b8_of (by omega)
      rw [e0, wI_of (by omega), if_pos (by rw [wide_kinds]; simpa using c)]
      have hp : putW x = if x.b < 0 then x.b + 65536 else x.b := by
        unfold putW; split
        · exact wI_of (by omega)
        · rfl
      have hp0 : 0 ≤ putW x ∧ putW x ≤ 65535 := by rw [hp]; split <;> omega
      have e1 : ([b8 x.op, b8 x.a, b8 (wI ((putW x).tdiv 256)), b8 ((putW x).tmod 256)] : List Int).getD 1 0 = x.a := b8_of (by omega)
      have e2 : ([b8 x.op, b8 x.a, b8 (wI ((putW x).tdiv 256)), b8 ((putW x).tmod 256)] : List Int).getD 2 0 = putW x / 256 := by
        show b8 (wI ((putW x).tdiv 256)) = _
        rw [Int.tdiv_eq_ediv_of_nonneg hp0.1, wI_of (by omega), b8_of (by omega)]
      have e3 : ([b8 x.op, b8 x.a, b8 (wI ((putW x).tdiv 256)), b8 ((putW x).tmod 256)] : List Int).getD 3 0 = putW x % 256 := by
        show b8 ((putW x).tmod 256) = _
        rw [Int.tmod_eq_emod_of_nonneg hp0.1, b8_of (by omega)]
      rw [e1, e2, e3, wI_of (by omega), w16_of ⟨b1, b2⟩ hp]
      have := cz c
      cases x; simp_all
    · rw [putI_slim h c]
      have ⟨b3, b4⟩ := bs c
      unfold insRaw
      have e0 : ([b8 x.op, b8 x.a, b8 x.b, b8 x.c] : List Int).getD 0 0 = x.op := b8_of (by omega)
      have e1 : ([b8 x.op, b8 x.a, b8 x.b, b8 x.c] : List Int).getD 1 0 = x.a := b8_of (by omega)
      have e2 : ([b8 x.op, b8 x.a, b8 x.b, b8 x.c] : List Int).getD 2 0 = x.b := b8_of (by omega)
      have e3 : ([b8 x.op, b8 x.a, b8 x.b, b8 x.c] : List Int).getD 3 0 = x.c := b8_of (by omega)
      rw [e0, wI_of (by omega), if_neg (by rw [wide_kinds]; simpa using c), e1, e2, e3, wI_of (by omega), wI_of (by omega), wI_of (by omega)]
  unfold insGet; rw [hI, if_pos h]

end Go.Proofs

namespace Go.Proofs
open Go Go.Sz
attribute [local irreducible] pt lift exs own emp

theorem acheck_ok {c : Cap} {need off n : Int} (hr : capRight c = true) (hp : permRight need = true) (hn : 1 ≤ n ∧ n ≤ 16) (ht : c.tag = true) (hs : c.typ = 0) (hh : permHas c.perms need = true) (hf : near off = true) (hi : capIn c (wI (c.pos + off)) n = true) : acheck c need off n = (wI (c.pos + off), 0) := by
  unfold acheck
  rw [if_neg (by rw [hr]; simp), if_neg (by rw [hp]; simp), if_neg (by omega), if_neg (by omega), if_neg (by rw [ht]; simp), if_neg (by rw [hs]; simp), if_neg (by rw [hh]; simp), if_neg (by rw [hf, hi]; simp)]
theorem acheck_bound {c : Cap} {need off n : Int} (hr : capRight c = true) (hp : permRight need = true) (hn : 1 ≤ n ∧ n ≤ 16) (ht : c.tag = true) (hs : c.typ = 0) (hh : permHas c.perms need = true) (hi : (!near off || !capIn c (wI (c.pos + off)) n) = true) : acheck c need off n = (0, 43) := by
  unfold acheck
  rw [if_neg (by rw [hr]; simp), if_neg (by rw [hp]; simp), if_neg (by omega), if_neg (by omega), if_neg (by rw [ht]; simp), if_neg (by rw [hs]; simp), if_neg (by rw [hh]; simp), if_pos hi]
theorem capIn_iff {c : Cap} {p n : Int} (h : 0 ≤ c.top ∧ c.top ≤ 4294967295) (hp : 0 ≤ p ∧ p ≤ 4294967295) : capIn c p n = true ↔ 0 ≤ n ∧ c.base ≤ p ∧ p ≤ c.top ∧ n ≤ c.top - p := by
  unfold capIn
  rw [wrap_i64 (by omega)]
  simp; omega
theorem p256_right {n : Int} (h : 0 ≤ n ∧ n ≤ 4294967295) : capRight (P256 n) = true := capRight_of (by dsimp only; omega) (by kernel_rfl) (by dsimp only; omega)
theorem fetch256 {n : Int} (h : 256 ≤ n ∧ n + 4 ≤ 512 ∧ n % 4 = 0) : aeven (P256 n) (permOf [4]) 0 4 = (n, 0) := by
  have e : acheck (P256 n) (permOf [4]) 0 4 = (n, 0) := by
    have := acheck_ok (c := P256 n) (need := permOf [4]) (off := 0) (n := 4) (p256_right (by omega)) (by kernel_rfl) (by omega) rfl rfl (by kernel_rfl) (by kernel_rfl) (by rw [wI_of (by dsimp only; omega)]; exact (capIn_iff (by dsimp only; omega) (by dsimp only; omega)).2 (by dsimp only; omega))
    rw [this, wI_of (by dsimp only; omega)]; dsimp only; rw [Int.add_zero]
  unfold aeven; rw [e, if_pos (by show n.tmod 4 = 0; rw [Int.tmod_eq_emod_of_nonneg (by omega)]; omega)]
theorem astep256n {n : Int} (h : 256 ≤ n ∧ n + 4 ≤ 512) : (astep (P256 n) 4).1 = P256 (n + 4) := by
  unfold astep
  rw [if_pos ⟨p256_right (by omega), rfl, rfl, by kernel_rfl, by dsimp only; rw [wI_of (by omega)]; omega, by dsimp only; rw [wI_of (by omega)]; omega⟩]
  dsimp only; rw [wI_of (by omega)]
theorem ins_256 {m : MemM} (hn : m.n = 4) {n : Int} (h : 256 ≤ n ∧ n + 4 ≤ 512 ∧ n % 4 = 0) {x : Ins} (hx : insRight x = true) (hb : m.bs n.toNat 4 = putI x) : insP (P256 n) m = (x, 0) := by
  unfold insP
  rw [fetch256 h]
  have hi : memIn m n 4 = true := memIn_of4 hn (by omega) (by omega) (by omega)
  rw [if_neg (by simp), if_pos hi, memLoad_of hi]
  show insGet (m.bs n.toNat 4) = _
  rw [hb, insGet_put hx]
theorem putC_bs {m : MemM} {p : Int} {c : Cap} {a k : Nat} (hp : (a + k : Nat) ≤ p) : (memPutC m p c).bs a k = m.bs a k := by
  unfold memPutC
  split
  · apply bs_congr
    intro x h1 h2
    show (if p.toNat ≤ x ∧ x < p.toNat + (encCap c).length then _ else m.B x) = _
    rw [if_neg (by omega)]
  · rfl
theorem madeMJ_bs {x : CaseM} {a k : Nat} (h : a + k ≤ 512) (j : Nat) : (madeMJ x j).bs a k = (madeM0 x).bs a k := by
  induction j with
  | zero => rw [show madeMJ x 0 = madeM0 x from (madeMJ_zero x).symm]
  | succ j ih => rw [madeMJ_succ, putC_bs (by omega), ih]
theorem made_code {x : CaseM} (hr : ∀ y ∈ x.code, insRight y = true) (hl : x.code.length ≤ 64) {i : Nat} (hi : i < x.code.length) : (madeM x).bs (256 + 4 * i) 4 = putI x.code[i] := by
  have h4 := codeB_len hr
  rw [madeMJ_bs (by omega)]
  unfold madeM0
  rw [memSto_of (memIn_of4 rfl (by omega) (by omega) (by omega))]
  show (MemM.sto _ 256 _).bs _ _ = _
  rw [bs_sto_in (by omega) (by omega), show 256 + 4 * i - 256 = 4 * i from by omega, code_at hr hi]
theorem madeM_n (x : CaseM) : (madeM x).n = 4 := madeMJ_n x _
/-! numbers, byte by byte -/
theorem byteAt_eq {n : Int} (h : 0 ≤ n) (i : Nat) (hi : 8 * i ≤ 64) : byteAt n i = n / 2 ^ (8 * i) % 256 := by
  unfold byteAt
  rw [show (8 * (i : Int)).toNat = 8 * i from by omega, Nat.min_eq_left hi, Int.fdiv_eq_ediv_of_nonneg _ (Int.le_of_lt (Int.pow_pos (by omega)))]
  unfold IntKind.wrap; simp [IntKind.bits, IntKind.signed]

end Go.Proofs

namespace Go.Proofs
open Go Go.Sz
attribute [local irreducible] pt lift exs own emp

theorem num4 {a b c d : Int} (ha : 0 ≤ a ∧ a ≤ 255) (hb : 0 ≤ b ∧ b ≤ 255) (hc : 0 ≤ c ∧ c ≤ 255) (hd : 0 ≤ d ∧ d ≤ 255) : numOf [a, b, c, d] = ((a * 256 + b) * 256 + c) * 256 + d := by
  have key : ∀ x y : Int, 0 ≤ x → x ≤ 16777215 → 0 ≤ y ∧ y ≤ 255 → bOr .u32 (IntKind.u32.wrap (x * 2 ^ min (8 : Int).toNat 32)) (IntKind.u32.wrap y) = x * 256 + y := by
    intro x y h1 h2 h3
    have e1 : IntKind.u32.wrap (x * 2 ^ min (8 : Int).toNat 32) = x * 256 := by
      rw [show (2 : Int) ^ min (8 : Int).toNat 32 = 256 from rfl]
      unfold IntKind.wrap; simp [IntKind.bits, IntKind.signed]; omega
    have e2 : IntKind.u32.wrap y = y := by unfold IntKind.wrap; simp [IntKind.bits, IntKind.signed]; omega
    rw [e1, e2]
    exact bOr_hi (.inr rfl) h1 h3 (by show _ < (2 : Int) ^ 32; omega)
  unfold numOf
  simp only [List.foldl_cons, List.foldl_nil]
  rw [key 0 a (by omega) (by omega) ha, key _ b (by omega) (by omega) hb, key _ c (by omega) (by omega) hc, key _ d (by omega) (by omega) hd]
  omega
theorem num1 {a : Int} (ha : 0 ≤ a ∧ a ≤ 255) : numOf [a] = a := by
  have := num4 (a := 0) (b := 0) (c := 0) (d := a) (by omega) (by omega) (by omega) ha
  have e : numOf [0, 0, 0, a] = numOf [a] := by
    unfold numOf
    simp only [List.foldl_cons, List.foldl_nil]
    rfl
  rw [← e, this]; omega
theorem bytes4 {n : Int} (h : 0 ≤ n ∧ n ≤ 4294967295) : bytesOf n 4 = [n / 16777216, n / 65536 % 256, n / 256 % 256, n % 256] := by
  show [byteAt n 3, byteAt n 2, byteAt n 1, byteAt n 0] = _
  rw [byteAt_eq h.1 3 (by omega), byteAt_eq h.1 2 (by omega), byteAt_eq h.1 1 (by omega), byteAt_eq h.1 0 (by omega)]
  simp; omega
theorem num_bytes4 {n : Int} (h : 0 ≤ n ∧ n ≤ 4294967295) : numOf (bytesOf n 4) = n := by
  rw [bytes4 h, num4 (by omega) (by omega) (by omega) (by omega)]; omega
theorem intC_of {n : Int} (h : 0 ≤ n ∧ n ≤ 4294967295) : intC n = ⟨false, 0, 0, n, 0, 0⟩ := by
  rw [intC_eq, Int.emod_eq_of_lt h.1 (by omega)]
theorem int_right {n : Int} (h : 0 ≤ n ∧ n ≤ 4294967295) : capRight (⟨false, 0, 0, n, 0, 0⟩ : Cap) = true := capRight_of (by dsimp only; omega) (by kernel_rfl) (by dsimp only; omega)
def stoX (c : Int) : CaseM := ⟨[⟨14, 1, 2, c⟩, ⟨13, 3, 2, c⟩, ⟨11, 4, 2, c⟩, ⟨0, 0, 0, 0⟩], [], [], [], nullC⟩
def stoM (c : Int) : MemM := madeM (stoX c)
def stoW (c : Int) : List Int := madeW (stoX c)
theorem stoM_n (c : Int) : (stoM c).n = 4 := madeMJ_n _ _
theorem stoW_len (c : Int) : (stoW c).length = 1 := madeWJ_len _ _
theorem sto_great (c : Int) : greatC (stoX c) = false := rfl
theorem sto_pos (c : Int) : posC (stoX c) = P256 256 := rfl
theorem sto_regs (c : Int) : madeR (stoX c) = [nullC, nullC, nullC, nullC, nullC, nullC, nullC, nullC] := rfl
abbrev stoI (n : Int) : Cap := ⟨false, 0, 0, n, 0, 0⟩
abbrev stoD (q : Int) : Cap := ⟨true, 512, 768, 512 + q, 27, 0⟩
abbrev stoR (n q : Int) (u v : Cap) : List Cap := [nullC, stoI n, stoD q, u, v, nullC, nullC, nullC]
section
variable {n c q : Int} (hn : 0 ≤ n ∧ n ≤ 4294967295) (hc : 0 ≤ c ∧ c ≤ 255) (hq : 0 ≤ q ∧ q ≤ 299)
include hc in
theorem sto_code : ∀ y ∈ (stoX c).code, insRight y = true := by
  intro y hy
  simp only [stoX, List.mem_cons, List.not_mem_nil, or_false] at hy
  rcases hy with rfl | rfl | rfl | rfl
  · rw [insRight_ref]; show (true && fineR 114 1 && fineR 114 2 && fineR 105 c) = true; simp [fineR]; omega
  · rw [insRight_ref]; show (true && fineR 114 3 && fineR 114 2 && fineR 105 c) = true; simp [fineR]; omega
  · rw [insRight_ref]; show (true && fineR 114 4 && fineR 114 2 && fineR 105 c) = true; simp [fineR]; omega
  · rfl
include hc in
theorem sto_bs {i : Nat} (hi : i < 4) : (stoM c).bs (256 + 4 * i) 4 = putI ((stoX c).code[i]'hi) := made_code (sto_code hc) (by show 4 ≤ 64; omega) hi
include hq in
theorem sto_d : capRight (stoD q) = true := capRight_of (by dsimp only; omega) perm27 (by dsimp only; omega)
include hc in
theorem sto_i1 : insP (P256 256) (stoM c) = (⟨14, 1, 2, c⟩, 0) := ins_256 (stoM_n c) (by omega) (sto_code hc _ (.head _)) (sto_bs hc (i := 0) (by omega))
abbrev stoA (c q : Int) : Int := 512 + q + c
def stoM1 (n c q : Int) : MemM := (stoM c).sto (stoA c q).toNat (bytesOf n 4)
theorem stoM1_n (n c q : Int) : (stoM1 n c q).n = 4 := by unfold stoM1 MemM.sto; exact stoM_n c
include hc hq
theorem sto_p {need w : Int} (hp : permRight need = true) (hw : 1 ≤ w ∧ w ≤ 4) (hh : permHas 27 need = true) : acheck (stoD q) need c w = if stoA c q + w ≤ 768 then (stoA c q, 0) else (0, 43) := by
  have e : wI ((stoD q).pos + c) = stoA c q := wI_of (by dsimp only; omega)
  have hA : stoA c q = 512 + q + c := rfl
  have hi : capIn (stoD q) (stoA c q) w = true ↔ 0 ≤ w ∧ 512 ≤ stoA c q ∧ stoA c q ≤ 768 ∧ w ≤ 768 - stoA c q := capIn_iff (c := stoD q) (p := stoA c q) (n := w) (by show (0 : Int) ≤ 768 ∧ (768 : Int) ≤ _; omega) (by omega)
  split
  · rw [acheck_ok (sto_d hq) hp (by omega) rfl rfl hh (by unfold near; simp; omega) (by rw [e]; exact hi.2 (by omega)), e]
  · rw [acheck_bound (sto_d hq) hp (by omega) rfl rfl hh]
    rw [e]
    cases hx : capIn (stoD q) (stoA c q) w
    · simp
    · have := hi.1 hx; omega
theorem sto_1no (u v : Cap) (h : 768 < stoA c q + 4) : stepF (P256 256) (stoR n q u v) [] (stoM c) (stoW c) 64 = ⟨(2, 0, 43), P256 256, stoR n q u v, [], stoM c⟩ := by
  have hA : stoA c q = 512 + q + c := rfl
  have e : stP (stoR n q u v) ⟨14, 1, 2, c⟩ = (0, 43) := by
    show acheck (stoD q) (permOf [2]) c 4 = _
    rw [sto_p hc hq (by kernel_rfl) (by omega) (by kernel_rfl), if_neg (by omega)]
  have e1 : exE (⟨14, 1, 2, c⟩ : Ins) (P256 260) (P256 256) (stoR n q u v) [] (stoM c) = 43 := by
    show stE _ _ _ = _
    unfold stE; rw [e]; rfl
  have e2 : exM (⟨14, 1, 2, c⟩ : Ins) (stoR n q u v) (stoM c) = stoM c := by
    show stM _ _ _ = _
    unfold stM; rw [e]; rfl
  rw [step_trap (sto_i1 hc) (by dsimp only; omega) (by dsimp only; omega) rfl (by rw [astep256n (by omega)]; show ¬ exE _ (P256 260) _ _ _ _ = 0; rw [e1]; decide), astep256n (by omega)]
  show Stp.mk (2, 0, exE _ (P256 260) _ _ _ _) _ _ _ _ = _
  rw [e1, e2]; rfl
include hn
theorem sto_1 (u v : Cap) (h : stoA c q + 4 ≤ 768) : stepF (P256 256) (stoR n q u v) [] (stoM c) (stoW c) 64 = ⟨(0, 0, 0), P256 260, stoR n q u v, [], stoM1 n c q⟩ := by
  have hA : stoA c q = 512 + q + c := rfl
  have e : stP (stoR n q u v) ⟨14, 1, 2, c⟩ = (stoA c q, 0) := by
    show acheck (stoD q) (permOf [2]) c 4 = _
    rw [sto_p hc hq (by kernel_rfl) (by omega) (by kernel_rfl), if_pos (by omega)]
  have hi : memIn (stoM c) (stoA c q) (4 : Nat) = true := memIn_of4 (stoM_n c) (by omega) (by omega) (by omega)
  have e1 : exE (⟨14, 1, 2, c⟩ : Ins) (P256 260) (P256 256) (stoR n q u v) [] (stoM c) = 0 := by
    show stE _ _ _ = _
    unfold stE; rw [e, if_pos rfl]
    show within (memIn (stoM c) (stoA c q) (4 : Nat)) = 0
    rw [hi]; rfl
  have e2 : exM (⟨14, 1, 2, c⟩ : Ins) (stoR n q u v) (stoM c) = stoM1 n c q := by
    show stM _ _ _ = _
    unfold stM; rw [e, if_pos rfl]
    exact memSto_of hi
  rw [step_went (sto_i1 hc) (by dsimp only; omega) (by dsimp only; omega) rfl (by rw [astep256n (by omega)]; exact e1), astep256n (by omega), e2]
  rfl
theorem sto_ld {w : Nat} {pos : Cap} {x : Ins} {u v : Cap} (hx : x.b = 2) (hxc : x.c = c) (hw : wide x = w) (hw2 : 1 ≤ w ∧ w ≤ 4) (h : stoA c q + 4 ≤ 768) (ho : x.op = 11 ∨ x.op = 13) (l : List Int) (hl : (stoM1 n c q).bs (stoA c q).toNat w = l) (r : Int) (hr : numOf l = r) (hr2 : 0 ≤ r ∧ r ≤ 4294967295) :
    ldE (stoR n q u v) x (stoM1 n c q) = 0 ∧ ldR (stoR n q u v) x (stoM1 n c q) = setE (stoR n q u v) x.a (stoI r) 0 := by
  have hA : stoA c q = 512 + q + c := rfl
  have e : ldP (stoR n q u v) x = (stoA c q, 0) := by
    unfold ldP; rw [hx, hxc, hw]
    show acheck (stoD q) (permOf [1]) c w = _
    rw [sto_p hc hq (by kernel_rfl) (by omega) (by kernel_rfl), if_pos (by omega)]
  have hi : memIn (stoM1 n c q) (stoA c q) (w : Int) = true := memIn_of4 (stoM1_n n c q) (by omega) (by omega) (by omega)
  constructor
  · unfold ldE; rw [e, if_pos rfl, hw]
    show within (memIn (stoM1 n c q) (stoA c q) (w : Int)) = 0
    rw [hi]; rfl
  · unfold ldR; rw [e, if_pos rfl, hw]
    show setE _ _ (intC (wI (numOf (memLoad (stoM1 n c q) (stoA c q) (w : Int))))) (within (memIn (stoM1 n c q) (stoA c q) (w : Int))) = _
    rw [memLoad_of hi, hi, show ((w : Int)).toNat = w from rfl, hl, hr, wI_of (by omega), intC_of (by omega)]
    rfl
theorem sto_bs1 {i : Nat} (hi : i < 4) : (stoM1 n c q).bs (256 + 4 * i) 4 = putI ((stoX c).code[i]'hi) := by
  have hA : stoA c q = 512 + q + c := rfl
  unfold stoM1
  rw [bs_sto_out (by omega), sto_bs hc hi]
theorem sto_bs4 : (stoM1 n c q).bs (stoA c q).toNat 4 = bytesOf n 4 := by
  have hA : stoA c q = 512 + q + c := rfl
  unfold stoM1
  rw [bs_sto_in (by omega) (by rw [bytes4 hn]; simp), Nat.sub_self, List.drop_zero, bytes4 hn]; rfl
theorem sto_bs01 : (stoM1 n c q).bs (stoA c q).toNat 1 = [n / 16777216] := by
  have hA : stoA c q = 512 + q + c := rfl
  unfold stoM1
  rw [bs_sto_in (by omega) (by rw [bytes4 hn]; simp), Nat.sub_self, List.drop_zero, bytes4 hn]; rfl
theorem sto_2 (v : Cap) (h : stoA c q + 4 ≤ 768) : stepF (P256 260) (stoR n q nullC v) [] (stoM1 n c q) (stoW c) 64 = ⟨(0, 0, 0), P256 264, stoR n q (stoI n) v, [], stoM1 n c q⟩ := by
  obtain ⟨e1, e2⟩ := sto_ld hn hc hq (x := ⟨13, 3, 2, c⟩) (w := 4) (pos := P256 260) (u := nullC) (v := v) rfl rfl rfl (by omega) h (.inr rfl) _ (sto_bs4 hn hc hq) n (num_bytes4 hn) hn
  have hi : insP (P256 260) (stoM1 n c q) = (⟨13, 3, 2, c⟩, 0) := ins_256 (stoM1_n n c q) (by omega) (sto_code hc _ (.tail _ (.head _))) (sto_bs1 hn hc hq (i := 1) (by omega))
  rw [step_went hi (by dsimp only; omega) (by dsimp only; omega) rfl e1, astep256n (by omega)]
  show Stp.mk _ (P256 264) (ldR _ _ _) _ _ = _
  rw [e2]
  unfold setE setR; rw [if_pos rfl, int_right hn]; rfl
theorem sto_3 (h : stoA c q + 4 ≤ 768) : stepF (P256 264) (stoR n q (stoI n) nullC) [] (stoM1 n c q) (stoW c) 64 = ⟨(0, 0, 0), P256 268, stoR n q (stoI n) (stoI (n / 16777216)), [], stoM1 n c q⟩ := by
  obtain ⟨e1, e2⟩ := sto_ld hn hc hq (x := ⟨11, 4, 2, c⟩) (w := 1) (pos := P256 264) (u := stoI n) (v := nullC) rfl rfl rfl (by omega) h (.inl rfl) _ (sto_bs01 hn hc hq) (n / 16777216) (num1 (by omega)) (by omega)
  have hi : insP (P256 264) (stoM1 n c q) = (⟨11, 4, 2, c⟩, 0) := ins_256 (stoM1_n n c q) (by omega) (sto_code hc _ (.tail _ (.tail _ (.head _)))) (sto_bs1 hn hc hq (i := 2) (by omega))
  rw [step_went hi (by dsimp only; omega) (by dsimp only; omega) rfl e1, astep256n (by omega)]
  show Stp.mk _ (P256 268) (ldR _ _ _) _ _ = _
  rw [e2]
  unfold setE setR; rw [if_pos rfl, int_right (by omega)]; rfl
end

end Go.Proofs

namespace Go.Proofs
open Go Go.Sz
attribute [local irreducible] pt lift exs own emp

theorem stoMade (c : Int) (q : CaseS) (hq : CaseOk q (stoX c)) : Ct Tryz.prog 14 #[caseV q (stoX c)] (caseRo q (stoX c)) [] (X := {p : Pl // MOk p.ms (stoM c) ∧ ShOk p.ps (stoW c) 64}) (fun y => .tuple #[ad y.1.tb 0, ad y.1.mb 0, ad y.1.sb 0]) (fun y N => worldS y.1 (P256 256) [nullC, nullC, nullC, nullC, nullC, nullC, nullC, nullC] [] (stoM c) (stoW c) ++ N) := by
  have := f14_ct q (stoX c) hq (sto_great c)
  rw [sto_pos, sto_regs] at this
  exact this
theorem sto_r1 {n : Int} (hn : 0 ≤ n ∧ n ≤ 4294967295) : setR [nullC, nullC, nullC, nullC, nullC, nullC, nullC, nullC] 1 (intC n) = [nullC, stoI n, nullC, nullC, nullC, nullC, nullC, nullC] := by
  rw [intC_of hn]; unfold setR; rw [int_right hn]; rfl
theorem sto_r2 {n q : Int} (hq : 0 ≤ q ∧ q ≤ 299) : setR [nullC, stoI n, nullC, nullC, nullC, nullC, nullC, nullC] 2 (stoD q) = stoR n q nullC nullC := by
  unfold setR; rw [sto_d hq]; rfl
attribute [local irreducible] stoM stoW stoM1

theorem f4_yes (a0 a1 a2 : Int) (h0 : 0 ≤ a0 ∧ a0 ≤ 4294967295) (h1 : 0 ≤ a1 ∧ a1 ≤ 255) (h2 : 0 ≤ a2 ∧ a2 ≤ 65535) (hs : 512 + a2 % 300 + a1 + 4 ≤ 768) : Ct Tryz.prog 4 #[.int .u32 a0, .int .u8 a1, .int .u16 a2] [] [] (fun _ : Unit => .bool true) (fun _ N => N) := by
  refine ct_intro Tryz.func4 rfl (by kernel_rfl) (n := 100) rfl rfl (E := [(0, .int .u32 a0), (1, .int .u8 a1), (2, .int .u16 a2)]) rfl ?_
  intro κ hro
  obtain ⟨q, hq⟩ : ∃ q : Int, q = a2 % 300 := ⟨_, rfl⟩
  rw [← hq] at hs
  have hq1 : 0 ≤ q ∧ q ≤ 299 := by omega
  have hm1 : ∀ p : Pl, MOk p.ms (stoM a1) → MOk p.ms (stoM1 a0 a1 q) := fun p h => h.of ((stoM1_n a0 a1 q).trans (stoM_n a1).symm)
  refine tc_seq ?_
  refine tc_region ?_
  refine tl_p (pr_assign rfl) rfl ?_
  refine tl_next ?_
  refine tc_seq ?_
  refine tc_region ?_
  refine tl_callS (f12_ct) (.nil) rfl (kk := fun _ => ?_)
  refine tl_p (pr_assign rfl) rfl ?_
  refine tl_next ?_
  refine tc_seq ?_
  refine tc_region ?_
  refine tl_p (pr_move rfl) rfl ?_
  refine tl_p (pr_eqI (j := a1) (pr_conv Tryz.it3 Tryz.underlying5 rfl) (wI_of (by omega))) rfl ?_
  refine tl_p (Tryz.bl33_0_1_2_3 rfl rfl rfl rfl) rfl ?_
  refine tl_p (pr_move rfl) rfl ?_
  refine tl_p (pr_eqI (j := a1) (pr_conv Tryz.it3 Tryz.underlying5 rfl) (wI_of (by omega))) rfl ?_
  refine tl_p (Tryz.bl33_0_1_2_3 rfl rfl rfl rfl) rfl ?_
  refine tl_p (pr_move rfl) rfl ?_
  refine tl_p (pr_eqI (j := a1) (pr_conv Tryz.it3 Tryz.underlying5 rfl) (wI_of (by omega))) rfl ?_
  refine tl_p (Tryz.bl33_0_1_2_3 rfl rfl rfl rfl) rfl ?_
  refine tl_p (Tryz.bl33_ ) rfl ?_
  refine tl_buildS Tryz.sf23 Tryz.z33 rfl (.cons rfl (.cons rfl (.cons rfl (.cons rfl .nil)))) rfl rfl (c := insL (stoX a1).code) rfl rfl rfl (kk := fun s25 hs25 ms25 => ?_)
  refine tl_p (Tryz.bl29_0 rfl (o0 := sv_one _ _)) rfl ?_
  refine tl_alloc Tryz.z29 rfl (fun b8 => ?_)
  refine tl_storeW Tryz.sz29 rfl rfl (h1 := by show allOne (caseL ⟨s25, 4, .nil, 0, .nil, 0, .nil, 0⟩ (stoX a1)) = true; simp only [allOne, sv_one]; rfl) (k := ?_)
  refine tl_next ?_
  refine tc_seq ?_
  refine tc_region ?_
  refine tl_p (by first | exact pr_loadW Tryz.ag29 Tryz.sz29 rfl | exact pr_ldA Tryz.ag29 Tryz.sz29 rfl) rfl ?_
  refine tl_callS (stoMade a1 ⟨s25, 4, .nil, 0, .nil, 0, .nil, 0⟩ ⟨hs25.toSok, Sok.nil, Sok.nil, Sok.nil⟩) (.cons rfl .nil) rfl (hro := Rdbs.app (Rdbs.sl (.own (by repeat (first | exact Has.here | apply Has.there)))) .nil) (kk := fun ⟨p29, hm29, hw29⟩ => ?_)
  refine tl_p (pr_move rfl) rfl ?_
  refine tl_p (pr_extract rfl rfl) rfl ?_
  refine tl_p (pr_extract rfl rfl) rfl ?_
  refine tl_p (pr_extract rfl rfl) rfl ?_
  refine tl_p (pr_assign rfl) rfl ?_
  refine tl_p (pr_assign rfl) rfl ?_
  refine tl_p (pr_assign rfl) rfl ?_
  refine tl_next ?_
  refine tc_seq ?_
  refine tc_seq ?_
  refine tc_region ?_
  refine tl_p (pr_move rfl) rfl ?_
  refine tl_p (pr_eqlP Tryz.underlying34 rfl (.inr ⟨_, rfl⟩)) rfl ?_
  refine tl_next ?_
  refine tc_if_false rfl rfl ?_
  refine tc_skip (tq_next ?_)
  refine tc_seq ?_
  refine tc_region ?_
  refine tl_rdS (f22_ct ) (.nil) rfl (kk := ?_)
  refine tl_alloc Tryz.z27 rfl (fun b12 => ?_)
  refine tl_storeW Tryz.sz27 rfl rfl (k := ?_)
  refine tl_next ?_
  refine tc_seq ?_
  refine tc_region ?_
  refine tl_p (pr_move rfl) rfl ?_
  refine tl_p (pr_eq (v' := .int .u16 q) (pr_rem rfl rfl (by decide)) (by rw [Int.tmod_eq_emod_of_nonneg h2.1, ← hq])) rfl ?_
  refine tl_p (pr_eqI (j := q) (pr_conv Tryz.it3 Tryz.underlying52 rfl) (wI_of (by omega))) rfl ?_
  refine tl_p (pr_addN rfl rfl (by omega)) rfl ?_
  refine tl_p (pr_fieldAddr Tryz.fo27_3 rfl) rfl ?_
  refine tl_st Tryz.sz3 rfl rfl (k := ?_)
  refine tl_next ?_
  refine tc_seq ?_
  refine tc_region ?_
  refine tl_p (pr_move rfl) rfl ?_
  refine tl_rdS (f15_ct p29.tb _ p29.rb p29.fb) (.cons rfl .nil) rfl (kk := ?_)
  refine tl_p (pr_move rfl) rfl ?_
  refine tl_p (pr_eqI (j := a0) (pr_conv Tryz.it3 Tryz.underlying22 rfl) (wI_of (by omega))) rfl ?_
  refine tl_rdS (f17_ct a0 (by omega)) (.cons rfl .nil) rfl (kk := ?_)
  refine tl_callS (f16_ct p29.rb [nullC, nullC, nullC, nullC, nullC, nullC, nullC, nullC] rfl 1 (intC a0)) (.cons rfl (.cons rfl (.cons rfl .nil))) rfl (kk := fun _ => ?_)
  rw [sto_r1 h0]
  refine tl_next ?_
  refine tc_seq ?_
  refine tc_draw Tryz.mixed [0, 1, 2] (by kernel_rfl) ?_
  refine td_q 0 47 (pm_of rfl rfl rfl (fun _ kq => tl_p (pr_move rfl) rfl kq)) rfl rfl rfl ?_
  refine td_q 1 48 (pm_of rfl rfl rfl (fun _ kq => tl_rdS (f15_ct p29.tb _ p29.rb p29.fb) (.cons rfl .nil) rfl (kk := kq))) rfl rfl rfl ?_
  refine td_q 2 49 (pm_of rfl rfl rfl (fun _ kq => tl_p (by first | exact pr_loadW Tryz.ag27 Tryz.sz27 rfl | exact pr_ldA Tryz.ag27 Tryz.sz27 rfl) rfl kq)) rfl rfl rfl ?_
  refine td_e1 3 (by kernel_rfl) ?_
  refine te rfl ?_
  refine tl_callS (f16_ct p29.rb [nullC, stoI a0, nullC, nullC, nullC, nullC, nullC, nullC] rfl 2 (stoD q)) (.cons rfl (.cons rfl (.cons rfl .nil))) rfl (kk := fun _ => ?_)
  rw [sto_r2 hq1]
  refine td_next (pd := []) (by kernel_rfl) (.nil) ?_
  refine td_done (by kernel_rfl) ?_
  refine tq_next ?_
  refine tc_seq ?_
  refine tc_region ?_
  refine tl_p (pr_move rfl) rfl ?_
  refine tl_p (pr_move rfl) rfl ?_
  refine tl_p (pr_move rfl) rfl ?_
  refine tl_callS (stepE_ct p29 (sto_1 h0 h1 hq1 nullC nullC hs) rfl hm29 (stoM_n a1) hw29 (stoW_len a1)) (.cons rfl (.cons rfl (.cons rfl .nil))) rfl (kk := fun _ => ?_)
  refine tl_alloc Tryz.z46 rfl (fun b13 => ?_)
  refine tl_storeW Tryz.sz46 rfl rfl (k := ?_)
  refine tl_next ?_
  refine tc_seq ?_
  refine tc_seq ?_
  refine tc_region ?_
  refine tl_p (pr_fieldAddr Tryz.fo27_3 rfl) rfl ?_
  refine tl_p (pr_ld Tryz.ag3 rfl) rfl ?_
  refine tl_p (pr_move rfl) rfl ?_
  refine tl_p (pr_eqI (j := a1) (pr_conv Tryz.it3 Tryz.underlying5 rfl) (wI_of (by omega))) rfl ?_
  refine tl_p (pr_addN rfl rfl (by show _ ≤ 512 + q + a1 ∧ _; omega)) rfl ?_
  refine tl_p (pr_addN rfl rfl (by show _ ≤ 512 + q + a1 + 4 ∧ _; omega)) rfl ?_
  refine tl_p (pr_eq (v' := .bool false) (pr_gtr rfl rfl) (by show Value.bool (decide (768 < 512 + q + a1 + 4)) = _; simp; omega)) rfl ?_
  refine tl_next ?_
  refine tc_if_false rfl rfl ?_
  refine tc_skip (tq_next ?_)
  refine tc_seq ?_
  refine tc_region ?_
  refine tl_p (pr_move rfl) rfl ?_
  refine tl_p (pr_move rfl) rfl ?_
  refine tl_p (pr_move rfl) rfl ?_
  refine tl_callS (stepE_ct p29 (sto_2 h0 h1 hq1 nullC hs) rfl (hm1 _ hm29) (stoM1_n a0 a1 q) hw29 (stoW_len a1)) (.cons rfl (.cons rfl (.cons rfl .nil))) rfl (kk := fun _ => ?_)
  refine tl_next ?_
  refine tc_seq ?_
  refine tc_region ?_
  refine tl_p (pr_move rfl) rfl ?_
  refine tl_p (pr_move rfl) rfl ?_
  refine tl_p (pr_move rfl) rfl ?_
  refine tl_callS (stepE_ct p29 (sto_3 h0 h1 hq1 hs) rfl (hm1 _ hm29) (stoM1_n a0 a1 q) hw29 (stoW_len a1)) (.cons rfl (.cons rfl (.cons rfl .nil))) rfl (kk := fun _ => ?_)
  refine tl_next ?_
  refine tc_seq ?_
  refine tc_region ?_
  refine tl_p (pr_move rfl) rfl ?_
  refine tl_p (pr_move rfl) rfl ?_
  refine tl_gt rfl rfl (fun h => by first | exact pr_loadW Tryz.ag46 Tryz.sz46 rfl | exact pr_ldA Tryz.ag46 Tryz.sz46 rfl) (by intro _ h; cases h) rfl ?_
  refine tl_gt rfl rfl (fun h => Tryz.bl46_ ) (by intro _ h; cases h) rfl ?_
  refine tl_gt rfl rfl (fun h => pr_eqlF Tryz.eqg46 Tryz.ff46 (gv rfl h) (gv rfl h) rfl) (by intro _ h; cases h) rfl ?_
  refine tl_p (pr_and rfl rfl rfl) rfl ?_
  refine tl_p (pr_move rfl) rfl ?_
  refine tl_gt rfl rfl (fun h => pr_move rfl) (by intro _ h; cases h) rfl ?_
  refine tl_rdgtS rfl rfl (fun h => ⟨f15_ct p29.tb _ p29.rb p29.fb, .cons (gv rfl h) .nil⟩) rfl (kk := ?_)
  refine tl_rdgtS rfl rfl (fun h => ⟨f23_ct p29.rb (stoR a0 q (stoI a0) (stoI (a0 / 16777216))) rfl 3, .cons (gv rfl h) (.cons rfl .nil)⟩) rfl (kk := ?_)
  refine tl_gt rfl rfl (fun h => pr_move rfl) (by intro _ h; cases h) rfl ?_
  refine tl_gt rfl rfl (fun h => pr_eqI (j := a0) (pr_conv Tryz.it3 Tryz.underlying22 (gv rfl h)) (wI_of (by omega))) (by intro _ h; cases h) rfl ?_
  refine tl_rdgtS rfl rfl (fun h => ⟨f17_ct a0 (by omega), .cons (gv rfl h) .nil⟩) rfl (kk := ?_)
  refine tl_gt rfl rfl (fun h => pr_eqlF Tryz.eqg27 Tryz.ff27 (gv rfl h) (gv rfl h) (b := true) (by rw [intC_of h0]; simp [eqAt, eqCell, getR, isReg])) (by intro _ h; cases h) rfl ?_
  refine tl_p (pr_and rfl rfl rfl) rfl ?_
  refine tl_p (pr_move rfl) rfl ?_
  refine tl_gt rfl rfl (fun h => pr_move rfl) (by intro _ h; cases h) rfl ?_
  refine tl_rdgtS rfl rfl (fun h => ⟨f15_ct p29.tb _ p29.rb p29.fb, .cons (gv rfl h) .nil⟩) rfl (kk := ?_)
  refine tl_rdgtS rfl rfl (fun h => ⟨f24_ct p29.rb (stoR a0 q (stoI a0) (stoI (a0 / 16777216))) rfl 4, .cons (gv rfl h) (.cons rfl .nil)⟩) rfl (kk := ?_)
  refine tl_gt rfl rfl (fun h => pr_move rfl) (by intro _ h; cases h) rfl ?_
  refine tl_gt rfl rfl (fun h => pr_eq (v' := .int .u32 (a0 / 16777216)) (pr_shr (gv rfl h) rfl (by omega)) (by rw [show min (24 : Int).toNat IntKind.u32.bits = 24 from rfl, Int.fdiv_eq_ediv_of_nonneg _ (by decide)]; rfl)) (by intro _ h; cases h) rfl ?_
  refine tl_gt rfl rfl (fun h => pr_eqI (j := a0 / 16777216) (pr_conv Tryz.it3 Tryz.underlying22 (gv rfl h)) (wI_of (by omega))) (by intro _ h; cases h) rfl ?_
  refine tl_gt rfl rfl (fun h => pr_eq (v' := .bool true) (pr_eql (gv rfl h) (gv rfl h)) (by simp [getR, isReg])) (by intro _ h; cases h) rfl ?_
  refine tl_p (pr_and rfl rfl rfl) rfl ?_
  refine tl_p (pr_assign rfl) rfl ?_
  refine tl_next ?_
  refine tc_ret ?_
  exact tq_ret1 .ret (.inl rfl) () rfl rfl

theorem f4_no (a0 a1 a2 : Int) (h0 : 0 ≤ a0 ∧ a0 ≤ 4294967295) (h1 : 0 ≤ a1 ∧ a1 ≤ 255) (h2 : 0 ≤ a2 ∧ a2 ≤ 65535) (hs : 768 < 512 + a2 % 300 + a1 + 4) : Ct Tryz.prog 4 #[.int .u32 a0, .int .u8 a1, .int .u16 a2] [] [] (fun _ : Unit => .bool true) (fun _ N => N) := by
  refine ct_intro Tryz.func4 rfl (by kernel_rfl) (n := 100) rfl rfl (E := [(0, .int .u32 a0), (1, .int .u8 a1), (2, .int .u16 a2)]) rfl ?_
  intro κ hro
  obtain ⟨q, hq⟩ : ∃ q : Int, q = a2 % 300 := ⟨_, rfl⟩
  rw [← hq] at hs
  have hq1 : 0 ≤ q ∧ q ≤ 299 := by omega
  refine tc_seq ?_
  refine tc_region ?_
  refine tl_p (pr_assign rfl) rfl ?_
  refine tl_next ?_
  refine tc_seq ?_
  refine tc_region ?_
  refine tl_callS (f12_ct) (.nil) rfl (kk := fun _ => ?_)
  refine tl_p (pr_assign rfl) rfl ?_
  refine tl_next ?_
  refine tc_seq ?_
  refine tc_region ?_
  refine tl_p (pr_move rfl) rfl ?_
  refine tl_p (pr_eqI (j := a1) (pr_conv Tryz.it3 Tryz.underlying5 rfl) (wI_of (by omega))) rfl ?_
  refine tl_p (Tryz.bl33_0_1_2_3 rfl rfl rfl rfl) rfl ?_
  refine tl_p (pr_move rfl) rfl ?_
  refine tl_p (pr_eqI (j := a1) (pr_conv Tryz.it3 Tryz.underlying5 rfl) (wI_of (by omega))) rfl ?_
  refine tl_p (Tryz.bl33_0_1_2_3 rfl rfl rfl rfl) rfl ?_
  refine tl_p (pr_move rfl) rfl ?_
  refine tl_p (pr_eqI (j := a1) (pr_conv Tryz.it3 Tryz.underlying5 rfl) (wI_of (by omega))) rfl ?_
  refine tl_p (Tryz.bl33_0_1_2_3 rfl rfl rfl rfl) rfl ?_
  refine tl_p (Tryz.bl33_ ) rfl ?_
  refine tl_buildS Tryz.sf23 Tryz.z33 rfl (.cons rfl (.cons rfl (.cons rfl (.cons rfl .nil)))) rfl rfl (c := insL (stoX a1).code) rfl rfl rfl (kk := fun s25 hs25 ms25 => ?_)
  refine tl_p (Tryz.bl29_0 rfl (o0 := sv_one _ _)) rfl ?_
  refine tl_alloc Tryz.z29 rfl (fun b8 => ?_)
  refine tl_storeW Tryz.sz29 rfl rfl (h1 := by show allOne (caseL ⟨s25, 4, .nil, 0, .nil, 0, .nil, 0⟩ (stoX a1)) = true; simp only [allOne, sv_one]; rfl) (k := ?_)
  refine tl_next ?_
  refine tc_seq ?_
  refine tc_region ?_
  refine tl_p (by first | exact pr_loadW Tryz.ag29 Tryz.sz29 rfl | exact pr_ldA Tryz.ag29 Tryz.sz29 rfl) rfl ?_
  refine tl_callS (stoMade a1 ⟨s25, 4, .nil, 0, .nil, 0, .nil, 0⟩ ⟨hs25.toSok, Sok.nil, Sok.nil, Sok.nil⟩) (.cons rfl .nil) rfl (hro := Rdbs.app (Rdbs.sl (.own (by repeat (first | exact Has.here | apply Has.there)))) .nil) (kk := fun ⟨p29, hm29, hw29⟩ => ?_)
  refine tl_p (pr_move rfl) rfl ?_
  refine tl_p (pr_extract rfl rfl) rfl ?_
  refine tl_p (pr_extract rfl rfl) rfl ?_
  refine tl_p (pr_extract rfl rfl) rfl ?_
  refine tl_p (pr_assign rfl) rfl ?_
  refine tl_p (pr_assign rfl) rfl ?_
  refine tl_p (pr_assign rfl) rfl ?_
  refine tl_next ?_
  refine tc_seq ?_
  refine tc_seq ?_
  refine tc_region ?_
  refine tl_p (pr_move rfl) rfl ?_
  refine tl_p (pr_eqlP Tryz.underlying34 rfl (.inr ⟨_, rfl⟩)) rfl ?_
  refine tl_next ?_
  refine tc_if_false rfl rfl ?_
  refine tc_skip (tq_next ?_)
  refine tc_seq ?_
  refine tc_region ?_
  refine tl_rdS (f22_ct ) (.nil) rfl (kk := ?_)
  refine tl_alloc Tryz.z27 rfl (fun b12 => ?_)
  refine tl_storeW Tryz.sz27 rfl rfl (k := ?_)
  refine tl_next ?_
  refine tc_seq ?_
  refine tc_region ?_
  refine tl_p (pr_move rfl) rfl ?_
  refine tl_p (pr_eq (v' := .int .u16 q) (pr_rem rfl rfl (by decide)) (by rw [Int.tmod_eq_emod_of_nonneg h2.1, ← hq])) rfl ?_
  refine tl_p (pr_eqI (j := q) (pr_conv Tryz.it3 Tryz.underlying52 rfl) (wI_of (by omega))) rfl ?_
  refine tl_p (pr_addN rfl rfl (by omega)) rfl ?_
  refine tl_p (pr_fieldAddr Tryz.fo27_3 rfl) rfl ?_
  refine tl_st Tryz.sz3 rfl rfl (k := ?_)
  refine tl_next ?_
  refine tc_seq ?_
  refine tc_region ?_
  refine tl_p (pr_move rfl) rfl ?_
  refine tl_rdS (f15_ct p29.tb _ p29.rb p29.fb) (.cons rfl .nil) rfl (kk := ?_)
  refine tl_p (pr_move rfl) rfl ?_
  refine tl_p (pr_eqI (j := a0) (pr_conv Tryz.it3 Tryz.underlying22 rfl) (wI_of (by omega))) rfl ?_
  refine tl_rdS (f17_ct a0 (by omega)) (.cons rfl .nil) rfl (kk := ?_)
  refine tl_callS (f16_ct p29.rb [nullC, nullC, nullC, nullC, nullC, nullC, nullC, nullC] rfl 1 (intC a0)) (.cons rfl (.cons rfl (.cons rfl .nil))) rfl (kk := fun _ => ?_)
  rw [sto_r1 h0]
  refine tl_next ?_
  refine tc_seq ?_
  refine tc_draw Tryz.mixed [0, 1, 2] (by kernel_rfl) ?_
  refine td_q 0 47 (pm_of rfl rfl rfl (fun _ kq => tl_p (pr_move rfl) rfl kq)) rfl rfl rfl ?_
  refine td_q 1 48 (pm_of rfl rfl rfl (fun _ kq => tl_rdS (f15_ct p29.tb _ p29.rb p29.fb) (.cons rfl .nil) rfl (kk := kq))) rfl rfl rfl ?_
  refine td_q 2 49 (pm_of rfl rfl rfl (fun _ kq => tl_p (by first | exact pr_loadW Tryz.ag27 Tryz.sz27 rfl | exact pr_ldA Tryz.ag27 Tryz.sz27 rfl) rfl kq)) rfl rfl rfl ?_
  refine td_e1 3 (by kernel_rfl) ?_
  refine te rfl ?_
  refine tl_callS (f16_ct p29.rb [nullC, stoI a0, nullC, nullC, nullC, nullC, nullC, nullC] rfl 2 (stoD q)) (.cons rfl (.cons rfl (.cons rfl .nil))) rfl (kk := fun _ => ?_)
  rw [sto_r2 hq1]
  refine td_next (pd := []) (by kernel_rfl) (.nil) ?_
  refine td_done (by kernel_rfl) ?_
  refine tq_next ?_
  refine tc_seq ?_
  refine tc_region ?_
  refine tl_p (pr_move rfl) rfl ?_
  refine tl_p (pr_move rfl) rfl ?_
  refine tl_p (pr_move rfl) rfl ?_
  refine tl_callS (stepE_ct p29 (sto_1no h1 hq1 nullC nullC hs) rfl hm29 (stoM_n a1) hw29 (stoW_len a1)) (.cons rfl (.cons rfl (.cons rfl .nil))) rfl (kk := fun _ => ?_)
  refine tl_alloc Tryz.z46 rfl (fun b13 => ?_)
  refine tl_storeW Tryz.sz46 rfl rfl (k := ?_)
  refine tl_next ?_
  refine tc_seq ?_
  refine tc_seq ?_
  refine tc_region ?_
  refine tl_p (pr_fieldAddr Tryz.fo27_3 rfl) rfl ?_
  refine tl_p (pr_ld Tryz.ag3 rfl) rfl ?_
  refine tl_p (pr_move rfl) rfl ?_
  refine tl_p (pr_eqI (j := a1) (pr_conv Tryz.it3 Tryz.underlying5 rfl) (wI_of (by omega))) rfl ?_
  refine tl_p (pr_addN rfl rfl (by show _ ≤ 512 + q + a1 ∧ _; omega)) rfl ?_
  refine tl_p (pr_addN rfl rfl (by show _ ≤ 512 + q + a1 + 4 ∧ _; omega)) rfl ?_
  refine tl_p (pr_eq (v' := .bool true) (pr_gtr rfl rfl) (by show Value.bool (decide (768 < 512 + q + a1 + 4)) = _; simp; omega)) rfl ?_
  refine tl_next ?_
  refine tc_if_true rfl rfl ?_
  refine tc_seq ?_
  refine tc_region ?_
  refine tl_p (pr_move rfl) rfl ?_
  refine tl_p (pr_move rfl) rfl ?_
  refine tl_gt rfl rfl (fun h => by first | exact pr_loadW Tryz.ag46 Tryz.sz46 rfl | exact pr_ldA Tryz.ag46 Tryz.sz46 rfl) (by intro _ h; cases h) rfl ?_
  refine tl_gt rfl rfl (fun h => Tryz.bl46_0_2 rfl rfl) (by intro _ h; cases h) rfl ?_
  refine tl_gt rfl rfl (fun h => pr_eqlF Tryz.eqg46 Tryz.ff46 (gv rfl h) (gv rfl h) rfl) (by intro _ h; cases h) rfl ?_
  refine tl_p (pr_and rfl rfl rfl) rfl ?_
  refine tl_p (pr_assign rfl) rfl ?_
  refine tl_next ?_
  refine tc_ret (tq_then_ret ?_)
  exact tq_ret1 .ret (.inl rfl) () rfl rfl

theorem f4_ct (a0 a1 a2 : Int) (h0 : 0 ≤ a0 ∧ a0 ≤ 4294967295) (h1 : 0 ≤ a1 ∧ a1 ≤ 255) (h2 : 0 ≤ a2 ∧ a2 ≤ 65535) : Ct Tryz.prog 4 #[.int .u32 a0, .int .u8 a1, .int .u16 a2] [] [] (fun _ : Unit => .bool true) (fun _ N => N) := by
  by_cases h : 512 + a2 % 300 + a1 + 4 ≤ 768
  · exact f4_yes a0 a1 a2 h0 h1 h2 h
  · exact f4_no a0 a1 a2 h0 h1 h2 (by omega)

end Go.Proofs

namespace Go.Proofs
open Go Go.Sz
attribute [local irreducible] pt lift exs own emp

def CapI (c : Cap) : Prop := I64 c.base ∧ I64 c.top ∧ I64 c.pos ∧ I64 c.perms ∧ I64 c.typ
theorem ref_right {c : Cap} (h : CapI c) : refRight c = capRight c := by
  unfold refRight capRight refAddr refPerm spanRight spanHas
  rw [permRight_iff h.2.2.2.1.1 h.2.2.2.1.2]
  rw [Bool.eq_iff_iff]
  cases c.tag <;> simp <;> omega
theorem right_ok {c : Cap} (h : CapI c) (hr : capRight c = true) : (0 ≤ c.base ∧ c.base ≤ 4294967295) ∧ (0 ≤ c.top ∧ c.top ≤ 4294967295) ∧ (0 ≤ c.pos ∧ c.pos ≤ 4294967295) ∧ (0 ≤ c.perms ∧ c.perms ≤ 127) ∧ (0 ≤ c.typ ∧ c.typ ≤ 255) := by
  unfold capRight spanRight at hr
  rw [permRight_iff h.2.2.2.1.1 h.2.2.2.1.2] at hr
  simp at hr
  omega
theorem has4 {p : Int} (h : 0 ≤ p ∧ p ≤ 127) : permHas p 4 = !decide (bAnd .i64 p 4 = 0) := by
  obtain ⟨n, rfl⟩ : ∃ n : Nat, p = n := ⟨p.toNat, by omega⟩
  have : ∀ q : Fin 128, permHas (q.val : Int) 4 = !decide (bAnd .i64 (q.val : Int) 4 = 0) := by decide +kernel
  exact this ⟨n, by omega⟩
def aloneC (a : Cap) : Bool := (a.tag && decide (a.typ = 1)) && !decide (bAnd .i64 a.perms 4 = 0)
def pairC (a b : Cap) : Bool := ((((a.tag && decide (2 ≤ a.typ)) && !decide (bAnd .i64 a.perms 4 = 0)) && b.tag) && decide (b.typ = a.typ)) && decide (bAnd .i64 b.perms 4 = 0)
theorem refuse_iff {a b : Cap} (ha : CapI a) (hb : CapI b) (ra : capRight a = true) (rb : capRight b = true) : decide (enters a b = 0) = (aloneC a || pairC a b) := by
  have oa := right_ok ha ra
  have ob := right_ok hb rb
  unfold enters aloneC pairC
  rw [has4 oa.2.2.2.1, has4 ob.2.2.2.1]
  generalize (bAnd .i64 a.perms 4) = u
  generalize (bAnd .i64 b.perms 4) = v
  cases a.tag
  · simp
  · rw [if_neg (by simp)]
    by_cases h0 : a.typ = 0
    · rw [if_pos h0]; simp [h0]
    · rw [if_neg h0]
      by_cases hu : u = 0
      · simp [hu]
      · rw [if_neg (by simp [hu])]
        by_cases h1 : a.typ = 1
        · rw [if_pos h1]; simp [h1, hu]
        · rw [if_neg h1]
          cases b.tag
          · simp [h1]
          · rw [if_neg (by simp)]
            by_cases h2 : b.typ = a.typ
            · rw [if_neg (by simp [h2])]
              by_cases hv : v = 0
              · rw [if_neg (by simp [hv])]; simp [h1, hu, h2, hv]; omega
              · rw [if_pos (by simp [hv])]; simp [h1, hv]
            · rw [if_pos h2]; simp [h1, h2]
def refX : CaseM := ⟨[⟨23, 0, 1, 0⟩, ⟨0, 0, 0, 0⟩], [], [], [], nullC⟩
def refM : MemM := madeM refX
def refW : List Int := madeW refX
theorem refM_n : refM.n = 4 := madeMJ_n _ _
theorem refW_len : refW.length = 1 := madeWJ_len _ _
theorem ref_great : greatC refX = false := rfl
theorem ref_pos : posC refX = P256 256 := rfl
theorem ref_regs : madeR refX = [nullC, nullC, nullC, nullC, nullC, nullC, nullC, nullC] := rfl
theorem ref_i1 : insP (P256 256) refM = (⟨23, 0, 1, 0⟩, 0) := by kernel_rfl
abbrev refR (a b : Cap) : List Cap := [a, b, nullC, nullC, nullC, nullC, nullC, nullC]
theorem ref_caE (a b : Cap) : caE (refR a b) ⟨23, 0, 1, 0⟩ [] (P256 260) = enters a b := by
  unfold caE
  show (if enters a b = 0 then _ else enters a b) = _
  by_cases h : enters a b = 0
  · rw [if_pos h, if_pos (by kernel_rfl)]; exact h.symm
  · rw [if_neg h]
theorem ref_yes {a b : Cap} (h : enters a b = 0) : ∃ regs fs pos, regs.length = 8 ∧ stepF (P256 256) (refR a b) [] refM refW 64 = ⟨(0, 0, 0), pos, regs, fs, refM⟩ := by
  rw [step_went ref_i1 (by decide) (by decide) rfl (by rw [astep256]; show caE _ _ _ _ = 0; rw [ref_caE]; exact h)]
  exact ⟨_, _, _, exR_len (pos := P256 256) rfl, rfl⟩
theorem ref_no {a b : Cap} (h : ¬ enters a b = 0) : stepF (P256 256) (refR a b) [] refM refW 64 = ⟨(2, 0, enters a b), P256 256, refR a b, [], refM⟩ := by
  have e1 : exE ⟨23, 0, 1, 0⟩ (P256 260) (P256 256) (refR a b) [] refM = enters a b := ref_caE a b
  obtain ⟨c1, c2, c3, c4⟩ := caE_0 (regs := refR a b) (x := ⟨23, 0, 1, 0⟩) (fs := []) (nx := P256 260) h
  rw [step_trap ref_i1 (by decide) (by decide) rfl (by rw [astep256, e1]; exact h), astep256, e1]
  show Stp.mk _ _ (caR _ _ _ _) (caF _ _ _ _) _ = _
  rw [c2, c3]; rfl
theorem refMade (q : CaseS) (hq : CaseOk q refX) : Ct Tryz.prog 14 #[caseV q refX] (caseRo q refX) [] (X := {p : Pl // MOk p.ms refM ∧ ShOk p.ps refW 64}) (fun y => .tuple #[ad y.1.tb 0, ad y.1.mb 0, ad y.1.sb 0]) (fun y N => worldS y.1 (P256 256) [nullC, nullC, nullC, nullC, nullC, nullC, nullC, nullC] [] refM refW ++ N) := by
  have := f14_ct q refX hq ref_great
  rw [ref_pos, ref_regs] at this
  exact this
theorem ref_r1 {a : Cap} (h : capRight a = true) : setR [nullC, nullC, nullC, nullC, nullC, nullC, nullC, nullC] 0 a = [a, nullC, nullC, nullC, nullC, nullC, nullC, nullC] := by
  unfold setR; rw [h]; rfl
theorem ref_r2 {a b : Cap} (h : capRight b = true) : setR [a, nullC, nullC, nullC, nullC, nullC, nullC, nullC] 1 b = refR a b := by
  unfold setR; rw [h]; rfl

end Go.Proofs
