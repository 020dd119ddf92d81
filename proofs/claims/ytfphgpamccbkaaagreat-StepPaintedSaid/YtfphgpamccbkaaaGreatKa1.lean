/- The core of the symbolic walk: states, and a law for each form of code. No program stands here. -/
import Derived.Laws.RangeString
import Derived.RangeFuncRecord
import Derived.RowKit3
import Derived.Below
import Derived.ChangeSame
import Derived.Deep.Slices
import Derived.SizedLaws
import Derived.Carry
import Derived.OpenShut
import Derived.Test.YtfphgpamccbkaaaGreatKa0
set_option linter.unusedVariables false
set_option linter.unusedSimpArgs false
set_option linter.unusedSectionVars false
set_option linter.unnecessarySimpa false
namespace Go.Sz
open Go
attribute [local irreducible] pt lift exs own emp

/-! ### cells at any place -/
theorem GetL.of {v : Value} : ∀ {l : List Value} {i : Nat}, l[i]? = some v → GetL l i v
  | [], _, h => by simp at h
  | x :: l, 0, h => by simp at h; subst h; exact .zero
  | x :: l, i + 1, h => .succ (GetL.of (by simpa using h))
theorem SetL.of {v : Value} : ∀ {l : List Value} {i : Nat}, i < l.length → SetL l i v (l.set i v)
  | [], _, h => by simp at h
  | x :: l, 0, h => .zero
  | x :: l, i + 1, h => .succ (SetL.of (by simpa using h))
theorem ExtL.of : ∀ {l : List Value} {i k : Nat}, i + k ≤ l.length → ExtL l i k (cutL l i k)
  | l, 0, 0, _ => .nil
  | [], 0, k + 1, h => by simp at h
  | x :: l, 0, k + 1, h => .take (by have := ExtL.of (l := l) (i := 0) (k := k) (by simp at h; omega); simpa [cutL] using this)
  | [], i + 1, k, h => by simp at h
  | x :: l, i + 1, k, h => .skip (by have := ExtL.of (l := l) (i := i) (k := k) (by simp at h; omega); simpa [cutL] using this)
theorem PutL.of : ∀ {l : List Value} {i : Nat} {vs : List Value}, i + vs.length ≤ l.length → PutL l i vs (putAt l i vs)
  | l, 0, [], _ => by simpa [putAt] using PutL.nil
  | [], 0, v :: vs, h => by simp at h
  | x :: l, 0, v :: vs, h => by
    have := PutL.of (l := l) (i := 0) (vs := vs) (by simp at h; omega)
    simpa [putAt] using PutL.put (x := x) (v := v) this
  | [], i + 1, vs, h => by simp at h
  | x :: l, i + 1, vs, h => by
    have := PutL.of (l := l) (i := i) (vs := vs) (by simp at h; omega)
    have e : putAt (x :: l) (i + 1) vs = x :: putAt l i vs := by simp [putAt, show i + 1 + vs.length = (i + vs.length) + 1 from by omega]
    rw [e]
    exact .skip this

/-! ### lists of things -/
section
variable {α : Type} {f : α → List Value} {sz : Nat}
theorem fm_len (hf : ∀ x, (f x).length = sz) (l : List α) : (l.flatMap f).length = l.length * sz := by
  induction l with
  | nil => simp
  | cons x l ih => simp [hf, ih, Nat.add_mul]; omega
theorem fm_take (hf : ∀ x, (f x).length = sz) (l : List α) (i : Nat) : (l.flatMap f).take (i * sz) = (l.take i).flatMap f := by
  induction l generalizing i with
  | nil => simp
  | cons x l ih =>
    cases i with
    | zero => simp
    | succ i =>
      simp only [List.flatMap_cons, List.take_succ_cons]
      rw [show (i + 1) * sz = (f x).length + i * sz from by rw [hf, Nat.add_mul]; omega, List.take_length_add_append, ih]
theorem fm_drop (hf : ∀ x, (f x).length = sz) (l : List α) (i : Nat) : (l.flatMap f).drop (i * sz) = (l.drop i).flatMap f := by
  induction l generalizing i with
  | nil => simp
  | cons x l ih =>
    cases i with
    | zero => simp
    | succ i =>
      simp only [List.flatMap_cons, List.drop_succ_cons]
      rw [show (i + 1) * sz = (f x).length + i * sz from by rw [hf, Nat.add_mul]; omega, List.drop_length_add_append, ih]
theorem fm_sub (hf : ∀ x, (f x).length = sz) (l : List α) (i j : Nat) : subL sz (l.flatMap f) i j = ((l.drop i).take (j - i)).flatMap f := by
  unfold subL cutL
  rw [fm_drop hf, fm_take hf]
theorem fm_cut (hf : ∀ x, (f x).length = sz) (l : List α) (i : Nat) {x : α} (h : l[i]? = some x) : cutL (l.flatMap f) (i * sz) sz = f x := by
  have hi := (List.getElem?_eq_some_iff.1 h)
  obtain ⟨hlt, hx⟩ := hi
  unfold cutL
  rw [fm_drop hf, List.drop_eq_getElem_cons hlt, List.flatMap_cons, List.take_append_of_le_length (by rw [hf]; omega), hx]
  rw [List.take_of_length_le (by rw [hf]; omega)]
theorem fm_le (hf : ∀ x, (f x).length = sz) (l : List α) (i : Nat) (h : i < l.length) : i * sz + sz ≤ (l.flatMap f).length := by
  rw [fm_len hf, ← Nat.succ_mul]
  exact Nat.mul_le_mul_right _ h
theorem fm_put (hf : ∀ x, (f x).length = sz) (l : List α) (i : Nat) (y : α) (h : i < l.length) : putAt (l.flatMap f) (i * sz) (f y) = (l.set i y).flatMap f := by
  unfold putAt
  rw [hf, show i * sz + sz = (i + 1) * sz from by rw [Nat.add_mul]; omega, fm_take hf, fm_drop hf, List.set_eq_take_append_cons_drop, if_pos h]
  simp
theorem fm_puts (hf : ∀ x, (f x).length = sz) (l : List α) (i : Nat) (ys : List α) : putAt (l.flatMap f) (i * sz) (ys.flatMap f) = (l.take i ++ ys ++ l.drop (i + ys.length)).flatMap f := by
  unfold putAt
  rw [fm_len hf, ← Nat.add_mul, fm_take hf, fm_drop hf]
  simp
theorem fm_one {g : α → Value} (l : List α) (i : Nat) : (l.map g)[i]? = (l[i]?).map g := by simp
end

section
variable {r : Option Nat} {P : Program} {Q : Exit → Act → World → Prop} {n : Nat} {D : List Deferred} {E : Env} {L M : List HProp} {κ : Ctx} {ops : Array Oper} {rest : List Oper}
variable {d : Nat} {dd : Option Tmp} {T : TypeId} {ps : String} {af : Array Edge} {gd : Option (Nat × Bool)}

/-! ### texts -/
theorem run_bytes_str {src dst e k : Nat} {by_ sz : Nat} {s : Shp} {ns : List Int} (ht : slcF P src = some (e, sz, by_)) (he : P.underlying e = some (.int .u8)) (hd : P.underlying dst = some .string) (ok : Sok 1 s k (ns.map (Value.int .u8))) {w : World} (hw : held s (ns.map (Value.int .u8)) w) :
    (convert src dst (sv s k)).run P w = .ok (.string (strOf ns)) w := by
  obtain ⟨hu, _⟩ := slcF_run ht
  obtain ⟨a, cap, e1⟩ := sv_slice ok
  rw [e1, run_convert_bytes_string w src dst e a k cap hu he hd]
  cases s with
  | mem g =>
    cases e1
    have hf := run_firstS (P := P) ok hw
    simp only [sv, Builtin.firstCells, Nat.mul_one] at hf
    exact run_bytesToString w _ _ _ ns hf
  | nil =>
    have hk := ok.far (fun _ e => by cases e)
    subst hk
    cases e1
    have := ok.len
    simp at this
    subst this
    simp [Conv.bytesToString, strOf]
  | wild a0 cap0 =>
    have hk := ok.far (fun _ e => by cases e)
    subst hk
    have e2 : a = some a0 ∧ cap = cap0 := by cases e1; exact ⟨rfl, rfl⟩
    obtain ⟨rfl, rfl⟩ := e2
    have := ok.len
    simp at this
    subst this
    have := run_bytesToString (P := P) w a0 0 cap [] (by simpa using run_loadCells_list (P := P) w a0 [] (by simp))
    simpa [strOf] using this
theorem pr_bytesStr {src dst e k : Nat} {by_ sz : Nat} {s : Shp} {ns : List Int} {x : Operand} (ht : slcF P src = some (e, sz, by_)) (he : P.underlying e = some (.int .u8)) (hd : P.underlying dst = some .string) (hx : E.ev x = some (sv s k)) (ok : Sok 1 s k (ns.map (Value.int .u8)))
    (hr : RdS L κ s (ns.map (Value.int .u8)) := by first | exact RdS.nil | assumption | exact Reads.sl (by assumption) | exact RdS.own (by repeat (first | exact Has.here | apply Has.there))) : PR P (.convert src dst x) T n D E L κ (.string (strOf ns)) :=
  ⟨(fun _ h => by cases h), fun _ _ _ _ a w f s0 => by simp [execOp, f.ev hx, run_bytes_str ht he hd ok (hr.held s0)]⟩

/-! ### rounds over a text -/
theorem tl_rangeStr {t : TypeId} {x : Operand} {u : ByteArray} (ht : P.underlying t = some .string) (hx : E.ev x = some (.string u)) (hd : Nat.blt d n = true) (k : ∀ b, TL r P ops Q rest n D ((d, ad b 0) :: E) (pt b (.stringIter u 0) :: L) κ) :
    TL r P ops Q (⟨some d, .range t x, T, ps, af, none⟩ :: rest) n D E L κ :=
  tl_run (by intro c h; cases h) fun a w f s => ⟨_, w.alloc (.stringIter u 0), by simp [execOp, f.ev hx, run_range_string w t u ht]; rfl, .inl ⟨_, rfl, k _ _ _ (f.put hd _) (s.alloc _)⟩⟩
theorem tl_nextStr {x : Operand} {u : ByteArray} {b i : Nat} (hx : E.ev x = some (ad b 0)) (hr : Rem L (pt b (.stringIter u i)) M) (ha : ∀ h : i < u.size, u[i].toNat < 128) (hd : Nat.blt d n = true)
    (k1 : ∀ h : i < u.size, TL r P ops Q rest n D ((d, .tuple #[.bool true, .int .i64 i, .int .i32 (u[i].toNat : Int)]) :: E) (pt b (.stringIter u (i + 1)) :: M) κ)
    (k2 : u.size ≤ i → TL r P ops Q rest n D ((d, .tuple #[.bool false]) :: E) (pt b (.stringIter u i) :: M) κ) :
    TL r P ops Q (⟨some d, .next x true, T, ps, af, none⟩ :: rest) n D E L κ :=
  tl_run (by intro c h; cases h) fun a w f s0 => by
    have s1 := s0.rem hr
    have hb := s1.pt_heap
    have hg : (getObj b).run P w = .ok (.stringIter u i) w := by simp [getObj, Sem.run, hb]
    by_cases h : i < u.size
    · have hdec : Utf8.decode u i = (u[i].toNat, 1) := decode_ascii u i h (ha h)
      refine ⟨.value (.tuple #[.bool true, .int .i64 i, .int .i32 (u[i].toNat : Int)]), { w with heap := w.heap.setIfInBounds b (.stringIter u (i + 1)) }, ?_, .inl ⟨_, rfl, k1 h _ _ (f.put hd _) ?_⟩⟩
      · simp [execOp, f.ev hx, ad, Instr.next, hg, h, hdec, setObj, Sem.run, hb, goInt]
      · refine s1.set ⟨s1.1.os, s1.1.tape, s1.1.output, by simpa using s1.1.size⟩ ?_ ?_
        · have hlt : b < w.heap.size := (Array.getElem?_eq_some_iff.1 hb).1
          simp [hlt]
        · intro c hc
          simp [Array.getElem?_setIfInBounds_ne (Ne.symm hc)]
    · refine ⟨.value (.tuple #[.bool false]), w, ?_, .inl ⟨_, rfl, k2 (by omega) _ _ (f.put hd _) s1⟩⟩
      simp [execOp, f.ev hx, ad, Instr.next, hg, h]

theorem Rdbs.of {l : List (Nat × Obj)} (h : Reads l κ) : Rdbs L κ l := by
  induction l with
  | nil => exact .nil
  | cons p l ih => exact .cons (.fr (h p List.mem_cons_self)) (ih fun q hq => h q (List.mem_cons_of_mem _ hq))
theorem Evs.ev {E : Env} {xs : List Operand} {us : List Value} (h : Evs E xs us) : xs.map E.ev = us.map some := by
  induction h with
  | nil => rfl
  | cons h _ ih => simp [h, ih]
theorem pr_mkf {fn : Fn} {xs ys : List Operand} {us vs : List Value} (hx : Evs E xs us) (hy : Evs E ys vs) : PR P (.makeFunc fn xs.toArray ys.toArray) T n D E L κ (.func fn us.toArray vs.toArray) := pr_makeFunc hx.ev hy.ev
/-! ### a call of a function value -/
theorem tl_callV {f : Operand} {xs : List Operand} {ts : Array TypeId} {k : FuncId} {fs cs : Array Value} {vs args : List Value} {ro : List (Nat × Obj)} {pre R : List HProp} {X : Type} {val : X → Value} {out : X → List HProp → List HProp}
    (hC : Ct P k args.toArray ro pre val out) (hf : E.ev f = some (.func (.func k) fs cs)) (hx : Evs E xs vs) (hd : Nat.blt d n = true) (ha : fs.toList ++ vs ++ cs.toList = args := by rfl)
    (hp : Pick L pre R := by repeat (first | exact Pick.nil | exact Rem.here | apply Rem.there | apply Pick.cons)) (hro : Rdbs R κ ro := by first | ((repeat (first | exact Rdbs.nil | (refine Rdbs.cons ?_ ?_; focus (first | (refine Rdb.fr ?_; assumption) | (refine Rdb.own ?_; (repeat (first | exact Has.here | apply Has.there)); done))) | exact Rdbs.of (by assumption) | (refine Rdbs.sl ?_; focus (first | exact RdS.nil | assumption | (refine Reads.sl ?_; assumption) | (refine RdS.own ?_; (repeat (first | exact Has.here | apply Has.there)); done))) | apply Rdbs.app)); done) | exact Rdbs.nil | exact Rdbs.of (by assumption) | exact Rdbs.sl (by first | exact RdS.nil | assumption | exact Reads.sl (by assumption) | exact RdS.own (by repeat (first | exact Has.here | apply Has.there))) | exact Rdbs.app (by first | exact Rdbs.nil | exact Rdbs.of (by assumption) | exact Rdbs.sl (by first | exact RdS.nil | assumption | exact Reads.sl (by assumption) | exact RdS.own (by repeat (first | exact Has.here | apply Has.there))) | (repeat (first | exact Rdbs.nil | exact Rdb.fr (by assumption) | exact Rdb.own (by repeat (first | exact Has.here | apply Has.there)) | apply Rdbs.cons))) (by first | exact Rdbs.nil | exact Rdbs.of (by assumption) | exact Rdbs.sl (by first | exact RdS.nil | assumption | exact Reads.sl (by assumption) | exact RdS.own (by repeat (first | exact Has.here | apply Has.there))) | (repeat (first | exact Rdbs.nil | exact Rdb.fr (by assumption) | exact Rdb.own (by repeat (first | exact Has.here | apply Has.there)) | apply Rdbs.cons))) | exact Rdbs.app (by first | exact Rdbs.nil | exact Rdbs.of (by assumption) | exact Rdbs.sl (by first | exact RdS.nil | assumption | exact Reads.sl (by assumption) | exact RdS.own (by repeat (first | exact Has.here | apply Has.there))) | (repeat (first | exact Rdbs.nil | exact Rdb.fr (by assumption) | exact Rdb.own (by repeat (first | exact Has.here | apply Has.there)) | apply Rdbs.cons))) (Rdbs.app (by first | exact Rdbs.nil | exact Rdbs.of (by assumption) | exact Rdbs.sl (by first | exact RdS.nil | assumption | exact Reads.sl (by assumption) | exact RdS.own (by repeat (first | exact Has.here | apply Has.there))) | (repeat (first | exact Rdbs.nil | exact Rdb.fr (by assumption) | exact Rdb.own (by repeat (first | exact Has.here | apply Has.there)) | apply Rdbs.cons))) (by first | exact Rdbs.nil | exact Rdbs.of (by assumption) | exact Rdbs.sl (by first | exact RdS.nil | assumption | exact Reads.sl (by assumption) | exact RdS.own (by repeat (first | exact Has.here | apply Has.there))) | (repeat (first | exact Rdbs.nil | exact Rdb.fr (by assumption) | exact Rdb.own (by repeat (first | exact Has.here | apply Has.there)) | apply Rdbs.cons)))) | (repeat (first | exact Rdbs.nil | exact Rdb.fr (by assumption) | exact Rdb.own (by repeat (first | exact Has.here | apply Has.there)) | apply Rdbs.cons))) (ho : ∀ x N, out x N = out x [] ++ N := by intro _ _; rfl)
    (kk : ∀ x, TL r P ops Q rest n D ((d, val x) :: E) (out x R) κ) :
    TL r P ops Q (⟨some d, .call { callee := .value f, args := xs.toArray, argTypes := ts }, T, ps, af, none⟩ :: rest) n D E L κ :=
  tl_callG hC hf hx (by subst ha; apply Array.ext'; simp) hp hro ho fun x a w f s => kk x _ w (f.put hd _) s
/-- a call of a function value that reads alone -/
theorem tl_rdV {f : Operand} {xs : List Operand} {ts : Array TypeId} {k : FuncId} {fs cs : Array Value} {vs args : List Value} {ro : List (Nat × Obj)} {pre R : List HProp} {v : Value}
    (hC : Rd P k args.toArray ro pre v) (hf : E.ev f = some (.func (.func k) fs cs)) (hx : Evs E xs vs) (hd : Nat.blt d n = true) (ha : fs.toList ++ vs ++ cs.toList = args := by rfl)
    (hp : Pick L pre R := by repeat (first | exact Pick.nil | exact Rem.here | apply Rem.there | apply Pick.cons)) (hro : Rdbs R κ ro := by first | ((repeat (first | exact Rdbs.nil | (refine Rdbs.cons ?_ ?_; focus (first | (refine Rdb.fr ?_; assumption) | (refine Rdb.own ?_; (repeat (first | exact Has.here | apply Has.there)); done))) | exact Rdbs.of (by assumption) | (refine Rdbs.sl ?_; focus (first | exact RdS.nil | assumption | (refine Reads.sl ?_; assumption) | (refine RdS.own ?_; (repeat (first | exact Has.here | apply Has.there)); done))) | apply Rdbs.app)); done) | exact Rdbs.nil | exact Rdbs.of (by assumption) | exact Rdbs.sl (by first | exact RdS.nil | assumption | exact Reads.sl (by assumption) | exact RdS.own (by repeat (first | exact Has.here | apply Has.there))) | exact Rdbs.app (by first | exact Rdbs.nil | exact Rdbs.of (by assumption) | exact Rdbs.sl (by first | exact RdS.nil | assumption | exact Reads.sl (by assumption) | exact RdS.own (by repeat (first | exact Has.here | apply Has.there))) | (repeat (first | exact Rdbs.nil | exact Rdb.fr (by assumption) | exact Rdb.own (by repeat (first | exact Has.here | apply Has.there)) | apply Rdbs.cons))) (by first | exact Rdbs.nil | exact Rdbs.of (by assumption) | exact Rdbs.sl (by first | exact RdS.nil | assumption | exact Reads.sl (by assumption) | exact RdS.own (by repeat (first | exact Has.here | apply Has.there))) | (repeat (first | exact Rdbs.nil | exact Rdb.fr (by assumption) | exact Rdb.own (by repeat (first | exact Has.here | apply Has.there)) | apply Rdbs.cons))) | exact Rdbs.app (by first | exact Rdbs.nil | exact Rdbs.of (by assumption) | exact Rdbs.sl (by first | exact RdS.nil | assumption | exact Reads.sl (by assumption) | exact RdS.own (by repeat (first | exact Has.here | apply Has.there))) | (repeat (first | exact Rdbs.nil | exact Rdb.fr (by assumption) | exact Rdb.own (by repeat (first | exact Has.here | apply Has.there)) | apply Rdbs.cons))) (Rdbs.app (by first | exact Rdbs.nil | exact Rdbs.of (by assumption) | exact Rdbs.sl (by first | exact RdS.nil | assumption | exact Reads.sl (by assumption) | exact RdS.own (by repeat (first | exact Has.here | apply Has.there))) | (repeat (first | exact Rdbs.nil | exact Rdb.fr (by assumption) | exact Rdb.own (by repeat (first | exact Has.here | apply Has.there)) | apply Rdbs.cons))) (by first | exact Rdbs.nil | exact Rdbs.of (by assumption) | exact Rdbs.sl (by first | exact RdS.nil | assumption | exact Reads.sl (by assumption) | exact RdS.own (by repeat (first | exact Has.here | apply Has.there))) | (repeat (first | exact Rdbs.nil | exact Rdb.fr (by assumption) | exact Rdb.own (by repeat (first | exact Has.here | apply Has.there)) | apply Rdbs.cons)))) | (repeat (first | exact Rdbs.nil | exact Rdb.fr (by assumption) | exact Rdb.own (by repeat (first | exact Has.here | apply Has.there)) | apply Rdbs.cons)))
    (kk : TL r P ops Q rest n D ((d, v) :: E) L κ) :
    TL r P ops Q (⟨some d, .call { callee := .value f, args := xs.toArray, argTypes := ts }, T, ps, af, none⟩ :: rest) n D E L κ := by
  have hC' : Ct P k args.toArray ro pre (fun _ : Unit => v) (fun _ N => pre ++ N) := ⟨hC.1, fun κ w h1 h2 => (hC.2 κ w h1 h2).mono (by rintro e w' ⟨x, h, s⟩; exact ⟨x, h, by simpa using s⟩)⟩
  refine tl_callG hC' hf hx (by subst ha; apply Array.ext'; simp) hp hro (by intro x N; simp) fun x a w fi s => ?_
  exact kk _ _ (fi.put hd _) (s.perm hp.perm.symm)
/-- a call without a result -/
theorem tl_call0 {xs : List Operand} {ts : Array TypeId} {k : FuncId} {vs : List Value} {ro : List (Nat × Obj)} {pre R : List HProp} {X : Type} {val : X → Value} {out : X → List HProp → List HProp}
    (hC : Ct P k vs.toArray ro pre val out) (hx : Evs E xs vs) (hp : Pick L pre R := by repeat (first | exact Pick.nil | exact Rem.here | apply Rem.there | apply Pick.cons)) (hro : Rdbs R κ ro := by first | ((repeat (first | exact Rdbs.nil | (refine Rdbs.cons ?_ ?_; focus (first | (refine Rdb.fr ?_; assumption) | (refine Rdb.own ?_; (repeat (first | exact Has.here | apply Has.there)); done))) | exact Rdbs.of (by assumption) | (refine Rdbs.sl ?_; focus (first | exact RdS.nil | assumption | (refine Reads.sl ?_; assumption) | (refine RdS.own ?_; (repeat (first | exact Has.here | apply Has.there)); done))) | apply Rdbs.app)); done) | exact Rdbs.nil | exact Rdbs.of (by assumption) | exact Rdbs.sl (by first | exact RdS.nil | assumption | exact Reads.sl (by assumption) | exact RdS.own (by repeat (first | exact Has.here | apply Has.there))) | exact Rdbs.app (by first | exact Rdbs.nil | exact Rdbs.of (by assumption) | exact Rdbs.sl (by first | exact RdS.nil | assumption | exact Reads.sl (by assumption) | exact RdS.own (by repeat (first | exact Has.here | apply Has.there))) | (repeat (first | exact Rdbs.nil | exact Rdb.fr (by assumption) | exact Rdb.own (by repeat (first | exact Has.here | apply Has.there)) | apply Rdbs.cons))) (by first | exact Rdbs.nil | exact Rdbs.of (by assumption) | exact Rdbs.sl (by first | exact RdS.nil | assumption | exact Reads.sl (by assumption) | exact RdS.own (by repeat (first | exact Has.here | apply Has.there))) | (repeat (first | exact Rdbs.nil | exact Rdb.fr (by assumption) | exact Rdb.own (by repeat (first | exact Has.here | apply Has.there)) | apply Rdbs.cons))) | exact Rdbs.app (by first | exact Rdbs.nil | exact Rdbs.of (by assumption) | exact Rdbs.sl (by first | exact RdS.nil | assumption | exact Reads.sl (by assumption) | exact RdS.own (by repeat (first | exact Has.here | apply Has.there))) | (repeat (first | exact Rdbs.nil | exact Rdb.fr (by assumption) | exact Rdb.own (by repeat (first | exact Has.here | apply Has.there)) | apply Rdbs.cons))) (Rdbs.app (by first | exact Rdbs.nil | exact Rdbs.of (by assumption) | exact Rdbs.sl (by first | exact RdS.nil | assumption | exact Reads.sl (by assumption) | exact RdS.own (by repeat (first | exact Has.here | apply Has.there))) | (repeat (first | exact Rdbs.nil | exact Rdb.fr (by assumption) | exact Rdb.own (by repeat (first | exact Has.here | apply Has.there)) | apply Rdbs.cons))) (by first | exact Rdbs.nil | exact Rdbs.of (by assumption) | exact Rdbs.sl (by first | exact RdS.nil | assumption | exact Reads.sl (by assumption) | exact RdS.own (by repeat (first | exact Has.here | apply Has.there))) | (repeat (first | exact Rdbs.nil | exact Rdb.fr (by assumption) | exact Rdb.own (by repeat (first | exact Has.here | apply Has.there)) | apply Rdbs.cons)))) | (repeat (first | exact Rdbs.nil | exact Rdb.fr (by assumption) | exact Rdb.own (by repeat (first | exact Has.here | apply Has.there)) | apply Rdbs.cons))) (ho : ∀ x N, out x N = out x [] ++ N := by intro _ _; rfl)
    (kk : ∀ x, TL r P ops Q rest n D E (out x R) κ) :
    TL r P ops Q (⟨none, .call { callee := .value (.func k), args := xs.toArray, argTypes := ts }, T, ps, af, none⟩ :: rest) n D E L κ :=
  tl_callG hC rfl hx (by simp) hp hro ho fun x a w f s => kk x _ w f s
/-- a call of a function value that has no result -/
theorem tl_callV0 {f : Operand} {xs : List Operand} {ts : Array TypeId} {k : FuncId} {fs cs : Array Value} {vs args : List Value} {ro : List (Nat × Obj)} {pre R : List HProp} {X : Type} {val : X → Value} {out : X → List HProp → List HProp}
    (hC : Ct P k args.toArray ro pre val out) (hf : E.ev f = some (.func (.func k) fs cs)) (hx : Evs E xs vs) (ha : fs.toList ++ vs ++ cs.toList = args := by rfl)
    (hp : Pick L pre R := by repeat (first | exact Pick.nil | exact Rem.here | apply Rem.there | apply Pick.cons)) (hro : Rdbs R κ ro := by first | ((repeat (first | exact Rdbs.nil | (refine Rdbs.cons ?_ ?_; focus (first | (refine Rdb.fr ?_; assumption) | (refine Rdb.own ?_; (repeat (first | exact Has.here | apply Has.there)); done))) | exact Rdbs.of (by assumption) | (refine Rdbs.sl ?_; focus (first | exact RdS.nil | assumption | (refine Reads.sl ?_; assumption) | (refine RdS.own ?_; (repeat (first | exact Has.here | apply Has.there)); done))) | apply Rdbs.app)); done) | exact Rdbs.nil | exact Rdbs.of (by assumption) | exact Rdbs.sl (by first | exact RdS.nil | assumption | exact Reads.sl (by assumption) | exact RdS.own (by repeat (first | exact Has.here | apply Has.there))) | exact Rdbs.app (by first | exact Rdbs.nil | exact Rdbs.of (by assumption) | exact Rdbs.sl (by first | exact RdS.nil | assumption | exact Reads.sl (by assumption) | exact RdS.own (by repeat (first | exact Has.here | apply Has.there))) | (repeat (first | exact Rdbs.nil | exact Rdb.fr (by assumption) | exact Rdb.own (by repeat (first | exact Has.here | apply Has.there)) | apply Rdbs.cons))) (by first | exact Rdbs.nil | exact Rdbs.of (by assumption) | exact Rdbs.sl (by first | exact RdS.nil | assumption | exact Reads.sl (by assumption) | exact RdS.own (by repeat (first | exact Has.here | apply Has.there))) | (repeat (first | exact Rdbs.nil | exact Rdb.fr (by assumption) | exact Rdb.own (by repeat (first | exact Has.here | apply Has.there)) | apply Rdbs.cons))) | exact Rdbs.app (by first | exact Rdbs.nil | exact Rdbs.of (by assumption) | exact Rdbs.sl (by first | exact RdS.nil | assumption | exact Reads.sl (by assumption) | exact RdS.own (by repeat (first | exact Has.here | apply Has.there))) | (repeat (first | exact Rdbs.nil | exact Rdb.fr (by assumption) | exact Rdb.own (by repeat (first | exact Has.here | apply Has.there)) | apply Rdbs.cons))) (Rdbs.app (by first | exact Rdbs.nil | exact Rdbs.of (by assumption) | exact Rdbs.sl (by first | exact RdS.nil | assumption | exact Reads.sl (by assumption) | exact RdS.own (by repeat (first | exact Has.here | apply Has.there))) | (repeat (first | exact Rdbs.nil | exact Rdb.fr (by assumption) | exact Rdb.own (by repeat (first | exact Has.here | apply Has.there)) | apply Rdbs.cons))) (by first | exact Rdbs.nil | exact Rdbs.of (by assumption) | exact Rdbs.sl (by first | exact RdS.nil | assumption | exact Reads.sl (by assumption) | exact RdS.own (by repeat (first | exact Has.here | apply Has.there))) | (repeat (first | exact Rdbs.nil | exact Rdb.fr (by assumption) | exact Rdb.own (by repeat (first | exact Has.here | apply Has.there)) | apply Rdbs.cons)))) | (repeat (first | exact Rdbs.nil | exact Rdb.fr (by assumption) | exact Rdb.own (by repeat (first | exact Has.here | apply Has.there)) | apply Rdbs.cons))) (ho : ∀ x N, out x N = out x [] ++ N := by intro _ _; rfl)
    (kk : ∀ x, TL r P ops Q rest n D E (out x R) κ) :
    TL r P ops Q (⟨none, .call { callee := .value f, args := xs.toArray, argTypes := ts }, T, ps, af, none⟩ :: rest) n D E L κ :=
  tl_callG hC hf hx (by subst ha; apply Array.ext'; simp) hp hro ho fun x a w f s => kk x _ w f s

theorem tl_callS {xs : List Operand} {ts : Array TypeId} {k : FuncId} {vs : List Value} {ro : List (Nat × Obj)} {pre R : List HProp} {X : Type} {val : X → Value} {out : X → List HProp → List HProp}
    (hC : Ct P k vs.toArray ro pre val out) (hx : Evs E xs vs) (hd : Nat.blt d n = true) (hp : Pick L pre R := by repeat (first | exact Pick.nil | exact Rem.here | apply Rem.there | apply Pick.cons)) (hro : Rdbs R κ ro := by first | ((repeat (first | exact Rdbs.nil | (refine Rdbs.cons ?_ ?_; focus (first | (refine Rdb.fr ?_; assumption) | (refine Rdb.own ?_; (repeat (first | exact Has.here | apply Has.there)); done))) | exact Rdbs.of (by assumption) | (refine Rdbs.sl ?_; focus (first | exact RdS.nil | assumption | (refine Reads.sl ?_; assumption) | (refine RdS.own ?_; (repeat (first | exact Has.here | apply Has.there)); done))) | apply Rdbs.app)); done) | exact Rdbs.nil | exact Rdbs.of (by assumption) | exact Rdbs.sl (by first | exact RdS.nil | assumption | exact Reads.sl (by assumption) | exact RdS.own (by repeat (first | exact Has.here | apply Has.there))) | exact Rdbs.app (by first | exact Rdbs.nil | exact Rdbs.of (by assumption) | exact Rdbs.sl (by first | exact RdS.nil | assumption | exact Reads.sl (by assumption) | exact RdS.own (by repeat (first | exact Has.here | apply Has.there))) | (repeat (first | exact Rdbs.nil | exact Rdb.fr (by assumption) | exact Rdb.own (by repeat (first | exact Has.here | apply Has.there)) | apply Rdbs.cons))) (by first | exact Rdbs.nil | exact Rdbs.of (by assumption) | exact Rdbs.sl (by first | exact RdS.nil | assumption | exact Reads.sl (by assumption) | exact RdS.own (by repeat (first | exact Has.here | apply Has.there))) | (repeat (first | exact Rdbs.nil | exact Rdb.fr (by assumption) | exact Rdb.own (by repeat (first | exact Has.here | apply Has.there)) | apply Rdbs.cons))) | exact Rdbs.app (by first | exact Rdbs.nil | exact Rdbs.of (by assumption) | exact Rdbs.sl (by first | exact RdS.nil | assumption | exact Reads.sl (by assumption) | exact RdS.own (by repeat (first | exact Has.here | apply Has.there))) | (repeat (first | exact Rdbs.nil | exact Rdb.fr (by assumption) | exact Rdb.own (by repeat (first | exact Has.here | apply Has.there)) | apply Rdbs.cons))) (Rdbs.app (by first | exact Rdbs.nil | exact Rdbs.of (by assumption) | exact Rdbs.sl (by first | exact RdS.nil | assumption | exact Reads.sl (by assumption) | exact RdS.own (by repeat (first | exact Has.here | apply Has.there))) | (repeat (first | exact Rdbs.nil | exact Rdb.fr (by assumption) | exact Rdb.own (by repeat (first | exact Has.here | apply Has.there)) | apply Rdbs.cons))) (by first | exact Rdbs.nil | exact Rdbs.of (by assumption) | exact Rdbs.sl (by first | exact RdS.nil | assumption | exact Reads.sl (by assumption) | exact RdS.own (by repeat (first | exact Has.here | apply Has.there))) | (repeat (first | exact Rdbs.nil | exact Rdb.fr (by assumption) | exact Rdb.own (by repeat (first | exact Has.here | apply Has.there)) | apply Rdbs.cons)))) | (repeat (first | exact Rdbs.nil | exact Rdb.fr (by assumption) | exact Rdb.own (by repeat (first | exact Has.here | apply Has.there)) | apply Rdbs.cons))) (ho : ∀ x N, out x N = out x [] ++ N := by intro _ _; rfl)
    (kk : ∀ x, TL r P ops Q rest n D ((d, val x) :: E) (out x R) κ) :
    TL r P ops Q (⟨some d, .call { callee := .value (.func k), args := xs.toArray, argTypes := ts }, T, ps, af, none⟩ :: rest) n D E L κ := tl_call hC hx hd hp hro ho kk
theorem tl_rdS {xs : List Operand} {ts : Array TypeId} {k : FuncId} {vs : List Value} {ro : List (Nat × Obj)} {pre R : List HProp} {v : Value}
    (hC : Rd P k vs.toArray ro pre v) (hx : Evs E xs vs) (hd : Nat.blt d n = true) (hp : Pick L pre R := by repeat (first | exact Pick.nil | exact Rem.here | apply Rem.there | apply Pick.cons)) (hro : Rdbs R κ ro := by first | ((repeat (first | exact Rdbs.nil | (refine Rdbs.cons ?_ ?_; focus (first | (refine Rdb.fr ?_; assumption) | (refine Rdb.own ?_; (repeat (first | exact Has.here | apply Has.there)); done))) | exact Rdbs.of (by assumption) | (refine Rdbs.sl ?_; focus (first | exact RdS.nil | assumption | (refine Reads.sl ?_; assumption) | (refine RdS.own ?_; (repeat (first | exact Has.here | apply Has.there)); done))) | apply Rdbs.app)); done) | exact Rdbs.nil | exact Rdbs.of (by assumption) | exact Rdbs.sl (by first | exact RdS.nil | assumption | exact Reads.sl (by assumption) | exact RdS.own (by repeat (first | exact Has.here | apply Has.there))) | exact Rdbs.app (by first | exact Rdbs.nil | exact Rdbs.of (by assumption) | exact Rdbs.sl (by first | exact RdS.nil | assumption | exact Reads.sl (by assumption) | exact RdS.own (by repeat (first | exact Has.here | apply Has.there))) | (repeat (first | exact Rdbs.nil | exact Rdb.fr (by assumption) | exact Rdb.own (by repeat (first | exact Has.here | apply Has.there)) | apply Rdbs.cons))) (by first | exact Rdbs.nil | exact Rdbs.of (by assumption) | exact Rdbs.sl (by first | exact RdS.nil | assumption | exact Reads.sl (by assumption) | exact RdS.own (by repeat (first | exact Has.here | apply Has.there))) | (repeat (first | exact Rdbs.nil | exact Rdb.fr (by assumption) | exact Rdb.own (by repeat (first | exact Has.here | apply Has.there)) | apply Rdbs.cons))) | exact Rdbs.app (by first | exact Rdbs.nil | exact Rdbs.of (by assumption) | exact Rdbs.sl (by first | exact RdS.nil | assumption | exact Reads.sl (by assumption) | exact RdS.own (by repeat (first | exact Has.here | apply Has.there))) | (repeat (first | exact Rdbs.nil | exact Rdb.fr (by assumption) | exact Rdb.own (by repeat (first | exact Has.here | apply Has.there)) | apply Rdbs.cons))) (Rdbs.app (by first | exact Rdbs.nil | exact Rdbs.of (by assumption) | exact Rdbs.sl (by first | exact RdS.nil | assumption | exact Reads.sl (by assumption) | exact RdS.own (by repeat (first | exact Has.here | apply Has.there))) | (repeat (first | exact Rdbs.nil | exact Rdb.fr (by assumption) | exact Rdb.own (by repeat (first | exact Has.here | apply Has.there)) | apply Rdbs.cons))) (by first | exact Rdbs.nil | exact Rdbs.of (by assumption) | exact Rdbs.sl (by first | exact RdS.nil | assumption | exact Reads.sl (by assumption) | exact RdS.own (by repeat (first | exact Has.here | apply Has.there))) | (repeat (first | exact Rdbs.nil | exact Rdb.fr (by assumption) | exact Rdb.own (by repeat (first | exact Has.here | apply Has.there)) | apply Rdbs.cons)))) | (repeat (first | exact Rdbs.nil | exact Rdb.fr (by assumption) | exact Rdb.own (by repeat (first | exact Has.here | apply Has.there)) | apply Rdbs.cons)))
    (kk : TL r P ops Q rest n D ((d, v) :: E) L κ) :
    TL r P ops Q (⟨some d, .call { callee := .value (.func k), args := xs.toArray, argTypes := ts }, T, ps, af, none⟩ :: rest) n D E L κ := tl_rd hC hx hd hp hro kk
theorem tl_rdgtS {xs : List Operand} {ts : Array TypeId} {k : FuncId} {vs : List Value} {ro : List (Nat × Obj)} {pre R : List HProp} {v : Value} {j dj : Nat} {y : Bool}
    (hj : (ops[j]?).bind (·.dst) = some dj) (hu : E.get dj = some (.bool y)) (h : y = true → Rd P k vs.toArray ro pre v ∧ Evs E xs vs) (hd : Nat.blt d n = true) (hp : Pick L pre R := by repeat (first | exact Pick.nil | exact Rem.here | apply Rem.there | apply Pick.cons)) (hro : Rdbs R κ ro := by first | ((repeat (first | exact Rdbs.nil | (refine Rdbs.cons ?_ ?_; focus (first | (refine Rdb.fr ?_; assumption) | (refine Rdb.own ?_; (repeat (first | exact Has.here | apply Has.there)); done))) | exact Rdbs.of (by assumption) | (refine Rdbs.sl ?_; focus (first | exact RdS.nil | assumption | (refine Reads.sl ?_; assumption) | (refine RdS.own ?_; (repeat (first | exact Has.here | apply Has.there)); done))) | apply Rdbs.app)); done) | exact Rdbs.nil | exact Rdbs.of (by assumption) | exact Rdbs.sl (by first | exact RdS.nil | assumption | exact Reads.sl (by assumption) | exact RdS.own (by repeat (first | exact Has.here | apply Has.there))) | exact Rdbs.app (by first | exact Rdbs.nil | exact Rdbs.of (by assumption) | exact Rdbs.sl (by first | exact RdS.nil | assumption | exact Reads.sl (by assumption) | exact RdS.own (by repeat (first | exact Has.here | apply Has.there))) | (repeat (first | exact Rdbs.nil | exact Rdb.fr (by assumption) | exact Rdb.own (by repeat (first | exact Has.here | apply Has.there)) | apply Rdbs.cons))) (by first | exact Rdbs.nil | exact Rdbs.of (by assumption) | exact Rdbs.sl (by first | exact RdS.nil | assumption | exact Reads.sl (by assumption) | exact RdS.own (by repeat (first | exact Has.here | apply Has.there))) | (repeat (first | exact Rdbs.nil | exact Rdb.fr (by assumption) | exact Rdb.own (by repeat (first | exact Has.here | apply Has.there)) | apply Rdbs.cons))) | exact Rdbs.app (by first | exact Rdbs.nil | exact Rdbs.of (by assumption) | exact Rdbs.sl (by first | exact RdS.nil | assumption | exact Reads.sl (by assumption) | exact RdS.own (by repeat (first | exact Has.here | apply Has.there))) | (repeat (first | exact Rdbs.nil | exact Rdb.fr (by assumption) | exact Rdb.own (by repeat (first | exact Has.here | apply Has.there)) | apply Rdbs.cons))) (Rdbs.app (by first | exact Rdbs.nil | exact Rdbs.of (by assumption) | exact Rdbs.sl (by first | exact RdS.nil | assumption | exact Reads.sl (by assumption) | exact RdS.own (by repeat (first | exact Has.here | apply Has.there))) | (repeat (first | exact Rdbs.nil | exact Rdb.fr (by assumption) | exact Rdb.own (by repeat (first | exact Has.here | apply Has.there)) | apply Rdbs.cons))) (by first | exact Rdbs.nil | exact Rdbs.of (by assumption) | exact Rdbs.sl (by first | exact RdS.nil | assumption | exact Reads.sl (by assumption) | exact RdS.own (by repeat (first | exact Has.here | apply Has.there))) | (repeat (first | exact Rdbs.nil | exact Rdb.fr (by assumption) | exact Rdb.own (by repeat (first | exact Has.here | apply Has.there)) | apply Rdbs.cons)))) | (repeat (first | exact Rdbs.nil | exact Rdb.fr (by assumption) | exact Rdb.own (by repeat (first | exact Has.here | apply Has.there)) | apply Rdbs.cons)))
    (kk : TL r P ops Q rest n D ((d, gval y v) :: E) L κ) :
    TL r P ops Q (⟨some d, .call { callee := .value (.func k), args := xs.toArray, argTypes := ts }, T, ps, af, some (j, true)⟩ :: rest) n D E L κ := tl_rdgt hj hu h hd hp hro kk
theorem tl_rdgfS {xs : List Operand} {ts : Array TypeId} {k : FuncId} {vs : List Value} {ro : List (Nat × Obj)} {pre R : List HProp} {v : Value} {j dj : Nat} {y : Bool}
    (hj : (ops[j]?).bind (·.dst) = some dj) (hu : E.get dj = some (.bool y)) (h : (!y) = true → Rd P k vs.toArray ro pre v ∧ Evs E xs vs) (hd : Nat.blt d n = true) (hp : Pick L pre R := by repeat (first | exact Pick.nil | exact Rem.here | apply Rem.there | apply Pick.cons)) (hro : Rdbs R κ ro := by first | ((repeat (first | exact Rdbs.nil | (refine Rdbs.cons ?_ ?_; focus (first | (refine Rdb.fr ?_; assumption) | (refine Rdb.own ?_; (repeat (first | exact Has.here | apply Has.there)); done))) | exact Rdbs.of (by assumption) | (refine Rdbs.sl ?_; focus (first | exact RdS.nil | assumption | (refine Reads.sl ?_; assumption) | (refine RdS.own ?_; (repeat (first | exact Has.here | apply Has.there)); done))) | apply Rdbs.app)); done) | exact Rdbs.nil | exact Rdbs.of (by assumption) | exact Rdbs.sl (by first | exact RdS.nil | assumption | exact Reads.sl (by assumption) | exact RdS.own (by repeat (first | exact Has.here | apply Has.there))) | exact Rdbs.app (by first | exact Rdbs.nil | exact Rdbs.of (by assumption) | exact Rdbs.sl (by first | exact RdS.nil | assumption | exact Reads.sl (by assumption) | exact RdS.own (by repeat (first | exact Has.here | apply Has.there))) | (repeat (first | exact Rdbs.nil | exact Rdb.fr (by assumption) | exact Rdb.own (by repeat (first | exact Has.here | apply Has.there)) | apply Rdbs.cons))) (by first | exact Rdbs.nil | exact Rdbs.of (by assumption) | exact Rdbs.sl (by first | exact RdS.nil | assumption | exact Reads.sl (by assumption) | exact RdS.own (by repeat (first | exact Has.here | apply Has.there))) | (repeat (first | exact Rdbs.nil | exact Rdb.fr (by assumption) | exact Rdb.own (by repeat (first | exact Has.here | apply Has.there)) | apply Rdbs.cons))) | exact Rdbs.app (by first | exact Rdbs.nil | exact Rdbs.of (by assumption) | exact Rdbs.sl (by first | exact RdS.nil | assumption | exact Reads.sl (by assumption) | exact RdS.own (by repeat (first | exact Has.here | apply Has.there))) | (repeat (first | exact Rdbs.nil | exact Rdb.fr (by assumption) | exact Rdb.own (by repeat (first | exact Has.here | apply Has.there)) | apply Rdbs.cons))) (Rdbs.app (by first | exact Rdbs.nil | exact Rdbs.of (by assumption) | exact Rdbs.sl (by first | exact RdS.nil | assumption | exact Reads.sl (by assumption) | exact RdS.own (by repeat (first | exact Has.here | apply Has.there))) | (repeat (first | exact Rdbs.nil | exact Rdb.fr (by assumption) | exact Rdb.own (by repeat (first | exact Has.here | apply Has.there)) | apply Rdbs.cons))) (by first | exact Rdbs.nil | exact Rdbs.of (by assumption) | exact Rdbs.sl (by first | exact RdS.nil | assumption | exact Reads.sl (by assumption) | exact RdS.own (by repeat (first | exact Has.here | apply Has.there))) | (repeat (first | exact Rdbs.nil | exact Rdb.fr (by assumption) | exact Rdb.own (by repeat (first | exact Has.here | apply Has.there)) | apply Rdbs.cons)))) | (repeat (first | exact Rdbs.nil | exact Rdb.fr (by assumption) | exact Rdb.own (by repeat (first | exact Has.here | apply Has.there)) | apply Rdbs.cons)))
    (kk : TL r P ops Q rest n D ((d, gval (!y) v) :: E) L κ) :
    TL r P ops Q (⟨some d, .call { callee := .value (.func k), args := xs.toArray, argTypes := ts }, T, ps, af, some (j, false)⟩ :: rest) n D E L κ := tl_rdgf hj hu h hd hp hro kk
theorem tl_rdggtS {xs : List Operand} {ts : Array TypeId} {k : FuncId} {vs : List Value} {ro : List (Nat × Obj)} {pre R : List HProp} {v : Value} {j dj : Nat} {c y : Bool}
    (hj : (ops[j]?).bind (·.dst) = some dj) (hu : E.get dj = some (gval c (.bool y))) (h : (c && y) = true → Rd P k vs.toArray ro pre v ∧ Evs E xs vs) (hd : Nat.blt d n = true) (hp : Pick L pre R := by repeat (first | exact Pick.nil | exact Rem.here | apply Rem.there | apply Pick.cons)) (hro : Rdbs R κ ro := by first | ((repeat (first | exact Rdbs.nil | (refine Rdbs.cons ?_ ?_; focus (first | (refine Rdb.fr ?_; assumption) | (refine Rdb.own ?_; (repeat (first | exact Has.here | apply Has.there)); done))) | exact Rdbs.of (by assumption) | (refine Rdbs.sl ?_; focus (first | exact RdS.nil | assumption | (refine Reads.sl ?_; assumption) | (refine RdS.own ?_; (repeat (first | exact Has.here | apply Has.there)); done))) | apply Rdbs.app)); done) | exact Rdbs.nil | exact Rdbs.of (by assumption) | exact Rdbs.sl (by first | exact RdS.nil | assumption | exact Reads.sl (by assumption) | exact RdS.own (by repeat (first | exact Has.here | apply Has.there))) | exact Rdbs.app (by first | exact Rdbs.nil | exact Rdbs.of (by assumption) | exact Rdbs.sl (by first | exact RdS.nil | assumption | exact Reads.sl (by assumption) | exact RdS.own (by repeat (first | exact Has.here | apply Has.there))) | (repeat (first | exact Rdbs.nil | exact Rdb.fr (by assumption) | exact Rdb.own (by repeat (first | exact Has.here | apply Has.there)) | apply Rdbs.cons))) (by first | exact Rdbs.nil | exact Rdbs.of (by assumption) | exact Rdbs.sl (by first | exact RdS.nil | assumption | exact Reads.sl (by assumption) | exact RdS.own (by repeat (first | exact Has.here | apply Has.there))) | (repeat (first | exact Rdbs.nil | exact Rdb.fr (by assumption) | exact Rdb.own (by repeat (first | exact Has.here | apply Has.there)) | apply Rdbs.cons))) | exact Rdbs.app (by first | exact Rdbs.nil | exact Rdbs.of (by assumption) | exact Rdbs.sl (by first | exact RdS.nil | assumption | exact Reads.sl (by assumption) | exact RdS.own (by repeat (first | exact Has.here | apply Has.there))) | (repeat (first | exact Rdbs.nil | exact Rdb.fr (by assumption) | exact Rdb.own (by repeat (first | exact Has.here | apply Has.there)) | apply Rdbs.cons))) (Rdbs.app (by first | exact Rdbs.nil | exact Rdbs.of (by assumption) | exact Rdbs.sl (by first | exact RdS.nil | assumption | exact Reads.sl (by assumption) | exact RdS.own (by repeat (first | exact Has.here | apply Has.there))) | (repeat (first | exact Rdbs.nil | exact Rdb.fr (by assumption) | exact Rdb.own (by repeat (first | exact Has.here | apply Has.there)) | apply Rdbs.cons))) (by first | exact Rdbs.nil | exact Rdbs.of (by assumption) | exact Rdbs.sl (by first | exact RdS.nil | assumption | exact Reads.sl (by assumption) | exact RdS.own (by repeat (first | exact Has.here | apply Has.there))) | (repeat (first | exact Rdbs.nil | exact Rdb.fr (by assumption) | exact Rdb.own (by repeat (first | exact Has.here | apply Has.there)) | apply Rdbs.cons)))) | (repeat (first | exact Rdbs.nil | exact Rdb.fr (by assumption) | exact Rdb.own (by repeat (first | exact Has.here | apply Has.there)) | apply Rdbs.cons)))
    (kk : TL r P ops Q rest n D ((d, gval (c && y) v) :: E) L κ) :
    TL r P ops Q (⟨some d, .call { callee := .value (.func k), args := xs.toArray, argTypes := ts }, T, ps, af, some (j, true)⟩ :: rest) n D E L κ := tl_rdggt hj hu h hd hp hro kk
theorem tl_rdggfS {xs : List Operand} {ts : Array TypeId} {k : FuncId} {vs : List Value} {ro : List (Nat × Obj)} {pre R : List HProp} {v : Value} {j dj : Nat} {c y : Bool}
    (hj : (ops[j]?).bind (·.dst) = some dj) (hu : E.get dj = some (gval c (.bool y))) (h : (c && !y) = true → Rd P k vs.toArray ro pre v ∧ Evs E xs vs) (hd : Nat.blt d n = true) (hp : Pick L pre R := by repeat (first | exact Pick.nil | exact Rem.here | apply Rem.there | apply Pick.cons)) (hro : Rdbs R κ ro := by first | ((repeat (first | exact Rdbs.nil | (refine Rdbs.cons ?_ ?_; focus (first | (refine Rdb.fr ?_; assumption) | (refine Rdb.own ?_; (repeat (first | exact Has.here | apply Has.there)); done))) | exact Rdbs.of (by assumption) | (refine Rdbs.sl ?_; focus (first | exact RdS.nil | assumption | (refine Reads.sl ?_; assumption) | (refine RdS.own ?_; (repeat (first | exact Has.here | apply Has.there)); done))) | apply Rdbs.app)); done) | exact Rdbs.nil | exact Rdbs.of (by assumption) | exact Rdbs.sl (by first | exact RdS.nil | assumption | exact Reads.sl (by assumption) | exact RdS.own (by repeat (first | exact Has.here | apply Has.there))) | exact Rdbs.app (by first | exact Rdbs.nil | exact Rdbs.of (by assumption) | exact Rdbs.sl (by first | exact RdS.nil | assumption | exact Reads.sl (by assumption) | exact RdS.own (by repeat (first | exact Has.here | apply Has.there))) | (repeat (first | exact Rdbs.nil | exact Rdb.fr (by assumption) | exact Rdb.own (by repeat (first | exact Has.here | apply Has.there)) | apply Rdbs.cons))) (by first | exact Rdbs.nil | exact Rdbs.of (by assumption) | exact Rdbs.sl (by first | exact RdS.nil | assumption | exact Reads.sl (by assumption) | exact RdS.own (by repeat (first | exact Has.here | apply Has.there))) | (repeat (first | exact Rdbs.nil | exact Rdb.fr (by assumption) | exact Rdb.own (by repeat (first | exact Has.here | apply Has.there)) | apply Rdbs.cons))) | exact Rdbs.app (by first | exact Rdbs.nil | exact Rdbs.of (by assumption) | exact Rdbs.sl (by first | exact RdS.nil | assumption | exact Reads.sl (by assumption) | exact RdS.own (by repeat (first | exact Has.here | apply Has.there))) | (repeat (first | exact Rdbs.nil | exact Rdb.fr (by assumption) | exact Rdb.own (by repeat (first | exact Has.here | apply Has.there)) | apply Rdbs.cons))) (Rdbs.app (by first | exact Rdbs.nil | exact Rdbs.of (by assumption) | exact Rdbs.sl (by first | exact RdS.nil | assumption | exact Reads.sl (by assumption) | exact RdS.own (by repeat (first | exact Has.here | apply Has.there))) | (repeat (first | exact Rdbs.nil | exact Rdb.fr (by assumption) | exact Rdb.own (by repeat (first | exact Has.here | apply Has.there)) | apply Rdbs.cons))) (by first | exact Rdbs.nil | exact Rdbs.of (by assumption) | exact Rdbs.sl (by first | exact RdS.nil | assumption | exact Reads.sl (by assumption) | exact RdS.own (by repeat (first | exact Has.here | apply Has.there))) | (repeat (first | exact Rdbs.nil | exact Rdb.fr (by assumption) | exact Rdb.own (by repeat (first | exact Has.here | apply Has.there)) | apply Rdbs.cons)))) | (repeat (first | exact Rdbs.nil | exact Rdb.fr (by assumption) | exact Rdb.own (by repeat (first | exact Has.here | apply Has.there)) | apply Rdbs.cons)))
    (kk : TL r P ops Q rest n D ((d, gval (c && !y) v) :: E) L κ) :
    TL r P ops Q (⟨some d, .call { callee := .value (.func k), args := xs.toArray, argTypes := ts }, T, ps, af, some (j, false)⟩ :: rest) n D E L κ := tl_rdggf hj hu h hd hp hro kk

/-! ### rounds with a condition; ends with a value that is told otherwise -/
theorem tc_loopP {c : Code} {X : Type} (I : X → Prop) (E' : X → Env) (L' : X → List HProp) (μ : X → Nat) (i : X) (hI : I i) (hE : Live E (E' i)) {R : List HProp}
    (round : ∀ i, I i → TC r P c (Exit.then (fun a w => ∃ j, I j ∧ μ j < μ i ∧ Fits (E' j) n D a ∧ St (L' j) κ w) Q) n D (E' i) (L' i) κ)
    (hL : Pick L (L' i) R := by repeat (first | exact Pick.nil | exact Rem.here | apply Rem.there | apply Pick.cons)) : TC r P (.loop c) Q n D E L κ := by
  refine tc_loop (X := {i : X // I i}) (fun i => E' i.1) (fun i => L' i.1) (fun i => μ i.1) ⟨i, hI⟩ hE hL fun i => ?_
  intro a w f s
  refine wpIn_mono (round i.1 i.2 a w f s) fun e a w q => ?_
  cases e with
  | normal => obtain ⟨j, hj, h1, h2, h3⟩ := q; exact ⟨⟨j, hj⟩, h1, h2, h3⟩
  | _ => exact q
theorem tq_roundP {X : Type} {I : X → Prop} {E' : X → Env} {L' : X → List HProp} {μ : X → Nat} {i : X} (j : X) (hI : I j) (hμ : μ j < μ i) (hE : Live E (E' j)) {R : List HProp} (hL : Pick L (L' j) R := by repeat (first | exact Pick.nil | exact Rem.here | apply Rem.there | apply Pick.cons)) :
    TQ (Exit.then (fun a w => ∃ j, I j ∧ μ j < μ i ∧ Fits (E' j) n D a ∧ St (L' j) κ w) Q) .normal n D E L κ := fun a w f s => ⟨j, hI, hμ, f.weak hE.weak, s.picked hL⟩
theorem tq_retE1 {fn : Func} {X : Type} {val : X → Value} {out : X → List HProp → List HProp} (e : Exit) (he : e = .ret ∨ e = .normal) (x : X) {t : Nat} {v : Value} (hr : fn.results = #[.tmp t]) (hg : E.get t = some v) (hv : v = val x) {R : List HProp} (hL : Pick L (out x []) R := by repeat (first | exact Pick.nil | exact Rem.here | apply Rem.there | apply Pick.cons)) :
    TQ (bodyPostM (Fc none) 0 P fn (Post val out κ)) e n [] E L κ := tq_ret1 e he x hr (hv ▸ hg) hL

/-- a contract in another's words -/
theorem Ct.cast {k : FuncId} {args args' : Array Value} {ro ro' : List (Nat × Obj)} {pre : List HProp} {X : Type} {val : X → Value} {out : X → List HProp → List HProp} (h : Ct P k args ro pre val out) (ha : args = args') (hr : ro = ro') : Ct P k args' ro' pre val out := by
  subst ha; subst hr; exact h
/-- a value that is told otherwise -/
theorem Rd.val {k : FuncId} {args : Array Value} {ro : List (Nat × Obj)} {pre : List HProp} {v v' : Value} (h : Rd P k args ro pre v) (e : v = v') : Rd P k args ro pre v' := e ▸ h
end
end Go.Sz

namespace Go.Sz
open Go
attribute [local irreducible] pt lift exs own emp

section
variable {r : Option Nat} {P : Program} {Q : Exit → Act → World → Prop} {n : Nat} {D : List Deferred} {E : Env} {L M : List HProp} {κ : Ctx} {ops : Array Oper} {rest : List Oper}
variable {d : Nat} {dd : Option Tmp} {T : TypeId} {ps : String} {af : Array Edge} {gd : Option (Nat × Bool)}

theorem Sok.cut {sz k j cap : Nat} {s : Shp} {c : List Value} (hm : IsM s) (hl : j + k * sz ≤ c.length) (hk : k ≤ cap) (hb : k ≤ 140737488355328) : Sok sz (cutS c j (k * sz) cap s) k (cutL c j (k * sz)) := by
  obtain ⟨g, rfl⟩ := hm
  exact ⟨cutL_len hl, fun h => absurd rfl (h _), fun h e => (by cases e; exact hk), hb⟩
theorem IsM.cut {j m cap : Nat} {s : Shp} {c : List Value} (hm : IsM s) : IsM (cutS c j m cap s) := by
  obtain ⟨g, rfl⟩ := hm
  exact ⟨_, rfl⟩
/-- two ways, by what a slot holds -/
theorem tl_split {t : Nat} {b : Bool} (hg : E.get t = some (.bool b)) (h1 : b = true → TL r P ops Q rest n D ((t, .bool true) :: E) L κ) (h2 : b = false → TL r P ops Q rest n D ((t, .bool false) :: E) L κ) : TL r P ops Q rest n D E L κ := by
  have key : ∀ c, b = c → TL r P ops Q rest n D ((t, .bool c) :: E) L κ → TL r P ops Q rest n D E L κ := by
    intro c hc h
    subst hc
    refine tl_imp (fun w s => s) ?_
    intro a w f s
    refine h a w (f.weak fun q v e => ?_) s
    simp only [Env.get] at e
    by_cases eq : t = q
    · subst eq; rw [beq_self] at e; simp at e; rw [hg, e]
    · rw [beq_ne eq] at e; exact e
  cases b with
  | true => exact key true rfl (h1 rfl)
  | false => exact key false rfl (h2 rfl)
theorem gvt {E : Env} {x : Operand} {c : Bool} {v : Value} (e : E.ev x = some (gval c v)) (h : c = true) : E.ev x = some v := gv e h
theorem gvf {E : Env} {x : Operand} {c : Bool} {v : Value} (e : E.ev x = some (gval (!c) v)) (h : c = false) : E.ev x = some v := gv e (by rw [h]; rfl)
/-- a part of an array that stands in a block -/
theorem pr_sliceC {t len sz j l q h : Nat} {gg : Bool} {x : Operand} {lo hi : Option Operand} (s : Shp) (c : List Value) (ht : arrOf P t = some (len, sz, gg)) (hx : E.ev x = some (ea s j))
    (hl : Bd E 0 lo l) (hh : Bd E len hi h) (hq : l + q = h) (h2 : h ≤ len) (h3 : l < len) (hj : j + l * sz ≤ c.length) (hm : IsM s := by first | assumption | exact ⟨_, rfl⟩) :
    PR P (.slice t x lo hi none) T n D E L κ (sv (cutS c (j + l * sz) (q * sz) (len - l) s) q) := by
  obtain ⟨g, rfl⟩ := hm
  have e : h - l = q := by omega
  subst e
  exact pr_sliceP _ ht hx hl hh (by omega) h2 h3 rfl (by simp; omega) rfl
/-- copied into a part -/
theorem tl_copyC {t t2 e sz by_ k m q j cap : Nat} {x y : Operand} {s s2 : Shp} {c c2 c' : List Value} (ht : slcF P t = some (e, sz, by_)) (hx : E.ev x = some (sv (cutS c j (k * sz) cap s) k)) (hy : E.ev y = some (sv s2 m)) (ok2 : Sok sz s2 m c2)
    (hl : j + k * sz ≤ c.length) (hk : k ≤ cap) (hb : k ≤ 140737488355328) (hq : q = min m k) (h1 : allOne c2 = true) (hc : putAt c j (c2.take (q * sz)) = c') (hf : ∀ g, s = .mem g → g.fr = (0, 0)) (hd : Nat.blt d n = true)
    (kk : TL r P ops Q rest n D ((d, .int .i64 q) :: E) (sl s c' :: M) κ)
    (hm : IsM s := by first | assumption | exact ⟨_, rfl⟩) (hr : Rem L (sl s c) M := by repeat (first | exact Rem.here | apply Rem.there)) (h2 : RdS L κ s2 c2 := by first | exact RdS.nil | assumption | exact Reads.sl (by assumption) | exact RdS.own (by repeat (first | exact Has.here | apply Has.there))) :
    TL r P ops Q (⟨some d, .call { callee := .builtin .copy, args := #[x, y], argTypes := #[t, t2] }, T, ps, af, none⟩ :: rest) n D E L κ := by
  have ok := Sok.cut (sz := sz) hm hl hk hb
  have hrr := hr
  rw [← sl_cut (s := s) (cap := cap) hl] at hrr
  refine tl_copyG ht hx hy ok ok2 hq h1 ?_ (by intro d' h; cases h; exact hd) hrr h2 fun a w f s0 => ?_
  · obtain ⟨g, rfl⟩ := hm
    intro g' e
    cases e
    exact hf g rfl
  · have hlen : (putAt (cutL c j (k * sz)) 0 (c2.take (q * sz))).length = k * sz := by
      rw [putAt_len, cutL_len hl]
      rw [cutL_len hl]
      have := Nat.mul_le_mul_right sz (show q ≤ k by omega)
      simp; omega
    have e2 : putAt c j (putAt (cutL c j (k * sz)) 0 (c2.take (q * sz))) = c' := by
      rw [← hc]
      have hqk := Nat.mul_le_mul_right sz (show q ≤ k by omega)
      have hqm := Nat.mul_le_mul_right sz (show q ≤ m by omega)
      have hl2 := ok2.len
      have ht2 : (c2.take (q * sz)).length = q * sz := by simp; omega
      unfold putAt at *
      rw [hlen]
      simp only [List.take_zero, List.nil_append, Nat.zero_add, ht2]
      unfold cutL
      rw [List.append_assoc, List.append_assoc, List.append_assoc, List.drop_take, List.drop_drop]
      congr 2
      have := List.take_append_drop (k * sz - q * sz) (c.drop (j + q * sz))
      rw [List.drop_drop] at this
      rw [show j + q * sz + (k * sz - q * sz) = j + k * sz from by omega] at this
      rw [this]
    rw [sl_put hlen, e2] at s0
    exact kk _ _ (f.put hd _) s0
/-- a part is cleared -/
theorem tl_clearC {t e sz by_ k j cap : Nat} {z : Value} {x : Operand} {s : Shp} {c c' : List Value} (ht : slcF P t = some (e, sz, by_)) (hz : zeroV P e = some z) (hx : E.ev x = some (sv (cutS c j (k * sz) cap s) k))
    (hl : j + k * sz ≤ c.length) (h0 : 0 < k) (hzs : (Builtin.zeroCells z.cells k).size = k * sz) (h1 : allOne (Builtin.zeroCells z.cells k).toList = true) (hc : putAt c j (Builtin.zeroCells z.cells k).toList = c') (hf : ∀ g, s = .mem g → g.fr = (0, 0))
    (kk : TL r P ops Q rest n D E (sl s c' :: M) κ)
    (hm : IsM s := by first | assumption | exact ⟨_, rfl⟩) (hr : Rem L (sl s c) M := by repeat (first | exact Rem.here | apply Rem.there)) :
    TL r P ops Q (⟨none, .call { callee := .builtin .clear, args := #[x], argTypes := #[t] }, T, ps, af, none⟩ :: rest) n D E L κ :=
  tl_run (by intro c h; cases h) fun a w f s0 => by
    obtain ⟨hu, i, hi, rfl, _⟩ := slcF_run ht
    obtain ⟨g, rfl⟩ := hm
    have hfr := hf g rfl
    have s1 := s0.rem hr
    have hb : w.heap[g.b]? = some (.cells (List.toArray (g.pre ++ c ++ g.post)) g.T (0, 0)) := by
      have := s1.pt_heap
      rw [this, Sh.obj, hfr]
    have hzl : (Builtin.zeroCells z.cells k).toList.length = k * i.size := by simpa using hzs
    obtain ⟨w', q1, q2, q3, q4, q5, q6, q7⟩ := run_storeCells (P := P) (g.pre.length + j) (Builtin.zeroCells z.cells k).toList 0 _ w hb (by simp only [Nat.add_zero, hzl, List.size_toArray, List.length_append]; omega) h1
    refine ⟨.value (.tuple #[]), w', ?_, .inl ⟨_, rfl, ?_⟩⟩
    · have e1 : sv (cutS c j (k * i.size) cap (.mem g)) k = .slice (some ⟨g.b, g.pre.length + j, none⟩) k cap := by
        show Value.slice (some ⟨g.b, (g.pre ++ c.take j).length, none⟩) k cap = _
        congr 3
        simp; omega
      obtain ⟨k', rfl⟩ : ∃ k', k = k' + 1 := ⟨k - 1, by omega⟩
      simp [execOp, resolve, invoke, builtin, f.ev hx, Builtin.clear_, e1, run_underlying hu, run_zeroValue' hz, q1]
    · refine kk _ _ f (s1.store (o' := g.obj c') ?_ q3 q4 q5 q6 q7)
      rw [q2]
      unfold Sh.obj
      rw [hfr, Nat.add_zero, spl_put _ _ _ (by rw [hzl]; simp; omega), ← hc]
      congr 3
      rw [List.append_assoc, putAt_pre, putAt_post _ _ _ _ (by rw [hzl]; omega), List.append_assoc]
/-- a slice, compared with nil -/
theorem pr_eqlS {t yt e sz by_ k : Nat} {x : Operand} {s : Shp} (ht : slcF P t = some (e, sz, by_)) (hx : E.ev x = some (sv s k)) : PR P (.binOp .eql t x (.const (.slice none 0 0)) yt) T n D E L κ (.bool (isNilS s)) :=
  ⟨(fun _ h => by cases h), fun _ _ _ _ a w f s0 => by
    obtain ⟨hu, _⟩ := slcF_run ht
    have hy : a.eval (.const (.slice none 0 0)) = .slice none 0 0 := rfl
    have key : ∀ u : Value, u = sv s k → (Op.equal t u (.slice none 0 0)).run P w = .ok (isNilS s) w := by
      intro u hu'
      subst hu'
      unfold Op.equal
      show (Op.equalIn (9999 + 1) t (sv s k) (.slice none 0 0)).run P w = _
      unfold Op.equalIn
      rw [Sem.run_bind, run_underlying hu]
      cases s <;> rfl
    have k1 := key _ rfl
    cases s <;> simp only [sv] at k1 <;> simp [execOp, f.ev hx, hy, eqGuard, binOp, sv, k1]⟩
end
end Go.Sz

namespace Go.Sz
open Go
attribute [local irreducible] pt lift exs own emp

theorem sv_one (s : Shp) (k : Nat) : oneV (sv s k) = true := by cases s <;> rfl
theorem flat_one {vs : List Value} (h : allOne vs = true) : flat vs = vs := by
  induction vs with
  | nil => rfl
  | cons v vs ih =>
    simp only [allOne, Bool.and_eq_true] at h
    have := ih h.2
    simp only [flat] at this ⊢
    rw [List.flatMap_cons, this, cells_one h.1]; rfl
theorem allSz_one {vs : List Value} (h : allOne vs = true) : allSz 1 vs = true := by
  induction vs with
  | nil => rfl
  | cons v vs ih =>
    simp only [allOne, Bool.and_eq_true] at h
    simp only [allSz, Bool.and_eq_true]
    exact ⟨by rw [cells_one h.1]; rfl, ih h.2⟩
section
variable {r : Option Nat} {P : Program} {Q : Exit → Act → World → Prop} {n : Nat} {D : List Deferred} {E : Env} {L M : List HProp} {κ : Ctx} {ops : Array Oper} {rest : List Oper}
variable {d : Nat} {dd : Option Tmp} {T : TypeId} {ps : String} {af : Array Edge} {gd : Option (Nat × Bool)}

theorem pr_capNil {t e sz by_ : Nat} {x : Operand} (ht : slcF P t = some (e, sz, by_)) (hx : E.ev x = some (sv .nil 0)) :
    PR P (.call { callee := .builtin .cap, args := #[x], argTypes := #[t] }) T n D E L κ (.int .i64 0) :=
  ⟨(fun _ h => by cases h), fun _ _ _ _ a w f s0 => by
    obtain ⟨hu, _⟩ := slcF_run ht
    simp [execOp, resolve, invoke, builtin, f.ev hx, sv, Builtin.cap_, run_underlying hu, goInt]⟩
/-- so many zeros behind nothing -/
theorem tl_appendZ {t t2 e sz by_ k : Nat} {kk2 : IntKind} {z : Value} {x y : Operand} (ht : slcF P t = some (e, sz, by_)) (ht2 : intOfT P t2 = some kk2) (hz : zeroV P e = some z) (hzs : z.cells.size = sz)
    (hx : E.ev x = some (sv .nil 0)) (hy : E.ev y = some (.int .i64 (k : Int))) (hk : 0 < k) (hs0 : 0 < sz) (hb : k * by_ ≤ 140737488355328 ∧ k ≤ 140737488355328) (hd : Nat.blt d n = true)
    (kk : ∀ s c, Sow sz s k c → IsM s → TL r P ops Q rest n D ((d, sv s k) :: E) (sl s c :: L) κ) :
    TL r P ops Q (⟨some d, .call { callee := .builtin .append, args := #[x, y], argTypes := #[t, t2] }, T, ps, af, none⟩ :: rest) n D E L κ :=
  tl_run (by intro c h; cases h) fun a w f s0 => by
    obtain ⟨hu, i, hi, rfl, rfl⟩ := slcF_run ht
    have hz' : i.zero = some z := by
      unfold zeroV at hz
      rw [hi] at hz
      exact hz
    have hu2 : P.underlying t2 = some (.int kk2) := by
      unfold intOfT at ht2
      split at ht2
      · rename_i k' h; cases ht2; exact h
      · cases ht2
    have hw : IntKind.i64.wrap (k : Int) = k := wrap_i64 (by omega)
    have h0 : ¬ ((k : Int) < 0) := by omega
    have h48 : ¬ (281474976710656 < (k : Int) * (i.bytes : Int)) := by
      have : ((k * i.bytes : Nat) : Int) ≤ 140737488355328 := by omega
      rw [Int.natCast_mul] at this
      omega
    have hk0 : k ≠ 0 := by omega
    have h63 : ¬ (9223372036854775807 < (k : Int)) := by omega
    have hgf : ¬ (281474976710656 < Builtin.nextslicecap k 0 * i.bytes) := by rw [nextslicecap_zero hk]; omega
    have hkz : ¬ (k * i.size = 0) := by
      intro h
      rcases Nat.mul_eq_zero.1 h with h | h <;> omega
    have hrun : (Builtin.append_ #[t, t2] T #[sv .nil 0, .int .i64 (k : Int)]).run P w =
        .ok (.slice (some ⟨w.heap.size, 0, none⟩) k (grownCap w k 0 e)) (w.drew.alloc (.cells (Builtin.zeroCells z.cells k ++ Builtin.zeroCells z.cells (grownCap w k 0 e - k)) e)) := by
      rw [show sv .nil 0 = .slice none 0 0 from rfl]
      simp [Builtin.append_, run_underlying hu, run_underlying hu2, sizeOf, typeInfo, zeroValue, hi, hz', asInt, asIntOf, hw, h0, h48, hk0, h63, hgf, hkz, Question.forced, run_firstCells_none, newRow, grownCap]
    have hge := grownCap_ge w k 0 e
    refine ⟨.value (sv (.mem ⟨w.heap.size, grownCap w k 0 e, [], (Builtin.zeroCells z.cells (grownCap w k 0 e - k)).toList, e, (0, 0)⟩) k), w.drew.alloc (.cells (Builtin.zeroCells z.cells k ++ Builtin.zeroCells z.cells (grownCap w k 0 e - k)) e),
      by rw [show sv .nil 0 = .slice none 0 0 from rfl] at hrun hx; simp [execOp, resolve, invoke, builtin, f.ev hx, f.ev hy, hrun, sv], .inl ⟨_, rfl, ?_⟩⟩
    have hlc : (Builtin.zeroCells z.cells k).toList.length = k * i.size := by simp [size_zeroCells, hzs]
    refine kk (.mem ⟨w.heap.size, grownCap w k 0 e, [], (Builtin.zeroCells z.cells (grownCap w k 0 e - k)).toList, e, (0, 0)⟩) (Builtin.zeroCells z.cells k).toList ⟨⟨hlc, fun h => absurd rfl (h _), fun g e => (by cases e; exact hge), hb.2⟩, fun _ _ e => (by cases e), fun g e => by cases e; exact ⟨rfl, by simp [size_zeroCells, hzs]⟩⟩ ⟨_, rfl⟩ _ _ (f.put hd _) ?_
    have := (s0.drew (w.drew.drawn)).alloc (.cells (Builtin.zeroCells z.cells k ++ Builtin.zeroCells z.cells (grownCap w k 0 e - k)) e)
    have e1 : (Obj.cells (Builtin.zeroCells z.cells k ++ Builtin.zeroCells z.cells (grownCap w k 0 e - k)) e (0, 0)) = Sh.obj ⟨w.heap.size, grownCap w k 0 e, [], (Builtin.zeroCells z.cells (grownCap w k 0 e - k)).toList, e, (0, 0)⟩ (Builtin.zeroCells z.cells k).toList := by
      unfold Sh.obj
      congr 1
      apply Array.ext'
      simp
    show St (pt w.heap.size (Sh.obj ⟨w.heap.size, grownCap w k 0 e, [], (Builtin.zeroCells z.cells (grownCap w k 0 e - k)).toList, e, (0, 0)⟩ (Builtin.zeroCells z.cells k).toList) :: L) κ _
    rw [← e1]
    exact this
end
end Go.Sz

namespace Go.Sz
open Go
attribute [local irreducible] pt lift exs own emp

section
variable {r : Option Nat} {P : Program} {Q : Exit → Act → World → Prop} {n : Nat} {D : List Deferred} {E : Env} {L M : List HProp} {κ : Ctx} {ops : Array Oper} {rest : List Oper}
variable {d : Nat} {dd : Option Tmp} {T : TypeId} {ps : String} {af : Array Edge} {gd : Option (Nat × Bool)}

theorem pr_eq {op : Op} {v v' : Value} (h : PR P op T n D E L κ v) (e : v = v') : PR P op T n D E L κ v' := e ▸ h
theorem pr_eqI {op : Op} {i j : Int} (h : PR P op T n D E L κ (.int .i64 i)) (e : i = j) : PR P op T n D E L κ (.int .i64 j) := e ▸ h
/-- a new variable, with a value of one cell -/
theorem tl_box1 {e : TypeId} {x : Operand} {v : Value} (hx : E.ev x = some v) (h1 : oneV v = true) (hd : Nat.blt d n = true)
    (k : ∀ b, TL r P ops Q rest n D ((d, ad b 0) :: E) (pt b (.cells #[v] e (0, 0)) :: L) κ) :
    TL r P ops Q (⟨some d, .box e x, T, ps, af, none⟩ :: rest) n D E L κ := by
  refine tl_box hx hd fun b => ?_
  rw [cells_one h1]
  exact k b
/-! rounds over a text, told at once -/
def nextT (u : ByteArray) (i : Nat) : Array Value := if i < u.size then #[.bool true, .int .i64 i, .int .i32 ((u.data.toList.getD i 0).toNat : Int)] else #[.bool false]
def nextP (u : ByteArray) (i : Nat) : Nat := if i < u.size then i + 1 else i
theorem nextT_0 (u : ByteArray) (i : Nat) : (nextT u i)[0]? = some (.bool (decide (i < u.size))) := by
  unfold nextT; split <;> simp [*]
theorem nextT_1 {u : ByteArray} {i : Nat} (h : i < u.size) : (nextT u i)[1]? = some (.int .i64 i) := by
  unfold nextT; rw [if_pos h]; rfl
theorem nextT_2 {u : ByteArray} {i : Nat} (h : i < u.size) : (nextT u i)[2]? = some (.int .i32 ((u.data.toList.getD i 0).toNat : Int)) := by
  unfold nextT; rw [if_pos h]; rfl
theorem tl_next2 {x : Operand} {u : ByteArray} {b i : Nat} (hx : E.ev x = some (ad b 0)) (ha : ∀ i, i < u.size → (u.data.toList.getD i 0).toNat < 128) (hd : Nat.blt d n = true)
    (k : TL r P ops Q rest n D ((d, .tuple (nextT u i)) :: E) (pt b (.stringIter u (nextP u i)) :: M) κ) (hr : Rem L (pt b (.stringIter u i)) M := by repeat (first | exact Rem.here | apply Rem.there)) :
    TL r P ops Q (⟨some d, .next x true, T, ps, af, none⟩ :: rest) n D E L κ := by
  have hg : ∀ h : i < u.size, u[i] = u.data.toList.getD i 0 := by
    intro h
    have h2 : i < u.data.toList.length := by simpa using h
    rw [List.getD_eq_getElem?_getD, List.getElem?_eq_getElem h2]
    simp
    rfl
  refine tl_nextStr hx hr (fun h => by rw [hg h]; exact ha i h) hd (fun h => ?_) (fun h => ?_)
  · have e1 : nextT u i = #[.bool true, .int .i64 i, .int .i32 (u[i].toNat : Int)] := by unfold nextT; rw [if_pos h, hg h]
    have e2 : nextP u i = i + 1 := by unfold nextP; rw [if_pos h]
    rw [e1, e2] at k; exact k
  · have e1 : nextT u i = #[.bool false] := by unfold nextT; rw [if_neg (by omega)]
    have e2 : nextP u i = i := by unfold nextP; rw [if_neg (by omega)]
    rw [e1, e2] at k; exact k
/-- a record's round takes the state on -/
def YieldOk {ι : Type} (P : Program) (l : Nat) (rec : Loop) (ro : List (Nat × Obj)) (J : ι → HProp) (S : ι → List Value → ι → Prop) : Prop :=
  ∀ κ, Reads ro κ → ∀ i args j, S i args j → args.length = rec.params.size ∧ ∀ w, St [pt l (.loop rec), J i] κ w →
    RoundIn (Fc none) 0 P l rec.fn ((rec.params.zip args.toArray).foldl (fun tmps (t, a) => tmps.setIfInBounds t a) rec.tmps) rec.assign rec.body w
      fun e w' => e = .returned (.bool true) ∧ St [pt l (.loop rec), J j] κ w'

/-- yield is called -/
theorem tl_yield {ι : Type} {l : Nat} {rec : Loop} {ro : List (Nat × Obj)} {J : ι → HProp} {S : ι → List Value → ι → Prop} {i j : ι} {f : Operand} {xs : List Operand} {ts : Array TypeId} {vs : List Value} {R : List HProp}
    (hY : YieldOk P l rec ro J S) (hf : E.ev f = some (.func (.yield l) #[] #[])) (hx : Evs E xs vs) (hS : S i vs j) (hd : Nat.blt d n = true) (hro : Rdbs R κ ro)
    (kk : TL none P ops Q rest n D ((d, .bool true) :: E) (pt l (.loop rec) :: J j :: R) κ) (hp : Pick L [pt l (.loop rec), J i] R := by repeat (first | exact Pick.nil | exact Rem.here | apply Rem.there | apply Pick.cons)) :
    TL none P ops Q (⟨some d, .call { callee := .value f, args := xs.toArray, argTypes := ts }, T, ps, af, none⟩ :: rest) n D E L κ := fun a w fi s => by
  obtain ⟨κ', h1, h2, h3⟩ := split_ro (s.pick hp) hro
  obtain ⟨hlen, hR⟩ := hY κ' h1 i vs j hS
  have hloop : w.heap[l]? = some (.loop rec) := (s.pick hp).pt_heap
  have hrun : (execOp a.eval ⟨some d, .call { callee := .value f, args := xs.toArray, argTypes := ts }, T, ps, af, none⟩).run P w =
      .ok (.round l rec.fn ((rec.params.zip vs.toArray).foldl (fun tmps (t, a) => tmps.setIfInBounds t a) rec.tmps) rec.assign rec.body) w := by
    have hy := run_yield (P := P) (args := vs.toArray) hloop (by simpa using hlen)
    have hm := hx.map fi
    simp [execOp, resolve, fi.ev hf, Deferred.ofValue, invoke, List.map_toArray, hm, hy]
  refine wl_run rfl ?_
  rw [semAt_nd (by intro c h; cases h), hrun]
  refine ⟨fun h => (by cases h), ?_⟩
  refine RoundIn.mono (hR w h2) ?_
  rintro e w' ⟨rfl, s'⟩
  exact kk _ _ (fi.put hd _) (h3 _ _ s')

theorem Fits.slots {ps : List Nat} {vs : List Value} {t0 : Array Value} (h : Fits E n D { tmps := t0, defers := D }) (hb : ps.all (fun p => Nat.blt p n) = true) (hl : vs.length = ps.length) :
    Fits ((ps.zip vs).reverse ++ E) n D { tmps := (ps.zip vs).foldl (fun tmps (t, a) => tmps.setIfInBounds t a) t0, defers := D } := by
  induction ps generalizing vs t0 E with
  | nil => simpa using h
  | cons p ps ih =>
    cases vs with
    | nil => simp at hl
    | cons v vs =>
      simp only [List.all_cons, Bool.and_eq_true] at hb
      have h1 := h.put hb.1 v
      have := ih (E := (p, v) :: E) (t0 := t0.setIfInBounds p v) (vs := vs) h1 hb.2 (by simpa using hl)
      simpa using this

/-- how a round's body ends -/
abbrev BodyQ {ι : Type} (J : ι → HProp) (j : ι) (κ : Ctx) : Exit → Act → World → Prop := fun e _ w => e = .normal ∧ St [J j] κ w
/-- how a round's assignment ends -/
abbrev AsgQ {ι : Type} (P : Program) (l : Nat) (body : Code) (n : Nat) (ro : List (Nat × Obj)) (J : ι → HProp) (j : ι) (κ : Ctx) : Exit → Act → World → Prop :=
  Exit.then (fun a w => ∃ E1 M, Fits E1 n [] a ∧ St M κ w ∧ ∀ κ', Reads ro κ' → TC (some l) P body (BodyQ J j κ') n [] E1 M κ') (fun _ _ _ => False)
theorem tq_asg {ι : Type} {l : Nat} {body : Code} {ro : List (Nat × Obj)} {J : ι → HProp} {j : ι} (k : ∀ κ', Reads ro κ' → TC (some l) P body (BodyQ J j κ') n [] E L κ') : TQ (AsgQ P l body n ro J j κ) .normal n [] E L κ :=
  fun a w f s => ⟨E, L, f, s, k⟩
theorem tq_body {ι : Type} {J : ι → HProp} {j : ι} {R : List HProp} (hp : Pick L [J j] R := by repeat (first | exact Pick.nil | exact Rem.here | apply Rem.there | apply Pick.cons)) : TQ (BodyQ J j κ) .normal n [] E L κ :=
  fun a w f s => ⟨rfl, s.picked hp⟩

theorem frame1 {p q : HProp} {w : World} {ro : List (Nat × Obj)} (hro : Reads ro κ) (s : St [p, q] κ w) : ∃ κ', Reads ro κ' ∧ St [q] κ' w ∧ ∀ N w', St N κ' w' → St (N ++ [p]) κ w' := by
  have s1 : St ([q] ++ [p]) κ w := s.perm (.swap _ _ _)
  obtain ⟨κ', h1, h2, h3⟩ := split_ro (ro := ro) s1 (Rdbs.of hro)
  exact ⟨κ', h1, h2, h3⟩

theorem putObj_st {l : Nat} {o o' : Obj} {M : List HProp} {w : World} (s : St (pt l o :: M) κ w) : St (pt l o' :: M) κ (w.putObj l o') := by
  have hb := s.pt_heap
  have hlt : l < w.heap.size := (Array.getElem?_eq_some_iff.1 hb).1
  refine s.set ⟨s.1.os, s.1.tape, s.1.output, by simpa [World.putObj] using s.1.size⟩ (World.putObj_heap_same hlt) fun c hc => World.putObj_heap_other hc

/-- the statement -/
theorem tc_rangeFunc {ι : Type} {g : Operand} {ps2 : Array Tmp} {assign body : Code} {gf : Nat} {lb : List Value} (J : ι → HProp) (S : ι → List Value → ι → Prop) (ro : List (Nat × Obj)) (i0 i1 : ι) {preX postX R : List HProp} {X : Type} {val : X → Value}
    (hg : E.ev g = some (.func (.func gf) #[] lb.toArray)) (hps : ps2.toList.all (fun p => Nat.blt p n) = true)
    (hC : ∀ l rec, rec.params = ps2 → YieldOk P l rec ro J S → Ct P gf ((.func (.yield l) #[] #[] :: lb).toArray) ro (pt l (.loop rec) :: J i0 :: preX) val (fun _ N => pt l (.loop rec) :: J i1 :: (postX ++ N)))
    (hlen : ∀ i args j, S i args j → args.length = ps2.size)
    (hround : ∀ l κ', Reads ro κ' → ∀ i args j, S i args j → TC (some l) P assign (AsgQ P l body n ro J j κ') n [] ((ps2.toList.zip args).reverse ++ E) [J i] κ')
    (hro : Rdbs R κ ro)
    (kk : ∀ b, TQ Q .normal n ({ target := .collected b, args := #[] } :: D) E (pt b (.deferred (some [])) :: J i1 :: (postX ++ R)) κ)
    (hp : Pick L (J i0 :: preX) R := by repeat (first | exact Pick.nil | exact Rem.here | apply Rem.there | apply Pick.cons)) :
    TC none P (.rangeFunc g ps2 assign body) Q n D E L κ := by
  intro a w f s
  refine wpIn_rangeFunc ?_
  intro fn hfn
  obtain ⟨rec, hrec⟩ : ∃ rec : LoopState → Loop, rec = fun st => { state := st, pending := none, fn, tmps := a.tmps, params := ps2, assign, body, defers := w.heap.size } := ⟨_, rfl⟩
  have hfits : ∀ args : List Value, args.length = ps2.size → Fits ((ps2.toList.zip args).reverse ++ E) n [] { tmps := (ps2.zip args.toArray).foldl (fun tmps (t, a) => tmps.setIfInBounds t a) a.tmps, defers := [] } := by
    intro args hl
    have h0 : Fits E n [] { tmps := a.tmps, defers := [] } := ⟨rfl, f.size, f.has⟩
    have := h0.slots (ps := ps2.toList) (vs := args) hps (by simpa using hl)
    have e : (ps2.zip args.toArray).foldl (fun tmps (t, a) => tmps.setIfInBounds t a) a.tmps = (ps2.toList.zip args).foldl (fun tmps (t, a) => tmps.setIfInBounds t a) a.tmps := by
      rw [← Array.foldl_toList, Array.toList_zip]
    rw [e]; exact this
  have hY : ∀ l, YieldOk P l (rec .ready) ro J S := by
    intro l κ' hr i args j hS
    refine ⟨by rw [hrec]; exact hlen i args j hS, fun w1 s1 => ?_⟩
    refine roundIn_of_wpIn (by rw [hrec]; exact hfn) ?_
    obtain ⟨κ1, hr1, hs1, back1⟩ := frame1 hr s1
    have hA := hround l κ1 hr1 i args j hS
    have hfit := hfits args (hlen i args j hS)
    rw [hrec]
    refine wpIn_mono (hA _ w1 hfit hs1) ?_
    intro e a2 w2 q
    cases e with
    | normal =>
      obtain ⟨E1, M1, f1, s2, hbody⟩ := q
      have s3 : St (pt l (.loop (rec .ready)) :: M1) κ' w2 := (back1 _ _ s2).perm (by simpa using List.perm_append_comm (l₁ := M1) (l₂ := [pt l (.loop (rec .ready))]))
      have hbr := run_beginRound (P := P) s3.pt_heap (by rw [hrec])
      refine ⟨_, hbr, ?_⟩
      have s4 : St (pt l (.loop { rec .ready with state := .busy }) :: M1) κ' (w2.putObj l (.loop { rec .ready with state := .busy })) := putObj_st s3
      have s5 : St (M1 ++ [pt l (.loop { rec .ready with state := .busy })]) κ' (w2.putObj l (.loop { rec .ready with state := .busy })) := s4.perm (by simpa using List.perm_append_comm (l₁ := [pt l (.loop { rec .ready with state := .busy })]) (l₂ := M1))
      obtain ⟨κ2, hr2, hs2, back2⟩ := split_ro s5 (Rdbs.of hr)
      refine wpIn_mono (hbody κ2 hr2 _ _ f1 hs2) ?_
      rintro e3 a3 w3 ⟨rfl, s6⟩
      have s7 : St [pt l (.loop { rec .ready with state := .busy }), J j] κ' w3 := (back2 _ _ s6).perm (.swap _ _ _)
      refine ⟨_, _, run_endRound none s7.pt_heap, rfl, ?_⟩
      have s8 := putObj_st (o' := .loop (rec .ready)) s7
      have e9 : ({ ({ rec .ready with state := .busy } : Loop) with state := if (none : Option Code).isNone = true then .ready else .done, pending := none } : Loop) = rec .ready := by rw [hrec]; rfl
      rw [e9]
      rw [← hrec]
      exact s8
    | _ => exact q.elim
  -- the records are laid
  have sA := (s.pick hp).alloc (.deferred (some []))
  have sB := sA.alloc (.loop (rec .ready))
  obtain ⟨W1, hW1⟩ : ∃ W1, (w.alloc (.deferred (some []))).alloc (.loop (rec .ready)) = W1 := ⟨_, rfl⟩
  rw [hW1] at sB
  rw [World.size_alloc] at sB
  have hcall := hC (w.heap.size + 1) (rec .ready) (by rw [hrec]) (hY _)
  refine ⟨w.heap.size + 1, [{ target := .collected w.heap.size, args := #[] }], W1, { target := .fn (.func gf) lb.toArray, args := #[.func (.yield (w.heap.size + 1)) #[] #[]] }, W1, gf, #[.func (.yield (w.heap.size + 1)) #[] #[]] ++ lb.toArray, W1, ?_, ?_, ?_, ?_, fun h => (by cases h), ?_⟩
  · rw [← hW1, hrec]; exact run_enterLoop_outer _ _ _ _ _
  · simp only [resolve, rangeCall, f.ev hg]
    simp [go_sem]
  · intro f' hf'; trivial
  · obtain ⟨fn', q1, q2, q3⟩ := hcall.1
    have q3' : ¬ fn'.body = none := by intro e; rw [e] at q3; cases q3
    have q2' : ¬ fn'.name = "runtime.NumGoroutine" := by simpa using q2
    simp [invoke, go_sem, callFunc, program, Sem.run, Sem.bind, q1, q2', q3']
  · have sC : St ((pt (w.heap.size + 1) (.loop (rec .ready)) :: J i0 :: preX) ++ (pt w.heap.size (.deferred (some [])) :: R)) κ W1 := by
      refine sB.perm ?_
      simp only [List.cons_append]
      refine List.Perm.cons _ ?_
      have := List.perm_middle (a := pt w.heap.size (Obj.deferred (some []))) (l₁ := J i0 :: preX) (l₂ := R)
      exact this.symm
    have hroW : Rdbs (pt w.heap.size (.deferred (some [])) :: R) κ ro := by
      have : ∀ ro : List (Nat × Obj), Rdbs R κ ro → Rdbs (pt w.heap.size (.deferred (some [])) :: R) κ ro := by
        intro ro h
        induction h with
        | nil => exact .nil
        | cons h _ ih =>
          refine .cons ?_ ih
          cases h with
          | own h => exact .own (.there h)
          | fr h => exact .fr h
      exact this ro hro
    obtain ⟨κ', h1, h2, h3⟩ := split_ro sC hroW
    have e0 : (#[.func (.yield (w.heap.size + 1)) #[] #[]] ++ lb.toArray : Array Value) = (.func (.yield (w.heap.size + 1)) #[] #[] :: lb).toArray := by simp
    rw [e0]
    refine callsIn_free ((hcall.2 κ' W1 h1 h2).mono ?_)
    rintro e w' ⟨x, rfl, s'⟩
    have s9 := h3 _ _ s'
    simp only [List.append_nil, List.cons_append] at s9
    have hend := run_endLoop (P := P) s9.pt_heap (by rw [hrec]; simp)
    have hpend : (rec .ready).pending = none := by rw [hrec]
    rw [hpend] at hend
    refine ⟨none, _, hend, ?_⟩
    have s10 := (putObj_st (o' := .loop { rec .ready with state := .exhausted, pending := none }) s9).drop
    refine kk w.heap.size _ _ ⟨by simp [f.defers], f.size, f.has⟩ (s10.perm ?_)
    have := List.perm_middle (a := pt w.heap.size (Obj.deferred (some []))) (l₁ := J i1 :: postX) (l₂ := R)
    simpa using this

theorem tq_mk {e : Exit} {l R : List HProp} {p : HProp} (h : ∀ κ w R, St (l ++ R) κ w → St (p :: R) κ w) (k : TQ Q e n D E (p :: R) κ) (hp : Pick L l R := by repeat (first | exact Pick.nil | exact Rem.here | apply Rem.there | apply Pick.cons)) : TQ Q e n D E L κ :=
  fun a w f s => k a w f (h κ w R (s.pick hp))
theorem tc_mk {c : Code} {l R : List HProp} {p : HProp} (h : ∀ κ w R, St (l ++ R) κ w → St (p :: R) κ w) (k : TC r P c Q n D E (p :: R) κ) (hp : Pick L l R := by repeat (first | exact Pick.nil | exact Rem.here | apply Rem.there | apply Pick.cons)) : TC r P c Q n D E L κ :=
  fun a w f s => k a w f (h κ w R (s.pick hp))
theorem tl_mk {l R : List HProp} {p : HProp} (h : ∀ κ w R, St (l ++ R) κ w → St (p :: R) κ w) (k : TL r P ops Q rest n D E (p :: R) κ) (hp : Pick L l R := by repeat (first | exact Pick.nil | exact Rem.here | apply Rem.there | apply Pick.cons)) : TL r P ops Q rest n D E L κ :=
  fun a w f s => k a w f (h κ w R (s.pick hp))
theorem tq_ex {e : Exit} {α : Type} {f : α → HProp} {M : List HProp} (h : Rem L (exs f) M) (k : ∀ x, TQ Q e n D E (f x :: M) κ) : TQ Q e n D E L κ :=
  fun a w e s => let ⟨x, s'⟩ := (s.rem h).exs; k x a w e s'
theorem tq_lift {e : Exit} {p : Prop} {M : List HProp} (h : Rem L (lift p) M) (k : p → TQ Q e n D E M κ) : TQ Q e n D E L κ :=
  fun a w e s => let ⟨x, s'⟩ := (s.rem h).lift; k x a w e s'
theorem tq_own {e : Exit} {K M : List HProp} (h : Rem L (own K) M) (k : TQ Q e n D E (K ++ M) κ) : TQ Q e n D E L κ :=
  fun a w e s => k a w e (s.rem h).own

/-- the end of a function that had such a statement -/
theorem tq_mark {fn : Func} {Rr : Ending → World → Prop} {b : Nat} {e : Exit} (he : e = .ret ∨ e = .normal) (k : TQ (bodyPostM (Fc none) 0 P fn Rr) e n [] E M κ)
    (hr : Rem L (pt b (.deferred (some []))) M := by repeat (first | exact Rem.here | apply Rem.there)) : TQ (bodyPostM (Fc none) 0 P fn Rr) e n [{ target := .collected b, args := #[] }] E L κ := fun a w f s => by
  have s1 := s.rem hr
  have s2 := (putObj_st (o' := .deferred none) s1).drop
  have h := k { a with defers := [] } _ ⟨rfl, f.size, f.has⟩ s2
  have key : LeavesInM (Fc none) 0 P fn a.tmps Rr a.defers .returning w := by
    rw [f.defers]
    refine ⟨by simp, .inl ⟨b, _, rfl, run_takeDeferred s1.pt_heap, ?_⟩⟩
    rcases he with rfl | rfl <;> exact h
  rcases he with rfl | rfl <;> exact key
end
end Go.Sz

namespace Go.Sz
open Go Go.RowKit
section
variable {P : Program} {k : FuncId} {args : Array Value} {ro ro' : List (Nat × Obj)} {pre L R : List HProp} {X Y : Type} {val : X → Value} {val' : Y → Value} {out : X → List HProp → List HProp} {out' : Y → List HProp → List HProp}
/-- a contract that asks for more, and tells less -/
theorem Ct.wk (hC : Ct P k args ro pre val out) (hp : Pick L pre R) (hro : ∀ κ, Reads ro' κ → Rdbs R κ ro)
    (hx : ∀ x κ w, St (out x [] ++ R) κ w → ∃ y, val x = val' y ∧ St (out' y []) κ w) : Ct P k args ro' L val' out' := by
  refine ⟨hC.1, fun κ w hr s => ?_⟩
  obtain ⟨κ', hr', s', hb⟩ := split_ro (s.pick hp) (hro κ hr)
  refine (hC.2 κ' w hr' s').mono ?_
  rintro e w' ⟨x, rfl, s1⟩
  obtain ⟨y, hy, s2⟩ := hx x κ w' (hb _ _ s1)
  exact ⟨y, by rw [hy], s2⟩
/-- what is known ahead of a call -/
theorem Ct.pre_lift {p : Prop} (h : p → Ct P k args ro pre val out) (h0 : ∃ fn, P.funcs[k]? = some fn ∧ (fn.name == "runtime.NumGoroutine") = false ∧ fn.body.isSome = true) : Ct P k args ro (lift p :: pre) val out :=
  ⟨h0, fun κ w hr s => (h s.lift.1).2 κ w hr s.lift.2⟩
theorem Ct.pre_ex {α : Type} {f : α → HProp} (h : ∀ x, Ct P k args ro (f x :: pre) val out) (h0 : ∃ fn, P.funcs[k]? = some fn ∧ (fn.name == "runtime.NumGoroutine") = false ∧ fn.body.isSome = true) : Ct P k args ro (exs f :: pre) val out :=
  ⟨h0, fun κ w hr s => let ⟨x, s'⟩ := s.exs; (h x).2 κ w hr s'⟩
theorem Ct.pre_own {M : List HProp} (h : Ct P k args ro (M ++ pre) val out) : Ct P k args ro (own M :: pre) val out :=
  ⟨h.1, fun κ w hr s => h.2 κ w hr s.own⟩
end
section
variable {P : Program} {k : FuncId} {args : Array Value} {ro : List (Nat × Obj)} {X : Type} {val : X → Value} {out : X → List HProp → List HProp}
/-- a contract, told of a whole world -/
theorem Ct.below (hC : Ct P k args ro [] val out) {w : World} (hro : ∀ p ∈ ro, w.heap[p.1]? = some p.2) :
    Calls P k args w fun e w' => ∃ x, e = .returned (val x) ∧ Below w.heap.size w w' := by
  refine (hC.2 ⟨fun b => w.heap[b]?, w.os, w.tape, w.output, w.heap.size⟩ w hro ⟨⟨rfl, rfl, rfl, Nat.le_refl _⟩, fun _ => none, fun _ => rfl, fun _ => .inl rfl, ?_⟩).mono ?_
  · intro b o e; rw [none_join] at e; exact e
  · rintro e w' ⟨x, rfl, hk, h, _, _, wi⟩
    refine ⟨x, rfl, hk.os, hk.tape, hk.output, hk.size, fun b hb => ?_⟩
    have e1 : w.heap[b]? = some w.heap[b] := Array.getElem?_eq_getElem hb
    rw [e1]
    rename_i dj
    refine wi b _ ?_
    rcases dj b with n | n
    · simp only [Hp.join, n, Option.none_or]; exact e1
    · exact absurd (e1.symm.trans n) (by simp)
end
end Go.Sz
namespace Go.Sz
open Go Go.RowKit Go.WideShapes Go.ChangeShapes
section
variable {H : Type} {enc : TypeId × Value → H} {P : Program}
theorem post_of_below {f : Func} {s : ChangeSpec} {apart fresh handsOn again : Bool} {W W' : World} {args : Array Value} {v : Value} {ds gs : List (DataW H)} {before pa pv : List MemPlace}
    (hW : DataW.Whole enc P f.params.toList s.vars apart W args.toList ds gs before)
    (hres : ∀ (b : Nat) (sp : Nat → Bool) (hd : Bool), DataW.TrodAll enc P W' b sp hd f.resultTypes.toList (v.resultList f.resultTypes.size) (s.fn H (ds ++ gs)).results [])
    (hargs : ∀ sp : Nat → Bool, (∀ p ∈ before, sp p.block = true) → DataW.TrodAll enc P W' 0 sp true f.params.toList args.toList (s.fn H (ds ++ gs)).args pa)
    (hvars : ∀ sp : Nat → Bool, (∀ p ∈ before, sp p.block = true) → DataW.TrodVars enc P W' sp s.vars (s.fn H (ds ++ gs)).vars pv)
    (hps : before = pa ++ pv) (hb : Below W.heap.size W W')
    (hok : ∀ (j : Nat) (t : TypeId) (r : Value), f.resultTypes[j]? = some t → (v.resultList f.resultTypes.size)[j]? = some r → Value.okWide P W' .any 0 t r) :
    s.post enc P f apart fresh handsOn again W args v W' := by
  have hlt : ∀ p ∈ before, p.block < W.heap.size := fun p hp => hW.lt p hp
  have hold : ∀ p ∈ before, (fun b => decide (b < W.heap.size)) p.block = true := fun p hp => by simpa using hlt p hp
  refine ⟨ds, gs, before, [], pa, pv, hW, hres _ _ _, hargs _ hold, hvars _ hold, World.keptBut_mono (fun p hp => ⟨hp, ?_⟩) (hb.frame (· ∈ before)), fun _ => ?_⟩
  · rw [hps, List.mem_append] at hp
    exact Or.inr hp
  · obtain ⟨_, _, _, _, _, hz, hn⟩ := hW
    refine ⟨hok, _, _, ([] ++ pa) ++ pv, ⟨[] ++ pa, pv, trodAll_append (hargs _ (fun _ _ => rfl)) (hres _ _ _), hvars _ (fun _ _ => rfl), rfl, ?_, ?_⟩, ?_⟩
    · intro b off hp
      have hin : MemPlace.cell b off ∈ before := by rw [hps]; simpa using hp
      rw [hb.frozen (hlt _ hin)]
      exact hz b off hin
    · intro ha
      have := hn ha
      rw [hps] at this
      simpa using this
    · intro p hp _
      rw [hps]
      simpa using hp
end

end Go.Sz

namespace Go.Sz
open Go
section
variable {P : Program} {w : World}
/-- a field of one number, or one bool: where, and which -/
def flatF1 (P : Program) (f : Field) : Option (Nat × Option IntKind) :=
  if f.name ≠ "_" then
    match P.underlying f.type with
    | some (.int k) => some (f.offset, some k)
    | some .bool => some (f.offset, none)
    | _ => none
  else none
def flatFs (P : Program) : List Field → Option (List (Nat × Option IntKind))
  | [] => some []
  | f :: fs => match flatF1 P f, flatFs P fs with
    | some p, some l => some (p :: l)
    | _, _ => none
def flatF (P : Program) (t : TypeId) : Option (List (Nat × Option IntKind)) :=
  match P.underlying t with
  | some (.struct fs) => if P.stoodInHeld t = false then flatFs P fs.toList else none
  | _ => none
def eqCell : Value → Value → Bool
  | .int _ a, .int _ b => a == b
  | .bool a, .bool b => a == b
  | _, _ => false
def okCell (b : Option IntKind) : Value → Bool
  | .int k _ => decide (b = some k)
  | .bool _ => b.isNone
  | _ => false
def okAt (xs : Array Value) (p : Nat × Option IntKind) : Bool := match xs[p.1]? with
  | some v => okCell p.2 v
  | none => false
def eqAt (xs ys : Array Value) (p : Nat × Option IntKind) : Bool := match xs[p.1]?, ys[p.1]? with
  | some u, some v => eqCell u v
  | _, _ => false
theorem run_eqFs {xs ys : Array Value} {d : Nat} : ∀ (fs : List Field) (l : List (Nat × Option IntKind)), flatFs P fs = some l → l.all (okAt xs) = true → l.all (okAt ys) = true →
    (Op.eqFields (d + 1) xs ys fs).run P w = .ok (l.all (eqAt xs ys)) w
  | [], l, h, _, _ => by simp [flatFs] at h; subst h; simp [Op.eqFields]
  | f :: fs, l, h, hx, hy => by
    simp only [flatFs] at h
    cases h1 : flatF1 P f with
    | none => rw [h1] at h; simp at h
    | some p =>
      cases h2 : flatFs P fs with
      | none => rw [h1, h2] at h; simp at h
      | some l' =>
        rw [h1, h2] at h
        simp at h; subst h
        simp only [List.all_cons, Bool.and_eq_true] at hx hy
        have ih := run_eqFs (d := d) fs l' h2 hx.2 hy.2
        unfold flatF1 at h1
        split at h1
        · rename_i hn
          have hok1 := hx.1
          have hok2 := hy.1
          unfold okAt at hok1 hok2
          split at h1
          · rename_i k hu
            simp at h1; subst h1
            simp only at hok1 hok2
            have ha : aggB P f.type = some false := by unfold aggB; rw [hu]
            cases e1 : xs[f.offset]? with
            | none => rw [e1] at hok1; simp at hok1
            | some u =>
              cases e2 : ys[f.offset]? with
              | none => rw [e2] at hok2; simp at hok2
              | some v =>
                rw [e1] at hok1; rw [e2] at hok2
                cases u <;> simp [okCell] at hok1
                cases v <;> simp [okCell] at hok2
                rename_i k1 a k2 b
                subst hok1 hok2
                have p1 : (part f.type xs f.offset).run P w = .ok (.int k a) w := by simp [part, run_isAgg ha, e1]
                have p2 : (part f.type ys f.offset).run P w = .ok (.int k b) w := by simp [part, run_isAgg ha, e2]
                have p3 : (Op.equalIn (d + 1) f.type (.int k a) (.int k b)).run P w = .ok (a == b) w := by simp [Op.equalIn, run_underlying hu]
                rw [Op.eqFields, if_pos hn]
                simp only [Sem.run_bind, p1, Result.andThen_ok, p2, p3, List.all_cons]
                have e3 : eqAt xs ys (f.offset, some k) = (a == b) := by unfold eqAt; rw [e1, e2]; rfl
                rw [e3]
                cases h4 : (a == b)
                · simp
                · simp [ih]
          · rename_i hu
            simp at h1; subst h1
            simp only at hok1 hok2
            have ha : aggB P f.type = some false := by unfold aggB; rw [hu]
            cases e1 : xs[f.offset]? with
            | none => rw [e1] at hok1; simp at hok1
            | some u =>
              cases e2 : ys[f.offset]? with
              | none => rw [e2] at hok2; simp at hok2
              | some v =>
                rw [e1] at hok1; rw [e2] at hok2
                cases u <;> simp [okCell] at hok1
                cases v <;> simp [okCell] at hok2
                rename_i a b
                have p1 : (part f.type xs f.offset).run P w = .ok (.bool a) w := by simp [part, run_isAgg ha, e1]
                have p2 : (part f.type ys f.offset).run P w = .ok (.bool b) w := by simp [part, run_isAgg ha, e2]
                have p3 : (Op.equalIn (d + 1) f.type (.bool a) (.bool b)).run P w = .ok (a == b) w := by simp [Op.equalIn, run_underlying hu]
                rw [Op.eqFields, if_pos hn]
                simp only [Sem.run_bind, p1, Result.andThen_ok, p2, p3, List.all_cons]
                have e3 : eqAt xs ys (f.offset, none) = (a == b) := by unfold eqAt; rw [e1, e2]; rfl
                rw [e3]
                cases h4 : (a == b)
                · simp
                · simp [ih]
          · simp at h1
        · simp at h1
theorem run_eqF {t : TypeId} {l : List (Nat × Option IntKind)} (h : flatF P t = some l) {xs ys : Array Value} (hx : l.all (okAt xs) = true) (hy : l.all (okAt ys) = true) :
    (Op.equalIn 10000 t (.agg xs) (.agg ys)).run P w = .ok (l.all (eqAt xs ys)) w := by
  unfold flatF at h
  split at h
  · rename_i fs hu
    split at h
    · rename_i hs
      have hf : P.fieldsOf t = fs := by unfold Program.fieldsOf; rw [hu]
      rw [show (10000 : Nat) = 9999 + 1 from rfl, run_equalIn_struct w 9999 t xs ys (by rw [hf]; exact hu) hs, hf]
      exact run_eqFs _ _ h hx hy
    · simp at h
  · simp at h
section
variable {n : Nat} {D : List Deferred} {E : Env} {L : List HProp} {κ : Ctx} {T : TypeId}
theorem pr_eqlF {t yt : TypeId} {x y : Operand} {u v : Array Value} {l : List (Nat × Option IntKind)} {b : Bool} (hm : P.eqGuardType P.depth t = false) (hl : flatF P t = some l) (hx : E.ev x = some (.agg u)) (hy : E.ev y = some (.agg v)) (hb : l.all (eqAt u v) = b)
    (h1 : l.all (okAt u) = true := by rfl) (h2 : l.all (okAt v) = true := by rfl) : PR P (.binOp .eql t x y yt) T n D E L κ (.bool b) := pr_eqlA hm hx hy fun w => by rw [← hb]; exact run_eqF hl h1 h2
theorem pr_neqF {t yt : TypeId} {x y : Operand} {u v : Array Value} {l : List (Nat × Option IntKind)} {b : Bool} (hm : P.eqGuardType P.depth t = false) (hl : flatF P t = some l) (hx : E.ev x = some (.agg u)) (hy : E.ev y = some (.agg v)) (hb : l.all (eqAt u v) = b)
    (h1 : l.all (okAt u) = true := by rfl) (h2 : l.all (okAt v) = true := by rfl) : PR P (.binOp .neq t x y yt) T n D E L κ (.bool (!b)) := pr_neqA hm hx hy fun w => by rw [← hb]; exact run_eqF hl h1 h2
end
end
end Go.Sz

namespace Go.Sz
open Go Go.RowKit Go.WideShapes Go.ChangeShapes Go.Deep
section
variable {H : Type} {enc : TypeId × Value → H} {P : Program} {w : World}
/-- nothing in a datum takes more than memory has -/
def Light (P : Program) (t : TypeId) (d : DataW H) : Prop := (d.weights P t).all (· ≤ reachBytes) = true
/-- cells of a type read as things -/
def RdT (enc : TypeId × Value → H) (P : Program) (w : World) (t : TypeId) {α : Type} (L : α → List Value) (G : α → Prop) : Prop :=
  ∀ n cs x, DataW.trod enc P w 0 (fun _ => true) true n t cs = some x → Light P t x.1 → ∃ a, cs = L a ∧ G a
theorem rd_int {t : TypeId} {k : IntKind} (ht : P.underlying t = some (.int k)) : RdT enc P w t (fun i : Int => [.int k i]) (fun i => (Lit.int k i).wf = true) := fun n cs x h _ => by
  obtain ⟨i, rfl, _, hw⟩ := DataW.trod_int ht h
  exact ⟨i, rfl, hw⟩
theorem rd_bool {t : TypeId} (ht : P.underlying t = some .bool) : RdT enc P w t (fun b : Bool => [.bool b]) (fun _ => True) := fun n cs x h _ => by
  obtain ⟨b, rfl, _⟩ := DataW.trod_bool ht h
  exact ⟨b, rfl, trivial⟩
structure SlA (α : Type) where
  s : Shp
  l : List α
theorem light_each {ts : List TypeId} {ds : List (DataW H)} (h : (DataW.weightsEach P ts ds).all (· ≤ reachBytes) = true) : ∀ (j : Nat) t d, ts[j]? = some t → ds[j]? = some d → Light P t d := by
  induction ts generalizing ds with
  | nil => intro j t d h1; simp at h1
  | cons u ts ih =>
    cases ds with
    | nil => intro j t d _ h2; simp at h2
    | cons e ds =>
      simp only [DataW.weightsEach, List.all_append, Bool.and_eq_true] at h
      intro j t d h1 h2
      cases j with
      | zero => simp at h1 h2; subst h1 h2; exact h.1
      | succ j => exact ih h.2 j t d (by simpa using h1) (by simpa using h2)
theorem light_all {e : TypeId} {ds : List (DataW H)} (h : (DataW.weightsAll P e ds).all (· ≤ reachBytes) = true) : ∀ (j : Nat) d, ds[j]? = some d → Light P e d := by
  induction ds with
  | nil => intro j d h1; simp at h1
  | cons e' ds ih =>
    simp only [DataW.weightsAll, List.all_append, Bool.and_eq_true] at h
    intro j d h1
    cases j with
    | zero => simp at h1; subst h1; exact h.1
    | succ j => exact ih h.2 j d (by simpa using h1)
/-- a struct's fields -/
theorem rd_fields {t : TypeId} {fs : Array Field} {n : Nat} {cs : List Value} {x : DataW H × List MemPlace} (ht : P.underlying t = some (.struct fs)) (h : DataW.trod enc P w 0 (fun _ => true) true n t cs = some x) (hl : Light P t x.1) :
    cs.length = P.cellsOf t ∧ ∀ (j : Nat) (f : Field), fs[j]? = some f → ∃ m y, DataW.trod enc P w 0 (fun _ => true) true m f.type ((cs.drop f.offset).take (P.cellsOf f.type)) = some y ∧ Light P f.type y.1 := by
  obtain ⟨xs, m, _, rfl, hlen, hxl, hf⟩ := DataW.trod_struct ht h
  refine ⟨hlen, fun j f hj => ?_⟩
  have hjl : j < fs.size := (Array.getElem?_eq_some_iff.1 hj).1
  have hx : xs[j]? = some (xs[j]'(by omega)) := List.getElem?_eq_getElem (by omega)
  refine ⟨m, _, (hf j f hj).trans hx, ?_⟩
  unfold Light at hl
  simp only [DataW.weights, ht] at hl
  refine light_each hl j f.type _ ?_ ?_
  · simp [hj]
  · simp [hx]
theorem rd_array {t e : TypeId} {k n : Nat} {cs : List Value} {x : DataW H × List MemPlace} (ht : P.underlying t = some (.array k e)) (h : DataW.trod enc P w 0 (fun _ => true) true n t cs = some x) (hl : Light P t x.1) :
    cs.length = P.cellsOf t ∧ ∀ (j : Nat), j < k → ∃ m y, DataW.trod enc P w 0 (fun _ => true) true m e ((cs.drop (j * P.cellsOf e)).take (P.cellsOf e)) = some y ∧ Light P e y.1 := by
  obtain ⟨xs, m, _, rfl, hlen, hxl, hf⟩ := DataW.trod_array ht h
  refine ⟨hlen, fun j hj => ?_⟩
  have hx : xs[j]? = some (xs[j]'(by omega)) := List.getElem?_eq_getElem (by omega)
  refine ⟨m, _, (hf j hj).trans hx, ?_⟩
  unfold Light at hl
  simp only [DataW.weights, ht] at hl
  exact light_all hl j _ (by simp [hx])
/-- a field: its type, where it begins, how many cells it has -/
def fldOf (P : Program) (t : TypeId) (j : Nat) : Option (TypeId × Nat × Nat) := ((P.fieldsOf t)[j]?).map fun f => (f.type, f.offset, P.cellsOf f.type)
theorem rd_field {t ty off k : Nat} {n : Nat} {cs : List Value} {x : DataW H × List MemPlace} (ht : P.underlying t = some (.struct (P.fieldsOf t))) (h : DataW.trod enc P w 0 (fun _ => true) true n t cs = some x) (hl : Light P t x.1) (j : Nat) (hj : fldOf P t j = some (ty, off, k))
    {α : Type} {L : α → List Value} {G : α → Prop} (hr : RdT enc P w ty L G) : ∃ a, (cs.drop off).take k = L a ∧ G a := by
  unfold fldOf at hj
  cases hf : (P.fieldsOf t)[j]? with
  | none => rw [hf] at hj; simp at hj
  | some f =>
    rw [hf] at hj
    simp at hj
    obtain ⟨rfl, rfl, rfl⟩ := hj
    obtain ⟨m, y, h1, h2⟩ := (rd_fields ht h hl).2 j f hf
    exact hr _ _ _ h1 h2
theorem flat_at {α : Type} {L : α → List Value} {sz : Nat} (hL : ∀ a, (L a).length = sz) (l : List α) (i j : Nat) (hi : i < l.length) (hj : j < sz) : (l.flatMap L)[i * sz + j]? = (L l[i])[j]? := by
  induction l generalizing i with
  | nil => simp at hi
  | cons a l ih =>
    rw [List.flatMap_cons]
    cases i with
    | zero => simp only [Nat.zero_mul, Nat.zero_add]; rw [List.getElem?_append_left (by rw [hL]; exact hj)]; rfl
    | succ i => rw [List.getElem?_append_right (by rw [hL, Nat.add_mul]; omega), hL, show (i + 1) * sz + j - sz = i * sz + j from by rw [Nat.add_mul]; omega, ih i (by simpa using hi)]; rfl
/-- a slice -/
theorem rd_slice {t e sz by_ : Nat} {α : Type} {L : α → List Value} {G : α → Prop} (ht : P.underlying t = some (.slice e)) (hc : P.cellsOf e = sz) (hb : P.bytesOf e = by_) (h0 : 0 < by_) (hz : 0 < sz) (hL : ∀ a, (L a).length = sz) (he : RdT enc P w e L G) :
    RdT enc P w t (fun q : SlA α => [sv q.s q.l.length]) (fun q => Sok sz q.s q.l.length (q.l.flatMap L) ∧ (∀ a ∈ q.l, G a) ∧ ∀ p ∈ ra q.s (q.l.flatMap L), w.heap[p.1]? = some p.2) := by
  intro n cs x h hl
  rcases open_slice ht h with ⟨rfl, rfl⟩ | ⟨a, len, cap, m, n', D, Pl, rfl, _, hlc, hcm, hm, rfl, hi⟩
  · exact ⟨⟨.nil, []⟩, rfl, Sok.nil, by simp, by simp [ra]⟩
  · simp only [if_true] at hm
    subst hm
    unfold Light at hl
    simp only [DataW.weights, ht, List.all_cons, List.all_append, Bool.and_eq_true, decide_eq_true_eq] at hl
    obtain ⟨hw, hel, _⟩ := hl
    rw [hb] at hw
    have hbnd : len ≤ 140737488355328 := by
      simp only [List.length_map, List.length_range] at hw
      have : len * 1 ≤ (len + (m - len)) * by_ := Nat.mul_le_mul (by omega) h0
      unfold reachBytes at hw; omega
    have key : ∀ i, i < len → ∃ a', w.cells? 0 (a.add (i * sz)) sz = some (L a') ∧ G a' := by
      intro i hil
      obtain ⟨cs', hcs, htr⟩ := hi i (by omega)
      rw [hc] at hcs
      obtain ⟨a', rfl, hg⟩ := he n' cs' _ htr (light_all hel i _ (by simp [hil]))
      exact ⟨a', hcs, hg⟩
    by_cases hz0 : len = 0
    · subst hz0
      exact ⟨⟨.wild a m, []⟩, rfl, ⟨by simp, fun _ => rfl, fun h e => (by cases e), by simp⟩, by simp, by simp [ra]⟩
    · obtain ⟨l, hll, hlg⟩ : ∃ l : List α, l.length = len ∧ ∀ i (h : i < l.length), w.cells? 0 (a.add (i * sz)) sz = some (L l[i]) ∧ G l[i] := by
        have : ∀ k, k ≤ len → ∃ l : List α, l.length = k ∧ ∀ i (h : i < l.length), w.cells? 0 (a.add (i * sz)) sz = some (L l[i]) ∧ G l[i] := by
          intro k
          induction k with
          | zero => intro _; exact ⟨[], rfl, fun i h => by simp at h⟩
          | succ k ih =>
            intro hk
            obtain ⟨l, h1, h2⟩ := ih (by omega)
            obtain ⟨a', h3, h4⟩ := key k (by omega)
            refine ⟨l ++ [a'], by simp [h1], fun i h => ?_⟩
            by_cases c : i < l.length
            · rw [List.getElem_append_left c]; exact h2 i c
            · have e : i = k := by simp at h; omega
              subst e
              rw [List.getElem_append_right (by omega)]
              simpa using ⟨h3, h4⟩
        exact this len (Nat.le_refl _)
      have cell : ∀ i (h : i < l.length) j, j < sz → w.cell? ((a.add (i * sz)).add j) = (L l[i])[j]? := fun i h j hj => (World.cells?_some (hlg i h).1).2.2 j hj
      obtain ⟨b, off, spot⟩ := a
      have c0 := cell 0 (by omega) 0 hz
      have hsome : ∃ v, (L (l[0]'(by omega)))[0]? = some v := ⟨_, List.getElem?_eq_getElem (by rw [hL]; exact hz)⟩
      obtain ⟨v0, hv0⟩ := hsome
      rw [hv0] at c0
      simp only [Nat.zero_mul, Addr.add, if_true] at c0
      have hspot : spot = none := by simpa using World.cell?_spot c0
      subst hspot
      have hblk : ∃ c T fr, w.heap[b]? = some (.cells c T fr) := by
        unfold World.cell? at c0
        simp only at c0
        split at c0
        · rename_i c T fr hh; exact ⟨c, T, fr, hh⟩
        · simp at c0
      obtain ⟨c, T, fr, hheap⟩ := hblk
      have hcell : ∀ k, k < len * sz → c[off + k]? = (l.flatMap L)[k]? := by
        intro k hk
        have hk1 : k / sz < l.length := by rw [hll]; exact (Nat.div_lt_iff_lt_mul hz).2 hk
        have hk2 : k % sz < sz := Nat.mod_lt _ hz
        have e : k = k / sz * sz + k % sz := by have := Nat.div_add_mod k sz; rw [Nat.mul_comm] at this; omega
        have := cell (k / sz) hk1 (k % sz) hk2
        rw [← flat_at hL l _ _ hk1 hk2, ← e] at this
        rw [← this]
        have ea : (((⟨b, off, none⟩ : Addr).add (k / sz * sz)).add (k % sz)) = ⟨b, off + k, none⟩ := by
          unfold Addr.add
          by_cases z1 : k / sz * sz = 0
          · by_cases z2 : k % sz = 0
            · rw [if_pos z1, if_pos z2]; congr 1; omega
            · rw [if_pos z1, if_neg z2]; simp only; congr 1; omega
          · by_cases z2 : k % sz = 0
            · rw [if_neg z1, if_pos z2]; simp only; congr 1; omega
            · rw [if_neg z1, if_neg z2]; simp only; congr 1; omega
        rw [ea]; simp [World.cell?, hheap]
      have hfl : (l.flatMap L).length = len * sz := by rw [fm_len hL, hll]
      have hsz : off + len * sz ≤ c.size := by
        have hpos : 0 < len * sz := Nat.mul_pos (by omega) hz
        have h1 := hcell (len * sz - 1) (by omega)
        rw [List.getElem?_eq_getElem (by omega)] at h1
        have := (Array.getElem?_eq_some_iff.1 h1).1
        omega
      have hmid : (c.toList.drop off).take (len * sz) = l.flatMap L := by
        apply List.ext_getElem?
        intro k
        by_cases hk : k < len * sz
        · rw [List.getElem?_take_of_lt hk, List.getElem?_drop, ← hcell k hk]; simp
        · rw [List.getElem?_eq_none (by simp; omega), List.getElem?_eq_none (by omega)]
      refine ⟨⟨.mem ⟨b, m, c.toList.take off, c.toList.drop (off + len * sz), T, fr⟩, l⟩, ?_, ⟨by rw [hfl, hll], fun hh => absurd rfl (hh _), fun h e => by cases e; rw [hll]; exact hlc, by rw [hll]; exact hbnd⟩, fun a ha => ?_, fun p hp => ?_⟩
      · simp only [sv, hll]
        have : (c.toList.take off).length = off := by simp; omega
        rw [this]
      · obtain ⟨i, hi', rfl⟩ := List.getElem_of_mem ha
        exact (hlg i hi').2
      · simp only [ra, List.mem_singleton] at hp
        subst hp
        show w.heap[b]? = _
        rw [hheap]
        simp only [Sh.obj]
        congr 2
        apply Array.ext'
        rw [← hmid]
        have e1 : c.toList = c.toList.take off ++ c.toList.drop off := (List.take_append_drop _ _).symm
        have e2 : c.toList.drop off = (c.toList.drop off).take (len * sz) ++ c.toList.drop (off + len * sz) := by
          rw [← List.drop_drop, List.take_append_drop]
        rw [List.append_assoc, ← e2, ← e1]
/-- an argument of one cell -/
theorem arg_slice {t e : TypeId} {r : Reach} {b0 : Nat} {v : Value} (ht : P.underlying t = some (.slice e)) (hv : Value.okWide P w r b0 t v) : v.cells.toList = [v] := by
  unfold Value.okWide at hv
  rw [ht] at hv
  simp only at hv
  unfold Cell.okWide at hv
  rw [ht] at hv
  cases v <;> simp [Cell.ok, ht] at hv <;> rfl
theorem arg_struct {t : TypeId} {fs : Array Field} {r : Reach} {b0 : Nat} {v : Value} (ht : P.underlying t = some (.struct fs)) (hv : Value.okWide P w r b0 t v) : v = .agg v.cells := by
  obtain ⟨cs, rfl, _⟩ := okWide_struct ht hv
  rfl
/-- what an argument is, read as things -/
theorem rd_arg {t : TypeId} {v : Value} {d : DataW H} {ps : List MemPlace} {α : Type} {L : α → List Value} {G : α → Prop} (h : RdT enc P w t L G) (ht : DataW.Trod enc P w 0 (fun _ => true) true t v d ps) (hl : Light P t d) : ∃ a, v.cells.toList = L a ∧ G a := by
  obtain ⟨n, hn⟩ := ht
  exact h n _ _ hn hl
/-- arguments, read again behind a call that left them alone -/
theorem trodAll_stays (hl : laidOutB P = true) {W W' : World} (hb : Below W.heap.size W W') {sp : Nat → Bool} : ∀ {ts : List TypeId} {vs : List Value} {ds : List (DataW H)} {ps : List MemPlace}, (∀ t ∈ ts, P.readableRec t = true ∧ t < P.types.size) →
    DataW.TrodAll enc P W 0 (fun _ => true) true ts vs ds ps → (∀ x ∈ ps, x.block < W.heap.size) → (∀ x ∈ ps, sp x.block = true) → DataW.TrodAll enc P W' 0 sp true ts vs ds ps
  | [], [], [], ps, _, h, _, _ => h
  | t :: ts, v :: vs, d :: ds, ps, hr, h, hlt, hsp => by
    obtain ⟨p, q, h1, h2, rfl⟩ := h
    have ⟨r1, r2⟩ := hr t List.mem_cons_self
    exact ⟨p, q, WideElems.Trod_stays hl r1 r2 h1 (fun x hx => hb.same (hlt x (List.mem_append_left _ hx))) (fun x hx => hsp x (List.mem_append_left _ hx)),
      trodAll_stays hl hb (fun t ht => hr t (List.mem_cons_of_mem _ ht)) h2 (fun x hx => hlt x (List.mem_append_right _ hx)) (fun x hx => hsp x (List.mem_append_right _ hx)), rfl⟩
  | [], [], _ :: _, _, _, h, _, _ => h.elim
  | [], _ :: _, _, _, _, h, _, _ => h.elim
  | _ :: _, [], _, _, _, h, _, _ => h.elim
  | _ :: _, _ :: _, [], _, _, h, _, _ => h.elim
theorem post_law {f : Func} {s : ChangeSpec} {W W' : World} {args : Array Value} {ds : List (DataW H)} {before : List MemPlace} {tb : TypeId} (hl : laidOutB P = true) (hr : ∀ t ∈ f.params.toList, P.readableRec t = true ∧ t < P.types.size)
    (hW : DataW.Whole enc P f.params.toList s.vars false W args.toList ds [] before) (hv : s.vars = []) (hres : f.resultTypes = #[tb]) (hu : P.underlying tb = some .bool) (hfn : s.fn H ds = { results := [.lit (.bool true)], args := ds }) (hb : Below W.heap.size W W') :
    s.post enc P f false true false false W args (.bool true) W' := by
  have hW0 := hW
  obtain ⟨p, q, hA, hV, rfl, _, _⟩ := hW0
  rw [hv] at hV
  obtain ⟨_, rfl⟩ := trodVars_none hV
  simp only [List.append_nil] at hW
  have hlt : ∀ x ∈ p, x.block < W.heap.size := fun x hx => hW.lt x hx
  refine post_of_below (pa := p) (pv := []) hW ?_ ?_ ?_ (by simp) hb ?_
  · intro b sp hd
    rw [List.append_nil, hfn, hres]
    exact trodAll_cons_mk (shut_bool hu _) trodAll_mk0
  · intro sp hsp
    rw [List.append_nil, hfn]
    exact trodAll_stays hl hb hr hA hlt hsp
  · intro sp _
    rw [List.append_nil, hfn, hv]
    rfl
  · exact ok_one hres rfl (okWide_bool_mk hu _)
end
end Go.Sz
