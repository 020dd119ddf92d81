/- The core of the symbolic walk: states, and a law for each form of code. No program stands here. -/
import Derived.WalkKit
import Derived.ProofKit
import Derived.RangeFuncLeaves
import Derived.OrdersIn
import Derived.Laws.AppendOwn
import Derived.Laws.MakeOwn
import Derived.Laws.StructEq
import Derived.Laws.BytesString
set_option linter.unusedVariables false
set_option linter.unusedSimpArgs false
set_option linter.unusedSectionVars false
set_option linter.unnecessarySimpa false
namespace Go.Sz
open Go

/-! ### partial heaps and assertions -/
abbrev Hp := Nat → Option Obj
def HProp := Hp → Prop
def Hp.disj (h k : Hp) : Prop := ∀ b, h b = none ∨ k b = none
def Hp.join (h k : Hp) : Hp := fun b => (h b).or (k b)
def emp : HProp := fun h => ∀ b, h b = none
def pt (b : Nat) (o : Obj) : HProp := fun h => ∀ c, h c = if c = b then some o else none
def lift (p : Prop) : HProp := fun h => p ∧ ∀ b, h b = none
def sep (p q : HProp) : HProp := fun h => ∃ x y, Hp.disj x y ∧ h = Hp.join x y ∧ p x ∧ q y
def own : List HProp → HProp
  | [] => emp
  | p :: l => sep p (own l)
def exs {α : Type} (f : α → HProp) : HProp := fun h => ∃ x, f x h

theorem Hp.disj.symm {h k : Hp} (d : Hp.disj h k) : Hp.disj k h := fun b => (d b).symm
theorem Hp.join_comm {h k : Hp} (d : Hp.disj h k) : Hp.join h k = Hp.join k h := by
  funext b
  rcases d b with e | e <;> simp [Hp.join, e]
theorem Hp.join_assoc (h k l : Hp) : Hp.join (Hp.join h k) l = Hp.join h (Hp.join k l) := by
  funext b; simp [Hp.join, Option.or_assoc]
theorem Hp.disj_join {h k l : Hp} : Hp.disj (Hp.join h k) l ↔ Hp.disj h l ∧ Hp.disj k l := by
  constructor
  · intro d
    refine ⟨fun b => ?_, fun b => ?_⟩
    · rcases d b with e | e
      · left; simp [Hp.join] at e; exact e.1
      · exact .inr e
    · rcases d b with e | e
      · left; simp [Hp.join] at e; exact e.2
      · exact .inr e
  · rintro ⟨d, e⟩ b
    rcases d b with x | x
    · rcases e b with y | y
      · left; simp [Hp.join, x, y]
      · exact .inr y
    · exact .inr x
theorem Hp.disj_join' {h k l : Hp} : Hp.disj l (Hp.join h k) ↔ Hp.disj l h ∧ Hp.disj l k :=
  ⟨fun d => ⟨(Hp.disj_join.1 d.symm).1.symm, (Hp.disj_join.1 d.symm).2.symm⟩, fun ⟨a, b⟩ => (Hp.disj_join.2 ⟨a.symm, b.symm⟩).symm⟩
theorem emp_eq {h : Hp} (e : emp h) : h = fun _ => none := funext e
theorem join_none (h : Hp) : Hp.join h (fun _ => none) = h := by funext b; simp [Hp.join]
theorem none_join (h : Hp) : Hp.join (fun _ => none) h = h := by funext b; simp [Hp.join]

theorem own_swap {p q : HProp} {l : List HProp} {h : Hp} (o : own (p :: q :: l) h) : own (q :: p :: l) h := by
  obtain ⟨x, y, dxy, rfl, hp, z, t, dzt, rfl, hq, hl⟩ := o
  have ⟨d1, d2⟩ := Hp.disj_join'.1 dxy
  refine ⟨z, Hp.join x t, Hp.disj_join'.2 ⟨d1.symm, dzt⟩, ?_, hq, x, t, d2, rfl, hp, hl⟩
  rw [← Hp.join_assoc, Hp.join_comm d1, Hp.join_assoc]

theorem own_perm {l k : List HProp} (e : l.Perm k) : ∀ {h : Hp}, own l h → own k h := by
  induction e with
  | nil => exact fun o => o
  | cons p _ ih => rintro _ ⟨x, y, d, rfl, hp, o⟩; exact ⟨x, y, d, rfl, hp, ih o⟩
  | swap p q l => exact fun o => own_swap o
  | trans _ _ ih₁ ih₂ => exact fun o => ih₂ (ih₁ o)

theorem own_append {l k : List HProp} {h : Hp} : own (l ++ k) h ↔ sep (own l) (own k) h := by
  induction l generalizing h with
  | nil =>
    constructor
    · intro o; exact ⟨fun _ => none, h, fun b => .inl rfl, (none_join h).symm, fun _ => rfl, o⟩
    · rintro ⟨x, y, d, rfl, e, o⟩; rw [emp_eq e, none_join]; exact o
  | cons p l ih =>
    constructor
    · rintro ⟨x, y, d, rfl, hp, o⟩
      obtain ⟨z, t, dzt, rfl, hl, hk⟩ := ih.1 o
      have ⟨d1, d2⟩ := Hp.disj_join'.1 d
      exact ⟨Hp.join x z, t, Hp.disj_join.2 ⟨d2, dzt⟩, (Hp.join_assoc _ _ _).symm, ⟨x, z, d1, rfl, hp, hl⟩, hk⟩
    · rintro ⟨x, y, d, rfl, ⟨z, t, dzt, rfl, hp, hl⟩, hk⟩
      have ⟨d1, d2⟩ := Hp.disj_join.1 d
      exact ⟨z, Hp.join t y, Hp.disj_join'.2 ⟨dzt, d1⟩, Hp.join_assoc _ _ _, hp, ih.2 ⟨t, y, d2, rfl, hl, hk⟩⟩

/-! ### the state of a walk -/
/-- What stays as it is: the blocks that the call's own does not touch; the streams. -/
structure Ctx where
  frame : Hp
  os : Os
  tape : Nat → Question → Nat
  output : Array (Nat × ByteArray)
  size : Nat

structure Ctx.ok (κ : Ctx) (w : World) : Prop where
  os : w.os = κ.os
  tape : w.tape = κ.tape
  output : w.output = κ.output
  size : κ.size ≤ w.heap.size

def Hp.within (h : Hp) (w : World) : Prop := ∀ b o, h b = some o → w.heap[b]? = some o

/-- The world holds what is told, and, apart from that, the frame. -/
def St (L : List HProp) (κ : Ctx) (w : World) : Prop :=
  κ.ok w ∧ ∃ h, own L h ∧ Hp.disj h κ.frame ∧ (Hp.join h κ.frame).within w

theorem St.perm {L M : List HProp} {κ : Ctx} {w : World} (s : St L κ w) (p : L.Perm M) : St M κ w :=
  ⟨s.1, let ⟨h, o, r⟩ := s.2; ⟨h, own_perm p o, r⟩⟩

theorem St.imp1 {p q : HProp} {L : List HProp} {κ : Ctx} {w : World} (hpq : ∀ h, p h → q h) (s : St (p :: L) κ w) : St (q :: L) κ w :=
  ⟨s.1, let ⟨h, ⟨x, y, d, e, hp, o⟩, r⟩ := s.2; ⟨h, ⟨x, y, d, e, hpq _ hp, o⟩, r⟩⟩

theorem St.drop {p : HProp} {L : List HProp} {κ : Ctx} {w : World} (s : St (p :: L) κ w) : St L κ w := by
  obtain ⟨k, h, ⟨x, y, d, rfl, hp, o⟩, dj, wi⟩ := s
  have ⟨d1, d2⟩ := Hp.disj_join.1 dj
  refine ⟨k, y, o, d2, fun b c e => wi b c ?_⟩
  simp only [Hp.join] at e ⊢
  rcases d b with n | n
  · simpa [n] using e
  · rcases d1 b with n' | n'
    · simpa [n, n'] using e
    · simp [n, n'] at e

/-- The frame takes what the callee does not ask for. -/
def Ctx.with (κ : Ctx) (k : Hp) (n : Nat) : Ctx := { κ with frame := Hp.join k κ.frame, size := n }

theorem St.split {L R : List HProp} {κ : Ctx} {w : World} (s : St (L ++ R) κ w) :
    ∃ κ', St L κ' w ∧ (∀ M w', St M κ' w' → St (M ++ R) κ w') := by
  obtain ⟨k, h, o, dj, wi⟩ := s
  obtain ⟨x, y, d, rfl, hl, hr⟩ := own_append.1 o
  have ⟨d1, d2⟩ := Hp.disj_join.1 dj
  refine ⟨κ.with y κ.size, ⟨⟨k.os, k.tape, k.output, k.size⟩, x, hl, Hp.disj_join'.2 ⟨d, d1⟩, ?_⟩, ?_⟩
  · rw [Ctx.with, ← Hp.join_assoc]; exact wi
  · rintro M w' ⟨k', z, hz, dz, wz⟩
    have ⟨e1, e2⟩ := Hp.disj_join'.1 dz
    refine ⟨⟨k'.os, k'.tape, k'.output, k'.size⟩, Hp.join z y, own_append.2 ⟨z, y, e1, rfl, hz, hr⟩, Hp.disj_join.2 ⟨e2, d2⟩, ?_⟩
    rw [Hp.join_assoc]; exact wz

theorem St.pt_heap {b : Nat} {o : Obj} {L : List HProp} {κ : Ctx} {w : World} (s : St (pt b o :: L) κ w) : w.heap[b]? = some o := by
  obtain ⟨_, h, ⟨x, y, d, rfl, hp, _⟩, _, wi⟩ := s
  exact wi b o (by simp [Hp.join, hp b])

theorem St.lift {p : Prop} {L : List HProp} {κ : Ctx} {w : World} (s : St (lift p :: L) κ w) : p ∧ St L κ w :=
  ⟨by obtain ⟨_, h, ⟨x, y, d, rfl, hp, _⟩, _, wi⟩ := s; exact hp.1, s.drop⟩

theorem St.lift_mk {p : Prop} {L : List HProp} {κ : Ctx} {w : World} (hp : p) (s : St L κ w) : St (Sz.lift p :: L) κ w :=
  let ⟨k, h, o, r⟩ := s; ⟨k, h, ⟨fun _ => none, h, fun _ => .inl rfl, (none_join h).symm, ⟨hp, fun _ => rfl⟩, o⟩, r⟩

theorem St.exs {α : Type} {f : α → HProp} {L : List HProp} {κ : Ctx} {w : World} (s : St (exs f :: L) κ w) : ∃ x, St (f x :: L) κ w :=
  let ⟨k, h, ⟨x, y, d, e, ⟨a, hp⟩, o⟩, r⟩ := s; ⟨a, k, h, ⟨x, y, d, e, hp, o⟩, r⟩

theorem St.exs_mk {α : Type} {f : α → HProp} {L : List HProp} {κ : Ctx} {w : World} (a : α) (s : St (f a :: L) κ w) : St (Sz.exs f :: L) κ w :=
  let ⟨k, h, ⟨x, y, d, e, hp, o⟩, r⟩ := s; ⟨k, h, ⟨x, y, d, e, ⟨a, hp⟩, o⟩, r⟩

/-- An assertion that is a list of others. -/
theorem St.own {M L : List HProp} {κ : Ctx} {w : World} (s : St (own M :: L) κ w) : St (M ++ L) κ w :=
  let ⟨k, h, o, r⟩ := s; ⟨k, h, own_append.2 o, r⟩
theorem St.own_mk {M L : List HProp} {κ : Ctx} {w : World} (s : St (M ++ L) κ w) : St (Sz.own M :: L) κ w :=
  let ⟨k, h, o, r⟩ := s; ⟨k, h, own_append.1 o, r⟩

/-- A block of the call's own is turned. -/
theorem St.set {b : Nat} {o o' : Obj} {L : List HProp} {κ : Ctx} {w w' : World} (s : St (pt b o :: L) κ w)
    (hk : κ.ok w') (hb : w'.heap[b]? = some o') (hr : ∀ c, c ≠ b → w'.heap[c]? = w.heap[c]?) : St (pt b o' :: L) κ w' := by
  obtain ⟨k, h, ⟨x, y, d, rfl, hp, ho⟩, dj, wi⟩ := s
  have ⟨d1, d2⟩ := Hp.disj_join.1 dj
  have hx : ∀ c, (fun c => if c = b then some o' else none : Hp) c = none ↔ x c = none := by
    intro c; rw [hp c]; by_cases e : c = b <;> simp [e]
  have dd : ∀ z : Hp, Hp.disj x z → Hp.disj (fun c => if c = b then some o' else none) z := fun z dz c => (dz c).imp (hx c).2 id
  refine ⟨hk, Hp.join (fun c => if c = b then some o' else none) y, ⟨_, y, dd y d, rfl, fun _ => rfl, ho⟩, Hp.disj_join.2 ⟨dd _ d1, d2⟩, ?_⟩
  intro c p e
  by_cases ec : c = b
  · subst ec
    simp [Hp.join] at e
    rw [hb, e]
  · rw [hr c ec]
    refine wi c p ?_
    simp only [Hp.join, if_neg ec] at e ⊢
    rw [hp c, if_neg ec]; exact e

/-- A block more. -/
theorem St.alloc {L : List HProp} {κ : Ctx} {w : World} (s : St L κ w) (o : Obj) : St (pt w.heap.size o :: L) κ (w.alloc o) := by
  obtain ⟨k, h, ho, dj, wi⟩ := s
  have hn : ∀ z : Hp, z.within w → z w.heap.size = none := by
    intro z hz
    cases e : z w.heap.size with
    | none => rfl
    | some o => have := hz _ _ e; simp at this
  have hwi := hn _ wi
  simp only [Hp.join, Option.or_eq_none_iff] at hwi
  have d1 : ∀ z : Hp, z w.heap.size = none → Hp.disj (fun c => if c = w.heap.size then some o else none) z := by
    intro z hz c
    by_cases e : c = w.heap.size
    · exact .inr (e ▸ hz)
    · left; simp [e]
  refine ⟨⟨k.os, k.tape, k.output, Nat.le_trans k.size (by rw [World.size_alloc]; omega)⟩, Hp.join _ h, ⟨_, h, d1 h hwi.1, rfl, fun _ => rfl, ho⟩, Hp.disj_join.2 ⟨d1 _ hwi.2, dj⟩, ?_⟩
  intro c p e
  show (w.heap.push o)[c]? = some p
  by_cases ec : c = w.heap.size
  · subst ec
    simp [Hp.join] at e
    simp [e]
  · have : (Hp.join h κ.frame) c = some p := by simpa [Hp.join, ec] using e
    have h2 := wi c p this
    have h3 : c < w.heap.size := by
      rcases Nat.lt_or_ge c w.heap.size with l | l
      · exact l
      · rw [Array.getElem?_eq_none l] at h2; simp at h2
    rw [Array.getElem?_push, if_neg (by omega)]
    exact h2

theorem St.drew {L : List HProp} {κ : Ctx} {w : World} (s : St L κ w) (n : Nat) : St L κ { w with drawn := n } :=
  let ⟨k, h, r⟩ := s; ⟨⟨k.os, k.tape, k.output, k.size⟩, h, r⟩

end Go.Sz

namespace Go.Sz
open Go

/-! ### slots -/
abbrev Env := List (Nat × Value)
def Env.get : Env → Nat → Option Value
  | [], _ => none
  | (k, v) :: r, t => bif Nat.beq k t then some v else Env.get r t
def Env.ev (E : Env) : Operand → Option Value
  | .tmp t => E.get t
  | .const v => some v
  | .global g => some (.pointer (some ⟨g, 0, none⟩))
  | .func f => some (.func (.func f) #[] #[])

theorem blt_lt {d n : Nat} (h : Nat.blt d n = true) : d < n := Nat.le_of_ble_eq_true h
theorem beq_ne {d t : Nat} (h : ¬ d = t) : Nat.beq d t = false := by
  cases e : Nat.beq d t with
  | false => rfl
  | true => exact absurd (Nat.eq_of_beq_eq_true e) h
theorem beq_self (d : Nat) : Nat.beq d d = true := by cases e : Nat.beq d d with
  | true => rfl
  | false => exact absurd rfl (Nat.ne_of_beq_eq_false e)

/-- Slots hold what is told of them. -/
structure Fits (E : Env) (n : Nat) (D : List Deferred) (a : Act) : Prop where
  defers : a.defers = D
  size : a.tmps.size = n
  has : ∀ t v, E.get t = some v → a.tmps[t]? = some v

theorem Fits.ev {E : Env} {n : Nat} {D : List Deferred} {a : Act} (h : Fits E n D a) {x : Operand} {v : Value} (e : E.ev x = some v) : a.eval x = v := by
  cases x with
  | tmp t =>
    have := h.has t v e
    simp [Act.eval, this]
  | const u => simpa [Env.ev, Act.eval] using e
  | global g => simpa [Env.ev, Act.eval] using e
  | func f => simpa [Env.ev, Act.eval] using e

theorem Fits.put {E : Env} {n : Nat} {D : List Deferred} {a : Act} (h : Fits E n D a) {d : Nat} (hd : Nat.blt d n = true) (v : Value) : Fits ((d, v) :: E) n D (a.put (some d) v) := by
  have hd' : d < n := blt_lt hd
  refine ⟨h.defers, by simp [Act.put, h.size], fun t u e => ?_⟩
  simp only [Env.get] at e
  simp only [Act.put]
  by_cases c : d = t
  · subst c
    simp at e
    rw [Array.getElem?_setIfInBounds_self]
    simp [h.size, hd', e]
  · have := beq_ne c
    rw [this] at e
    rw [Array.getElem?_setIfInBounds_ne c]
    exact h.has t u e

theorem Fits.weak {E E' : Env} {n : Nat} {D : List Deferred} {a : Act} (h : Fits E n D a) (w : ∀ t v, E'.get t = some v → E.get t = some v) : Fits E' n D a :=
  ⟨h.defers, h.size, fun t v e => h.has t v (w t v e)⟩

/-- Slots that live on, out of those that are told. -/
inductive Live (E : Env) : Env → Prop
  | nil : Live E []
  | cons {t : Nat} {v : Value} {R : Env} (h : E.get t = some v) (r : Live E R) : Live E ((t, v) :: R)

theorem Live.weak {E R : Env} (h : Live E R) : ∀ t v, R.get t = some v → E.get t = some v := by
  induction h with
  | nil => intro t v e; cases e
  | @cons t0 v0 R0 h _ ih =>
    intro t v e
    simp only [Env.get] at e
    by_cases c : t0 = t
    · subst c; rw [beq_self] at e; simp at e; rw [h, e]
    · have := beq_ne c
      rw [this] at e; exact ih t v e

/-! ### what is held -/
inductive Has : List HProp → HProp → Prop
  | here {p : HProp} {L : List HProp} : Has (p :: L) p
  | there {p q : HProp} {L : List HProp} : Has L p → Has (q :: L) p
inductive Rem : List HProp → HProp → List HProp → Prop
  | here {p : HProp} {L : List HProp} : Rem (p :: L) p L
  | there {p q : HProp} {L M : List HProp} : Rem L p M → Rem (q :: L) p (q :: M)
inductive Pick : List HProp → List HProp → List HProp → Prop
  | nil {L : List HProp} : Pick L [] L
  | cons {p : HProp} {L M l R : List HProp} : Rem L p M → Pick M l R → Pick L (p :: l) R
theorem Rem.perm {L M : List HProp} {p : HProp} (h : Rem L p M) : L.Perm (p :: M) := by
  induction h with
  | here => exact .refl _
  | there _ ih => exact (List.Perm.cons _ ih).trans (.swap _ _ _)
theorem Pick.perm {L l R : List HProp} (h : Pick L l R) : L.Perm (l ++ R) := by
  induction h with
  | nil => exact .refl _
  | cons hr _ ih => exact hr.perm.trans (ih.cons _)
theorem Has.rem {L : List HProp} {p : HProp} (h : Has L p) : ∃ M, L.Perm (p :: M) := by
  induction h with
  | here => exact ⟨_, .refl _⟩
  | there _ ih => obtain ⟨M, hM⟩ := ih; exact ⟨_, (List.Perm.cons _ hM).trans (.swap _ _ _)⟩

theorem St.rem {L M : List HProp} {p : HProp} {κ : Ctx} {w : World} (h : Rem L p M) (s : St L κ w) : St (p :: M) κ w := s.perm h.perm
theorem St.pick {L l R : List HProp} {κ : Ctx} {w : World} (h : Pick L l R) (s : St L κ w) : St (l ++ R) κ w := s.perm h.perm
theorem St.dropR {L R : List HProp} {κ : Ctx} {w : World} (s : St (L ++ R) κ w) : St L κ w := by
  have s := s.perm List.perm_append_comm
  have key : ∀ R : List HProp, St (R ++ L) κ w → St L κ w := by
    intro R
    induction R with
    | nil => exact fun s => s
    | cons p R ih => exact fun s => ih s.drop
  exact key R s
theorem St.picked {L l R : List HProp} {κ : Ctx} {w : World} (h : Pick L l R) (s : St L κ w) : St l κ w := (s.pick h).dropR

/-- A block that may be read: one's own, or one of the frame's. -/
inductive Rdb (L : List HProp) (κ : Ctx) (b : Nat) (o : Obj) : Prop
  | own (h : Has L (pt b o)) : Rdb L κ b o
  | fr (h : κ.frame b = some o) : Rdb L κ b o
theorem Rdb.heap {L : List HProp} {κ : Ctx} {b : Nat} {o : Obj} (h : Rdb L κ b o) {w : World} (s : St L κ w) : w.heap[b]? = some o := by
  cases h with
  | own h => obtain ⟨M, hM⟩ := h.rem; exact (s.perm hM).pt_heap
  | fr h =>
    obtain ⟨_, x, _, d, wi⟩ := s
    refine wi b o ?_
    rcases d b with e | e
    · simp [Hp.join, e, h]
    · rw [h] at e; cases e

/-! ### code -/
abbrev Fc (r : Option Nat) : Fence := { Fence.wide with round := r }
abbrev ad (b o : Nat) : Value := .pointer (some ⟨b, o, none⟩)

section
variable {r : Option Nat} {P : Program} {Q Q' : Exit → Act → World → Prop} {n : Nat} {D : List Deferred} {E : Env} {L : List HProp} {κ : Ctx} {ops : Array Oper} {rest : List Oper}

def TC (r : Option Nat) (P : Program) (c : Code) (Q : Exit → Act → World → Prop) (n : Nat) (D : List Deferred) (E : Env) (L : List HProp) (κ : Ctx) : Prop :=
  ∀ a w, Fits E n D a → St L κ w → c.wpIn (Fc r) 0 P Q a w
def TL (r : Option Nat) (P : Program) (ops : Array Oper) (Q : Exit → Act → World → Prop) (rest : List Oper) (n : Nat) (D : List Deferred) (E : Env) (L : List HProp) (κ : Ctx) : Prop :=
  ∀ a w, Fits E n D a → St L κ w → wpListIn (Fc r) 0 P ops Q rest a w
def TQ (Q : Exit → Act → World → Prop) (e : Exit) (n : Nat) (D : List Deferred) (E : Env) (L : List HProp) (κ : Ctx) : Prop :=
  ∀ a w, Fits E n D a → St L κ w → Q e a w

theorem tc_seq {x y : Code} (h : TC r P x (Exit.then (y.wpIn (Fc r) 0 P Q) Q) n D E L κ) : TC r P (.seq x y) Q n D E L κ := fun a w f s => wpIn_seq (h a w f s)
theorem tc_region {id : Nat} {l : List Oper} (h : TL r P l.toArray Q l n D E L κ) : TC r P (.region id l.toArray false) Q n D E L κ := fun a w f s => wpIn_region_lit (h a w f s)
theorem tl_nil (h : TQ Q .normal n D E L κ) : TL r P ops Q [] n D E L κ := fun a w f s => h a w f s
/-- The end of a region with code behind it. -/
theorem tl_next {y : Code} (h : TC r P y Q n D E L κ) : TL r P ops (Exit.then (y.wpIn (Fc r) 0 P Q) Q') [] n D E L κ := fun a w f s => h a w f s
theorem tq_next {y : Code} (h : TC r P y Q n D E L κ) : TQ (Exit.then (y.wpIn (Fc r) 0 P Q) Q') .normal n D E L κ := fun a w f s => h a w f s
theorem tq_then_ret {K : Act → World → Prop} (h : TQ Q .ret n D E L κ) : TQ (Exit.then K Q) .ret n D E L κ := h
theorem tq_then_exit {K : Act → World → Prop} {id : Nat} (h : TQ Q (.exit id) n D E L κ) : TQ (Exit.then K Q) (.exit id) n D E L κ := h
theorem tq_blk_normal {id : Nat} (h : TQ Q .normal n D E L κ) : TQ (Exit.inBlock id Q) .normal n D E L κ := h
theorem tq_blk_ret {id : Nat} (h : TQ Q .ret n D E L κ) : TQ (Exit.inBlock id Q) .ret n D E L κ := h
theorem tq_blk_here {id : Nat} (h : TQ Q .normal n D E L κ) : TQ (Exit.inBlock id Q) (.exit id) n D E L κ := fun a w f s => by
  show (if id = id then _ else _)
  rw [if_pos rfl]; exact h a w f s
theorem tq_blk_other {id id' : Nat} (hn : Nat.beq id' id = false) (h : TQ Q (.exit id') n D E L κ) : TQ (Exit.inBlock id Q) (.exit id') n D E L κ := fun a w f s => by
  show (if id' = id then _ else _)
  rw [if_neg (by intro e; subst e; rw [beq_self] at hn; cases hn)]; exact h a w f s
theorem tc_skip (h : TQ Q .normal n D E L κ) : TC r P .skip Q n D E L κ := fun a w f s => wpIn_skip (h a w f s)
theorem tc_ret (h : TQ Q .ret n D E L κ) : TC r P .ret Q n D E L κ := fun a w f s => wpIn_ret (h a w f s)
theorem tc_exit {id : Nat} (h : TQ Q (.exit id) n D E L κ) : TC r P (.exit id) Q n D E L κ := fun a w f s => wpIn_exit (h a w f s)
theorem tc_block {id : Nat} {c : Code} (h : TC r P c (Exit.inBlock id Q) n D E L κ) : TC r P (.block id c) Q n D E L κ := fun a w f s => wpIn_block (h a w f s)
theorem tc_if {c : Operand} {x y : Code} {b : Bool} (hc : E.ev c = some (.bool b)) (ht : b = true → TC r P x Q n D E L κ) (hf : b = false → TC r P y Q n D E L κ) :
    TC r P (.cond c x y) Q n D E L κ := fun a w f s => wpIn_cond_split (f.ev hc) (fun e => ht e a w f s) (fun e => hf e a w f s)
theorem tc_if_true {c : Operand} {x y : Code} {b : Bool} (hc : E.ev c = some (.bool b)) (hb : b = true) (ht : TC r P x Q n D E L κ) : TC r P (.cond c x y) Q n D E L κ :=
  tc_if hc (fun _ => ht) (fun e => by rw [hb] at e; cases e)
theorem tc_if_false {c : Operand} {x y : Code} {b : Bool} (hc : E.ev c = some (.bool b)) (hb : b = false) (hf : TC r P y Q n D E L κ) : TC r P (.cond c x y) Q n D E L κ :=
  tc_if hc (fun e => by rw [hb] at e; cases e) (fun _ => hf)

/-- Where ways meet: what is so behind the first part, told once. -/
theorem tc_cut {x y : Code} {X : Type} (E' : X → Env) (L' : X → List HProp)
    (h : TC r P x (Exit.then (fun a w => ∃ i, Fits (E' i) n D a ∧ St (L' i) κ w) Q) n D E L κ)
    (k : ∀ i, TC r P y Q n D (E' i) (L' i) κ) : TC r P (.seq x y) Q n D E L κ := fun a w f s =>
  wpIn_seq (wpIn_mono (h a w f s) fun e a w q => by
    cases e with
    | normal => obtain ⟨i, f, s⟩ := q; exact k i a w f s
    | _ => exact q)
theorem tq_cut {X : Type} {E' : X → Env} {L' : X → List HProp} (i : X) (hE : Live E (E' i)) {R : List HProp} (hL : Pick L (L' i) R := by repeat (first | exact Pick.nil | exact Rem.here | apply Rem.there | apply Pick.cons)) :
    TQ (Exit.then (fun a w => ∃ i, Fits (E' i) n D a ∧ St (L' i) κ w) Q) .normal n D E L κ := fun a w f s => ⟨i, f.weak hE.weak, s.picked hL⟩

theorem least {p : Nat → Prop} (h : ∃ m, p m) : ∃ m, p m ∧ ∀ k, p k → m ≤ k := by
  obtain ⟨m, hm⟩ := h
  induction m using Nat.strongRecOn with
  | _ m ih =>
    by_cases c : ∃ k, k < m ∧ p k
    · obtain ⟨k, hk, pk⟩ := c; exact ih k hk pk
    · exact ⟨m, hm, fun k pk => Nat.le_of_not_lt fun l => c ⟨k, l, pk⟩⟩

theorem tc_loop {c : Code} {X : Type} (E' : X → Env) (L' : X → List HProp) (μ : X → Nat) (i : X) (hE : Live E (E' i)) {R : List HProp} (hL : Pick L (L' i) R)
    (round : ∀ i, TC r P c (Exit.then (fun a w => ∃ j, μ j < μ i ∧ Fits (E' j) n D a ∧ St (L' j) κ w) Q) n D (E' i) (L' i) κ) : TC r P (.loop c) Q n D E L κ := by
  intro a w f s
  have S : ∀ a w, (∃ i, Fits (E' i) n D a ∧ St (L' i) κ w) → ∃ m, (∃ i, μ i = m ∧ Fits (E' i) n D a ∧ St (L' i) κ w) ∧ ∀ k, (∃ i, μ i = k ∧ Fits (E' i) n D a ∧ St (L' i) κ w) → m ≤ k :=
    fun a w ⟨i, f, s⟩ => least (p := fun m => ∃ i, μ i = m ∧ Fits (E' i) n D a ∧ St (L' i) κ w) ⟨_, i, rfl, f, s⟩
  refine wpIn_loop (fun a w => ∃ i, Fits (E' i) n D a ∧ St (L' i) κ w) (fun a w => open Classical in if h : ∃ i, Fits (E' i) n D a ∧ St (L' i) κ w then (S a w h).choose else 0) ⟨i, f.weak hE.weak, s.picked hL⟩ ?_
  intro a w hI
  obtain ⟨⟨i, hi, fi, si⟩, _⟩ := (S a w hI).choose_spec
  refine wpIn_mono (round i a w fi si) fun e a' w' q => ?_
  cases e with
  | normal =>
    obtain ⟨j, hj, fj, sj⟩ := q
    have hI' : ∃ i, Fits (E' i) n D a' ∧ St (L' i) κ w' := ⟨j, fj, sj⟩
    refine ⟨hI', ?_⟩
    simp only [dif_pos hI, dif_pos hI']
    exact Nat.lt_of_le_of_lt ((S a' w' hI').choose_spec.2 _ ⟨j, rfl, fj, sj⟩) (hi ▸ hj)
  | _ => exact q
theorem tq_round {X : Type} {E' : X → Env} {L' : X → List HProp} {μ : X → Nat} {i : X} (j : X) (hμ : μ j < μ i) (hE : Live E (E' j)) {R : List HProp} (hL : Pick L (L' j) R := by repeat (first | exact Pick.nil | exact Rem.here | apply Rem.there | apply Pick.cons)) :
    TQ (Exit.then (fun a w => ∃ j, μ j < μ i ∧ Fits (E' j) n D a ∧ St (L' j) κ w) Q) .normal n D E L κ := fun a w f s => ⟨j, hμ, f.weak hE.weak, s.picked hL⟩

/-! states taken apart, and put together -/
theorem tl_live {E' : Env} (h : Live E E') (k : TL r P ops Q rest n D E' L κ) : TL r P ops Q rest n D E L κ := fun a w f s => k a w (f.weak h.weak) s
theorem tc_live {c : Code} {E' : Env} (h : Live E E') (k : TC r P c Q n D E' L κ) : TC r P c Q n D E L κ := fun a w f s => k a w (f.weak h.weak) s
theorem tl_imp {L' : List HProp} (h : ∀ w, St L κ w → St L' κ w) (k : TL r P ops Q rest n D E L' κ) : TL r P ops Q rest n D E L κ := fun a w f s => k a w f (h w s)
theorem tc_imp {c : Code} {L' : List HProp} (h : ∀ w, St L κ w → St L' κ w) (k : TC r P c Q n D E L' κ) : TC r P c Q n D E L κ := fun a w f s => k a w f (h w s)
theorem tq_imp {e : Exit} {L' : List HProp} (h : ∀ w, St L κ w → St L' κ w) (k : TQ Q e n D E L' κ) : TQ Q e n D E L κ := fun a w f s => k a w f (h w s)
theorem tl_ex {α : Type} {f : α → HProp} {M : List HProp} (h : Rem L (exs f) M) (k : ∀ x, TL r P ops Q rest n D E (f x :: M) κ) : TL r P ops Q rest n D E L κ :=
  fun a w e s => let ⟨x, s'⟩ := (s.rem h).exs; k x a w e s'
theorem tc_ex {c : Code} {α : Type} {f : α → HProp} {M : List HProp} (h : Rem L (exs f) M) (k : ∀ x, TC r P c Q n D E (f x :: M) κ) : TC r P c Q n D E L κ :=
  fun a w e s => let ⟨x, s'⟩ := (s.rem h).exs; k x a w e s'
theorem tl_lift {p : Prop} {M : List HProp} (h : Rem L (lift p) M) (k : p → TL r P ops Q rest n D E M κ) : TL r P ops Q rest n D E L κ :=
  fun a w e s => let ⟨x, s'⟩ := (s.rem h).lift; k x a w e s'
theorem tc_lift {c : Code} {p : Prop} {M : List HProp} (h : Rem L (lift p) M) (k : p → TC r P c Q n D E M κ) : TC r P c Q n D E L κ :=
  fun a w e s => let ⟨x, s'⟩ := (s.rem h).lift; k x a w e s'
theorem tl_own {K M : List HProp} (h : Rem L (own K) M) (k : TL r P ops Q rest n D E (K ++ M) κ) : TL r P ops Q rest n D E L κ :=
  fun a w e s => k a w e (s.rem h).own
theorem tc_own {c : Code} {K M : List HProp} (h : Rem L (own K) M) (k : TC r P c Q n D E (K ++ M) κ) : TC r P c Q n D E L κ :=
  fun a w e s => k a w e (s.rem h).own

/-! ### a function's contract -/
/-- Blocks of the frame that may be read. -/
def Reads (ro : List (Nat × Obj)) (κ : Ctx) : Prop := ∀ p ∈ ro, κ.frame p.1 = some p.2

def Ct (P : Program) (k : FuncId) (args : Array Value) (ro : List (Nat × Obj)) (pre : List HProp) {X : Type} (val : X → Value) (out : X → List HProp → List HProp) : Prop :=
  (∃ fn, P.funcs[k]? = some fn ∧ (fn.name == "runtime.NumGoroutine") = false ∧ fn.body.isSome = true) ∧
  ∀ κ w, Reads ro κ → St pre κ w → Calls P k args w fun e w' => ∃ x, e = .returned (val x) ∧ St (out x []) κ w'

/-- One that reads alone. -/
abbrev Rd (P : Program) (k : FuncId) (args : Array Value) (ro : List (Nat × Obj)) (pre : List HProp) (v : Value) : Prop :=
  Ct P k args ro pre (fun _ : Unit => v) (fun _ _ => pre)

def argsEnv : List Value → Nat → Env
  | [], _ => []
  | v :: l, i => (i, v) :: argsEnv l (i + 1)

theorem argsEnv_get : ∀ (l : List Value) (i t : Nat) (v : Value), (argsEnv l i).get t = some v → i ≤ t ∧ l[t - i]? = some v
  | [], _, _, _, e => by cases e
  | u :: l, i, t, v, e => by
    simp only [argsEnv, Env.get] at e
    by_cases c : i = t
    · subst c; rw [beq_self] at e; simp at e; simp [e]
    · have := beq_ne c
      rw [this] at e
      obtain ⟨h1, h2⟩ := argsEnv_get l (i + 1) t v e
      refine ⟨by omega, ?_⟩
      rw [show t - i = (t - (i + 1)) + 1 from by omega]
      simpa using h2

theorem args_fits (l : List Value) (n : Nat) (h : Nat.ble l.length n = true) :
    Fits (argsEnv l 0) n [] { tmps := l.toArray ++ Array.replicate (n - l.toArray.size) undef, defers := [] } := by
  have h' : l.length ≤ n := Nat.le_of_ble_eq_true h
  refine ⟨rfl, by simp; omega, fun t v e => ?_⟩
  obtain ⟨_, h2⟩ := argsEnv_get l 0 t v e
  simp only [Nat.sub_zero] at h2
  have ht : t < l.length := (List.getElem?_eq_some_iff.1 h2).1
  rw [Array.getElem?_append_left (by simpa using ht)]
  simpa using h2

/-- What is asked at a function's end. -/
abbrev Post {X : Type} (val : X → Value) (out : X → List HProp → List HProp) (κ : Ctx) : Ending → World → Prop := fun e w' => ∃ x, e = .returned (val x) ∧ St (out x []) κ w'

theorem ct_intro {k : FuncId} {fn : Func} {c : Code} {l : List Value} {ro : List (Nat × Obj)} {pre : List HProp} {X : Type} {val : X → Value} {out : X → List HProp → List HProp}
    (hf : P.funcs[k]? = some fn) (hb : fn.body = some c) (hn : (fn.name == "runtime.NumGoroutine") = false) {n : Nat} (hnt : fn.ntmps = n) (hl : Nat.ble l.length n = true) {E : Env} (hE : argsEnv l 0 = E)
    (h : ∀ κ, Reads ro κ → TC none P c (bodyPostM (Fc none) 0 P fn (Post val out κ)) n [] E pre κ) : Ct P k l.toArray ro pre val out := by
  subst hnt
  subst hE
  refine ⟨⟨fn, hf, hn, by rw [hb]; rfl⟩, ?_⟩
  intro κ w hr s
  refine (callsIn_wide (n := 0)).1 ?_
  exact callsIn_of_wp_marks (F := Fc none) hf hb trivial (h κ hr _ w (args_fits l fn.ntmps hl) s) rfl

/-- The ends: no result, one, two, three. -/
theorem tq_ret0 {fn : Func} {X : Type} {val : X → Value} {out : X → List HProp → List HProp} (e : Exit) (he : e = .ret ∨ e = .normal) (x : X) (hr : fn.results = #[]) (hv : val x = .tuple #[]) {R : List HProp} (hL : Pick L (out x []) R := by repeat (first | exact Pick.nil | exact Rem.here | apply Rem.there | apply Pick.cons)) :
    TQ (bodyPostM (Fc none) 0 P fn (Post val out κ)) e n [] E L κ := fun a w f s => by
  have key : LeavesInM (Fc none) 0 P fn a.tmps (Post val out κ) a.defers .returning w := by
    rw [f.defers]
    exact ⟨_, results_none hr _ _ _, x, by rw [hv], s.picked hL⟩
  rcases he with rfl | rfl <;> exact key
theorem tq_ret1 {fn : Func} {X : Type} {val : X → Value} {out : X → List HProp → List HProp} (e : Exit) (he : e = .ret ∨ e = .normal) (x : X) {t : Nat} (hr : fn.results = #[.tmp t]) (hv : E.get t = some (val x)) {R : List HProp} (hL : Pick L (out x []) R := by repeat (first | exact Pick.nil | exact Rem.here | apply Rem.there | apply Pick.cons)) :
    TQ (bodyPostM (Fc none) 0 P fn (Post val out κ)) e n [] E L κ := fun a w f s => by
  have key : LeavesInM (Fc none) 0 P fn a.tmps (Post val out κ) a.defers .returning w := by
    rw [f.defers]
    exact ⟨_, results_tmp hr _ _ _, x, by simp [f.has _ _ hv], s.picked hL⟩
  rcases he with rfl | rfl <;> exact key
theorem tq_ret2 {fn : Func} {X : Type} {val : X → Value} {out : X → List HProp → List HProp} (e : Exit) (he : e = .ret ∨ e = .normal) (x : X) {t u : Nat} {v1 v2 : Value} (hr : fn.results = #[.tmp t, .tmp u]) (h1 : E.get t = some v1) (h2 : E.get u = some v2) (hv : val x = .tuple #[v1, v2]) {R : List HProp} (hL : Pick L (out x []) R := by repeat (first | exact Pick.nil | exact Rem.here | apply Rem.there | apply Pick.cons)) :
    TQ (bodyPostM (Fc none) 0 P fn (Post val out κ)) e n [] E L κ := fun a w f s => by
  have key : LeavesInM (Fc none) 0 P fn a.tmps (Post val out κ) a.defers .returning w := by
    rw [f.defers]
    exact ⟨_, results_tmp2 hr _ _ _, x, by simp [hv, f.has _ _ h1, f.has _ _ h2], s.picked hL⟩
  rcases he with rfl | rfl <;> exact key
theorem results_tmp3 {fn : Func} {t u v : Tmp} (h : fn.results = #[.tmp t, .tmp u, .tmp v]) (tmps : Array Value) (P : Program) (w : World) :
    (results fn tmps).run P w = .ok (.tuple #[tmps.getD t undef, tmps.getD u undef, tmps.getD v undef]) w := by
  simp [results, h]
theorem tq_ret3 {fn : Func} {X : Type} {val : X → Value} {out : X → List HProp → List HProp} (e : Exit) (he : e = .ret ∨ e = .normal) (x : X) {t u y : Nat} {v1 v2 v3 : Value} (hr : fn.results = #[.tmp t, .tmp u, .tmp y]) (h1 : E.get t = some v1) (h2 : E.get u = some v2) (h3 : E.get y = some v3) (hv : val x = .tuple #[v1, v2, v3]) {R : List HProp} (hL : Pick L (out x []) R := by repeat (first | exact Pick.nil | exact Rem.here | apply Rem.there | apply Pick.cons)) :
    TQ (bodyPostM (Fc none) 0 P fn (Post val out κ)) e n [] E L κ := fun a w f s => by
  have key : LeavesInM (Fc none) 0 P fn a.tmps (Post val out κ) a.defers .returning w := by
    rw [f.defers]
    exact ⟨_, results_tmp3 hr _ _ _, x, by simp [hv, f.has _ _ h1, f.has _ _ h2, f.has _ _ h3], s.picked hL⟩
  rcases he with rfl | rfl <;> exact key

theorem post_ret {fn : Func} {R : Ending → World → Prop} {a : Act} {w : World} {v : Value} (hd : a.defers = []) (hr : (results fn a.tmps).run P w = .ok v w) (hR : R (.returned v) w) :
    bodyPostM (Fc none) 0 P fn R .ret a w := by
  show LeavesInM _ _ _ _ _ _ a.defers _ _
  rw [hd]
  exact ⟨v, hr, hR⟩
end
end Go.Sz

namespace Go.Sz
open Go

/-! ### what of the program's types is asked -/
def aggB (P : Program) (t : TypeId) : Option Bool :=
  match P.underlying t with
  | some (.struct _) | some (.array ..) => some true
  | some _ => some false
  | none => none
def szOf (P : Program) (t : TypeId) : Option Nat := (P.info? t).map (·.size)
def zeroV (P : Program) (t : TypeId) : Option Value := (P.info? t).bind (·.zero)
/-- where a field's cells begin, how many there are, and whether it is taken as one cell -/
def fOff (P : Program) (s f : Nat) : Option (Nat × Nat × Bool) :=
  match P.underlying s with
  | some (.struct fs) => match fs[f]? with
    | some d => match P.info? d.type, aggB P d.type with
      | some i, some g => if i.size = 0 then none else some (d.offset, i.size, g)
      | _, _ => none
    | none => none
  | _ => none
/-- an array's length, its element's cells, and whether these are taken as one -/
def arrOf (P : Program) (t : TypeId) : Option (Nat × Nat × Bool) :=
  match P.underlying t with
  | some (.array len e) => match P.info? e, aggB P e with
    | some i, some g => some (len, i.size, g)
    | _, _ => none
  | _ => none
def slcOf (P : Program) (t : TypeId) : Option (TypeId × Nat) :=
  match P.underlying t with
  | some (.slice e) => (P.info? e).map fun i => (e, i.size)
  | _ => none
def intOfT (P : Program) (t : TypeId) : Option IntKind :=
  match P.underlying t with
  | some (.int k) => some k
  | _ => none

section
variable {P : Program} {w : World}
theorem run_isAgg {t : TypeId} {g : Bool} (h : aggB P t = some g) : (isAgg t).run P w = .ok g w := by
  unfold aggB at h
  unfold isAgg
  cases e : P.underlying t with
  | none => rw [e] at h; cases h
  | some d =>
    rw [e] at h
    rw [Sem.run_bind, run_underlying e]
    cases d <;> simp at h <;> subst h <;> simp
theorem run_sizeOf' {t : TypeId} {s : Nat} (h : szOf P t = some s) : (sizeOf t).run P w = .ok s w := by
  unfold szOf at h
  cases e : P.info? t with
  | none => rw [e] at h; cases h
  | some i => rw [e] at h; simp at h; simp [sizeOf, typeInfo, e, h]
theorem run_zeroValue' {t : TypeId} {z : Value} (h : zeroV P t = some z) : (zeroValue t).run P w = .ok z w := by
  unfold zeroV at h
  cases e : P.info? t with
  | none => rw [e] at h; cases h
  | some i => rw [e] at h; simp at h; simp [zeroValue, typeInfo, e, h]
theorem run_part {t : TypeId} {g : Bool} {s : Nat} {cs : Array Value} {off : Nat} {v : Value} (hg : aggB P t = some g) (hs : szOf P t = some s)
    (hv : (if g then some (.agg (cs.extract off (off + s))) else cs[off]?) = some v) : (part t cs off).run P w = .ok v w := by
  unfold part
  rw [Sem.run_bind, run_isAgg hg]
  cases g with
  | true => simp at hv; simp [run_sizeOf' hs, hv]
  | false => simp at hv; simp [hv]
end

/-! ### an operation that gives a value, and turns nothing -/
section
variable {r : Option Nat} {P : Program} {Q : Exit → Act → World → Prop} {n : Nat} {D : List Deferred} {E : Env} {L : List HProp} {κ : Ctx} {ops : Array Oper} {rest : List Oper}
variable {d : Nat} {dd : Option Tmp} {T : TypeId} {ps : String} {af : Array Edge} {gd : Option (Nat × Bool)}

def PR (P : Program) (op : Op) (T : TypeId) (n : Nat) (D : List Deferred) (E : Env) (L : List HProp) (κ : Ctx) (v : Value) : Prop :=
  (∀ c, op ≠ .defer c) ∧ ∀ dd ps af gd a w, Fits E n D a → St L κ w → (execOp a.eval ⟨dd, op, T, ps, af, gd⟩).run P w = .ok (.value v) w

theorem semAt_nd {o : Oper} (h : ∀ c, o.op ≠ .defer c) (ρ : Operand → Value) : o.semAt r ρ = execOp ρ o := by
  cases r with
  | none => rfl
  | some l => exact Oper.semAt_some l ρ o h

theorem wl_run {a : Act} {w : World} {o : Oper} (hw : Region.wanted o (yielded ops a.tmps) = true) (h : o.uponIn (Fc r) 0 P a (wpListIn (Fc r) 0 P ops Q rest) Q ((o.semAt r a.eval).run P w)) :
    wpListIn (Fc r) 0 P ops Q (o :: rest) a w := by
  show (if _ then _ else _)
  rw [if_pos hw]
  exact ⟨fun _ _ => trivial, h⟩
theorem wl_skip {a : Act} {w : World} {o : Oper} (hw : Region.wanted o (yielded ops a.tmps) = false) (h : wpListIn (Fc r) 0 P ops Q rest (a.put o.dst undef) w) :
    wpListIn (Fc r) 0 P ops Q (o :: rest) a w := by
  show (if _ then _ else _)
  rw [if_neg (by rw [hw]; simp)]
  exact ⟨fun _ _ => trivial, h⟩

/-- a step -/
theorem tl_p {op : Op} {v : Value} (h : PR P op T n D E L κ v) (hd : Nat.blt d n = true) (k : TL r P ops Q rest n D ((d, v) :: E) L κ) :
    TL r P ops Q (⟨some d, op, T, ps, af, none⟩ :: rest) n D E L κ := fun a w f s => by
  refine wl_run rfl ?_
  rw [semAt_nd h.1, h.2 _ _ _ _ a w f s]
  exact k _ _ (f.put hd v) s

/-- a value that is there where c is so -/
def gval (c : Bool) (v : Value) : Value := bif c then v else undef
theorem gv {E : Env} {x : Operand} {c : Bool} {v : Value} (e : E.ev x = some (gval c v)) (h : c = true) : E.ev x = some v := by rw [e, h]; rfl
theorem gv2 {E : Env} {x : Operand} {c y : Bool} {v : Value} (e : E.ev x = some (gval (c && y) v)) (h : c = true) : E.ev x = some (gval y v) := by rw [e, h]; rfl
theorem gl {c y : Bool} (h : (c && y) = true) : c = true := by cases c <;> simp_all
theorem gr {c y : Bool} (h : (c && y) = true) : y = true := by cases c <;> simp_all

def gtest (u : Value) (fl : Bool) : Bool :=
  match u with
  | .bool b => b == fl
  | _ => false
theorem wanted_slot {a : Act} {j dj : Nat} {fl : Bool} {op : Op} {u : Value} (hj : (ops[j]?).bind (·.dst) = some dj) (hu : E.get dj = some u) (f : Fits E n D a) :
    Region.wanted ⟨dd, op, T, ps, af, some (j, fl)⟩ (yielded ops a.tmps) = gtest u fl := by
  simp only [Region.wanted, yielded]
  rw [hj]
  simp only [Option.bind_some]
  rw [f.has _ _ hu]
  cases u <;> first | rfl | (rename_i b; cases b <;> cases fl <;> rfl)

/-- a step under a guard -/
theorem tl_gc {op : Op} {v u : Value} {j dj : Nat} {fl c : Bool} (hj : (ops[j]?).bind (·.dst) = some dj) (hu : E.get dj = some u)
    (hc : gtest u fl = c) (h : c = true → PR P op T n D E L κ v) (hnd : ∀ x, op ≠ .defer x) (hd : Nat.blt d n = true)
    (k : TL r P ops Q rest n D ((d, gval c v) :: E) L κ) :
    TL r P ops Q (⟨some d, op, T, ps, af, some (j, fl)⟩ :: rest) n D E L κ := fun a w f s => by
  have hw := wanted_slot (dd := some d) (T := T) (ps := ps) (af := af) (fl := fl) (op := op) hj hu f
  rw [hc] at hw
  cases c with
  | true =>
    refine wl_run hw ?_
    rw [semAt_nd hnd, (h rfl).2 _ _ _ _ a w f s]
    exact k _ _ (f.put hd v) s
  | false =>
    refine wl_skip hw ?_
    exact k _ _ (f.put hd undef) s
theorem tl_gt {op : Op} {v : Value} {j dj : Nat} {y : Bool} (hj : (ops[j]?).bind (·.dst) = some dj) (hu : E.get dj = some (.bool y))
    (h : y = true → PR P op T n D E L κ v) (hnd : ∀ x, op ≠ .defer x) (hd : Nat.blt d n = true) (k : TL r P ops Q rest n D ((d, gval y v) :: E) L κ) :
    TL r P ops Q (⟨some d, op, T, ps, af, some (j, true)⟩ :: rest) n D E L κ := tl_gc hj hu (by cases y <;> rfl) h hnd hd k
theorem tl_gf {op : Op} {v : Value} {j dj : Nat} {y : Bool} (hj : (ops[j]?).bind (·.dst) = some dj) (hu : E.get dj = some (.bool y))
    (h : (!y) = true → PR P op T n D E L κ v) (hnd : ∀ x, op ≠ .defer x) (hd : Nat.blt d n = true) (k : TL r P ops Q rest n D ((d, gval (!y) v) :: E) L κ) :
    TL r P ops Q (⟨some d, op, T, ps, af, some (j, false)⟩ :: rest) n D E L κ := tl_gc hj hu (by cases y <;> rfl) h hnd hd k
theorem tl_ggt {op : Op} {v : Value} {j dj : Nat} {c y : Bool} (hj : (ops[j]?).bind (·.dst) = some dj) (hu : E.get dj = some (gval c (.bool y)))
    (h : (c && y) = true → PR P op T n D E L κ v) (hnd : ∀ x, op ≠ .defer x) (hd : Nat.blt d n = true) (k : TL r P ops Q rest n D ((d, gval (c && y) v) :: E) L κ) :
    TL r P ops Q (⟨some d, op, T, ps, af, some (j, true)⟩ :: rest) n D E L κ := tl_gc hj hu (by cases c <;> cases y <;> rfl) h hnd hd k
theorem tl_ggf {op : Op} {v : Value} {j dj : Nat} {c y : Bool} (hj : (ops[j]?).bind (·.dst) = some dj) (hu : E.get dj = some (gval c (.bool y)))
    (h : (c && !y) = true → PR P op T n D E L κ v) (hnd : ∀ x, op ≠ .defer x) (hd : Nat.blt d n = true) (k : TL r P ops Q rest n D ((d, gval (c && !y) v) :: E) L κ) :
    TL r P ops Q (⟨some d, op, T, ps, af, some (j, false)⟩ :: rest) n D E L κ := tl_gc hj hu (by cases c <;> cases y <;> rfl) h hnd hd k

/-! ### the operations -/
theorem pr_move {x : Operand} {v : Value} (hx : E.ev x = some v) : PR P (.move x) T n D E L κ v :=
  ⟨(fun _ h => by cases h), fun _ _ _ _ a w f s => by simp [execOp, f.ev hx]⟩
theorem pr_assign {x : Operand} {v : Value} (hx : E.ev x = some v) : PR P (.assign x) T n D E L κ v :=
  ⟨(fun _ h => by cases h), fun _ _ _ _ a w f s => by simp [execOp, f.ev hx]⟩
theorem pr_pick {x y z : Operand} {c : Bool} {u v : Value} (hx : E.ev x = some (.bool c)) (hy : E.ev y = some u) (hz : E.ev z = some v) : PR P (.pick x y z) T n D E L κ (bif c then u else v) :=
  ⟨(fun _ h => by cases h), fun _ _ _ _ a w f s => by cases c <;> simp [execOp, f.ev hx, f.ev hy, f.ev hz, asBool]⟩
/-- c && d -/
theorem pr_and {x y z : Operand} {c e : Bool} (hx : E.ev x = some (.bool c)) (hy : E.ev y = some (gval c (.bool e))) (hz : E.ev z = some (.bool false)) : PR P (.pick x y z) T n D E L κ (.bool (c && e)) := by
  have := pr_pick (P := P) (T := T) (n := n) (D := D) (L := L) (κ := κ) hx hy hz
  cases c <;> exact this
/-- c || d -/
theorem pr_or {x y z : Operand} {c e : Bool} (hx : E.ev x = some (.bool c)) (hy : E.ev y = some (.bool true)) (hz : E.ev z = some (gval (!c) (.bool e))) : PR P (.pick x y z) T n D E L κ (.bool (c || e)) := by
  have := pr_pick (P := P) (T := T) (n := n) (D := D) (L := L) (κ := κ) hx hy hz
  cases c <;> exact this

theorem pr_fieldAddr {s fi b o off sz : Nat} {g : Bool} {x : Operand} (hf : fOff P s fi = some (off, sz, g)) (hx : E.ev x = some (ad b o)) : PR P (.fieldAddr s x fi) T n D E L κ (ad b (o + off)) :=
  ⟨(fun _ h => by cases h), fun _ _ _ _ a w f s' => by
    unfold fOff at hf
    split at hf
    · rename_i fs hu
      split at hf
      · rename_i d hd
        split at hf
        · rename_i i g' hi hg
          split at hf
          · cases hf
          · rename_i hz
            simp at hf
            obtain ⟨rfl, rfl, rfl⟩ := hf
            have hz' : szOf P d.type = some i.size := by simp [szOf, hi]
            simp only [execOp, f.ev hx, Instr.fieldAt, Sem.run_bind, run_underlying hu, Result.andThen_ok, hd, Instr.sureAddr, Sem.run_pure, fieldPlace, run_sizeOf' hz', if_neg hz]
            simp only [ad, Addr.add]
            by_cases h0 : d.offset = 0 <;> simp [h0]
        · cases hf
      · cases hf
    · cases hf⟩

theorem cell_at {b off : Nat} {c : Array Value} {T0 : TypeId} {fr : Nat × Nat} {w : World} (h : w.heap[b]? = some (.cells c T0 fr)) : w.cell? ⟨b, off, none⟩ = c[off]? := by
  simp [World.cell?, h]

theorem loadCellsFrom_run {w : World} {b off : Nat} {c : Array Value} (hc : ∀ j, w.cell? ⟨b, j, none⟩ = c[j]?) :
    ∀ (m i : Nat) (acc : Array Value), off + i + m ≤ c.size → (loadCellsFrom ⟨b, off, none⟩ i m acc).run P w = .ok (acc ++ c.extract (off + i) (off + i + m)) w
  | 0, i, acc, h => by simp [loadCellsFrom]; omega
  | m + 1, i, acc, h => by
    have hlt : off + i < c.size := by omega
    have e : w.cell? ((⟨b, off, none⟩ : Addr).add i) = some c[off + i] := by
      have : (⟨b, off, none⟩ : Addr).add i = ⟨b, off + i, none⟩ := by unfold Addr.add; split <;> simp_all
      rw [this, hc, Array.getElem?_eq_getElem hlt]
    have ih := loadCellsFrom_run (off := off) hc m (i + 1) (acc.push c[off + i]) (by omega)
    have hl : (load ((⟨b, off, none⟩ : Addr).add i)).run P w = .ok c[off + i] w := by simp [load, Sem.run, e]
    simp only [loadCellsFrom, Sem.run_bind, hl, Result.andThen_ok, ih]
    congr 1
    apply Array.ext'
    simp only [Array.toList_append, Array.toList_push, Array.toList_extract, List.append_assoc, List.extract_eq_take_drop]
    congr 1
    rw [show off + (i + 1) = (off + i) + 1 from by omega, show off + i + 1 + m - (off + i + 1) = m from by omega, show off + i + (m + 1) - (off + i) = m + 1 from by omega]
    rw [List.drop_eq_getElem_cons (l := c.toList) (i := off + i) (by simpa using hlt)]
    simp

theorem run_loadVar {w : World} {t : TypeId} {g : Bool} {sz b off : Nat} {c : Array Value} {T0 : TypeId} {fr : Nat × Nat} {v : Value} (hg : aggB P t = some g) (hs : szOf P t = some sz)
    (hh : w.heap[b]? = some (.cells c T0 fr)) (hv : (if g then (if off + sz ≤ c.size then some (.agg (c.extract off (off + sz))) else none) else c[off]?) = some v) :
    (loadVar t ⟨b, off, none⟩).run P w = .ok v w := by
  unfold loadVar
  rw [Sem.run_bind, run_isAgg hg]
  cases g with
  | true =>
    simp at hv
    obtain ⟨hle, rfl⟩ := hv
    have := loadCellsFrom_run (P := P) (off := off) (fun j => cell_at (off := j) hh) sz 0 #[] (by omega)
    simp [run_sizeOf' hs, loadCells, this]
  | false =>
    simp at hv
    have e := cell_at (off := off) hh
    rw [hv] at e
    simp [load, Sem.run, e]

/-- a cell -/
theorem pr_load {t b off : Nat} {x : Operand} {c : Array Value} {T0 : TypeId} {fr : Nat × Nat} {v : Value} (hg : aggB P t = some false) (hx : E.ev x = some (ad b off)) (hr : Rdb L κ b (.cells c T0 fr) := by first | exact Rdb.fr (by assumption) | exact Rdb.own (by repeat (first | exact Has.here | apply Has.there))) (hv : c[off]? = some v := by rfl) :
    PR P (.load t x) T n D E L κ v :=
  ⟨(fun _ h => by cases h), fun _ _ _ _ a w f s => by
    have e := cell_at (off := off) (hr.heap s)
    rw [hv] at e
    simp [execOp, f.ev hx, Instr.loadAt, Instr.sureAddr, loadVar, run_isAgg hg, load, Sem.run, e]⟩
/-- cells, as one -/
theorem pr_loadA {t b off sz : Nat} {x : Operand} {c : Array Value} {T0 : TypeId} {fr : Nat × Nat} (hg : aggB P t = some true) (hs : szOf P t = some sz) (hx : E.ev x = some (ad b off)) (hr : Rdb L κ b (.cells c T0 fr) := by first | exact Rdb.fr (by assumption) | exact Rdb.own (by repeat (first | exact Has.here | apply Has.there))) (hle : off + sz ≤ c.size := by first | exact Nat.le_of_ble_eq_true rfl | omega) :
    PR P (.load t x) T n D E L κ (.agg (c.extract off (off + sz))) :=
  ⟨(fun _ h => by cases h), fun _ _ _ _ a w f s => by
    have e := run_loadVar (P := P) (off := off) (v := .agg (c.extract off (off + sz))) hg hs (hr.heap s) (by simp [hle])
    simp [execOp, f.ev hx, Instr.loadAt, Instr.sureAddr, e]⟩
def isAggV : Value → Bool
  | .agg _ => true
  | _ => false
/-- a whole block, as one -/
theorem pr_loadW {t b sz : Nat} {x : Operand} {u : Value} {T0 : TypeId} {fr : Nat × Nat} (hg : aggB P t = some true) (hs : szOf P t = some sz) (hx : E.ev x = some (ad b 0)) (hr : Rdb L κ b (.cells (Value.cells u) T0 fr) := by first | exact Rdb.fr (by assumption) | exact Rdb.own (by repeat (first | exact Has.here | apply Has.there))) (hu : isAggV u = true := by rfl) (hle : (Value.cells u).size = sz := by rfl) :
    PR P (.load t x) T n D E L κ u := by
  have := pr_loadA (P := P) (T := T) (n := n) (D := D) hg hs hx hr (by omega)
  cases u with
  | agg c =>
    simp only [Value.cells] at hle this
    subst hle
    rw [Nat.zero_add, Array.extract_size] at this
    exact this
  | _ => cases hu

theorem pr_nilCheck {b o : Nat} {x : Operand} (hx : E.ev x = some (ad b o)) : PR P (.nilCheck x) T n D E L κ (ad b o) :=
  ⟨(fun _ h => by cases h), fun _ _ _ _ a w f s => by simp [execOp, f.ev hx, ad]⟩
theorem pr_nilCheckF {k : FuncId} {fs cs : Array Value} {x : Operand} (hx : E.ev x = some (.func (.func k) fs cs)) : PR P (.nilCheck x) T n D E L κ (.func (.func k) fs cs) :=
  ⟨(fun _ h => by cases h), fun _ _ _ _ a w f s => by simp [execOp, f.ev hx]⟩

theorem pr_extract {x : Operand} {i : Nat} {vs : Array Value} {v : Value} (hx : E.ev x = some (.tuple vs)) (hv : vs[i]? = some v) : PR P (.extract x i) T n D E L κ v :=
  ⟨(fun _ h => by cases h), fun _ _ _ _ a w f s => by simp [execOp, f.ev hx, Instr.extract, hv]⟩

theorem pr_field {s fi off sz : Nat} {g : Bool} {x : Operand} {cs : Array Value} {v : Value} (hf : fOff P s fi = some (off, sz, g)) (hx : E.ev x = some (.agg cs))
    (hv : (if g then some (.agg (cs.extract off (off + sz))) else cs[off]?) = some v) : PR P (.field s x fi) T n D E L κ v :=
  ⟨(fun _ h => by cases h), fun _ _ _ _ a w f s' => by
    unfold fOff at hf
    split at hf
    · rename_i fs hu
      split at hf
      · rename_i d hd
        split at hf
        · rename_i i g' hi hg
          split at hf
          · cases hf
          · rename_i hz
            simp at hf
            obtain ⟨rfl, rfl, rfl⟩ := hf
            have hz' : szOf P d.type = some i.size := by simp [szOf, hi]
            simp [execOp, f.ev hx, Instr.field, run_underlying hu, hd, asAgg, run_part hg hz' hv]
        · cases hf
      · cases hf
    · cases hf⟩

/-- an array's element, in memory -/
theorem pr_indexA {t b o len sz : Nat} {g : Bool} {x y : Operand} {k : IntKind} {i : Int} (ht : arrOf P t = some (len, sz, g)) (hx : E.ev x = some (ad b o)) (hy : E.ev y = some (.int k i)) (h0 : 0 ≤ i) (h1 : i < len) :
    PR P (.indexAddr t x y) T n D E L κ (ad b (o + i.toNat * sz)) :=
  ⟨(fun _ h => by cases h), fun _ _ _ _ a w f s => by
    unfold arrOf at ht
    split at ht
    · rename_i len' e hu
      split at ht
      · rename_i inf g' hi hg
        simp at ht
        obtain ⟨rfl, rfl, rfl⟩ := ht
        have hz' : szOf P e = some inf.size := by simp [szOf, hi]
        simp only [execOp, f.ev hx, f.ev hy, Instr.indexAt, asIntOf, Sem.run_bind, run_underlying hu, Result.andThen_ok, Sem.run_pure, Instr.sureAddr, run_sizeOf' hz', if_pos (And.intro h0 h1)]
        simp only [ad, Addr.add]
        by_cases hz : i.toNat * inf.size = 0 <;> simp [hz]
      · cases ht
    · cases ht⟩
/-- a slice's element -/
theorem pr_indexS {t e b o len cap sz : Nat} {x y : Operand} {k : IntKind} {i : Int} (ht : slcOf P t = some (e, sz)) (hx : E.ev x = some (.slice (some ⟨b, o, none⟩) len cap)) (hy : E.ev y = some (.int k i)) (h0 : 0 ≤ i) (h1 : i < len) :
    PR P (.indexAddr t x y) T n D E L κ (ad b (o + i.toNat * sz)) :=
  ⟨(fun _ h => by cases h), fun _ _ _ _ a w f s => by
    unfold slcOf at ht
    split at ht
    · rename_i e' hu
      cases hi : P.info? e' with
      | none => rw [hi] at ht; cases ht
      | some inf =>
        rw [hi] at ht
        simp at ht
        obtain ⟨rfl, rfl⟩ := ht
        have hz' : szOf P e' = some inf.size := by simp [szOf, hi]
        simp only [execOp, f.ev hx, f.ev hy, Instr.indexAt, asIntOf, Sem.run_bind, run_underlying hu, Result.andThen_ok, Sem.run_pure, run_sizeOf' hz', if_pos (And.intro h0 h1)]
        simp only [ad, Addr.add]
        by_cases hz : i.toNat * inf.size = 0 <;> simp [hz]
    · cases ht⟩
/-- an array's element, by value -/
theorem pr_index {t len sz : Nat} {g : Bool} {x y : Operand} {cs : Array Value} {k : IntKind} {i : Int} {v : Value} (ht : arrOf P t = some (len, sz, g)) (hx : E.ev x = some (.agg cs)) (hy : E.ev y = some (.int k i)) (h0 : 0 ≤ i) (h1 : i < len)
    (hv : (if g then some (.agg (cs.extract (i.toNat * sz) (i.toNat * sz + sz))) else cs[i.toNat * sz]?) = some v) :
    PR P (.index t x y) T n D E L κ v :=
  ⟨(fun _ h => by cases h), fun _ _ _ _ a w f s => by
    unfold arrOf at ht
    split at ht
    · rename_i len' e hu
      split at ht
      · rename_i inf g' hi hg
        simp at ht
        obtain ⟨rfl, rfl, rfl⟩ := ht
        have hz' : szOf P e = some inf.size := by simp [szOf, hi]
        simp only [execOp, f.ev hx, f.ev hy, Instr.index, asIntOf, Sem.run_bind, run_underlying hu, Result.andThen_ok, Sem.run_pure, run_sizeOf' hz', if_pos (And.intro h0 h1), run_part hg hz' hv]
      · cases ht
    · cases ht⟩

theorem pr_makeFunc {fn : Fn} {xs ys : List Operand} {us vs : List Value} (hx : xs.map E.ev = us.map some) (hy : ys.map E.ev = vs.map some) : PR P (.makeFunc fn xs.toArray ys.toArray) T n D E L κ (.func fn us.toArray vs.toArray) :=
  ⟨(fun _ h => by cases h), fun _ _ _ _ a w f s => by
    have key : ∀ (xs : List Operand) (us : List Value), xs.map E.ev = us.map some → xs.map a.eval = us := by
      intro xs
      induction xs with
      | nil => intro us h; cases us <;> simp_all
      | cons x xs ih =>
        intro us h
        cases us with
        | nil => simp at h
        | cons u us =>
          simp at h
          simp [f.ev h.1, ih us (by simpa using h.2)]
    simp [execOp, Instr.makeFunc, key _ _ hx, key _ _ hy]⟩

/-! numbers -/
section
variable {t yt : TypeId} {x y : Operand} {k k2 : IntKind} {i j : Int}
theorem pr_add (hx : E.ev x = some (.int k i)) (hy : E.ev y = some (.int k j)) : PR P (.binOp .add t x y yt) T n D E L κ (.int k (k.wrap (i + j))) :=
  ⟨(fun _ h => by cases h), fun _ _ _ _ a w f s => by simp [execOp, f.ev hx, f.ev hy, eqGuard, binOp, Op.intArith]⟩
theorem pr_sub (hx : E.ev x = some (.int k i)) (hy : E.ev y = some (.int k j)) : PR P (.binOp .sub t x y yt) T n D E L κ (.int k (k.wrap (i - j))) :=
  ⟨(fun _ h => by cases h), fun _ _ _ _ a w f s => by simp [execOp, f.ev hx, f.ev hy, eqGuard, binOp, Op.intArith]⟩
theorem pr_mul (hx : E.ev x = some (.int k i)) (hy : E.ev y = some (.int k j)) : PR P (.binOp .mul t x y yt) T n D E L κ (.int k (k.wrap (i * j))) :=
  ⟨(fun _ h => by cases h), fun _ _ _ _ a w f s => by simp [execOp, f.ev hx, f.ev hy, eqGuard, binOp, Op.intArith]⟩
theorem pr_quo (hx : E.ev x = some (.int k i)) (hy : E.ev y = some (.int k j)) (h0 : j ≠ 0) : PR P (.binOp .quo t x y yt) T n D E L κ (.int k (k.wrap (i.tdiv j))) :=
  ⟨(fun _ h => by cases h), fun _ _ _ _ a w f s => by simp [execOp, f.ev hx, f.ev hy, eqGuard, binOp, Op.intDiv, h0]⟩
theorem pr_rem (hx : E.ev x = some (.int k i)) (hy : E.ev y = some (.int k j)) (h0 : j ≠ 0) : PR P (.binOp .rem t x y yt) T n D E L κ (.int k (i.tmod j)) :=
  ⟨(fun _ h => by cases h), fun _ _ _ _ a w f s => by simp [execOp, f.ev hx, f.ev hy, eqGuard, binOp, Op.intDiv, h0]⟩
theorem pr_bits {op : BinOp} {q : Int} (hx : E.ev x = some (.int k i)) (hy : E.ev y = some (.int k j)) (ho : op = .and ∨ op = .or ∨ op = .xor ∨ op = .andNot) (h : ∀ P w, (Op.intBits op k i j).run P w = .ok (.int k q) w) : PR P (.binOp op t x y yt) T n D E L κ (.int k q) :=
  ⟨(fun _ h => by cases h), fun _ _ _ _ a w f s => by rcases ho with rfl | rfl | rfl | rfl <;> simp [execOp, f.ev hx, f.ev hy, eqGuard, binOp, h]⟩
theorem pr_lss (hx : E.ev x = some (.int k i)) (hy : E.ev y = some (.int k j)) : PR P (.binOp .lss t x y yt) T n D E L κ (.bool (decide (i < j))) :=
  ⟨(fun _ h => by cases h), fun _ _ _ _ a w f s => by simp [execOp, f.ev hx, f.ev hy, eqGuard, binOp, Op.intCmp]⟩
theorem pr_leq (hx : E.ev x = some (.int k i)) (hy : E.ev y = some (.int k j)) : PR P (.binOp .leq t x y yt) T n D E L κ (.bool (decide (i ≤ j))) :=
  ⟨(fun _ h => by cases h), fun _ _ _ _ a w f s => by simp [execOp, f.ev hx, f.ev hy, eqGuard, binOp, Op.intCmp]⟩
theorem pr_gtr (hx : E.ev x = some (.int k i)) (hy : E.ev y = some (.int k j)) : PR P (.binOp .gtr t x y yt) T n D E L κ (.bool (decide (j < i))) :=
  ⟨(fun _ h => by cases h), fun _ _ _ _ a w f s => by simp [execOp, f.ev hx, f.ev hy, eqGuard, binOp, Op.intCmp]⟩
theorem pr_geq (hx : E.ev x = some (.int k i)) (hy : E.ev y = some (.int k j)) : PR P (.binOp .geq t x y yt) T n D E L κ (.bool (decide (j ≤ i))) :=
  ⟨(fun _ h => by cases h), fun _ _ _ _ a w f s => by simp [execOp, f.ev hx, f.ev hy, eqGuard, binOp, Op.intCmp]⟩
theorem pr_eql (hx : E.ev x = some (.int k i)) (hy : E.ev y = some (.int k j)) : PR P (.binOp .eql t x y yt) T n D E L κ (.bool (decide (i = j))) :=
  ⟨(fun _ h => by cases h), fun _ _ _ _ a w f s => by simp [execOp, f.ev hx, f.ev hy, eqGuard, binOp, Op.intCmp]; rfl⟩
theorem pr_neq (hx : E.ev x = some (.int k i)) (hy : E.ev y = some (.int k j)) : PR P (.binOp .neq t x y yt) T n D E L κ (.bool (!decide (i = j))) :=
  ⟨(fun _ h => by cases h), fun _ _ _ _ a w f s => by simp [execOp, f.ev hx, f.ev hy, eqGuard, binOp, Op.intCmp]; rfl⟩
theorem pr_shl (hx : E.ev x = some (.int k i)) (hy : E.ev y = some (.int k2 j)) (h0 : 0 ≤ j) : PR P (.binOp .shl t x y yt) T n D E L κ (.int k (k.wrap (i * 2 ^ min j.toNat k.bits))) :=
  ⟨(fun _ h => by cases h), fun _ _ _ _ a w f s => by simp [execOp, f.ev hx, f.ev hy, eqGuard, binOp, Op.shift, Int.not_lt.2 h0]⟩
theorem pr_shr (hx : E.ev x = some (.int k i)) (hy : E.ev y = some (.int k2 j)) (h0 : 0 ≤ j) : PR P (.binOp .shr t x y yt) T n D E L κ (.int k (i.fdiv (2 ^ min j.toNat k.bits))) :=
  ⟨(fun _ h => by cases h), fun _ _ _ _ a w f s => by simp [execOp, f.ev hx, f.ev hy, eqGuard, binOp, Op.shift, Int.not_lt.2 h0]⟩
theorem pr_conv {dst : TypeId} (hd : intOfT P dst = some k2) {src : TypeId} {u : TypeDesc} (hs : P.underlying src = some u) (hx : E.ev x = some (.int k i)) : PR P (.convert src dst x) T n D E L κ (.int k2 (k2.wrap i)) :=
  ⟨(fun _ h => by cases h), fun _ _ _ _ a w f s => by
    unfold intOfT at hd
    split at hd
    · rename_i k' hu
      simp at hd; subst hd
      simp [execOp, f.ev hx, convert, run_underlying hs, run_underlying hu, Conv.intToInt]
    · cases hd⟩
theorem pr_neg (hx : E.ev x = some (.int k i)) : PR P (.unOp .neg t x) T n D E L κ (.int k (k.wrap (0 - i))) :=
  ⟨(fun _ h => by cases h), fun _ _ _ _ a w f s => by simp [execOp, f.ev hx, Op.unary, Op.intArith]⟩
end
theorem pr_not {t : TypeId} {x : Operand} {c : Bool} (hx : E.ev x = some (.bool c)) : PR P (.unOp .not t x) T n D E L κ (.bool (!c)) :=
  ⟨(fun _ h => by cases h), fun _ _ _ _ a w f s => by simp [execOp, f.ev hx, Op.unary]⟩
end
end Go.Sz

namespace Go.Sz
open Go

section
variable {r : Option Nat} {P : Program} {Q : Exit → Act → World → Prop} {n : Nat} {D : List Deferred} {E : Env} {L M : List HProp} {κ : Ctx} {ops : Array Oper} {rest : List Oper}
variable {d : Nat} {dd : Option Tmp} {T : TypeId} {ps : String} {af : Array Edge} {gd : Option (Nat × Bool)}

/-- an operation that gives a value, and leaves a state: whatever b, x come of it -/
theorem tl_run {op : Op} (hnd : ∀ c, op ≠ .defer c)
    (h : ∀ a w, Fits E n D a → St L κ w → ∃ nx w', (execOp a.eval ⟨dd, op, T, ps, af, none⟩).run P w = .ok nx w' ∧
      ((∃ v, nx = .value v ∧ wpListIn (Fc r) 0 P ops Q rest (a.put dd v) w') ∨ (nx = .skip ∧ wpListIn (Fc r) 0 P ops Q rest (a.put dd undef) w'))) :
    TL r P ops Q (⟨dd, op, T, ps, af, none⟩ :: rest) n D E L κ := fun a w f s => by
  refine wl_run rfl ?_
  obtain ⟨nx, w', hr, h⟩ := h a w f s
  rw [semAt_nd hnd, hr]
  rcases h with ⟨v, rfl, h⟩ | ⟨rfl, h⟩
  · exact h
  · exact h

theorem alloc_def (w : World) (o : Obj) : ({ w with heap := w.heap.push o } : World) = w.alloc o := rfl

/-- a new variable, with a value -/
theorem tl_box {e : TypeId} {x : Operand} {v : Value} (hx : E.ev x = some v) (hd : Nat.blt d n = true)
    (k : ∀ b, TL r P ops Q rest n D ((d, ad b 0) :: E) (pt b (.cells (Value.cells v) e (0, 0)) :: L) κ) :
    TL r P ops Q (⟨some d, .box e x, T, ps, af, none⟩ :: rest) n D E L κ :=
  tl_run (by intro c h; cases h) fun a w f s => ⟨_, _, by simp [execOp, f.ev hx, Instr.box, newVar, newRow, newObj, Sem.run],
    .inl ⟨_, rfl, k _ _ _ (f.put hd _) (s.alloc _)⟩⟩
/-- a new variable, zero -/
theorem tl_alloc {e : TypeId} {z : Value} (hz : zeroV P e = some z) (hd : Nat.blt d n = true)
    (k : ∀ b, TL r P ops Q rest n D ((d, ad b 0) :: E) (pt b (.cells (Value.cells z) e (0, 0)) :: L) κ) :
    TL r P ops Q (⟨some d, .alloc e, T, ps, af, none⟩ :: rest) n D E L κ :=
  tl_run (by intro c h; cases h) fun a w f s => ⟨_, _, by simp [execOp, Instr.alloc, run_zeroValue' hz, newVar, newRow, newObj, Sem.run],
    .inl ⟨_, rfl, k _ _ _ (f.put hd _) (s.alloc _)⟩⟩

/-! stores -/
/-- cells from a place on -/
def spl (c : Array Value) (off : Nat) : List Value → Array Value
  | [] => c
  | v :: l => spl (c.setIfInBounds off v) (off + 1) l
def oneV : Value → Bool
  | .agg _ | .tuple _ => false
  | _ => true
def allOne : List Value → Bool
  | [] => true
  | v :: l => oneV v && allOne l

theorem spl_size (c : Array Value) (off : Nat) (l : List Value) : (spl c off l).size = c.size := by
  induction l generalizing c off with
  | nil => rfl
  | cons v l ih => simp [spl, ih]

theorem run_store1 {w : World} {b off : Nat} {c : Array Value} {T0 : TypeId} {v : Value} (hb : w.heap[b]? = some (.cells c T0 (0, 0))) (hlt : off < c.size) (h1 : oneV v = true) :
    (store ⟨b, off, none⟩ v).run P w = .ok () (w.setCell ⟨b, off, none⟩ v) := by
  have hc : w.cell? ⟨b, off, none⟩ = some c[off] := by rw [cell_at hb, Array.getElem?_eq_getElem hlt]
  have hf : w.frozen? ⟨b, off, none⟩ = false := by simp [World.frozen?, hb]
  unfold store
  cases v <;> first | (cases h1; done) | simp [Sem.run, hc, hf]

theorem setCell_heap {w : World} {b off : Nat} {c : Array Value} {T0 : TypeId} {v : Value} (hb : w.heap[b]? = some (.cells c T0 (0, 0))) :
    (w.setCell ⟨b, off, none⟩ v).heap[b]? = some (.cells (c.setIfInBounds off v) T0 (0, 0)) := by
  simp [World.setCell, Array.getElem?_modify, hb]

theorem run_storeCells {b : Nat} {T0 : TypeId} (off : Nat) : ∀ (l : List Value) (i : Nat) (c : Array Value) (w : World), w.heap[b]? = some (.cells c T0 (0, 0)) → off + i + l.length ≤ c.size → allOne l = true →
    ∃ w', (storeCells ⟨b, off, none⟩ l i).run P w = .ok () w' ∧ w'.heap[b]? = some (.cells (spl c (off + i) l) T0 (0, 0)) ∧ (∀ k, k ≠ b → w'.heap[k]? = w.heap[k]?) ∧
      w'.os = w.os ∧ w'.tape = w.tape ∧ w'.output = w.output ∧ w'.heap.size = w.heap.size
  | [], i, c, w, hb, _, _ => ⟨w, by simp [storeCells], hb, fun _ _ => rfl, rfl, rfl, rfl, rfl⟩
  | v :: l, i, c, w, hb, hle, h1 => by
    simp only [allOne, Bool.and_eq_true] at h1
    simp only [List.length_cons] at hle
    have hs := run_store1 (P := P) (off := off + i) hb (by omega) h1.1
    have ea : (⟨b, off, none⟩ : Addr).add i = ⟨b, off + i, none⟩ := by unfold Addr.add; split <;> simp_all
    obtain ⟨w', h2, h3, h4, h5, h6, h7, h8⟩ := run_storeCells off l (i + 1) (c.setIfInBounds (off + i) v) (w.setCell ⟨b, off + i, none⟩ v) (setCell_heap hb) (by simp; omega) h1.2
    refine ⟨w', ?_, by simpa [spl, Nat.add_assoc] using h3, fun k hk => ?_, h5, h6, h7, ?_⟩
    · simp only [storeCells, Sem.run_bind, ea, hs, Result.andThen_ok, h2]
    · rw [h4 k hk]
      simp [World.setCell, Array.getElem?_modify, Ne.symm hk]
    · rw [h8]; simp [World.setCell]

theorem run_storeVar {t sz : Nat} {b off : Nat} {c : Array Value} {T0 : TypeId} {v : Value} {w : World} (hs : szOf P t = some sz) (hb : w.heap[b]? = some (.cells c T0 (0, 0))) (hsz : v.cells.size = sz) (hle : off + sz ≤ c.size)
    (h1 : allOne v.cells.toList = true) : ∃ w', (storeVar t ⟨b, off, none⟩ v).run P w = .ok () w' ∧ w'.heap[b]? = some (.cells (spl c off v.cells.toList) T0 (0, 0)) ∧ (∀ k, k ≠ b → w'.heap[k]? = w.heap[k]?) ∧
      w'.os = w.os ∧ w'.tape = w.tape ∧ w'.output = w.output ∧ w'.heap.size = w.heap.size := by
  obtain ⟨w', h2, h3⟩ := run_storeCells (P := P) off v.cells.toList 0 c w hb (by simpa [hsz] using hle) h1
  refine ⟨w', ?_, by simpa using h3⟩
  unfold storeVar
  simp [run_sizeOf' hs, hsz, h2]

theorem St.store {w w' : World} {b : Nat} {o o' : Obj} (s : St (pt b o :: M) κ w) (hb : w'.heap[b]? = some o') (hr : ∀ k, k ≠ b → w'.heap[k]? = w.heap[k]?)
    (h5 : w'.os = w.os) (h6 : w'.tape = w.tape) (h7 : w'.output = w.output) (h8 : w'.heap.size = w.heap.size) : St (pt b o' :: M) κ w' :=
  s.set ⟨h5.trans s.1.os, h6.trans s.1.tape, h7.trans s.1.output, by rw [h8]; exact s.1.size⟩ hb hr

/-- a store of a value of whatever size -/
theorem tl_storeG {t sz b off : Nat} {x y : Operand} {c c' : Array Value} {T0 : TypeId} {v : Value} (hs : szOf P t = some sz) (hx : E.ev x = some (ad b off)) (hy : E.ev y = some v)
    (hr : Rem L (pt b (.cells c T0 (0, 0))) M) (hsz : v.cells.size = sz) (hle : off + sz ≤ c.size) (h1 : allOne v.cells.toList = true) (hc : spl c off v.cells.toList = c')
    (k : TL r P ops Q rest n D E (pt b (.cells c' T0 (0, 0)) :: M) κ) :
    TL r P ops Q (⟨none, .store t x y, T, ps, af, none⟩ :: rest) n D E L κ :=
  tl_run (by intro c h; cases h) fun a w f s => by
    have s1 := s.rem hr
    obtain ⟨w', h2, h3, h4, h5, h6, h7, h8⟩ := run_storeVar (P := P) hs s1.pt_heap hsz hle h1
    refine ⟨.skip, w', by simp [execOp, f.ev hx, f.ev hy, Instr.storeAt, Instr.sureAddr, h2], .inr ⟨rfl, ?_⟩⟩
    exact k a w' f (s1.store (hc ▸ h3) h4 h5 h6 h7 h8)
/-- one cell -/
theorem tl_store {t b off : Nat} {x y : Operand} {c : Array Value} {T0 : TypeId} {v : Value} (hs : szOf P t = some 1) (hx : E.ev x = some (ad b off)) (hy : E.ev y = some v)
    (hr : Rem L (pt b (.cells c T0 (0, 0))) M := by repeat (first | exact Rem.here | apply Rem.there)) (h1 : oneV v = true := by rfl) (hlt : off < c.size := by first | exact Nat.lt_of_lt_of_le (Nat.lt_succ_self _) (Nat.le_of_ble_eq_true rfl) | omega)
    (k : TL r P ops Q rest n D E (pt b (.cells (c.setIfInBounds off v) T0 (0, 0)) :: M) κ) :
    TL r P ops Q (⟨none, .store t x y, T, ps, af, none⟩ :: rest) n D E L κ := by
  have e : v.cells = #[v] := by cases v <;> first | rfl | cases h1
  exact tl_storeG hs hx hy hr (by rw [e]; rfl) (by omega) (by rw [e]; simp [allOne, h1]) (by rw [e]; rfl) k
theorem spl_all : ∀ (l : List Value) (c : Array Value) (off : Nat), off + l.length = c.size → spl c off l = (c.toList.take off ++ l).toArray
  | [], c, off, h => by simp at h; simp [spl, h, List.take_of_length_le]
  | v :: l, c, off, h => by
    simp only [List.length_cons] at h
    rw [spl, spl_all l _ (off + 1) (by simp; omega)]
    apply Array.ext'
    simp only [Array.toList_setIfInBounds]
    rw [List.take_succ_eq_append_getElem (by simp; omega)]
    simp [List.take_set_of_le]
theorem allOne_iff {l : List Value} : allOne l = true ↔ ∀ v ∈ l, oneV v = true := by
  induction l with
  | nil => simp [allOne]
  | cons v l ih => simp [allOne, ih]
/-- a whole block -/
theorem tl_storeW {t sz b : Nat} {x y : Operand} {c : Array Value} {T0 : TypeId} {v : Value} (hs : szOf P t = some sz) (hx : E.ev x = some (ad b 0)) (hy : E.ev y = some v)
    (hr : Rem L (pt b (.cells c T0 (0, 0))) M := by repeat (first | exact Rem.here | apply Rem.there)) (hsz : v.cells.size = sz := by rfl) (hle : c.size = sz := by rfl) (h1 : allOne v.cells.toList = true := by rfl)
    (k : TL r P ops Q rest n D E (pt b (.cells (Value.cells v) T0 (0, 0)) :: M) κ) :
    TL r P ops Q (⟨none, .store t x y, T, ps, af, none⟩ :: rest) n D E L κ :=
  tl_storeG hs hx hy hr hsz (by omega) h1 (by rw [spl_all _ _ _ (by simp [hsz, hle])]; simp) k

/-! ### calls -/
inductive Evs (E : Env) : List Operand → List Value → Prop
  | nil : Evs E [] []
  | cons {x : Operand} {v : Value} {xs : List Operand} {vs : List Value} (h : E.ev x = some v) (r : Evs E xs vs) : Evs E (x :: xs) (v :: vs)
theorem Evs.map {xs : List Operand} {vs : List Value} (h : Evs E xs vs) {a : Act} (f : Fits E n D a) : xs.map a.eval = vs := by
  induction h with
  | nil => rfl
  | cons h _ ih => simp [f.ev h, ih]

inductive Rdbs (L : List HProp) (κ : Ctx) : List (Nat × Obj) → Prop
  | nil : Rdbs L κ []
  | cons {b : Nat} {o : Obj} {l : List (Nat × Obj)} (h : Rdb L κ b o) (r : Rdbs L κ l) : Rdbs L κ ((b, o) :: l)

theorem split_ro {l R : List HProp} {ro : List (Nat × Obj)} {w : World} (s : St (l ++ R) κ w) (h : Rdbs R κ ro) :
    ∃ κ', Reads ro κ' ∧ St l κ' w ∧ (∀ N w', St N κ' w' → St (N ++ R) κ w') := by
  obtain ⟨k, hh, o, dj, wi⟩ := s
  obtain ⟨x, y, dxy, rfl, hl, hr⟩ := own_append.1 o
  have ⟨d1, d2⟩ := Hp.disj_join.1 dj
  refine ⟨κ.with y κ.size, ?_, ⟨⟨k.os, k.tape, k.output, k.size⟩, x, hl, Hp.disj_join'.2 ⟨dxy, d1⟩, ?_⟩, ?_⟩
  · have has : ∀ {N : List HProp} {b : Nat} {o : Obj} {z : Hp}, Has N (pt b o) → own N z → z b = some o := by
      intro N b o z h
      generalize hp : pt b o = p at h
      induction h generalizing z with
      | here =>
        subst hp
        rintro ⟨u, v, d, rfl, hp, _⟩
        have : u b = some o := by rw [hp b, if_pos rfl]
        simp [Hp.join, this]
      | there _ ih =>
        rintro ⟨u, v, d, rfl, _, hv⟩
        have := ih hp hv
        rcases d b with e | e
        · simp [Hp.join, e, this]
        · rw [this] at e; cases e
    intro p hp
    induction h with
    | nil => cases hp
    | @cons b0 o0 l0 hb _ ih =>
      rcases List.mem_cons.1 hp with rfl | hp
      · cases hb with
        | own hb => simp [Ctx.with, Hp.join, has hb hr]
        | fr hb =>
          rcases d2 b0 with e | e
          · simp [Ctx.with, Hp.join, e, hb]
          · rw [hb] at e; cases e
      · exact ih hp
  · rw [Ctx.with, ← Hp.join_assoc]; exact wi
  · rintro M w' ⟨k', z, hz, dz, wz⟩
    have ⟨e1, e2⟩ := Hp.disj_join'.1 dz
    refine ⟨⟨k'.os, k'.tape, k'.output, k'.size⟩, Hp.join z y, own_append.2 ⟨z, y, e1, rfl, hz, hr⟩, Hp.disj_join.2 ⟨e2, d2⟩, ?_⟩
    rw [Hp.join_assoc]; exact wz

/-- calls in a round's frame too -/
theorem callsIn_free {k : FuncId} {args : Array Value} {w : World} {R : Ending → World → Prop} (h : Calls P k args w R) : CallsIn (Fc r) 0 P k args w R :=
  (callsIn_wide (n := 0)).2 h

theorem run_call {a : Act} {f : Operand} {xs : List Operand} {ts : Array TypeId} {k : FuncId} {fs cs : Array Value} {vs : List Value} {w : World}
    (hg : ∃ fn, P.funcs[k]? = some fn ∧ (fn.name == "runtime.NumGoroutine") = false ∧ fn.body.isSome = true) (hf : a.eval f = .func (.func k) fs cs) (hx : xs.map a.eval = vs) :
    (execOp a.eval ⟨dd, .call { callee := .value f, args := xs.toArray, argTypes := ts }, T, ps, af, gd⟩).run P w = .ok (.enter k (fs ++ vs.toArray ++ cs)) w := by
  obtain ⟨fn, h1, h2, h3⟩ := hg
  have h3' : ¬ fn.body = none := by intro e; rw [e] at h3; cases h3
  have h2' : ¬ fn.name = "runtime.NumGoroutine" := by simpa using h2
  subst hx
  simp [execOp, resolve, hf, Deferred.ofValue, invoke, callFunc, program, Sem.run, Sem.bind, h1, h2', h3', List.map_toArray]

theorem tl_callG {f : Operand} {xs : List Operand} {ts : Array TypeId} {k : FuncId} {fs cs : Array Value} {vs : List Value} {args : Array Value} {ro : List (Nat × Obj)} {pre R : List HProp} {X : Type} {val : X → Value} {out : X → List HProp → List HProp}
    (hC : Ct P k args ro pre val out) (hf : E.ev f = some (.func (.func k) fs cs)) (hx : Evs E xs vs) (ha : fs ++ vs.toArray ++ cs = args)
    (hp : Pick L pre R) (hro : Rdbs R κ ro) (ho : ∀ x N, out x N = out x [] ++ N)
    (kk : ∀ x a w, Fits E n D a → St (out x R) κ w → wpListIn (Fc r) 0 P ops Q rest (a.put dd (val x)) w) :
    TL r P ops Q (⟨dd, .call { callee := .value f, args := xs.toArray, argTypes := ts }, T, ps, af, none⟩ :: rest) n D E L κ := fun a w fi s => by
  refine wl_run rfl ?_
  rw [semAt_nd (by intro c h; cases h), run_call hC.1 (fi.ev hf) (hx.map fi)]
  refine ⟨fun h => (by cases h), ?_⟩
  rw [ha]
  obtain ⟨κ', h1, h2, h3⟩ := split_ro (s.pick hp) hro
  refine callsIn_free ((hC.2 κ' w h1 h2).mono ?_)
  rintro e w' ⟨x, rfl, s'⟩
  refine kk x a w' fi ?_
  rw [ho]
  exact h3 _ _ s'

/-- a call of a function by its name -/
theorem tl_call {xs : List Operand} {ts : Array TypeId} {k : FuncId} {vs : List Value} {ro : List (Nat × Obj)} {pre R : List HProp} {X : Type} {val : X → Value} {out : X → List HProp → List HProp}
    (hC : Ct P k vs.toArray ro pre val out) (hx : Evs E xs vs) (hd : Nat.blt d n = true) (hp : Pick L pre R := by repeat (first | exact Pick.nil | exact Rem.here | apply Rem.there | apply Pick.cons)) (hro : Rdbs R κ ro := by repeat (first | exact Rdbs.nil | exact Rdb.fr (by assumption) | exact Rdb.own (by repeat (first | exact Has.here | apply Has.there)) | apply Rdbs.cons)) (ho : ∀ x N, out x N = out x [] ++ N := by intro _ _; rfl)
    (kk : ∀ x, TL r P ops Q rest n D ((d, val x) :: E) (out x R) κ) :
    TL r P ops Q (⟨some d, .call { callee := .value (.func k), args := xs.toArray, argTypes := ts }, T, ps, af, none⟩ :: rest) n D E L κ :=
  tl_callG hC rfl hx (by simp) hp hro ho fun x a w f s => kk x _ w (f.put hd _) s
/-- of one that reads alone -/
theorem tl_rd {xs : List Operand} {ts : Array TypeId} {k : FuncId} {vs : List Value} {ro : List (Nat × Obj)} {pre R : List HProp} {v : Value}
    (hC : Rd P k vs.toArray ro pre v) (hx : Evs E xs vs) (hd : Nat.blt d n = true) (hp : Pick L pre R := by repeat (first | exact Pick.nil | exact Rem.here | apply Rem.there | apply Pick.cons)) (hro : Rdbs R κ ro := by repeat (first | exact Rdbs.nil | exact Rdb.fr (by assumption) | exact Rdb.own (by repeat (first | exact Has.here | apply Has.there)) | apply Rdbs.cons))
    (kk : TL r P ops Q rest n D ((d, v) :: E) L κ) :
    TL r P ops Q (⟨some d, .call { callee := .value (.func k), args := xs.toArray, argTypes := ts }, T, ps, af, none⟩ :: rest) n D E L κ :=
  fun a w fi s => by
    refine wl_run rfl ?_
    rw [semAt_nd (by intro c h; cases h), run_call hC.1 (fi.ev (x := .func k) rfl) (hx.map fi)]
    refine ⟨fun h => (by cases h), ?_⟩
    obtain ⟨κ', h1, h2, h3⟩ := split_ro (s.pick hp) hro
    have e : (#[] : Array Value) ++ vs.toArray ++ #[] = vs.toArray := by simp
    rw [e]
    refine callsIn_free ((hC.2 κ' w h1 h2).mono ?_)
    rintro e w' ⟨x, rfl, s'⟩
    exact kk _ w' (fi.put hd _) ((h3 _ _ s').perm hp.perm.symm)
/-- the same, under a guard -/
theorem tl_rdg {xs : List Operand} {ts : Array TypeId} {k : FuncId} {vs : List Value} {ro : List (Nat × Obj)} {pre R : List HProp} {v u : Value} {j dj : Nat} {fl c : Bool}
    (hj : (ops[j]?).bind (·.dst) = some dj) (hu : E.get dj = some u) (hc : gtest u fl = c)
    (h : c = true → Rd P k vs.toArray ro pre v ∧ Evs E xs vs) (hd : Nat.blt d n = true) (hp : Pick L pre R := by repeat (first | exact Pick.nil | exact Rem.here | apply Rem.there | apply Pick.cons)) (hro : Rdbs R κ ro := by repeat (first | exact Rdbs.nil | exact Rdb.fr (by assumption) | exact Rdb.own (by repeat (first | exact Has.here | apply Has.there)) | apply Rdbs.cons))
    (kk : TL r P ops Q rest n D ((d, gval c v) :: E) L κ) :
    TL r P ops Q (⟨some d, .call { callee := .value (.func k), args := xs.toArray, argTypes := ts }, T, ps, af, some (j, fl)⟩ :: rest) n D E L κ :=
  fun a w fi s => by
    have hw := wanted_slot (dd := some d) (T := T) (ps := ps) (af := af) (fl := fl) (op := .call { callee := .value (.func k), args := xs.toArray, argTypes := ts }) hj hu fi
    rw [hc] at hw
    cases c with
    | false => exact wl_skip hw (kk _ _ (fi.put hd undef) s)
    | true =>
      obtain ⟨hC, hx⟩ := h rfl
      refine wl_run hw ?_
      rw [semAt_nd (by intro c h; cases h), run_call hC.1 (fi.ev (x := .func k) rfl) (hx.map fi)]
      refine ⟨fun h => (by cases h), ?_⟩
      obtain ⟨κ', h1, h2, h3⟩ := split_ro (s.pick hp) hro
      have e : (#[] : Array Value) ++ vs.toArray ++ #[] = vs.toArray := by simp
      rw [e]
      refine callsIn_free ((hC.2 κ' w h1 h2).mono ?_)
      rintro e w' ⟨x, rfl, s'⟩
      exact kk _ w' (fi.put hd _) ((h3 _ _ s').perm hp.perm.symm)
theorem tl_rdgt {xs : List Operand} {ts : Array TypeId} {k : FuncId} {vs : List Value} {ro : List (Nat × Obj)} {pre R : List HProp} {v : Value} {j dj : Nat} {y : Bool}
    (hj : (ops[j]?).bind (·.dst) = some dj) (hu : E.get dj = some (.bool y)) (h : y = true → Rd P k vs.toArray ro pre v ∧ Evs E xs vs) (hd : Nat.blt d n = true) (hp : Pick L pre R := by repeat (first | exact Pick.nil | exact Rem.here | apply Rem.there | apply Pick.cons)) (hro : Rdbs R κ ro := by repeat (first | exact Rdbs.nil | exact Rdb.fr (by assumption) | exact Rdb.own (by repeat (first | exact Has.here | apply Has.there)) | apply Rdbs.cons))
    (kk : TL r P ops Q rest n D ((d, gval y v) :: E) L κ) :
    TL r P ops Q (⟨some d, .call { callee := .value (.func k), args := xs.toArray, argTypes := ts }, T, ps, af, some (j, true)⟩ :: rest) n D E L κ :=
  tl_rdg hj hu (by cases y <;> rfl) h hd hp hro kk
theorem tl_rdgf {xs : List Operand} {ts : Array TypeId} {k : FuncId} {vs : List Value} {ro : List (Nat × Obj)} {pre R : List HProp} {v : Value} {j dj : Nat} {y : Bool}
    (hj : (ops[j]?).bind (·.dst) = some dj) (hu : E.get dj = some (.bool y)) (h : (!y) = true → Rd P k vs.toArray ro pre v ∧ Evs E xs vs) (hd : Nat.blt d n = true) (hp : Pick L pre R := by repeat (first | exact Pick.nil | exact Rem.here | apply Rem.there | apply Pick.cons)) (hro : Rdbs R κ ro := by repeat (first | exact Rdbs.nil | exact Rdb.fr (by assumption) | exact Rdb.own (by repeat (first | exact Has.here | apply Has.there)) | apply Rdbs.cons))
    (kk : TL r P ops Q rest n D ((d, gval (!y) v) :: E) L κ) :
    TL r P ops Q (⟨some d, .call { callee := .value (.func k), args := xs.toArray, argTypes := ts }, T, ps, af, some (j, false)⟩ :: rest) n D E L κ :=
  tl_rdg hj hu (by cases y <;> rfl) h hd hp hro kk
theorem tl_rdggt {xs : List Operand} {ts : Array TypeId} {k : FuncId} {vs : List Value} {ro : List (Nat × Obj)} {pre R : List HProp} {v : Value} {j dj : Nat} {c y : Bool}
    (hj : (ops[j]?).bind (·.dst) = some dj) (hu : E.get dj = some (gval c (.bool y))) (h : (c && y) = true → Rd P k vs.toArray ro pre v ∧ Evs E xs vs) (hd : Nat.blt d n = true) (hp : Pick L pre R := by repeat (first | exact Pick.nil | exact Rem.here | apply Rem.there | apply Pick.cons)) (hro : Rdbs R κ ro := by repeat (first | exact Rdbs.nil | exact Rdb.fr (by assumption) | exact Rdb.own (by repeat (first | exact Has.here | apply Has.there)) | apply Rdbs.cons))
    (kk : TL r P ops Q rest n D ((d, gval (c && y) v) :: E) L κ) :
    TL r P ops Q (⟨some d, .call { callee := .value (.func k), args := xs.toArray, argTypes := ts }, T, ps, af, some (j, true)⟩ :: rest) n D E L κ :=
  tl_rdg hj hu (by cases c <;> cases y <;> rfl) h hd hp hro kk
theorem tl_rdggf {xs : List Operand} {ts : Array TypeId} {k : FuncId} {vs : List Value} {ro : List (Nat × Obj)} {pre R : List HProp} {v : Value} {j dj : Nat} {c y : Bool}
    (hj : (ops[j]?).bind (·.dst) = some dj) (hu : E.get dj = some (gval c (.bool y))) (h : (c && !y) = true → Rd P k vs.toArray ro pre v ∧ Evs E xs vs) (hd : Nat.blt d n = true) (hp : Pick L pre R := by repeat (first | exact Pick.nil | exact Rem.here | apply Rem.there | apply Pick.cons)) (hro : Rdbs R κ ro := by repeat (first | exact Rdbs.nil | exact Rdb.fr (by assumption) | exact Rdb.own (by repeat (first | exact Has.here | apply Has.there)) | apply Rdbs.cons))
    (kk : TL r P ops Q rest n D ((d, gval (c && !y) v) :: E) L κ) :
    TL r P ops Q (⟨some d, .call { callee := .value (.func k), args := xs.toArray, argTypes := ts }, T, ps, af, some (j, false)⟩ :: rest) n D E L κ :=
  tl_rdg hj hu (by cases c <;> cases y <;> rfl) h hd hp hro kk

/-! ### literals -/
theorem pr_build {t : TypeId} {zs : Array Value} {pl : Nat → Option (Nat × Nat)} {ws : List (Nat × Operand)} {vs : List Value} {cs : Array Value}
    (ht : ∀ (l : List (Nat × Value)) cs w, Instr.fill pl zs l = some cs → (Instr.build t l.toArray).run P w = .ok (.agg cs) w) (hv : Evs E (ws.map (·.2)) vs) (hf : Instr.fill pl zs ((ws.map (·.1)).zip vs) = some cs) :
    PR P (.build t ws.toArray) T n D E L κ (.agg cs) :=
  ⟨(fun _ h => by cases h), fun _ _ _ _ a w f s => by
    have key : ∀ (ws : List (Nat × Operand)) (vs : List Value), Evs E (ws.map (·.2)) vs → ws.map (fun p => (p.1, a.eval p.2)) = (ws.map (·.1)).zip vs := by
      intro ws
      induction ws with
      | nil => intro vs _; simp
      | cons p ws ih =>
        intro vs h
        cases h with
        | cons h r => simp [f.ev h, ih _ r]
    have := ht _ _ w hf
    rw [← key ws vs hv] at this
    simp [execOp, this]⟩
end
end Go.Sz

namespace Go.Sz
open Go

/-! ### literals of structs and arrays -/
def bldS (P : Program) (t : TypeId) : Option (List (Nat × Nat) × Array Value) :=
  match P.underlying t with
  | some (.struct fs) => match fs.toList.mapM (fun f => (P.info? f.type).map fun i => (f.offset, i.size)), zeroV P t with
    | some l, some z => some (l, z.cells)
    | _, _ => none
  | _ => none
def bldA (P : Program) (t : TypeId) : Option (Nat × Array Value) :=
  match P.underlying t with
  | some (.array _ e) => match P.info? e, zeroV P t with
    | some i, some z => some (i.size, z.cells)
    | _, _ => none
  | _ => none

section
variable {P : Program} {n : Nat} {D : List Deferred} {E : Env} {L : List HProp} {κ : Ctx} {T : TypeId}

theorem run_mapM_list {α β : Type} {f : α → Option β} {g : α → Sem β} {w : World} (h : ∀ a b, f a = some b → (g a).run P w = .ok b w) :
    ∀ (l : List α) (r : List β), l.mapM f = some r → (l.mapM g).run P w = .ok r w
  | [], r, e => by simp at e; subst e; simp
  | a :: l, r, e => by
    rw [List.mapM_cons] at e
    cases ha : f a with
    | none => rw [ha] at e; cases e
    | some b =>
      rw [ha] at e
      cases hl : l.mapM f with
      | none => simp [hl] at e
      | some r' =>
        simp [hl] at e
        subst e
        simp [List.mapM_cons, h a b ha, run_mapM_list h l r' hl]

theorem run_buildS {t : TypeId} {pl : List (Nat × Nat)} {zs cs : Array Value} {l : List (Nat × Value)} {w : World} (hb : bldS P t = some (pl, zs)) (h : Instr.fill (fun i => pl[i]?) zs l = some cs) :
    (Instr.build t l.toArray).run P w = .ok (.agg cs) w := by
  unfold bldS at hb
  split at hb
  · rename_i fs hu
    split at hb
    · rename_i ps z hp hz
      simp at hb
      obtain ⟨rfl, rfl⟩ := hb
      have hm : (fs.mapM (fun f => (do pure (f.offset, ← sizeOf f.type) : Sem (Nat × Nat)))).run P w = .ok ps.toArray w := by
        rw [← Array.toArray_toList (xs := fs), List.mapM_toArray, Sem.run_map]
        rw [run_mapM_list (P := P) (f := fun f => (P.info? f.type).map fun i => (f.offset, i.size)) (w := w) ?_ fs.toList ps hp]
        · rfl
        · intro a b hab
          cases hi : P.info? a.type with
          | none => rw [hi] at hab; cases hab
          | some i =>
            rw [hi] at hab
            simp at hab
            subst hab
            have : szOf P a.type = some i.size := by simp [szOf, hi]
            simp [run_sizeOf' this]
      have h' : Instr.fill (fun x => ps.toArray[x]?) z.cells l = some cs := by simpa using h
      simp only [Instr.build, Sem.run_bind, run_zeroValue' hz, Result.andThen_ok, run_underlying hu, hm, h', Sem.run_pure]
    · cases hb
  · cases hb

theorem run_buildA {t : TypeId} {sz : Nat} {zs cs : Array Value} {l : List (Nat × Value)} {w : World} (hb : bldA P t = some (sz, zs)) (h : Instr.fill (fun i => some (i * sz, sz)) zs l = some cs) :
    (Instr.build t l.toArray).run P w = .ok (.agg cs) w := by
  unfold bldA at hb
  split at hb
  · rename_i len e hu
    split at hb
    · rename_i i z hi hz
      simp at hb
      obtain ⟨rfl, rfl⟩ := hb
      have hs : szOf P e = some i.size := by simp [szOf, hi]
      simp only [Instr.build, Sem.run_bind, run_zeroValue' hz, Result.andThen_ok, run_underlying hu, run_sizeOf' hs, h, Sem.run_pure]
    · cases hb
  · cases hb

theorem pr_buildS {t : TypeId} {pl : List (Nat × Nat)} {zs : Array Value} {ws : List (Nat × Operand)} {vs : List Value} {cs : Array Value}
    (hb : bldS P t = some (pl, zs)) (hv : Evs E (ws.map (·.2)) vs) (hf : Instr.fill (fun i => pl[i]?) zs ((ws.map (·.1)).zip vs) = some cs) :
    PR P (.build t ws.toArray) T n D E L κ (.agg cs) :=
  pr_build (fun l cs w h => run_buildS hb h) hv hf
theorem pr_buildA {t : TypeId} {sz : Nat} {zs : Array Value} {ws : List (Nat × Operand)} {vs : List Value} {cs : Array Value}
    (hb : bldA P t = some (sz, zs)) (hv : Evs E (ws.map (·.2)) vs) (hf : Instr.fill (fun i => some (i * sz, sz)) zs ((ws.map (·.1)).zip vs) = some cs) :
    PR P (.build t ws.toArray) T n D E L κ (.agg cs) :=
  pr_build (fun l cs w h => run_buildA hb h) hv hf
end

theorem cells_one {v : Value} (h : oneV v = true) : v.cells = #[v] := by cases v <;> first | rfl | cases h

theorem cells_agg (cs : Array Value) : (Value.agg cs).cells = cs := rfl

/-! ### cells told one by one -/
inductive GetL : List Value → Nat → Value → Prop
  | zero {v : Value} {l : List Value} : GetL (v :: l) 0 v
  | succ {x v : Value} {l : List Value} {i : Nat} (h : GetL l i v) : GetL (x :: l) (i + 1) v
inductive SetL : List Value → Nat → Value → List Value → Prop
  | zero {x v : Value} {l : List Value} : SetL (x :: l) 0 v (v :: l)
  | succ {x v : Value} {l m : List Value} {i : Nat} (h : SetL l i v m) : SetL (x :: l) (i + 1) v (x :: m)
/-- so many cells from a place on -/
inductive ExtL : List Value → Nat → Nat → List Value → Prop
  | nil {l : List Value} : ExtL l 0 0 []
  | take {x : Value} {l m : List Value} {k : Nat} (h : ExtL l 0 k m) : ExtL (x :: l) 0 (k + 1) (x :: m)
  | skip {x : Value} {l m : List Value} {i k : Nat} (h : ExtL l i k m) : ExtL (x :: l) (i + 1) k m
/-- cells put at a place -/
inductive PutL : List Value → Nat → List Value → List Value → Prop
  | nil {l : List Value} : PutL l 0 [] l
  | put {x v : Value} {l m vs : List Value} (h : PutL l 0 vs m) : PutL (x :: l) 0 (v :: vs) (v :: m)
  | skip {x : Value} {l m vs : List Value} {i : Nat} (h : PutL l i vs m) : PutL (x :: l) (i + 1) vs (x :: m)
theorem GetL.get {l : List Value} {i : Nat} {v : Value} (h : GetL l i v) : l.toArray[i]? = some v := by
  induction h with
  | zero => rfl
  | succ _ ih => simpa using ih
theorem SetL.set {l m : List Value} {i : Nat} {v : Value} (h : SetL l i v m) : i < l.length ∧ l.set i v = m := by
  induction h with
  | zero => simp
  | succ _ ih => simp [ih.1, ih.2]
theorem ExtL.ext {l m : List Value} {i k : Nat} (h : ExtL l i k m) : i + k ≤ l.length ∧ (l.drop i).take k = m := by
  induction h with
  | nil => simp
  | take _ ih => simp only [List.length_cons]; exact ⟨by omega, by simpa using ih.2⟩
  | skip _ ih => simp only [List.length_cons]; exact ⟨by omega, by simpa using ih.2⟩
theorem PutL.put' {l m vs : List Value} {i : Nat} (h : PutL l i vs m) : i + vs.length ≤ l.length ∧ m.length = l.length ∧ m = l.take i ++ vs ++ l.drop (i + vs.length) := by
  induction h with
  | nil => simp
  | put _ ih => simp only [List.length_cons]; refine ⟨by omega, by omega, ?_⟩; rw [ih.2.2]; simp
  | @skip x l m vs i _ ih =>
    simp only [List.length_cons]
    refine ⟨by omega, by omega, ?_⟩
    rw [ih.2.2, show i + 1 + vs.length = (i + vs.length) + 1 from by omega]; simp

section
variable {r : Option Nat} {P : Program} {Q : Exit → Act → World → Prop} {n : Nat} {D : List Deferred} {E : Env} {L M : List HProp} {κ : Ctx} {ops : Array Oper} {rest : List Oper}
variable {d : Nat} {dd : Option Tmp} {T : TypeId} {ps : String} {af : Array Edge} {gd : Option (Nat × Bool)}
/-- a cell -/
theorem pr_ld {t b off : Nat} {x : Operand} {l : List Value} {T0 : TypeId} {fr : Nat × Nat} {v : Value} (hg : aggB P t = some false) (hx : E.ev x = some (ad b off))
    (hr : Rdb L κ b (.cells (List.toArray l) T0 fr) := by first | exact Rdb.fr (by assumption) | exact Rdb.own (by repeat (first | exact Has.here | apply Has.there))) (hv : GetL l off v := by repeat (first | exact GetL.zero | apply GetL.succ)) :
    PR P (.load t x) T n D E L κ v := pr_load hg hx hr hv.get
/-- cells, as one -/
theorem pr_ldA {t b off sz : Nat} {x : Operand} {l m : List Value} {T0 : TypeId} {fr : Nat × Nat} (hg : aggB P t = some true) (hs : szOf P t = some sz) (hx : E.ev x = some (ad b off))
    (hr : Rdb L κ b (.cells (List.toArray l) T0 fr) := by first | exact Rdb.fr (by assumption) | exact Rdb.own (by repeat (first | exact Has.here | apply Has.there))) (hv : ExtL l off sz m := by repeat (first | exact ExtL.nil | apply ExtL.take | apply ExtL.skip)) :
    PR P (.load t x) T n D E L κ (.agg (List.toArray m)) := by
  have := pr_loadA (P := P) (T := T) (n := n) (D := D) hg hs hx hr (by simpa using hv.ext.1)
  have e : (List.toArray l).extract off (off + sz) = List.toArray m := by
    apply Array.ext'
    rw [Array.toList_extract, List.extract_eq_take_drop, ← hv.ext.2]
    simp
  rwa [e] at this
/-- one cell is stored -/
theorem tl_st {t b off : Nat} {x y : Operand} {l m : List Value} {T0 : TypeId} {v : Value} (hs : szOf P t = some 1) (hx : E.ev x = some (ad b off)) (hy : E.ev y = some v)
    (hr : Rem L (pt b (.cells (List.toArray l) T0 (0, 0))) M := by repeat (first | exact Rem.here | apply Rem.there)) (hv : SetL l off v m := by repeat (first | exact SetL.zero | apply SetL.succ)) (h1 : oneV v = true := by rfl)
    (k : TL r P ops Q rest n D E (pt b (.cells (List.toArray m) T0 (0, 0)) :: M) κ) :
    TL r P ops Q (⟨none, .store t x y, T, ps, af, none⟩ :: rest) n D E L κ := by
  refine tl_store hs hx hy hr h1 (by simpa using hv.set.1) ?_
  rw [List.setIfInBounds_toArray, hv.set.2]
  exact k
/-- cells are stored -/
theorem tl_stA {t b off sz : Nat} {x y : Operand} {l m vs : List Value} {T0 : TypeId} (hs : szOf P t = some sz) (hx : E.ev x = some (ad b off)) (hy : E.ev y = some (.agg (List.toArray vs)))
    (hr : Rem L (pt b (.cells (List.toArray l) T0 (0, 0))) M := by repeat (first | exact Rem.here | apply Rem.there)) (hv : PutL l off vs m := by repeat (first | exact PutL.nil | apply PutL.put | apply PutL.skip)) (hsz : vs.length = sz := by rfl) (h1 : allOne vs = true := by rfl)
    (k : TL r P ops Q rest n D E (pt b (.cells (List.toArray m) T0 (0, 0)) :: M) κ) :
    TL r P ops Q (⟨none, .store t x y, T, ps, af, none⟩ :: rest) n D E L κ := by
  have hp := hv.put'
  refine tl_storeG hs hx hy hr (by simpa [Value.cells] using hsz) (by simp; omega) h1 ?_ k
  have key : ∀ (vs : List Value) (c : List Value) (off : Nat), off + vs.length ≤ c.length → spl c.toArray off vs = (c.take off ++ vs ++ c.drop (off + vs.length)).toArray := by
    intro vs
    induction vs with
    | nil => intro c off h; simp [spl]
    | cons v vs ih =>
      intro c off h
      simp only [List.length_cons] at h
      rw [spl, List.setIfInBounds_toArray, ih _ _ (by simp; omega)]
      congr 1
      rw [List.take_succ_eq_append_getElem (by simp; omega)]
      simp [List.take_set_of_le, List.drop_set_of_lt, show off + 1 + vs.length = off + (vs.length + 1) from by omega]
  rw [show (Value.agg (List.toArray vs)).cells.toList = vs from rfl, key vs l off hp.1, ← hp.2.2]
end

/-! ### results that stand in memory -/
inductive Res (P : Program) (E : Env) (L : List HProp) (κ : Ctx) : List ResultVar → List Value → Prop
  | nil : Res P E L κ [] []
  | tmp {t : Nat} {v : Value} {rs : List ResultVar} {vs : List Value} (h : E.get t = some v) (r : Res P E L κ rs vs) : Res P E L κ (.tmp t :: rs) (v :: vs)
  | cellA {t ty sz b : Nat} {c : Array Value} {T0 : TypeId} {fr : Nat × Nat} {rs : List ResultVar} {vs : List Value} (hg : aggB P ty = some true) (hs : szOf P ty = some sz) (h : E.get t = some (ad b 0))
      (r : Res P E L κ rs vs) (hr : Rdb L κ b (.cells c T0 fr) := by first | exact Rdb.fr (by assumption) | exact Rdb.own (by repeat (first | exact Has.here | apply Has.there))) (hc : c.size = sz := by rfl) : Res P E L κ (.cell t ty :: rs) (.agg c :: vs)
  | cell1 {t ty b : Nat} {c : Array Value} {v : Value} {T0 : TypeId} {fr : Nat × Nat} {rs : List ResultVar} {vs : List Value} (hg : aggB P ty = some false) (h : E.get t = some (ad b 0))
      (r : Res P E L κ rs vs) (hr : Rdb L κ b (.cells c T0 fr) := by first | exact Rdb.fr (by assumption) | exact Rdb.own (by repeat (first | exact Has.here | apply Has.there))) (hc : c[0]? = some v := by rfl) : Res P E L κ (.cell t ty :: rs) (v :: vs)

def resV : List Value → Value
  | [v] => v
  | vs => .tuple vs.toArray

def resOne (tmps : Array Value) : ResultVar → Sem Value
  | .tmp t => pure (tmps.getD t undef)
  | .cell a t => do loadVar t (← asAddr (tmps.getD a undef))
theorem Res.run {P : Program} {n : Nat} {D : List Deferred} {E : Env} {L : List HProp} {κ : Ctx} {rs : List ResultVar} {vs : List Value} (h : Res P E L κ rs vs) {a : Act} {w : World} (f : Fits E n D a) (s : St L κ w) :
    (rs.mapM (resOne a.tmps)).run P w = .ok vs w := by
  induction h with
  | nil => simp
  | @tmp t v rs vs h _ ih =>
    rw [List.mapM_cons]
    have e : (resOne a.tmps (.tmp t)).run P w = .ok v w := by simp [resOne, f.has _ _ h]
    simp [e, ih]
  | @cellA t ty sz b c T0 fr rs vs hg hs h r hr hc ih =>
    rw [List.mapM_cons]
    have e0 := run_loadVar (P := P) (off := 0) (v := .agg c) hg hs (hr.heap s) (by rw [if_pos rfl, if_pos (by omega), Nat.zero_add, ← hc, Array.extract_size])
    have e : (resOne a.tmps (.cell t ty)).run P w = .ok (.agg c) w := by simp [resOne, f.has _ _ h, ad, asAddr, e0]
    simp [e, ih]
  | @cell1 t ty b c v T0 fr rs vs hg h r hr hc ih =>
    rw [List.mapM_cons]
    have e0 : (loadVar ty ⟨b, 0, none⟩).run P w = .ok v w := by
      have e := cell_at (off := 0) (hr.heap s)
      rw [hc] at e
      unfold loadVar
      rw [Sem.run_bind, run_isAgg hg]
      simp [load, Sem.run, e]
    have e : (resOne a.tmps (.cell t ty)).run P w = .ok v w := by simp [resOne, f.has _ _ h, ad, asAddr, e0]
    simp [e, ih]

theorem tq_retG {P : Program} {n : Nat} {E : Env} {L : List HProp} {κ : Ctx} {fn : Func} {X : Type} {val : X → Value} {out : X → List HProp → List HProp} (e : Exit) (he : e = .ret ∨ e = .normal) (x : X)
    {rs : List ResultVar} {vs : List Value} (hr : fn.results = rs.toArray) (hR : Res P E L κ rs vs) (hv : val x = resV vs) {R : List HProp} (hL : Pick L (out x []) R := by repeat (first | exact Pick.nil | exact Rem.here | apply Rem.there | apply Pick.cons)) :
    TQ (bodyPostM (Fc none) 0 P fn (Post val out κ)) e n [] E L κ := fun a w f s => by
  have hrun : (results fn a.tmps).run P w = .ok (resV vs) w := by
    have := hR.run f s
    have e : results fn a.tmps = (do let vs ← fn.results.mapM (resOne a.tmps); pure (if h : vs.size = 1 then vs[0] else .tuple vs)) := rfl
    rw [e, hr]
    simp only [List.mapM_toArray, Sem.run_bind, Sem.run_map]
    rw [this]
    rcases vs with _ | ⟨v, _ | ⟨u, vs⟩⟩ <;> simp [resV]
  have key : LeavesInM (Fc none) 0 P fn a.tmps (Post val out κ) a.defers .returning w := by
    rw [f.defers]
    exact ⟨_, hrun, x, by rw [hv], s.picked hL⟩
  rcases he with rfl | rfl <;> exact key

/-! ### numbers -/
def I64 (i : Int) : Prop := -9223372036854775808 ≤ i ∧ i ≤ 9223372036854775807
theorem wrap_i64 {i : Int} (h : -9223372036854775808 ≤ i ∧ i ≤ 9223372036854775807) : IntKind.i64.wrap i = i := IntWalk.i64_in _ h

section
variable {P : Program} {n : Nat} {D : List Deferred} {E : Env} {L : List HProp} {κ : Ctx} {T : TypeId} {t yt : TypeId} {x y : Operand} {i j : Int}
/-- sums that stay within -/
theorem pr_addN (hx : E.ev x = some (.int .i64 i)) (hy : E.ev y = some (.int .i64 j)) (h : -9223372036854775808 ≤ i + j ∧ i + j ≤ 9223372036854775807) : PR P (.binOp .add t x y yt) T n D E L κ (.int .i64 (i + j)) := by
  have := pr_add (P := P) (T := T) (t := t) (yt := yt) (n := n) (D := D) (L := L) (κ := κ) hx hy
  rwa [wrap_i64 h] at this
theorem pr_subN (hx : E.ev x = some (.int .i64 i)) (hy : E.ev y = some (.int .i64 j)) (h : -9223372036854775808 ≤ i - j ∧ i - j ≤ 9223372036854775807) : PR P (.binOp .sub t x y yt) T n D E L κ (.int .i64 (i - j)) := by
  have := pr_sub (P := P) (T := T) (t := t) (yt := yt) (n := n) (D := D) (L := L) (κ := κ) hx hy
  rwa [wrap_i64 h] at this
theorem pr_mulN (hx : E.ev x = some (.int .i64 i)) (hy : E.ev y = some (.int .i64 j)) (h : -9223372036854775808 ≤ i * j ∧ i * j ≤ 9223372036854775807) : PR P (.binOp .mul t x y yt) T n D E L κ (.int .i64 (i * j)) := by
  have := pr_mul (P := P) (T := T) (t := t) (yt := yt) (n := n) (D := D) (L := L) (κ := κ) hx hy
  rwa [wrap_i64 h] at this
/-- the quotient, and the rest, of a number that is not below 0 -/
theorem pr_quoN (hx : E.ev x = some (.int .i64 i)) (hy : E.ev y = some (.int .i64 j)) (h0 : 0 ≤ i) (h1 : i ≤ 9223372036854775807) (h2 : 0 < j) : PR P (.binOp .quo t x y yt) T n D E L κ (.int .i64 (i / j)) := by
  have := pr_quo (P := P) (T := T) (t := t) (yt := yt) (n := n) (D := D) (L := L) (κ := κ) hx hy (by omega)
  rw [Int.tdiv_eq_ediv_of_nonneg h0] at this
  have hle : i / j ≤ i := Int.ediv_le_self _ h0
  have hge : 0 ≤ i / j := Int.ediv_nonneg h0 (by omega)
  rwa [wrap_i64 ⟨by omega, by omega⟩] at this
theorem pr_remN (hx : E.ev x = some (.int .i64 i)) (hy : E.ev y = some (.int .i64 j)) (h0 : 0 ≤ i) (h2 : 0 < j) : PR P (.binOp .rem t x y yt) T n D E L κ (.int .i64 (i % j)) := by
  have := pr_rem (P := P) (T := T) (t := t) (yt := yt) (n := n) (D := D) (L := L) (κ := κ) hx hy (by omega)
  rwa [Int.tmod_eq_emod_of_nonneg h0] at this
theorem run_equalB {b c : Bool} {w : World} (hu : P.underlying t = some .bool) : (Op.equal t (.bool b) (.bool c)).run P w = .ok (b == c) w := by
  unfold Op.equal
  show (Op.equalIn (9999 + 1) t (.bool b) (.bool c)).run P w = _
  unfold Op.equalIn
  rw [Sem.run_bind, run_underlying hu]
  rfl
theorem pr_eqlB {b c : Bool} (hu : P.underlying t = some .bool) (hx : E.ev x = some (.bool b)) (hy : E.ev y = some (.bool c)) : PR P (.binOp .eql t x y yt) T n D E L κ (.bool (b == c)) :=
  ⟨(fun _ h => by cases h), fun _ _ _ _ a w f s => by
    have e1 : eqGuard .eql t x y (.bool b) (.bool c) = pure () := rfl
    have e2 : binOp .eql t (.bool b) (.bool c) = (do pure (.bool (← Op.equal t (.bool b) (.bool c)))) := rfl
    simp only [execOp, f.ev hx, f.ev hy, e1, e2, Sem.run_bind, Sem.run_pure, Result.andThen_ok, run_equalB hu]⟩
theorem pr_neqB {b c : Bool} (hu : P.underlying t = some .bool) (hx : E.ev x = some (.bool b)) (hy : E.ev y = some (.bool c)) : PR P (.binOp .neq t x y yt) T n D E L κ (.bool (!(b == c))) :=
  ⟨(fun _ h => by cases h), fun _ _ _ _ a w f s => by
    have e1 : eqGuard .neq t x y (.bool b) (.bool c) = pure () := rfl
    have e2 : binOp .neq t (.bool b) (.bool c) = (do pure (.bool (!(← Op.equal t (.bool b) (.bool c))))) := rfl
    simp only [execOp, f.ev hx, f.ev hy, e1, e2, Sem.run_bind, Sem.run_pure, Result.andThen_ok, run_equalB hu]⟩

/-- the lowest bits that are not among a mask's -/
theorem toNat_ofInt64 (p : Int) : ((BitVec.ofInt 64 p).toNat : Int) = p % 18446744073709551616 := by
  rw [BitVec.toNat_ofInt]
  have : (0 : Int) ≤ p % 18446744073709551616 := Int.emod_nonneg _ (by decide)
  simp only [show (2 : Nat) ^ 64 = 18446744073709551616 from rfl]
  rw [Int.toNat_of_nonneg (by exact this)]
  rfl
end
end Go.Sz

namespace Go.Sz
open Go

section
variable {r : Option Nat} {P : Program} {Q : Exit → Act → World → Prop} {n : Nat} {D : List Deferred} {E : Env} {L : List HProp} {κ : Ctx} {ops : Array Oper}

/-! ### which operations stand ahead of one, by edges -/
def mask (acc : List Nat) (o : Oper) : Nat := o.after.toList.foldl (fun s e => if Region.binds .any e then s ||| (2 ^ e.on ||| (acc[e.on]?).getD 0) else s) 0
def masks : List Oper → List Nat → List Nat
  | [], acc => acc
  | o :: l, acc => masks l (acc ++ [mask acc o])

theorem mask_bit {acc : List Nat} {o : Oper} {k : Nat} (h : (mask acc o).testBit k = true) : ∃ e ∈ o.after, Region.binds .any e = true ∧ (k = e.on ∨ ((acc[e.on]?).getD 0).testBit k = true) := by
  unfold mask at h
  have key : ∀ (l : List Edge) (s : Nat), (l.foldl (fun s e => if Region.binds .any e then s ||| (2 ^ e.on ||| (acc[e.on]?).getD 0) else s) s).testBit k = true →
      s.testBit k = true ∨ ∃ e ∈ l, Region.binds .any e = true ∧ (k = e.on ∨ ((acc[e.on]?).getD 0).testBit k = true) := by
    intro l
    induction l with
    | nil => intro s h; exact .inl h
    | cons e l ih =>
      intro s h
      simp only [List.foldl_cons] at h
      rcases ih _ h with h | ⟨e', he', h'⟩
      · split at h
        · rename_i hb
          rw [Nat.testBit_or, Nat.testBit_or, Bool.or_eq_true, Bool.or_eq_true] at h
          rcases h with h | h | h
          · exact .inl h
          · refine .inr ⟨e, List.mem_cons_self, hb, .inl ?_⟩
            rw [Nat.testBit_two_pow] at h
            exact (of_decide_eq_true h).symm
          · exact .inr ⟨e, List.mem_cons_self, hb, .inr h⟩
        · exact .inl h
      · exact .inr ⟨e', List.mem_cons_of_mem _ he', h'⟩
  rcases key _ _ h with h | ⟨e, he, h⟩
  · simp at h
  · exact ⟨e, by simpa using he, h⟩

/-- listed operations: with each those ahead of it -/
def Downs (ops : Array Oper) (S : Nat → Bool) : Prop := ∀ j o, ops[j]? = some o → S j = true → ∀ e ∈ o.after, Region.binds .any e = true → S e.on = true

theorem masks_sound {S : Nat → Bool} : ∀ (l : List Oper) (acc : List Nat), (∀ j o, l[j]? = some o → S (acc.length + j) = true → ∀ e ∈ o.after, Region.binds .any e = true → S e.on = true) →
    (∀ j, S j = true → ∀ k, ((acc[j]?).getD 0).testBit k = true → S k = true) → ∀ j, S j = true → ∀ k, (((masks l acc)[j]?).getD 0).testBit k = true → S k = true
  | [], acc, _, h2 => h2
  | o :: l, acc, h1, h2 => by
    refine masks_sound l (acc ++ [mask acc o]) (fun j o' hj hS => ?_) (fun j hS k hk => ?_)
    · refine h1 (j + 1) o' (by simpa using hj) ?_
      rwa [show acc.length + (j + 1) = (acc ++ [mask acc o]).length + j from by simp; omega]
    · by_cases hlt : j < acc.length
      · rw [List.getElem?_append_left hlt] at hk; exact h2 j hS k hk
      · by_cases he : j = acc.length
        · subst he
          simp at hk
          obtain ⟨e, he, hb, h⟩ := mask_bit hk
          have hSe := h1 0 o rfl hS e he hb
          rcases h with rfl | h
          · exact hSe
          · exact h2 _ hSe k h
        · rw [List.getElem?_eq_none (by simp; omega)] at hk
          simp at hk

/-! ### one operation, at a frame that holds more -/
theorem put_defers' (a : Act) (x : Option Tmp) (v : Value) : (a.put x v).defers = a.defers := by cases x <;> rfl

theorem step_transfer {i : Nat} {o : Oper} {K : Act → World → Prop} {Q' : Exit → Act → World → Prop} {a a' : Act} {w : World} (ho : ops[i]? = some o) (hnd : ∀ c, o.op ≠ .defer c) (he : execOp a'.eval o = execOp a.eval o)
    (hw : Region.wanted o (yielded ops a'.tmps) = Region.wanted o (yielded ops a.tmps)) (hq : ∀ e b w', e ≠ .normal → ¬ Q' e b w') (hK : ∀ b w', K b w' → b.defers = a'.defers) (h : wpOpIn (Fc r) 0 P ops Q' i K a' w) :
    wpOpIn (Fc r) 0 P ops Q i (fun b w' => ∃ v, b = a.put o.dst v ∧ K (a'.put o.dst v) w') a w := by
  unfold wpOpIn at *
  simp only [ho] at h ⊢
  rw [hw] at h
  split
  · rename_i hwt
    rw [if_pos hwt] at h
    refine ⟨fun _ _ => trivial, ?_⟩
    have h := h.2
    rw [semAt_nd hnd] at h ⊢
    rw [he] at h
    generalize (execOp a.eval o).run P w = res at h ⊢
    cases res with
    | ok x w' =>
      cases x with
      | value v => exact ⟨_, rfl, h⟩
      | skip => exact ⟨_, rfl, h⟩
      | enter f args =>
        exact ⟨h.1, CallsIn.mono h.2 (fun e w'' hh => by
              cases e with
              | returned v => exact ⟨_, rfl, hh⟩
              | panicked c => exact absurd hh (hq _ _ _ (by simp))
              | outgrown => obtain ⟨b, u, hh⟩ := hh; exact absurd hh (hq _ _ _ (by simp)))⟩
      | round l f tmps as bd =>
        exact ⟨h.1, RoundIn.mono h.2 (fun e w'' hh => by
              cases e with
              | returned v => exact ⟨_, rfl, hh⟩
              | panicked c => exact absurd hh (hq _ _ _ (by simp))
              | outgrown => obtain ⟨b, u, hh⟩ := hh; exact absurd hh (hq _ _ _ (by simp)))⟩
      | row rw args => exact ⟨h.1, RowsIn.mono h.2 (fun _ _ hh => ⟨_, rfl, hh⟩)⟩
      | defer d =>
        have := hK _ _ h
        rw [put_defers'] at this
        exact absurd this (List.cons_ne_self _ _)
      | _ => exact h.elim
    | halt x w' =>
      cases x with
      | panic v => exact absurd h (hq _ _ _ (by simp))
      | _ => exact h.elim
  · rename_i hwt
    rw [if_neg hwt] at h
    exact ⟨fun _ _ => trivial, _, rfl, h.2⟩

/-- slots put one behind the other -/
def puts (a : Act) : List (Nat × Value) → Act
  | [] => a
  | (d, v) :: l => (puts a l).put (some d) v
theorem puts_defers (a : Act) (l : List (Nat × Value)) : (puts a l).defers = a.defers := by induction l with
  | nil => rfl
  | cons p l ih => exact ih
theorem puts_size (a : Act) (l : List (Nat × Value)) : (puts a l).tmps.size = a.tmps.size := by induction l with
  | nil => rfl
  | cons p l ih => simp [puts, Act.put, ih]
theorem puts_exec {o : Oper} (hs : ∀ cs b, o.op ≠ .select cs b) (a : Act) (l : List (Nat × Value)) (h : ∀ p ∈ l, p.1 ∉ o.looksAt ops) : execOp (puts a l).eval o = execOp a.eval o := by
  induction l with
  | nil => rfl
  | cons p l ih =>
    show execOp ((puts a l).put (some p.1) p.2).eval o = _
    rw [execOp_put (ops := ops) o hs _ _ _ (fun d hd => by cases hd; exact h p List.mem_cons_self), ih (fun q hq => h q (List.mem_cons_of_mem _ hq))]
theorem puts_wanted {o : Oper} (a : Act) (l : List (Nat × Value)) (h : ∀ p ∈ l, p.1 ∉ o.looksAt ops) : Region.wanted o (yielded ops (puts a l).tmps) = Region.wanted o (yielded ops a.tmps) := by
  induction l with
  | nil => rfl
  | cons p l ih =>
    show Region.wanted o (yielded ops ((puts a l).put (some p.1) p.2).tmps) = _
    rw [wanted_put o _ _ _ (fun d hd => by cases hd; exact h p List.mem_cons_self), ih (fun q hq => h q (List.mem_cons_of_mem _ hq))]
theorem puts_ne (a : Act) (l : List (Nat × Value)) (t : Nat) (h : ∀ p ∈ l, p.1 ≠ t) : (puts a l).tmps[t]? = a.tmps[t]? := by
  induction l with
  | nil => rfl
  | cons p l ih =>
    show ((puts a l).tmps.setIfInBounds p.1 p.2)[t]? = _
    rw [Array.getElem?_setIfInBounds_ne (h p List.mem_cons_self), ih (fun q hq => h q (List.mem_cons_of_mem _ hq))]
theorem puts_mem (a : Act) (l : List (Nat × Value)) (t : Nat) (v : Value) (ht : t < a.tmps.size) (hm : (t, v) ∈ l) (hu : ∀ p ∈ l, p.1 = t → p.2 = v) : (puts a l).tmps[t]? = some v := by
  induction l with
  | nil => cases hm
  | cons p l ih =>
    show ((puts a l).tmps.setIfInBounds p.1 p.2)[t]? = _
    by_cases e : p.1 = t
    · subst e
      rw [Array.getElem?_setIfInBounds_self, puts_size, if_pos ht, hu p List.mem_cons_self rfl]
    · rw [Array.getElem?_setIfInBounds_ne e]
      rcases List.mem_cons.1 hm with h | h
      · exact absurd (congrArg Prod.fst h).symm e
      · exact ih h (fun q hq => hu q (List.mem_cons_of_mem _ hq))

/-! ### the promise of an operation that turns nothing -/
def Pm (r : Option Nat) (P : Program) (ops : Array Oper) (i : Nat) (n : Nat) (D : List Deferred) (E : Env) (L : List HProp) (κ : Ctx) (d : Nat) (v : Value) : Prop :=
  ∃ o, ops[i]? = some o ∧ o.dst = some d ∧ Nat.blt d n = true ∧ (∀ c, o.op ≠ .defer c) ∧ (∀ cs b, o.op ≠ .select cs b) ∧
    ∀ a w, Fits E n D a → St L κ w → wpOpIn (Fc r) 0 P ops (fun _ _ _ => False) i (fun b w' => b = a.put (some d) v ∧ St L κ w') a w

/-! ### all orders -/
def dstOf (ops : Array Oper) (i : Nat) : Option Nat := (ops[i]?).bind (·.dst)
/-- what is so of the region's text: edges go back; what turns nothing has a slot of its own, that only those look at that stand behind it -/
def stc (ops : Array Oper) (qall : List Nat) : Bool :=
  let ms := masks ops.toList []
  ((List.range ops.size).all fun j => match ops[j]? with
    | some o => (o.after.toList.all fun e => !Region.binds .any e || Nat.blt e.on j) && !((ms[j]?).getD 0).testBit j
    | none => true) &&
  qall.all fun k => match dstOf ops k with
    | some t => (List.range ops.size).all fun j => match ops[j]? with
      | some o => if j == k then !(o.looksAt ops).contains t else (!(o.looksAt ops).contains t || ((ms[j]?).getD 0).testBit k) && o.dst != some t
      | none => true
    | none => false
/-- those that may be taken, if these were -/
def readyS (ops : Array Oper) (done : List Nat) : List Nat :=
  (List.range ops.size).filter fun j => !done.contains j && match ops[j]? with
    | some o => o.after.toList.all fun e => !Region.binds .any e || done.contains e.on
    | none => false
def pendOf (ops : Array Oper) (qs : List Nat) (j : Nat) : List Nat := qs.filter fun k => !(((masks ops.toList [])[j]?).getD 0).testBit k

structure Inv (r : Option Nat) (P : Program) (ops : Array Oper) (ef qs : List Nat) (n : Nat) (D : List Deferred) (E : Env) (L : List HProp) (κ : Ctx) (listed : Array Bool) (a : Act) (w : World) : Prop where
  defers : a.defers = D
  size : a.tmps.size = n
  lsz : listed.size = ops.size
  st : St L κ w
  slots : ∀ t v, E.get t = some v → a.tmps[t]? = some v ∨ ∃ i ∈ qs, listed.getD i true = false ∧ dstOf ops i = some t
  inn : ∀ i, listed.getD i false = true → i ∈ ef ∨ i ∈ qs
  efs : ∀ i ∈ ef, listed.getD i false = true
  downs : Downs ops (fun i => listed.getD i false)
  prom : ∀ i ∈ qs, listed.getD i true = false → ∃ d v, E.get d = some v ∧ Pm r P ops i n D E L κ d v

def unl (listed : Array Bool) : Nat := (listed.toList.filter (!·)).length

def TD (r : Option Nat) (P : Program) (ops : Array Oper) (Q : Exit → Act → World → Prop) (qall ef qs : List Nat) (n : Nat) (D : List Deferred) (E : Env) (L : List HProp) (κ : Ctx) : Prop :=
  stc ops qall = true → (∀ i ∈ qs, i ∈ qall) → ∀ fuel listed a w, unl listed ≤ fuel → Inv r P ops ef qs n D E L κ listed a w → wpAnyIn (Fc r) 0 P .any ops Q fuel listed a w

theorem unl_set {listed : Array Bool} {i : Nat} (h : listed.getD i true = false) : unl (listed.setIfInBounds i true) + 1 = unl listed := by
  have hlt : i < listed.size := by
    rcases Nat.lt_or_ge i listed.size with l | l
    · exact l
    · rw [Array.getD_eq_getD_getElem?, Array.getElem?_eq_none l] at h; cases h
  have hv : listed.toList[i]? = some false := by
    rw [Array.getD_eq_getD_getElem?, Array.getElem?_eq_getElem hlt] at h
    simp at h
    simp [hlt, h]
  unfold unl
  rw [Array.toList_setIfInBounds]
  have key : ∀ (l : List Bool) (i : Nat), l[i]? = some false → ((l.set i true).filter (!·)).length + 1 = (l.filter (!·)).length := by
    intro l
    induction l with
    | nil => intro i h; cases h
    | cons b l ih =>
      intro i h
      cases i with
      | zero => simp at h; subst h; simp
      | succ i =>
        simp at h
        have := ih i h
        cases b <;> simp <;> omega
  exact key _ _ hv

theorem stc_edges {qall : List Nat} (h : stc ops qall = true) {j : Nat} {o : Oper} (ho : ops[j]? = some o) {e : Edge} (he : e ∈ o.after) (hb : Region.binds .any e = true) : e.on < j := by
  have hj : j < ops.size := (Array.getElem?_eq_some_iff.1 ho).1
  unfold stc at h
  simp only [Bool.and_eq_true, List.all_eq_true] at h
  have := h.1 j (List.mem_range.2 hj)
  rw [ho] at this
  simp only [Bool.and_eq_true, List.all_eq_true] at this
  have := this.1 e (by simpa using he)
  rw [hb] at this
  exact blt_lt (by simpa using this)
theorem stc_self {qall : List Nat} (h : stc ops qall = true) {j : Nat} {o : Oper} (ho : ops[j]? = some o) : (((masks ops.toList [])[j]?).getD 0).testBit j = false := by
  have hj : j < ops.size := (Array.getElem?_eq_some_iff.1 ho).1
  unfold stc at h
  simp only [Bool.and_eq_true, List.all_eq_true] at h
  have := h.1 j (List.mem_range.2 hj)
  rw [ho] at this
  simp only [Bool.and_eq_true] at this
  simpa using this.2
theorem stc_looks {qall : List Nat} (h : stc ops qall = true) {k j t : Nat} {o : Oper} (hk : k ∈ qall) (ht : dstOf ops k = some t) (ho : ops[j]? = some o) :
    (j = k → t ∉ o.looksAt ops) ∧ (j ≠ k → (t ∈ o.looksAt ops → (((masks ops.toList [])[j]?).getD 0).testBit k = true) ∧ o.dst ≠ some t) := by
  have hj : j < ops.size := (Array.getElem?_eq_some_iff.1 ho).1
  unfold stc at h
  simp only [Bool.and_eq_true, List.all_eq_true] at h
  have := h.2 k hk
  rw [ht] at this
  simp only [List.all_eq_true] at this
  have := this j (List.mem_range.2 hj)
  rw [ho] at this
  dsimp only at this
  constructor
  · intro e
    rw [if_pos (by simpa using e)] at this
    simpa using this
  · intro e
    rw [if_neg (by simpa using e)] at this
    simp only [Bool.and_eq_true, Bool.or_eq_true] at this
    refine ⟨fun hm => ?_, by simpa using this.2⟩
    rcases this.1 with h | h
    · simp [hm] at h
    · exact h

/-- an operation that turns nothing is taken -/
theorem td_q {qall ef qs : List Nat} (i d : Nat) {v : Value} (hp : Pm r P ops i n D E L κ d v) (hi : qall.contains i = true) (hn : (ef ++ qs).contains i = false) (hf : E.get d = none)
    (k : TD r P ops Q qall ef (i :: qs) n D ((d, v) :: E) L κ) : TD r P ops Q qall ef qs n D E L κ := by
  intro hs hq fuel listed a w hfu I
  have hi' : i ∈ qall := by simpa using hi
  have hn' : i ∉ ef ∧ i ∉ qs := by simpa using hn
  refine k hs (fun j hj => ?_) fuel listed a w hfu ?_
  · rcases List.mem_cons.1 hj with rfl | hj
    · exact hi'
    · exact hq j hj
  obtain ⟨o, ho, hd, hdn, hnd, hns, hrun⟩ := hp
  have hlt : i < ops.size := (Array.getElem?_eq_some_iff.1 ho).1
  have hiu : listed.getD i true = false := by
    cases e : listed.getD i true with
    | false => rfl
    | true =>
      have : listed.getD i false = true := by
        rw [Array.getD_eq_getD_getElem?, Array.getElem?_eq_getElem (by rw [I.lsz]; exact hlt)] at e ⊢
        exact e
      rcases I.inn i this with h | h
      · exact absurd h hn'.1
      · exact absurd h hn'.2
  have up : ∀ t u, E.get t = some u → Env.get ((d, v) :: E) t = some u := by
    intro t u h
    have : d ≠ t := by intro e; subst e; rw [hf] at h; cases h
    simp only [Env.get]
    rw [beq_ne this]
    exact h
  have down : ∀ b, Fits ((d, v) :: E) n D b → Fits E n D b := fun b f => ⟨f.defers, f.size, fun t u h => f.has t u (up t u h)⟩
  refine ⟨I.defers, I.size, I.lsz, I.st, fun t u h => ?_, fun j hj => ?_, I.efs, I.downs, fun j hj hu => ?_⟩
  · simp only [Env.get] at h
    by_cases e : d = t
    · subst e
      exact .inr ⟨i, List.mem_cons_self, hiu, by simp [dstOf, ho, hd]⟩
    · rw [beq_ne e] at h
      exact (I.slots t u h).imp id fun ⟨j, hj, r⟩ => ⟨j, List.mem_cons_of_mem _ hj, r⟩
  · exact (I.inn j hj).imp id (List.mem_cons_of_mem _)
  · rcases List.mem_cons.1 hj with rfl | hj
    · refine ⟨d, v, by simp [Env.get, beq_self], o, ho, hd, hdn, hnd, hns, fun b u f s => hrun b u (down b f) s⟩
    · obtain ⟨d', v', h1, o', h2, h3, h4, h5, h6, h7⟩ := I.prom j hj hu
      exact ⟨d', v', up _ _ h1, o', h2, h3, h4, h5, h6, fun b u f s => h7 b u (down b f) s⟩

/-- the frame as if all that is pending were done -/
theorem virt {qall ef qs : List Nat} {listed : Array Bool} {a : Act} {w : World} (I : Inv r P ops ef qs n D E L κ listed a w) :
    ∃ X : List (Nat × Value), Fits E n D (puts a X) ∧ (∀ p ∈ X, ∃ i ∈ qs, listed.getD i true = false ∧ dstOf ops i = some p.1) := by
  have key : ∀ l : List Nat, (∀ i ∈ l, i ∈ qs) → ∃ X : List (Nat × Value), (∀ p ∈ X, E.get p.1 = some p.2 ∧ ∃ i ∈ qs, listed.getD i true = false ∧ dstOf ops i = some p.1) ∧
      ∀ i ∈ l, listed.getD i true = false → ∃ p ∈ X, dstOf ops i = some p.1 := by
    intro l
    induction l with
    | nil => intro _; exact ⟨[], (fun p hp => (by cases hp)), (fun i hi => (by cases hi))⟩
    | cons i l ih =>
      intro hl
      obtain ⟨X, h1, h2⟩ := ih (fun j hj => hl j (List.mem_cons_of_mem _ hj))
      cases hu : listed.getD i true with
      | true =>
        refine ⟨X, h1, fun j hj hju => ?_⟩
        rcases List.mem_cons.1 hj with rfl | hj
        · rw [hu] at hju; cases hju
        · exact h2 j hj hju
      | false =>
        obtain ⟨d, v, hE, o, ho, hd, _⟩ := I.prom i (hl i List.mem_cons_self) hu
        have hdst : dstOf ops i = some d := by simp [dstOf, ho, hd]
        refine ⟨(d, v) :: X, fun p hp => ?_, fun j hj hju => ?_⟩
        · rcases List.mem_cons.1 hp with rfl | hp
          · exact ⟨hE, i, hl i List.mem_cons_self, hu, hdst⟩
          · exact h1 p hp
        · rcases List.mem_cons.1 hj with rfl | hj
          · exact ⟨_, List.mem_cons_self, hdst⟩
          · obtain ⟨p, hp, e⟩ := h2 j hj hju
            exact ⟨p, List.mem_cons_of_mem _ hp, e⟩
  obtain ⟨X, h1, h2⟩ := key qs (fun _ h => h)
  refine ⟨X, ⟨by rw [puts_defers, I.defers], by rw [puts_size, I.size], fun t v hv => ?_⟩, fun p hp => (h1 p hp).2⟩
  by_cases hx : ∃ p ∈ X, p.1 = t
  · obtain ⟨p, hp, rfl⟩ := hx
    have e := (h1 p hp).1
    rw [hv] at e
    have e : v = p.2 := Option.some.inj e
    obtain ⟨i, hi, hu, hd⟩ := (h1 p hp).2
    obtain ⟨d', v', _, o, ho, hd', hdn, _⟩ := I.prom i hi hu
    have : d' = p.1 := by simpa [dstOf, ho, hd'] using hd
    refine puts_mem a X p.1 v (by rw [I.size, ← this]; exact blt_lt hdn) (by rw [e]; exact hp) fun q hq hqt => ?_
    have := (h1 q hq).1
    rw [hqt, hv] at this
    exact (Option.some.inj this).symm
  · rw [puts_ne a X t (fun p hp e => hx ⟨p, hp, e⟩)]
    rcases I.slots t v hv with h | ⟨i, hi, hu, hd⟩
    · exact h
    · obtain ⟨p, hp, e⟩ := h2 i hi hu
      rw [hd] at e
      exact absurd ⟨p, hp, (Option.some.inj e).symm⟩ hx

theorem ready_anc {qall : List Nat} (hs : stc ops qall = true) {listed : Array Bool} {j : Nat} (dn : Downs ops (fun i => listed.getD i false)) (hr : j ∈ Region.ready .any ops listed) :
    ∀ k, (((masks ops.toList [])[j]?).getD 0).testBit k = true → listed.getD k false = true := by
  obtain ⟨hu, o, ho, hdep⟩ := mem_ready.1 hr
  have hlt : j < ops.size := (Array.getElem?_eq_some_iff.1 ho).1
  have dn' : Downs ops (fun i => listed.getD i false || i == j) := by
    intro i o' ho' hi e he hb
    rcases Bool.or_eq_true_iff.1 hi with h | h
    · simp [dn i o' ho' h e he hb]
    · have : i = j := by simpa using h
      subst this
      rw [ho] at ho'
      cases ho'
      simp [hdep e he hb]
  intro k hk
  have := masks_sound (S := fun i => listed.getD i false || i == j) ops.toList [] (fun i o' hi hS e he hb => dn' i o' (by simpa using hi) (by simpa using hS) e he hb) (fun i hi k hk => by simp at hk) j (by simp) k hk
  rcases Bool.or_eq_true_iff.1 this with h | h
  · exact h
  · have : k = j := by simpa using h
    subst this
    rw [stc_self hs ho] at hk
    cases hk

/-- a pending one is done for good -/
theorem Inv.done {qall ef qs : List Nat} {listed : Array Bool} {a : Act} {w : World} (hs : stc ops qall = true) (hq : ∀ i ∈ qs, i ∈ qall) (I : Inv r P ops ef qs n D E L κ listed a w) {i : Nat} (hi : i ∈ qs) (hr : i ∈ Region.ready .any ops listed) :
    wpOpIn (Fc r) 0 P ops Q i (fun b w' => Inv r P ops ef qs n D E L κ (listed.setIfInBounds i true) b w') a w := by
  obtain ⟨hu, o₀, ho₀, hdep⟩ := mem_ready.1 hr
  obtain ⟨d, v, hE, o, ho, hd, hdn, hnd, hns, hrun⟩ := I.prom i hi hu
  obtain rfl : o = o₀ := by rw [ho] at ho₀; exact Option.some.inj ho₀
  have hlt : i < ops.size := (Array.getElem?_eq_some_iff.1 ho).1
  have hdst : dstOf ops i = some d := by simp [dstOf, ho, hd]
  obtain ⟨X, hX, hXp⟩ := virt (qall := qall) I
  have anc := ready_anc hs I.downs hr
  have hcl : ∀ p ∈ X, p.1 ∉ o.looksAt ops := by
    intro p hp hm
    obtain ⟨k, hk, hku, hkd⟩ := hXp p hp
    have := stc_looks hs (hq k hk) hkd ho
    by_cases e : i = k
    · exact this.1 e hm
    · have hb := (this.2 e).1 hm
      have := anc k hb
      rw [Array.getD_eq_getD_getElem?] at this hku
      cases hg : listed[k]? with
      | none => rw [hg] at hku; cases hku
      | some b => rw [hg] at this hku; simp at this hku; rw [this] at hku; cases hku
  have h1 := hrun (puts a X) w hX I.st
  have h2 := step_transfer (Q := Q) (a := a) ho hnd (puts_exec hns a X hcl) (puts_wanted a X hcl) (fun _ _ _ _ h => h) (fun b w' h => by rw [h.1, put_defers']) h1
  refine wpOpIn_mono ?_ h2
  rintro b w' ⟨v0, rfl, he, hst⟩
  rw [hd] at he ⊢
  have hdl : d < (puts a X).tmps.size := by rw [puts_size, I.size]; exact blt_lt hdn
  have hv : v0 = v := by
    have h1 : ((puts a X).put (some d) v0).tmps[d]? = some v0 := by simp [Act.put, hdl]
    have h2 : ((puts a X).put (some d) v).tmps[d]? = some v := by simp [Act.put, hdl]
    rw [he, h2] at h1
    exact (Option.some.inj h1).symm
  subst hv
  have hset : ∀ k, k ≠ i → (listed.setIfInBounds i true).getD k true = listed.getD k true := fun k hk => getD_set_ne true (Ne.symm hk)
  have hset' : ∀ k, k ≠ i → (listed.setIfInBounds i true).getD k false = listed.getD k false := fun k hk => getD_set_ne false (Ne.symm hk)
  have hi1 : (listed.setIfInBounds i true).getD i true = true := by
    rw [Array.getD_eq_getD_getElem?, Array.getElem?_setIfInBounds_self]
    split <;> rfl
  refine ⟨by rw [put_defers', I.defers], by simp [Act.put, I.size], by simp [I.lsz], hst, fun t u ht => ?_, fun k hk => ?_, fun k hk => getD_set_true (I.efs k hk), ?_, fun k hk hku => ?_⟩
  · by_cases e : d = t
    · subst e
      rw [hE] at ht
      cases ht
      left
      simp only [Act.put]
      rw [Array.getElem?_setIfInBounds_self, if_pos (by rw [I.size]; exact blt_lt hdn)]
    · rcases I.slots t u ht with h | ⟨k, hk, hku, hkd⟩
      · left
        simp only [Act.put]
        rw [Array.getElem?_setIfInBounds_ne e]; exact h
      · right
        have : k ≠ i := by
          rintro rfl
          rw [hdst] at hkd
          exact e (Option.some.inj hkd)
        exact ⟨k, hk, by rw [hset k this]; exact hku, hkd⟩
  · by_cases e : k = i
    · subst e; exact .inr hi
    · rw [hset' k e] at hk; exact I.inn k hk
  · intro j o' ho' hj e he hb
    by_cases c : j = i
    · subst c
      rw [ho] at ho'
      cases ho'
      exact getD_set_true (hdep e he hb)
    · have : listed.getD j false = true := by rw [← hset' j c]; exact hj
      exact getD_set_true (I.downs j o' ho' this e he hb)
  · have : k ≠ i := by rintro rfl; rw [hi1] at hku; cases hku
    exact I.prom k hk (by rw [← hset k this]; exact hku)

inductive Prms (r : Option Nat) (P : Program) (ops : Array Oper) (n : Nat) (D : List Deferred) (E E' : Env) (L' : List HProp) (κ : Ctx) : List Nat → Prop
  | nil : Prms r P ops n D E E' L' κ []
  | cons {i d : Nat} {v : Value} {l : List Nat} (h : E'.get d = some v) (hp : Pm r P ops i n D E' L' κ d v) (rest : Prms r P ops n D E E' L' κ l) : Prms r P ops n D E E' L' κ (i :: l)
theorem Prms.mem {E' : Env} {L' : List HProp} {l : List Nat} (h : Prms r P ops n D E E' L' κ l) : ∀ i ∈ l, ∃ d v, E'.get d = some v ∧ Pm r P ops i n D E' L' κ d v := by
  induction h with
  | nil => intro i hi; cases hi
  | cons h hp _ ih =>
    intro i hi
    rcases List.mem_cons.1 hi with rfl | hi
    · exact ⟨_, _, h, hp⟩
    · exact ih i hi

/-- what is asked of one that turns something, or gives what is not known -/
def QE (r : Option Nat) (P : Program) (ops : Array Oper) (Q : Exit → Act → World → Prop) (qall ef qs : List Nat) (j n : Nat) (D : List Deferred) (E : Env) (κ : Ctx) : Exit → Act → World → Prop := fun e b w' =>
  e = .normal ∧ ∃ E' L', Fits E' n D b ∧ St L' κ w' ∧ Prms r P ops n D E E' L' κ (pendOf ops qs j) ∧ TD r P ops Q qall (j :: ef) qs n D E' L' κ

def TE (r : Option Nat) (P : Program) (ops : Array Oper) (Q : Exit → Act → World → Prop) (qall ef qs : List Nat) (n : Nat) (D : List Deferred) (E : Env) (L : List HProp) (κ : Ctx) (j : Nat) : Prop :=
  ∃ o, ops[j]? = some o ∧ (∀ c, o.op ≠ .defer c) ∧ (∀ cs b, o.op ≠ .select cs b) ∧ (∀ d, o.dst = some d → Nat.blt d n = true) ∧ TL r P ops (QE r P ops Q qall ef qs j n D E κ) [o] n D E L κ

theorem all_listed {qall : List Nat} (hs : stc ops qall = true) {listed : Array Bool} (hl : listed.size = ops.size) (hr : Region.ready .any ops listed = []) : ∀ i, i < ops.size → listed.getD i true = true := by
  intro i
  induction i using Nat.strongRecOn with
  | _ i ih =>
    intro hi
    cases e : listed.getD i true with
    | true => rfl
    | false =>
      have ho : ops[i]? = some ops[i] := Array.getElem?_eq_getElem hi
      have : i ∈ Region.ready .any ops listed := mem_ready.2 ⟨e, ops[i], ho, fun ed he hb => by
        have hlt := stc_edges hs ho he hb
        have := ih ed.on hlt (by omega)
        rw [Array.getD_eq_getD_getElem?, Array.getElem?_eq_getElem (by rw [hl]; omega)] at this ⊢
        exact this⟩
      rw [hr] at this
      cases this

theorem getD_tf {listed : Array Bool} {i : Nat} (h : listed.getD i true = false) : listed.getD i false = false := by
  rw [Array.getD_eq_getD_getElem?] at h ⊢
  cases hg : listed[i]? with
  | none => rfl
  | some b => rw [hg] at h; exact h
theorem getD_ft {listed : Array Bool} {i : Nat} (h : listed.getD i false = true) : listed.getD i true = true := by
  rw [Array.getD_eq_getD_getElem?] at h ⊢
  cases hg : listed[i]? with
  | none => rfl
  | some b => rw [hg] at h; exact h

theorem td_e {qall ef qs js : List Nat} (hjs : readyS ops (ef ++ qs) = js) (h : ∀ j ∈ js, TE r P ops Q qall ef qs n D E L κ j) (hend : js = [] → (List.range ops.size).all (fun i => (ef ++ qs).contains i) = true ∧ TQ Q .normal n D E L κ) :
    TD r P ops Q qall ef qs n D E L κ := by
  intro hs hq fuel
  -- when nothing can be taken any more
  have fin : ∀ (listed : Array Bool) (a : Act) (w : World), Inv r P ops ef qs n D E L κ listed a w → Region.ready .any ops listed = [] → Q .normal a w := by
    intro listed a w I hr
    have hall := all_listed hs I.lsz hr
    have hnil : js = [] := by
      rw [← hjs, List.eq_nil_iff_forall_not_mem]
      intro j hj
      unfold readyS at hj
      rw [List.mem_filter] at hj
      obtain ⟨hj1, hj2⟩ := hj
      have hlt := List.mem_range.1 hj1
      simp only [Bool.and_eq_true, Bool.not_eq_true'] at hj2
      have hn : j ∉ ef ++ qs := by simpa using hj2.1
      have := hall j hlt
      have hf : listed.getD j false = true := by
        rw [Array.getD_eq_getD_getElem?, Array.getElem?_eq_getElem (by rw [I.lsz]; exact hlt)] at this ⊢
        exact this
      exact hn (List.mem_append.2 (I.inn j hf))
    refine (hend hnil).2 a w ⟨I.defers, I.size, fun t v ht => ?_⟩ I.st
    rcases I.slots t v ht with h | ⟨i, hi, hu, hd⟩
    · exact h
    · have hlt : i < ops.size := by
        unfold dstOf at hd
        rcases Nat.lt_or_ge i ops.size with l | l
        · exact l
        · rw [Array.getElem?_eq_none l] at hd; cases hd
      rw [hall i hlt] at hu
      cases hu
  induction fuel with
  | zero =>
    intro listed a w hfu I
    have hrdy : Region.ready .any ops listed = [] := by
      rw [List.eq_nil_iff_forall_not_mem]
      intro i hi
      have := unl_set (mem_ready.1 hi).1
      omega
    exact ⟨hrdy, fin listed a w I hrdy⟩
  | succ fuel ih =>
    intro listed a w hfu I
    refine ⟨fun hr => fin listed a w I hr, fun i hi => ?_⟩
    obtain ⟨hu, o₀, ho₀, hdep⟩ := mem_ready.1 hi
    have hun := unl_set hu
    by_cases hiq : i ∈ qs
    · exact wpOpIn_mono (fun b w' I' => ih _ b w' (by omega) I') (I.done hs hq hiq hi)
    · have hief : i ∉ ef := fun h => by
        have := I.efs i h
        rw [getD_tf hu] at this
        cases this
      have hlt : i < ops.size := (Array.getElem?_eq_some_iff.1 ho₀).1
      have hij : i ∈ js := by
        rw [← hjs]
        unfold readyS
        rw [List.mem_filter]
        refine ⟨List.mem_range.2 hlt, ?_⟩
        rw [ho₀]
        simp only [Bool.and_eq_true, Bool.not_eq_true', List.all_eq_true]
        refine ⟨by simp [hief, hiq], fun e he => ?_⟩
        cases hb : Region.binds .any e with
        | false => rfl
        | true =>
          have := I.inn e.on (hdep e (by simpa using he) hb)
          simp [this]
      obtain ⟨o, ho, hnd, hns, hdn, hT⟩ := h i hij
      obtain rfl : o = o₀ := by rw [ho] at ho₀; exact Option.some.inj ho₀
      obtain ⟨X, hX, hXp⟩ := virt (qall := qall) I
      have anc := ready_anc hs I.downs hi
      have pend : ∀ k ∈ qs, listed.getD k true = false → (((masks ops.toList [])[i]?).getD 0).testBit k = false := by
        intro k hk hku
        cases hb : (((masks ops.toList [])[i]?).getD 0).testBit k with
        | false => rfl
        | true => have := anc k hb; rw [getD_tf hku] at this; cases this
      have hcl : ∀ p ∈ X, p.1 ∉ o.looksAt ops ∧ o.dst ≠ some p.1 := by
        intro p hp
        obtain ⟨k, hk, hku, hkd⟩ := hXp p hp
        have hik : i ≠ k := fun e => hiq (e ▸ hk)
        have := (stc_looks hs (hq k hk) hkd ho).2 hik
        exact ⟨(fun hm => by have := this.1 hm; rw [pend k hk hku] at this; cases this), this.2⟩
      have h1 : wpOpIn (Fc r) 0 P ops (QE r P ops Q qall ef qs i n D E κ) i (fun b w' => QE r P ops Q qall ef qs i n D E κ .normal b w') (puts a X) w := by
        have := hT (puts a X) w hX I.st
        unfold wpOpIn
        rw [ho]
        exact this
      have h2 := step_transfer (Q := Q) (a := a) ho hnd (puts_exec hns a X (fun p hp => (hcl p hp).1)) (puts_wanted a X (fun p hp => (hcl p hp).1)) (fun e b w' hn h => hn h.1)
        (fun b w' h => by obtain ⟨_, E', L', f, _⟩ := h; rw [f.defers, puts_defers, I.defers]) h1
      refine wpOpIn_mono ?_ h2
      rintro b w' ⟨v, rfl, _, E', L', f, s, hp, hTD⟩
      refine hTD hs hq fuel _ _ w' (by omega) ?_
      have hset : ∀ k, k ≠ i → (listed.setIfInBounds i true).getD k true = listed.getD k true := fun k hk => getD_set_ne true (Ne.symm hk)
      have hset' : ∀ k, k ≠ i → (listed.setIfInBounds i true).getD k false = listed.getD k false := fun k hk => getD_set_ne false (Ne.symm hk)
      have hi1 : (listed.setIfInBounds i true).getD i false = true := by
        rw [Array.getD_eq_getD_getElem?, Array.getElem?_setIfInBounds_self, if_pos (by rw [I.lsz]; exact hlt)]
        rfl
      refine ⟨by rw [put_defers', I.defers], ?_, by simp [I.lsz], s, fun t u ht => ?_, fun k hk => ?_, fun k hk => ?_, ?_, fun k hk hku => ?_⟩
      · cases hd : o.dst with
        | none => exact I.size
        | some d => simp [Act.put, I.size]
      · have hf := f.has t u ht
        by_cases hx : ∃ p ∈ X, p.1 = t
        · obtain ⟨p, hp, rfl⟩ := hx
          obtain ⟨k, hk, hku, hkd⟩ := hXp p hp
          exact .inr ⟨k, hk, by rw [hset k (fun e => hiq (e ▸ hk))]; exact hku, hkd⟩
        · left
          have hne : (puts a X).tmps[t]? = a.tmps[t]? := puts_ne a X t (fun p hp e => hx ⟨p, hp, e⟩)
          cases hd : o.dst with
          | none => rw [hd] at hf; exact hne ▸ hf
          | some d =>
            rw [hd] at hf
            simp only [Act.put] at hf ⊢
            by_cases e : d = t
            · subst e
              rw [Array.getElem?_setIfInBounds_self, puts_size] at hf
              rw [Array.getElem?_setIfInBounds_self]; exact hf
            · rw [Array.getElem?_setIfInBounds_ne e, hne] at hf
              rw [Array.getElem?_setIfInBounds_ne e]; exact hf
      · by_cases e : k = i
        · subst e; exact .inl List.mem_cons_self
        · rw [hset' k e] at hk
          exact (I.inn k hk).imp (List.mem_cons_of_mem _) id
      · rcases List.mem_cons.1 hk with rfl | hk
        · exact hi1
        · exact getD_set_true (I.efs k hk)
      · intro j o' ho' hj e he hb
        by_cases c : j = i
        · subst c
          rw [ho] at ho'
          cases ho'
          exact getD_set_true (hdep e he hb)
        · have : listed.getD j false = true := by rw [← hset' j c]; exact hj
          exact getD_set_true (I.downs j o' ho' this e he hb)
      · have hki : k ≠ i := fun e => hiq (e ▸ hk)
        rw [hset k hki] at hku
        exact hp.mem k (by unfold pendOf; rw [List.mem_filter]; exact ⟨hk, by simp [pend k hk hku]⟩)

/-- nothing is left but what turns nothing -/
theorem td_done {qall ef qs : List Nat} (hall : (List.range ops.size).all (fun i => (ef ++ qs).contains i) = true) (k : TQ Q .normal n D E L κ) : TD r P ops Q qall ef qs n D E L κ := by
  refine td_e (js := []) ?_ (fun j hj => (by cases hj)) (fun _ => ⟨hall, k⟩)
  rw [List.eq_nil_iff_forall_not_mem]
  intro j hj
  unfold readyS at hj
  rw [List.mem_filter] at hj
  have := (List.all_eq_true.1 hall) j hj.1
  simp only [Bool.and_eq_true, Bool.not_eq_true'] at hj
  rw [hj.2.1] at this
  cases this
/-- one that turns something, where no other may be taken -/
theorem td_e1 {qall ef qs : List Nat} (j : Nat) (hjs : readyS ops (ef ++ qs) = [j]) (h : TE r P ops Q qall ef qs n D E L κ j) : TD r P ops Q qall ef qs n D E L κ :=
  td_e hjs (fun i hi => by rw [List.mem_singleton.1 hi]; exact h) (fun e => (by cases e))
theorem td_e2 {qall ef qs : List Nat} (i j : Nat) (hjs : readyS ops (ef ++ qs) = [i, j]) (hi : TE r P ops Q qall ef qs n D E L κ i) (hj : TE r P ops Q qall ef qs n D E L κ j) : TD r P ops Q qall ef qs n D E L κ :=
  td_e hjs (fun x hx => by
    rcases List.mem_cons.1 hx with rfl | hx
    · exact hi
    · rw [List.mem_singleton.1 hx]; exact hj) (fun e => (by cases e))
theorem te {qall ef qs : List Nat} {j : Nat} {o : Oper} (ho : ops[j]? = some o) (h : TL r P ops (QE r P ops Q qall ef qs j n D E κ) [o] n D E L κ)
    (hnd : ∀ c, o.op ≠ .defer c := by intro _ h; cases h) (hns : ∀ cs b, o.op ≠ .select cs b := by intro _ _ h; cases h) (hd : ∀ d, o.dst = some d → Nat.blt d n = true := by intro _ h; first | (cases h; rfl) | cases h) : TE r P ops Q qall ef qs n D E L κ j := ⟨o, ho, hnd, hns, hd, h⟩
theorem td_next {qall ef qs : List Nat} {j : Nat} {E₀ E' : Env} {L' : List HProp} {pd : List Nat} (hpd : pendOf ops qs j = pd) (hp : Prms r P ops n D E₀ E' L' κ pd) (k : TD r P ops Q qall (j :: ef) qs n D E' L' κ) :
    TL r P ops (QE r P ops Q qall ef qs j n D E₀ κ) [] n D E' L' κ := fun a w f s => ⟨rfl, E', L', f, s, hpd ▸ hp, k⟩

theorem tc_draw {id : Nat} {l : List Oper} (hm : P.follows .mixedOrders = true) (qall : List Nat) (hs : stc l.toArray qall = true) (h : TD r P l.toArray Q qall [] [] n D E L κ) : TC r P (.region id l.toArray true) Q n D E L κ := fun a w f s => by
  refine wpIn_region_any hm (h hs (fun i hi => (by cases hi)) _ _ a _ ?_ ⟨f.defers, f.size, by simp, s.drew _, fun t v ht => .inl (f.has t v ht), fun i hi => ?_, fun i hi => (by cases hi), fun j o ho hj => ?_, fun i hi => (by cases hi)⟩)
  · unfold unl
    exact Nat.le_trans (List.length_filter_le _ _) (by simp)
  · exfalso
    rw [Array.getD_eq_getD_getElem?] at hi
    cases hg : (Array.replicate l.toArray.size false)[i]? with
    | none => rw [hg] at hi; cases hi
    | some b =>
      have := Array.getElem?_eq_some_iff.1 hg
      obtain ⟨h1, h2⟩ := this
      simp at h2
      subst h2
      rw [hg] at hi; cases hi
  · exfalso
    have hj : (Array.replicate l.toArray.size false).getD j false = true := hj
    rw [Array.getD_eq_getD_getElem?] at hj
    cases hg : (Array.replicate l.toArray.size false)[j]? with
    | none => rw [hg] at hj; cases hj
    | some b =>
      obtain ⟨h1, h2⟩ := Array.getElem?_eq_some_iff.1 hg
      simp at h2
      subst h2
      rw [hg] at hj; cases hj

/-! ### the promises -/
theorem pm_of {i d : Nat} {o : Oper} {v : Value} (ho : ops[i]? = some o) (hd : o.dst = some d) (hdn : Nat.blt d n = true)
    (h : ∀ Q', TL r P ops Q' [] n D ((d, v) :: E) L κ → TL r P ops Q' [o] n D E L κ) (hnd : ∀ c, o.op ≠ .defer c := by intro _ h; cases h) (hns : ∀ cs b, o.op ≠ .select cs b := by intro _ _ h; cases h) : Pm r P ops i n D E L κ d v := by
  refine ⟨o, ho, hd, hdn, hnd, hns, fun a w f s => ?_⟩
  -- what comes of it is told by a question that only the right end answers
  have key := h (fun e b w' => e = .normal ∧ St L κ w' ∧ b.defers = D ∧ b.tmps[d]? = some v) (fun b u fb su => ⟨rfl, su, fb.defers, fb.has d v (by simp [Env.get, beq_self])⟩) a w f s
  have h1 : wpOpIn (Fc r) 0 P ops (fun e b w' => e = .normal ∧ St L κ w' ∧ b.defers = D ∧ b.tmps[d]? = some v) i (fun b w' => (Exit.normal = .normal) ∧ St L κ w' ∧ b.defers = D ∧ b.tmps[d]? = some v) a w := by
    unfold wpOpIn
    rw [ho]
    exact key
  have h2 := step_transfer (Q := fun _ _ _ => False) (a := a) (a' := a) ho hnd rfl rfl (fun e b w' hn h => hn h.1) (fun b w' h => by rw [h.2.2.1, f.defers]) h1
  refine wpOpIn_mono ?_ h2
  rintro b w' ⟨v0, rfl, _, hs, _, hv⟩
  rw [hd] at hv ⊢
  have hlt : d < a.tmps.size := by rw [f.size]; exact blt_lt hdn
  simp only [Act.put] at hv
  rw [Array.getElem?_setIfInBounds_self, if_pos hlt] at hv
  cases hv
  exact ⟨rfl, hs⟩
end
end Go.Sz

namespace Go.Sz
open Go
theorem St.emp_mk {L : List HProp} {κ : Ctx} {w : World} (s : St L κ w) : St (emp :: L) κ w :=
  let ⟨k, h, o, r⟩ := s; ⟨k, h, ⟨fun _ => none, h, fun _ => .inl rfl, (none_join h).symm, fun _ => rfl, o⟩, r⟩
attribute [local irreducible] pt lift exs own emp

/-! ### shapes -/
/-- where a slice's cells stand: a block, what stands ahead of them and behind them -/
structure Sh where
  b : Nat
  cap : Nat
  pre : List Value
  post : List Value
  T : TypeId
  fr : Nat × Nat
inductive Shp
  | nil
  | wild (a : Addr) (cap : Nat)
  | mem (h : Sh)
def sv : Shp → Nat → Value
  | .nil, _ => .slice none 0 0
  | .wild a c, _ => .slice (some a) 0 c
  | .mem h, n => .slice (some ⟨h.b, h.pre.length, none⟩) n h.cap
def Sh.obj (h : Sh) (c : List Value) : Obj := .cells (List.toArray (h.pre ++ c ++ h.post)) h.T h.fr
def sl : Shp → List Value → HProp
  | .mem h, c => pt h.b (h.obj c)
  | _, _ => emp
def ra : Shp → List Value → List (Nat × Obj)
  | .mem h, c => [(h.b, h.obj c)]
  | _, _ => []
/-- the shape fits so many elements of such a size -/
structure Sok (sz : Nat) (s : Shp) (n : Nat) (c : List Value) : Prop where
  len : c.length = n * sz
  far : (∀ h, s ≠ .mem h) → n = 0
  cap : ∀ h, s = .mem h → n ≤ h.cap
  bnd : n ≤ 140737488355328
/-- one's own: what is beyond it may be written -/
structure Sow (sz : Nat) (s : Shp) (n : Nat) (c : List Value) : Prop extends Sok sz s n c where
  tame : ∀ a k, s ≠ .wild a k
  room : ∀ h, s = .mem h → h.fr = (0, 0) ∧ (h.cap - n) * sz ≤ h.post.length
/-- an element's place -/
def ea : Shp → Nat → Value
  | .mem h, k => ad h.b (h.pre.length + k)
  | _, _ => undef

theorem Sow.nil {sz : Nat} : Sow sz .nil 0 [] := ⟨⟨by simp, fun _ => rfl, fun _ h => (by cases h), by omega⟩, fun _ _ h => (by cases h), fun _ h => (by cases h)⟩
theorem Sok.nil {sz : Nat} : Sok sz .nil 0 [] := Sow.nil.toSok
theorem Sok.is_at {sz n : Nat} {s : Shp} {c : List Value} (h : Sok sz s n c) (hn : 0 < n) : ∃ g, s = .mem g := by
  cases s with
  | mem g => exact ⟨g, rfl⟩
  | nil => have := h.far (fun _ e => by cases e); omega
  | wild a k => have := h.far (fun _ e => by cases e); omega
theorem Sok.is_at' {sz n k : Nat} {s : Shp} {c : List Value} (h : Sok sz s n c) (hk : k < c.length) : ∃ g, s = .mem g := by
  refine h.is_at ?_
  rcases Nat.eq_zero_or_pos n with rfl | hp
  · rw [h.len, Nat.zero_mul] at hk; omega
  · exact hp

/-- what stands where it is told -/
def held (s : Shp) (c : List Value) (w : World) : Prop := ∀ h, s = .mem h → w.heap[h.b]? = some (h.obj c)
/-- cells of a slice may be read -/
inductive RdS (L : List HProp) (κ : Ctx) (s : Shp) (c : List Value) : Prop
  | own (h : Has L (sl s c))
  | fr (h : ∀ g, s = .mem g → κ.frame g.b = some (g.obj c))
  | blk (h : ∀ g, s = .mem g → Rdb L κ g.b (g.obj c))
theorem RdS.held {L : List HProp} {κ : Ctx} {s : Shp} {c : List Value} (h : RdS L κ s c) {w : World} (hs : St L κ w) : held s c w := by
  intro g e
  subst e
  cases h with
  | own h => exact (Rdb.own h).heap hs
  | fr h => exact (Rdb.fr (h g rfl)).heap hs
  | blk h => exact (h g rfl).heap hs
theorem RdS.ro {L : List HProp} {κ : Ctx} {s : Shp} {c : List Value} (h : ∀ p ∈ ra s c, κ.frame p.1 = some p.2) : RdS L κ s c :=
  .fr fun g e => by subst e; exact h _ (List.mem_singleton.2 rfl)
theorem RdS.nil {L : List HProp} {κ : Ctx} {c : List Value} : RdS L κ .nil c := .fr fun g e => by cases e

theorem Rdbs.app {L : List HProp} {κ : Ctx} {l m : List (Nat × Obj)} (h : Rdbs L κ l) (k : Rdbs L κ m) : Rdbs L κ (l ++ m) := by
  induction h with
  | nil => exact k
  | cons h _ ih => exact .cons h ih
theorem Rdbs.sl {L : List HProp} {κ : Ctx} {s : Shp} {c : List Value} (h : RdS L κ s c) : Rdbs L κ (ra s c) := by
  cases s with
  | mem g =>
    refine .cons ?_ .nil
    cases h with
    | own h => exact .own h
    | fr h => exact .fr (h g rfl)
    | blk h => exact h g rfl
  | nil => exact .nil
  | wild a k => exact .nil
theorem Reads.app {l m : List (Nat × Obj)} {κ : Ctx} (h : Reads (l ++ m) κ) : Reads l κ ∧ Reads m κ :=
  ⟨fun p hp => h p (List.mem_append_left _ hp), fun p hp => h p (List.mem_append_right _ hp)⟩
theorem Reads.sl {s : Shp} {c : List Value} {κ : Ctx} {L : List HProp} (h : Reads (ra s c) κ) : RdS L κ s c := .ro h

/-! ### the program's types of slices -/
/-- element, its cells, its bytes -/
def slcF (P : Program) (t : TypeId) : Option (TypeId × Nat × Nat) :=
  match P.underlying t with
  | some (.slice e) => (P.info? e).map fun i => (e, i.size, i.bytes)
  | _ => none
theorem slcF_slcOf {P : Program} {t e sz by_ : Nat} (h : slcF P t = some (e, sz, by_)) : slcOf P t = some (e, sz) := by
  unfold slcF at h
  unfold slcOf
  split at h
  · rename_i e' hu
    try rw [hu]
    cases hi : P.info? e' with
    | none => rw [hi] at h; cases h
    | some i => rw [hi] at h; simp at h; obtain ⟨rfl, rfl, _⟩ := h; simp [hi]
  · cases h

section
variable {P : Program} {w : World}
theorem obj_cell {h : Sh} {c : List Value} (hw : w.heap[h.b]? = some (h.obj c)) (j : Nat) : w.cell? ⟨h.b, j, none⟩ = (h.pre ++ c ++ h.post)[j]? := by
  rw [cell_at hw]; simp
theorem obj_cell' {h : Sh} {c : List Value} (hw : w.heap[h.b]? = some (h.obj c)) {j : Nat} {v : Value} (hj : c[j]? = some v) : w.cell? ⟨h.b, h.pre.length + j, none⟩ = some v := by
  rw [obj_cell hw, List.append_assoc, List.getElem?_append_right (by omega), show h.pre.length + j - h.pre.length = j from by omega]
  rw [List.getElem?_append_left (List.getElem?_eq_some_iff.1 hj).1, hj]

theorem run_firstS {sz m : Nat} {s : Shp} {c : List Value} (ok : Sok sz s m c) (hw : held s c w) : (Builtin.firstCells sz m (sv s m)).run P w = .ok c.toArray w := by
  cases s with
  | mem h =>
    exact run_firstCells_some w sz m _ _ _ c ok.len fun j v hj => by rw [Addr.add_lit]; exact obj_cell' (hw h rfl) hj
  | nil =>
    have := ok.far (fun _ e => by cases e)
    subst this
    have := ok.len
    simp at this
    subst this
    exact run_firstCells_none w _ _ _ _
  | wild a k =>
    have := ok.far (fun _ e => by cases e)
    subst this
    have := ok.len
    simp at this
    subst this
    exact run_firstCells_some w sz 0 a _ _ [] (by simp) (by simp)

/-- cells of a list, one part put in -/
def putAt (c : List Value) (k : Nat) (vs : List Value) : List Value := c.take k ++ vs ++ c.drop (k + vs.length)
theorem spl_put : ∀ (vs c : List Value) (off : Nat), off + vs.length ≤ c.length → spl c.toArray off vs = (putAt c off vs).toArray := by
  intro vs
  induction vs with
  | nil => intro c off h; simp [spl, putAt]
  | cons v vs ih =>
    intro c off h
    simp only [List.length_cons] at h
    rw [spl, List.setIfInBounds_toArray, ih _ _ (by simp; omega)]
    congr 1
    unfold putAt
    rw [List.take_succ_eq_append_getElem (by simp; omega)]
    simp [List.take_set_of_le, List.drop_set_of_lt, show off + 1 + vs.length = off + (vs.length + 1) from by omega]
theorem putAt_pre (p c : List Value) (k : Nat) (vs : List Value) : putAt (p ++ c) (p.length + k) vs = p ++ putAt c k vs := by
  unfold putAt
  rw [List.take_length_add_append, show p.length + k + vs.length = p.length + (k + vs.length) from by omega, List.drop_length_add_append]
  simp
theorem putAt_post (c q : List Value) (k : Nat) (vs : List Value) (h : k + vs.length ≤ c.length) : putAt (c ++ q) k vs = putAt c k vs ++ q := by
  unfold putAt
  rw [List.take_append_of_le_length (by omega), List.drop_append_of_le_length h]
  simp
theorem putAt_len (c : List Value) (k : Nat) (vs : List Value) (h : k + vs.length ≤ c.length) : (putAt c k vs).length = c.length := by
  unfold putAt
  simp; omega
theorem putAt_end (c q : List Value) (vs : List Value) (h : vs.length ≤ q.length) : putAt (c ++ q) c.length vs = c ++ vs ++ q.drop vs.length := by
  have := putAt_pre c q 0 vs
  rw [Nat.add_zero] at this
  rw [this]
  simp [putAt]

/-! ### one more, or more, behind -/
theorem run_appS {t e ty sz by_ n m : Nat} {z : Value} {s s2 : Shp} {c c2 : List Value} (ht : slcF P t = some (e, sz, by_)) (hz : zeroV P e = some z)
    (ok : Sow sz s n c) (ok2 : Sok sz s2 m c2) (hw : held s c w) (hw2 : held s2 c2 w) (hl : n + m ≤ maxLen) (hb : (n + m) * by_ ≤ 140737488355328) (h1 : allOne c2 = true) :
    (∃ h w', s = .mem h ∧ n + m ≤ h.cap ∧ (Builtin.append_ #[t, t] ty #[sv s n, sv s2 m]).run P w = .ok (sv s (n + m)) w' ∧ w'.heap[h.b]? = some (.cells (spl (List.toArray (h.pre ++ c ++ h.post)) (h.pre.length + c.length) c2) h.T (0, 0)) ∧
      (∀ k, k ≠ h.b → w'.heap[k]? = w.heap[k]?) ∧ w'.os = w.os ∧ w'.tape = w.tape ∧ w'.output = w.output ∧ w'.heap.size = w.heap.size) ∨
    (s = .nil ∧ n + m = 0 ∧ (Builtin.append_ #[t, t] ty #[sv s n, sv s2 m]).run P w = .ok (sv .nil 0) w) ∨
    (∃ cap rest, n + m ≤ cap ∧ rest.length = (cap - (n + m)) * z.cells.size ∧ (Builtin.append_ #[t, t] ty #[sv s n, sv s2 m]).run P w = .ok (.slice (some ⟨w.heap.size, 0, none⟩) (n + m) cap) (w.drew.alloc (.cells (List.toArray (c ++ c2 ++ rest)) e))) := by
  have hu : P.underlying t = some (.slice e) ∧ ∃ i, P.info? e = some i ∧ i.size = sz ∧ i.bytes = by_ ∧ i.zero = some z := by
    unfold slcF at ht
    split at ht
    · rename_i e' hu
      cases hi : P.info? e' with
      | none => rw [hi] at ht; cases ht
      | some i =>
        rw [hi] at ht
        simp at ht
        obtain ⟨rfl, rfl, rfl⟩ := ht
        refine ⟨hu, i, hi, rfl, rfl, ?_⟩
        unfold zeroV at hz
        rw [hi] at hz
        exact hz
    · cases ht
  obtain ⟨hu, i, hi, rfl, rfl, hz⟩ := hu
  have hlen : Builtin.lenOf (sv s2 m) = pure m := by
    cases s2 with
    | mem h => rfl
    | nil => have := ok2.far (fun _ e => by cases e); subst this; rfl
    | wild a k => have := ok2.far (fun _ e => by cases e); subst this; rfl
  have hmx : n + m ≤ 9223372036854775807 := by simp only [maxLen] at hl; omega
  have grown : ∀ (cap0 : Nat) (base : Option Addr), sv s n = .slice base n cap0 → cap0 < n + m →
      (∃ cap rest, n + m ≤ cap ∧ rest.length = (cap - (n + m)) * z.cells.size ∧ (Builtin.append_ #[t, t] ty #[sv s n, sv s2 m]).run P w = .ok (.slice (some ⟨w.heap.size, 0, none⟩) (n + m) cap) (w.drew.alloc (.cells (List.toArray (c ++ c2 ++ rest)) e))) := by
    intro cap0 base hsv hlt
    have hf1 : (Builtin.firstCells i.size n (sv s n)).run P w.drew = .ok c.toArray w.drew := run_firstS ok.toSok (fun g e => hw g e)
    have hf2 : (Builtin.firstCells i.size m (sv s2 m)).run P w.drew = .ok c2.toArray w.drew := run_firstS ok2 (fun g e => hw2 g e)
    have hn : ¬ (n + m ≤ cap0) := by omega
    have h63' : ¬ (9223372036854775807 < ((n : Int) + (m : Int))) := by omega
    have h48' : ¬ (281474976710656 < Builtin.nextslicecap (n + m) cap0 * i.bytes) := by have := growslice_fits (bytes := i.bytes) hlt hb; omega
    refine ⟨grownCap w (n + m) cap0 e, (Builtin.zeroCells z.cells (grownCap w (n + m) cap0 e - (n + m))).toList, grownCap_ge w _ _ _, by simp [size_zeroCells], ?_⟩
    rw [hsv] at hf1 ⊢
    simp [Builtin.append_, run_underlying hu, sizeOf, typeInfo, zeroValue, hi, hz, hlen, hn, h63', h48', Question.forced, hf1, hf2, newRow, grownCap]
    congr 2
    apply Array.ext'
    simp [List.append_assoc]
  cases s with
  | wild a k => exact absurd rfl (ok.tame a k)
  | nil =>
    have hn := ok.far (fun _ e => by cases e)
    subst hn
    rcases Nat.eq_zero_or_pos m with rfl | hm
    · right; left
      have hf2 : (Builtin.firstCells i.size 0 (sv s2 0)).run P w = .ok c2.toArray w := run_firstS ok2 hw2
      refine ⟨rfl, rfl, ?_⟩
      rw [show sv .nil 0 = .slice none 0 0 from rfl]
      simp [Builtin.append_, run_underlying hu, sizeOf, typeInfo, hi, hlen, hf2]
    · right; right
      exact grown 0 none rfl (by omega)
  | mem h =>
    by_cases hr : n + m ≤ h.cap
    · left
      have hf2 : (Builtin.firstCells i.size m (sv s2 m)).run P w = .ok c2.toArray w := run_firstS ok2 hw2
      have hb := hw h rfl
      obtain ⟨hfr, hroom⟩ := ok.room h rfl
      have hlen2 := ok2.len
      have hlen1 := ok.len
      have hle : m * i.size ≤ h.post.length := Nat.le_trans (Nat.mul_le_mul_right _ (by omega)) hroom
      have hob : w.heap[h.b]? = some (.cells (List.toArray (h.pre ++ c ++ h.post)) h.T (0, 0)) := by rw [hb, Sh.obj, hfr]
      obtain ⟨w', q1, q2⟩ := run_storeCells (P := P) (h.pre.length + c.length) c2 0 _ w hob (by simp; omega) h1
      refine ⟨h, w', rfl, hr, ?_, by simpa using q2⟩
      have ea : (⟨h.b, h.pre.length, none⟩ : Addr).add (n * i.size) = ⟨h.b, h.pre.length + c.length, none⟩ := by rw [Addr.add_lit, hlen1]
      rw [show sv (.mem h) n = .slice (some ⟨h.b, h.pre.length, none⟩) n h.cap from rfl, show sv (.mem h) (n + m) = .slice (some ⟨h.b, h.pre.length, none⟩) (n + m) h.cap from rfl]
      simp [Builtin.append_, run_underlying hu, sizeOf, typeInfo, hi, hlen, hf2, hr, ea, q1]
    · right; right
      exact grown h.cap _ rfl (by omega)
end

section
variable {r : Option Nat} {P : Program} {Q : Exit → Act → World → Prop} {n : Nat} {D : List Deferred} {E : Env} {L M : List HProp} {κ : Ctx} {ops : Array Oper} {rest : List Oper}
variable {d : Nat} {dd : Option Tmp} {T : TypeId} {ps : String} {af : Array Edge} {gd : Option (Nat × Bool)}

/-- more behind a slice of one's own -/
theorem tl_append {t e sz by_ k m : Nat} {z : Value} {x y : Operand} {s s2 : Shp} {c c2 : List Value} (ht : slcF P t = some (e, sz, by_)) (hz : zeroV P e = some z) (hzs : z.cells.size = sz)
    (hx : E.ev x = some (sv s k)) (hy : E.ev y = some (sv s2 m)) (ok : Sow sz s k c) (ok2 : Sok sz s2 m c2) (h1 : allOne c2 = true) (hl : (k + m) * by_ ≤ 140737488355328 ∧ k + m ≤ 140737488355328) (hd : Nat.blt d n = true)
    (hr : Rem L (sl s c) M := by repeat (first | exact Rem.here | apply Rem.there)) (h2 : RdS L κ s2 c2 := by first | exact RdS.nil | assumption | exact Reads.sl (by assumption) | exact RdS.own (by repeat (first | exact Has.here | apply Has.there)))
    (kk : ∀ s', Sow sz s' (k + m) (c ++ c2) → TL r P ops Q rest n D ((d, sv s' (k + m)) :: E) (sl s' (c ++ c2) :: M) κ) :
    TL r P ops Q (⟨some d, .call { callee := .builtin .append, args := #[x, y], argTypes := #[t, t] }, T, ps, af, none⟩ :: rest) n D E L κ :=
  tl_run (by intro c h; cases h) fun a w f s0 => by
    have hlen : (c ++ c2).length = (k + m) * sz := by rw [List.length_append, ok.len, ok2.len, Nat.add_mul]
    have s1 := s0.rem hr
    have hw : held s c w := fun g e => by subst e; exact s1.pt_heap
    have hex : ∀ v w', (Builtin.append_ #[t, t] T #[sv s k, sv s2 m]).run P w = .ok v w' → (execOp a.eval ⟨some d, .call { callee := .builtin .append, args := #[x, y], argTypes := #[t, t] }, T, ps, af, none⟩).run P w = .ok (.value v) w' := by
      intro v w' h
      simp [execOp, resolve, invoke, builtin, f.ev hx, f.ev hy, h]
    have hmx : k + m ≤ maxLen := by have := hl.2; simp only [maxLen]; omega
    rcases run_appS (ty := T) ht hz ok ok2 hw (h2.held s0) hmx hl.1 h1 with ⟨h, w', rfl, hle, q, q1, q2, q3, q4, q5, q6⟩ | ⟨rfl, hz0, q⟩ | ⟨cap, rst, hle, hrst, q⟩
    · refine ⟨_, w', hex _ _ q, .inl ⟨_, rfl, ?_⟩⟩
      obtain ⟨hfr, hroom⟩ := ok.room h rfl
      have hl2 := ok2.len
      have hpl : c2.length ≤ h.post.length := by rw [hl2]; exact Nat.le_trans (Nat.mul_le_mul_right _ (by omega)) hroom
      have hsub : (h.cap - (k + m)) * sz ≤ h.post.length - c2.length := by
        rw [hl2, show h.cap - (k + m) = h.cap - k - m from by omega, Nat.sub_mul]; omega
      refine kk (.mem { h with post := h.post.drop c2.length }) ⟨⟨hlen, fun h => absurd rfl (h _), fun g e => (by cases e; exact hle), hl.2⟩, fun _ _ e => (by cases e), fun g e => by cases e; exact ⟨hfr, by simpa using hsub⟩⟩ _ _ (f.put hd _) ?_
      refine St.store (o' := Sh.obj { h with post := h.post.drop c2.length } (c ++ c2)) s1 ?_ q2 q3 q4 q5 q6
      rw [q1]
      unfold Sh.obj
      simp only [hfr]
      rw [spl_put _ _ _ (by simp; omega)]
      congr 3
      have e := putAt_end (h.pre ++ c) h.post c2 hpl
      rw [List.length_append] at e
      rw [e]
      simp [List.append_assoc]
    · refine ⟨_, w, hex _ _ q, .inl ⟨_, rfl, ?_⟩⟩
      have h0 : k = 0 ∧ m = 0 := by omega
      obtain ⟨rfl, rfl⟩ := h0
      have e1 := ok.len
      have e2 := ok2.len
      simp at e1 e2
      subst e1
      subst e2
      exact kk .nil Sow.nil _ _ (f.put hd _) s1.drop.emp_mk
    · refine ⟨_, _, hex _ _ q, .inl ⟨_, rfl, ?_⟩⟩
      refine kk (.mem ⟨w.heap.size, cap, [], rst, e, (0, 0)⟩) ⟨⟨hlen, fun h => absurd rfl (h _), fun g e => (by cases e; exact hle), hl.2⟩, fun _ _ e => (by cases e), fun g e => by cases e; exact ⟨rfl, by rw [hrst, hzs]; exact Nat.le_refl _⟩⟩ _ _ (f.put hd _) ?_
      exact (s1.drop.drew _).alloc _
end
end Go.Sz

namespace Go.Sz
open Go
attribute [local irreducible] pt lift exs own emp

/-! ### parts of slices -/
/-- so many cells from a place on, as a slice with a capacity -/
def cutS (c : List Value) (j m cap : Nat) : Shp → Shp
  | .mem g => .mem { g with pre := g.pre ++ c.take j, post := c.drop (j + m) ++ g.post, cap := cap }
  | s => s
def cutL (c : List Value) (j m : Nat) : List Value := (c.drop j).take m
theorem cut_eq {c : List Value} {j m : Nat} (h : j + m ≤ c.length) : putAt c j (cutL c j m) = c := by
  unfold putAt cutL
  have : ((c.drop j).take m).length = m := by simp; omega
  rw [this, ← List.drop_drop, List.append_assoc, List.take_append_drop, List.take_append_drop]
theorem cutL_len {c : List Value} {j m : Nat} (h : j + m ≤ c.length) : (cutL c j m).length = m := by unfold cutL; simp; omega
theorem sl_put {s : Shp} {c c' : List Value} {j m cap : Nat} (h : c'.length = m) : sl (cutS c j m cap s) c' = sl s (putAt c j c') := by
  cases s with
  | mem g => simp [cutS, sl, Sh.obj, putAt, List.append_assoc, h]
  | nil => rfl
  | wild a k => rfl
theorem sl_cut {s : Shp} {c : List Value} {j m cap : Nat} (h : j + m ≤ c.length) : sl (cutS c j m cap s) (cutL c j m) = sl s c := by
  rw [sl_put (cutL_len h), cut_eq h]
theorem RdS.cut {L : List HProp} {κ : Ctx} {s : Shp} {c : List Value} {j m cap : Nat} (h : j + m ≤ c.length) (hr : RdS L κ s c) : RdS L κ (cutS c j m cap s) (cutL c j m) := by
  cases s with
  | mem g =>
    have e : (Sh.obj { g with pre := g.pre ++ c.take j, post := c.drop (j + m) ++ g.post, cap := cap } (cutL c j m)) = g.obj c := by
      have := cut_eq h
      unfold putAt at this
      rw [cutL_len h] at this
      unfold Sh.obj
      simp only [List.append_assoc] at this ⊢
      rw [← List.append_assoc (cutL c j m), ← List.append_assoc (c.take j), this]
    refine .blk fun g' e' => ?_
    cases e'
    rw [e]
    cases hr with
    | own h => exact .own h
    | fr h => exact .fr (h g rfl)
    | blk h => exact h g rfl
  | nil => exact .fr fun g e => by cases e
  | wild a k => exact .fr fun g e => by cases e
/-- x[l:h] -/
def subS (sz : Nat) (c : List Value) (l h : Nat) : Shp → Shp
  | .mem g => bif Nat.beq g.cap l then .mem { g with post := c ++ g.post, cap := 0 } else cutS c (l * sz) ((h - l) * sz) (g.cap - l) (.mem g)
  | s => s
theorem subS_full {sz l h : Nat} {g : Sh} {c : List Value} (e : g.cap = l) : subS sz c l h (.mem g) = .mem { g with post := c ++ g.post, cap := 0 } := by
  show (bif Nat.beq g.cap l then _ else _) = _
  rw [e, beq_self]; rfl
theorem subS_cut {sz l h : Nat} {g : Sh} {c : List Value} (e : ¬ g.cap = l) : subS sz c l h (.mem g) = cutS c (l * sz) ((h - l) * sz) (g.cap - l) (.mem g) := by
  show (bif Nat.beq g.cap l then _ else _) = _
  rw [beq_ne e]; rfl
abbrev subL (sz : Nat) (c : List Value) (l h : Nat) : List Value := cutL c (l * sz) ((h - l) * sz)
theorem sub_le {sz n l h : Nat} {s : Shp} {c : List Value} (ok : Sok sz s n c) (h1 : l ≤ h) (h2 : h ≤ n) : l * sz + (h - l) * sz ≤ c.length := by
  rw [ok.len, ← Nat.add_mul]
  exact Nat.mul_le_mul_right _ (by omega)
theorem sub_len {sz n l h : Nat} {s : Shp} {c : List Value} (ok : Sok sz s n c) (h1 : l ≤ h) (h2 : h ≤ n) : (subL sz c l h).length = (h - l) * sz := cutL_len (sub_le ok h1 h2)
theorem sub_full {sz n l h : Nat} {g : Sh} {c : List Value} (ok : Sok sz (.mem g) n c) (h1 : l ≤ h) (h2 : h ≤ n) (e : g.cap = l) : subL sz c l h = [] := by
  have := ok.cap g rfl
  have e0 : h - l = 0 := by omega
  simp [cutL, e0]
theorem sl_sub {sz n l h : Nat} {s : Shp} {c : List Value} (ok : Sok sz s n c) (h1 : l ≤ h) (h2 : h ≤ n) : sl (subS sz c l h s) (subL sz c l h) = sl s c := by
  cases s with
  | mem g =>
    by_cases e : g.cap = l
    · rw [subS_full e, sub_full ok h1 h2 e]
      simp [sl, Sh.obj]
    · rw [subS_cut e]
      exact sl_cut (sub_le ok h1 h2)
  | nil => rfl
  | wild a k => rfl
theorem RdS.sub {L : List HProp} {κ : Ctx} {sz n l h : Nat} {s : Shp} {c : List Value} (ok : Sok sz s n c) (h1 : l ≤ h) (h2 : h ≤ n) (hr : RdS L κ s c) : RdS L κ (subS sz c l h s) (subL sz c l h) := by
  cases s with
  | mem g =>
    by_cases e : g.cap = l
    · rw [subS_full e, sub_full ok h1 h2 e]
      have e : (Sh.obj { g with post := c ++ g.post, cap := 0 } []) = g.obj c := by simp [Sh.obj]
      refine .blk fun g' e' => ?_
      cases e'
      rw [e]
      cases hr with
      | own h => exact .own h
      | fr h => exact .fr (h g rfl)
      | blk h => exact h g rfl
    · rw [subS_cut e]
      exact hr.cut (sub_le ok h1 h2)
  | nil => exact .fr fun g e => by cases e
  | wild a k => exact .fr fun g e => by cases e
theorem Sok.sub {sz n l h : Nat} {s : Shp} {c : List Value} (ok : Sok sz s n c) (h1 : l ≤ h) (h2 : h ≤ n) : Sok sz (subS sz c l h s) (h - l) (subL sz c l h) := by
  refine ⟨sub_len ok h1 h2, fun hn => ?_, fun g' e' => ?_, by have := ok.bnd; omega⟩
  · cases s with
    | mem g =>
      by_cases e : g.cap = l
      · rw [subS_full e] at hn; exact absurd rfl (hn _)
      · rw [subS_cut e] at hn; exact absurd rfl (hn _)
    | nil => have := ok.far (fun _ e => by cases e); omega
    | wild a k => have := ok.far (fun _ e => by cases e); omega
  · cases s with
    | mem g =>
      have := ok.cap g rfl
      by_cases e : g.cap = l
      · rw [subS_full e] at e'
        cases e'
        show h - l ≤ 0
        omega
      · rw [subS_cut e] at e'
        cases e'
        show h - l ≤ g.cap - l
        omega
    | nil => cases e'
    | wild a k => cases e'
theorem Sow.sub {sz n l h : Nat} {s : Shp} {c : List Value} (ok : Sow sz s n c) (h1 : l ≤ h) (h2 : h ≤ n) : Sow sz (subS sz c l h s) (h - l) (subL sz c l h) := by
  refine ⟨ok.toSok.sub h1 h2, fun a k e => ?_, fun g' e' => ?_⟩
  · cases s with
    | mem g =>
      by_cases e' : g.cap = l
      · rw [subS_full e'] at e; cases e
      · rw [subS_cut e'] at e; cases e
    | nil => cases e
    | wild a k => exact ok.tame a k rfl
  · cases s with
    | mem g =>
      obtain ⟨hf, hr⟩ := ok.room g rfl
      have hc := ok.cap g rfl
      by_cases e : g.cap = l
      · rw [subS_full e] at e'
        cases e'
        exact ⟨hf, by simp⟩
      · rw [subS_cut e] at e'
        cases e'
        refine ⟨hf, ?_⟩
        show (g.cap - l - (h - l)) * sz ≤ _
        have hl := ok.len
        have hle := sub_le ok.toSok h1 h2
        simp only [List.length_append, List.length_drop]
        rw [← Nat.add_mul, show l + (h - l) = h from by omega] at *
        rw [hl, ← Nat.sub_mul]
        have : g.cap - l - (h - l) = (n - h) + (g.cap - n) := by omega
        rw [this, Nat.add_mul]
        omega
    | nil => cases e'
    | wild a k => cases e'

inductive Bd (E : Env) (dflt : Nat) : Option Operand → Nat → Prop
  | no : Bd E dflt none dflt
  | yes {y : Operand} {k : IntKind} {i : Int} {l : Nat} (h : E.ev y = some (.int k i)) (e : i = (l : Int)) : Bd E dflt (some y) l

section
variable {r : Option Nat} {P : Program} {Q : Exit → Act → World → Prop} {n : Nat} {D : List Deferred} {E : Env} {L M : List HProp} {κ : Ctx} {ops : Array Oper} {rest : List Oper}
variable {d : Nat} {dd : Option Tmp} {T : TypeId} {ps : String} {af : Array Edge} {gd : Option (Nat × Bool)}

theorem slcF_run {t e sz by_ : Nat} (ht : slcF P t = some (e, sz, by_)) : P.underlying t = some (.slice e) ∧ ∃ i, P.info? e = some i ∧ i.size = sz ∧ i.bytes = by_ := by
  unfold slcF at ht
  split at ht
  · rename_i e' hu
    cases hi : P.info? e' with
    | none => rw [hi] at ht; cases ht
    | some i =>
      rw [hi] at ht
      simp at ht
      obtain ⟨rfl, rfl, rfl⟩ := ht
      exact ⟨hu, i, hi, rfl, rfl⟩
  · cases ht
theorem sv_slice {sz k : Nat} {s : Shp} {c : List Value} (ok : Sok sz s k c) : ∃ a cap, sv s k = .slice a k cap := by
  cases s with
  | mem g => exact ⟨_, _, rfl⟩
  | nil => have := ok.far (fun _ e => by cases e); subst this; exact ⟨_, _, rfl⟩
  | wild a k => have := ok.far (fun _ e => by cases e); subst this; exact ⟨_, _, rfl⟩

/-- how many there are -/
theorem pr_lenS {t e sz by_ k : Nat} {x : Operand} {s : Shp} {c : List Value} (ht : slcF P t = some (e, sz, by_)) (hx : E.ev x = some (sv s k)) (ok : Sok sz s k c := by first | assumption | exact Sow.toSok (by assumption) | exact Sok.nil | exact Sok.sub (by first | assumption | exact Sow.toSok (by assumption)) (by omega) (by omega)) :
    PR P (.call { callee := .builtin .len, args := #[x], argTypes := #[t] }) T n D E L κ (.int .i64 k) :=
  ⟨(fun _ h => by cases h), fun _ _ _ _ a w f s0 => by
    obtain ⟨hu, _⟩ := slcF_run ht
    obtain ⟨a0, cap, e⟩ := sv_slice ok
    simp [execOp, resolve, invoke, builtin, f.ev hx, e, Builtin.len_, run_underlying hu, goInt]⟩
theorem pr_lenStr {t : Nat} {x : Operand} {b : ByteArray} (ht : P.underlying t = some .string) (hx : E.ev x = some (.string b)) :
    PR P (.call { callee := .builtin .len, args := #[x], argTypes := #[t] }) T n D E L κ (.int .i64 b.size) :=
  ⟨(fun _ h => by cases h), fun _ _ _ _ a w f s0 => by
    simp [execOp, resolve, invoke, builtin, f.ev hx, Builtin.len_, run_underlying ht, goInt]⟩

theorem run_bound {v : Value} {k : IntKind} {l y : Nat} {code : BoundsCode} {w : World} (hv : v = .int k (l : Int)) (h : l ≤ y) : (Instr.sliceBound v y code).run P w = .ok l w := by
  subst hv
  simp [Instr.sliceBound, asIntOf, h]
theorem run_bounds {lo hi : Option Operand} {len cap l h : Nat} {isS : Bool} (hl : Bd E 0 lo l) (hh : Bd E len hi h) (h1 : l ≤ h) (h2 : h ≤ cap) {a : Act} {w : World} (f : Fits E n D a) :
    (Instr.sliceBounds isS len cap (lo.map a.eval) (hi.map a.eval) none).run P w = .ok (l, h, cap) w := by
  cases hl with
  | no =>
    cases hh with
    | no => simp [Instr.sliceBounds]
    | yes q e => subst e; simp [Instr.sliceBounds, f.ev q, run_bound rfl h2]
  | yes p e =>
    subst e
    cases hh with
    | no => simp [Instr.sliceBounds, f.ev p, run_bound rfl h1]
    | yes q e => subst e; simp [Instr.sliceBounds, f.ev p, f.ev q, run_bound rfl h2, run_bound rfl h1]

/-- a part of a slice -/
theorem pr_sliceS {t e sz by_ k l h : Nat} {x : Operand} {lo hi : Option Operand} {s : Shp} {c : List Value} (ht : slcF P t = some (e, sz, by_)) (hx : E.ev x = some (sv s k))
    (hl : Bd E 0 lo l) (hh : Bd E k hi h) (h1 : l ≤ h := by omega) (h2 : h ≤ k := by omega) (ok : Sok sz s k c := by first | assumption | exact Sow.toSok (by assumption) | exact Sok.nil | exact Sok.sub (by first | assumption | exact Sow.toSok (by assumption)) (by omega) (by omega)) : PR P (.slice t x lo hi none) T n D E L κ (sv (subS sz c l h s) (h - l)) :=
  ⟨(fun _ h => by cases h), fun _ _ _ _ a w f s0 => by
    obtain ⟨hu, i, hi', hz, _⟩ := slcF_run ht
    have hs : szOf P e = some sz := by simp [szOf, hi', hz]
    cases s with
    | mem g =>
      have hc := ok.cap g rfl
      have hb := run_bounds (P := P) (isS := true) (n := n) (D := D) hl hh h1 (Nat.le_trans h2 hc) (w := w) f
      have hlen := ok.len
      have hle : l * sz ≤ c.length := by have := sub_le ok h1 h2; omega
      simp only [execOp, f.ev hx, Instr.sliceAt, Instr.slice, sv, Sem.run_bind, run_underlying hu, Result.andThen_ok, Option.map_none, hb, run_sizeOf' hs, Sem.run_pure]
      by_cases e : g.cap = l
      · rw [subS_full e]
        simp [sv, e]
      · rw [subS_cut e]
        simp [cutS, sv, e, Addr.add_lit, Nat.min_eq_left hle]
    | nil =>
      have := ok.far (fun _ e => by cases e); subst this
      have h0 : h = 0 := by omega
      subst h0
      have l0 : l = 0 := by omega
      subst l0
      have hb := run_bounds (P := P) (isS := true) (n := n) (D := D) (cap := 0) hl hh h1 h2 (w := w) f
      simp [execOp, f.ev hx, Instr.sliceAt, Instr.slice, sv, run_underlying hu, hb, run_sizeOf' hs, subS]
    | wild a0 cap =>
      have := ok.far (fun _ e => by cases e); subst this
      have h0 : h = 0 := by omega
      subst h0
      have l0 : l = 0 := by omega
      subst l0
      have hb := run_bounds (P := P) (isS := true) (n := n) (D := D) (cap := cap) hl hh h1 (by omega) (w := w) f
      have ha : a0.add 0 = a0 := by unfold Addr.add; split <;> simp_all
      simp [execOp, f.ev hx, Instr.sliceAt, Instr.slice, sv, run_underlying hu, hb, run_sizeOf' hs, subS, ha]⟩

/-- a part of an array -/
theorem pr_sliceP {t len sz b o l h : Nat} {gg : Bool} {x : Operand} {lo hi : Option Operand} (g : Sh) (ht : arrOf P t = some (len, sz, gg)) (hx : E.ev x = some (ad b o))
    (hl : Bd E 0 lo l) (hh : Bd E len hi h) (h1 : l ≤ h) (h2 : h ≤ len) (h3 : l < len) (hb : g.b = b) (hp : g.pre.length = o + l * sz) (hc : g.cap = len - l) : PR P (.slice t x lo hi none) T n D E L κ (sv (.mem g) (h - l)) :=
  ⟨(fun _ h => by cases h), fun _ _ _ _ a w f s0 => by
    subst hb
    unfold arrOf at ht
    split at ht
    · rename_i len' e hu
      split at ht
      · rename_i i g' hi' hg
        simp at ht
        obtain ⟨rfl, rfl, rfl⟩ := ht
        have hs : szOf P e = some i.size := by simp [szOf, hi']
        have hb := run_bounds (P := P) (isS := false) (n := n) (D := D) hl hh h1 h2 (w := w) f
        have hne : ¬ (len' = l) := by omega
        simp [execOp, f.ev hx, Instr.sliceAt, Instr.sureAddr, ad, run_underlying hu, hb, run_sizeOf' hs, hne, sv, Addr.add_lit, hp, hc]
      · cases ht
    · cases ht⟩

/-! ### elements -/
def IsM (s : Shp) : Prop := ∃ g, s = .mem g
theorem Sok.isM {sz k : Nat} {s : Shp} {c : List Value} (h : Sok sz s k c) (hk : 0 < k) : IsM s := h.is_at hk
theorem pr_ixE {t e sz k : Nat} {x y : Operand} {s : Shp} {c : List Value} {kk : IntKind} {i : Int} (ht : slcOf P t = some (e, sz)) (hx : E.ev x = some (sv s k)) (hy : E.ev y = some (.int kk i)) (h0 : 0 ≤ i := by omega) (h1 : i < k := by omega) (ok : Sok sz s k c := by first | assumption | exact Sow.toSok (by assumption) | exact Sok.nil | exact Sok.sub (by first | assumption | exact Sow.toSok (by assumption)) (by omega) (by omega)) :
    PR P (.indexAddr t x y) T n D E L κ (ea s (i.toNat * sz)) := by
  obtain ⟨g, rfl⟩ := ok.is_at (by omega)
  exact pr_indexS ht hx hy h0 h1
theorem pr_faE {st fi off sz j : Nat} {g : Bool} {x : Operand} {s : Shp} (hf : fOff P st fi = some (off, sz, g)) (hx : E.ev x = some (ea s j)) (hm : IsM s := by first | assumption | exact ⟨_, rfl⟩ | exact Sok.isM (by first | assumption | exact Sow.toSok (by assumption)) (by omega)) : PR P (.fieldAddr st x fi) T n D E L κ (ea s (j + off)) := by
  obtain ⟨g, rfl⟩ := hm
  have := pr_fieldAddr (T := T) (n := n) (D := D) (L := L) (κ := κ) hf hx
  rwa [Nat.add_assoc] at this
theorem pr_ncE {x : Operand} {s : Shp} {j : Nat} (hx : E.ev x = some (ea s j)) (hm : IsM s := by first | assumption | exact ⟨_, rfl⟩ | exact Sok.isM (by first | assumption | exact Sow.toSok (by assumption)) (by omega)) : PR P (.nilCheck x) T n D E L κ (ea s j) := by
  obtain ⟨g, rfl⟩ := hm
  exact pr_nilCheck hx
theorem pr_ixAE {t len sz j : Nat} {g : Bool} {x y : Operand} {s : Shp} {kk : IntKind} {i : Int} (ht : arrOf P t = some (len, sz, g)) (hx : E.ev x = some (ea s j)) (hy : E.ev y = some (.int kk i)) (h0 : 0 ≤ i := by omega) (h1 : i < len := by omega) (hm : IsM s := by first | assumption | exact ⟨_, rfl⟩ | exact Sok.isM (by first | assumption | exact Sow.toSok (by assumption)) (by omega)) :
    PR P (.indexAddr t x y) T n D E L κ (ea s (j + i.toNat * sz)) := by
  obtain ⟨g, rfl⟩ := hm
  have := pr_indexA (T := T) (n := n) (D := D) (L := L) (κ := κ) ht hx hy h0 h1
  rwa [Nat.add_assoc] at this
theorem obj_get {g : Sh} {c : List Value} {j : Nat} (h : j < c.length) : (List.toArray (g.pre ++ c ++ g.post))[g.pre.length + j]? = c[j]? := by
  rw [List.getElem?_toArray, List.append_assoc, List.getElem?_append_right (by omega), show g.pre.length + j - g.pre.length = j from by omega, List.getElem?_append_left h]
theorem RdS.rdb {g : Sh} {c : List Value} (h : RdS L κ (.mem g) c) : Rdb L κ g.b (g.obj c) := by
  cases h with
  | own h => exact .own h
  | fr h => exact .fr (h g rfl)
  | blk h => exact h g rfl
theorem pr_ldE {t j : Nat} {x : Operand} {s : Shp} {c : List Value} {v : Value} (hg : aggB P t = some false) (hx : E.ev x = some (ea s j)) (hv : c[j]? = some v) (hm : IsM s := by first | assumption | exact ⟨_, rfl⟩ | exact Sok.isM (by first | assumption | exact Sow.toSok (by assumption)) (by omega)) (hr : RdS L κ s c := by first | exact RdS.nil | assumption | exact Reads.sl (by assumption) | exact RdS.own (by repeat (first | exact Has.here | apply Has.there))) : PR P (.load t x) T n D E L κ v := by
  obtain ⟨g, rfl⟩ := hm
  exact pr_load hg hx hr.rdb ((obj_get (List.getElem?_eq_some_iff.1 hv).1).trans hv)
theorem pr_ldEA {t j sz : Nat} {x : Operand} {s : Shp} {c m : List Value} (hg : aggB P t = some true) (hs : szOf P t = some sz) (hx : E.ev x = some (ea s j)) (hle : j + sz ≤ c.length) (hv : cutL c j sz = m) (hm : IsM s := by first | assumption | exact ⟨_, rfl⟩ | exact Sok.isM (by first | assumption | exact Sow.toSok (by assumption)) (by omega)) (hr : RdS L κ s c := by first | exact RdS.nil | assumption | exact Reads.sl (by assumption) | exact RdS.own (by repeat (first | exact Has.here | apply Has.there))) :
    PR P (.load t x) T n D E L κ (.agg (List.toArray m)) := by
  obtain ⟨g, rfl⟩ := hm
  subst hv
  have := pr_loadA (P := P) (T := T) (n := n) (D := D) hg hs hx hr.rdb (by simp; omega)
  have e : (List.toArray (g.pre ++ c ++ g.post)).extract (g.pre.length + j) (g.pre.length + j + sz) = List.toArray (cutL c j sz) := by
    apply Array.ext'
    rw [Array.toList_extract, List.extract_eq_take_drop]
    unfold cutL
    simp only [List.append_assoc]
    rw [show g.pre.length + j + sz - (g.pre.length + j) = sz from by omega, List.drop_length_add_append, List.drop_append_of_le_length (by omega), List.take_append_of_le_length (by simp; omega)]
  rwa [e] at this
theorem tl_stE {t j sz : Nat} {x y : Operand} {s : Shp} {c c' : List Value} {v : Value} (hs : szOf P t = some sz) (hx : E.ev x = some (ea s j)) (hy : E.ev y = some v) (hle : j + sz ≤ c.length) (hc : putAt c j v.cells.toList = c') (hf : ∀ g, s = .mem g → g.fr = (0, 0)) (hsz : v.cells.size = sz := by rfl) (h1 : allOne v.cells.toList = true := by rfl) (hm : IsM s := by first | assumption | exact ⟨_, rfl⟩ | exact Sok.isM (by first | assumption | exact Sow.toSok (by assumption)) (by omega))
    (hr : Rem L (sl s c) M := by repeat (first | exact Rem.here | apply Rem.there)) (k : TL r P ops Q rest n D E (sl s c' :: M) κ) : TL r P ops Q (⟨none, .store t x y, T, ps, af, none⟩ :: rest) n D E L κ := by
  subst hc
  obtain ⟨g, rfl⟩ := hm
  have hfr := hf g rfl
  cases g with
  | mk b cap pre post T0 fr =>
    subst hfr
    have hsz' : v.cells.toList.length = sz := by simpa using hsz
    refine tl_storeG hs hx hy hr hsz (by simp; omega) h1 ?_ k
    rw [spl_put _ _ _ (by simp; omega)]
    congr 1
    rw [List.append_assoc, putAt_pre, putAt_post _ _ _ _ (by omega), List.append_assoc]

/-! ### new ones -/
def flat (vs : List Value) : List Value := vs.flatMap fun v => v.cells.toList
def allSz (sz : Nat) : List Value → Bool
  | [] => true
  | v :: l => Nat.beq v.cells.size sz && allSz sz l
theorem flat_len {sz : Nat} : ∀ {vs : List Value}, allSz sz vs = true → (flat vs).length = vs.length * sz
  | [], _ => by simp [flat]
  | v :: l, h => by
    simp only [allSz, Bool.and_eq_true] at h
    have ih := flat_len h.2
    have e : v.cells.size = sz := Nat.eq_of_beq_eq_true h.1
    simp only [flat] at ih ⊢
    simp [ih, e, Nat.add_mul]; omega

theorem foldl_put (vs : List Value) (cs : Array Value) (off : Nat) (k : Nat) : (vs.zipIdx k).foldl (fun cs (c, j) => cs.setIfInBounds (off + j) c) cs = spl cs (off + k) vs := by
  induction vs generalizing cs k with
  | nil => simp [spl]
  | cons v vs ih =>
    simp only [List.zipIdx_cons, List.foldl_cons, spl]
    have := ih (cs.setIfInBounds (off + k) v) (k + 1)
    rw [Nat.add_assoc, ← this]

theorem fill_all {sz : Nat} : ∀ (vs : List Value) (k : Nat) (pre post : List Value), allSz sz vs = true → pre.length = k * sz → vs.length * sz = post.length →
    Instr.fill (fun i => some (i * sz, sz)) (pre ++ post).toArray ((List.range' k vs.length).zip vs) = some (pre ++ flat vs).toArray
  | [], k, pre, post, _, _, hp => by
    simp at hp
    have : post = [] := List.eq_nil_of_length_eq_zero hp.symm
    subst this
    simp [Instr.fill, flat]
  | v :: l, k, pre, post, h, hk, hp => by
    simp only [allSz, Bool.and_eq_true] at h
    have e : v.cells.size = sz := Nat.eq_of_beq_eq_true h.1
    have e' : v.cells.toList.length = sz := by simpa using e
    simp only [List.length_cons, List.range'_succ, List.zip_cons_cons, Instr.fill]
    simp only [List.length_cons, Nat.add_mul] at hp
    rw [if_neg (by simp [e]; omega)]
    have hz := foldl_put v.cells.toList (pre ++ post).toArray (k * sz) 0
    rw [Nat.add_zero, ← Array.toList_zipIdx, Array.foldl_toList] at hz
    have hzz : v.cells.zipIdx.foldl (fun cs (c, j) => cs.setIfInBounds (k * sz + j) c) (pre ++ post).toArray = (pre ++ v.cells.toList ++ post.drop sz).toArray := by
      rw [hz, spl_put _ _ _ (by simp [e]; omega)]
      have := putAt_end pre post v.cells.toList (by rw [e']; omega)
      rw [hk] at this
      rw [this, e']
    rw [hzz]
    have ih := fill_all l (k + 1) (pre ++ v.cells.toList) (post.drop sz) h.2 (by simp [hk, e, Nat.add_mul]) (by simp; omega)
    rw [ih]
    simp [flat, List.append_assoc]

/-- a literal -/
theorem tl_buildS {t e sz by_ len : Nat} {z : Value} {ws : List (Nat × Operand)} {vs c : List Value} (ht : slcF P t = some (e, sz, by_)) (hz : zeroV P e = some z) (hw : ws.map (·.1) = List.range' 0 len) (hv : Evs E (ws.map (·.2)) vs) (hn : vs.length = len)
    (hsz : allSz sz vs = true) (hc : flat vs = c) (hb : (Nat.ble (len * sz) 1024 && Nat.ble len 1024) = true) (hd : Nat.blt d n = true)
    (kk : ∀ s, Sow sz s len c → IsM s → TL r P ops Q rest n D ((d, sv s len) :: E) (sl s c :: L) κ) :
    TL r P ops Q (⟨some d, .buildSlice t len ws.toArray, T, ps, af, none⟩ :: rest) n D E L κ :=
  tl_run (by intro c h; cases h) fun a w f s0 => by
    obtain ⟨hu, i, hi, rfl, _⟩ := slcF_run ht
    have hs : szOf P e = some i.size := by simp [szOf, hi]
    simp only [Bool.and_eq_true] at hb
    have hlen : len * i.size ≤ 1024 := Nat.le_of_ble_eq_true hb.1
    have hlen2 : len ≤ 1024 := Nat.le_of_ble_eq_true hb.2
    have hvs : ws.map (fun p => (p.1, a.eval p.2)) = (List.range' 0 len).zip vs := by
      rw [← hw]
      clear hw hn hsz hc hb
      induction ws generalizing vs with
      | nil => simp
      | cons p ws ih =>
        cases hv with
        | cons h r => simp [f.ev h, ih r]
    subst hc
    have hfl := flat_len hsz
    refine ⟨.value (sv (.mem ⟨w.heap.size, len, [], [], e, (0, 0)⟩) len), w.alloc (.cells (flat vs).toArray e), ?_, .inl ⟨_, rfl, ?_⟩⟩
    · have hrun : (Instr.buildSlice t len (ws.toArray.map fun (i, x) => (i, a.eval x))).run P w = .ok (.slice (some ⟨w.heap.size, 0, none⟩) len len) (w.alloc (.cells (flat vs).toArray e)) := by
        have hfill : ∀ zs : Array Value, zs.size = len * i.size → Instr.fill (fun k => some (k * i.size, i.size)) zs ((List.range' 0 len).zip vs) = some (flat vs).toArray := by
          intro zs hzs
          have := fill_all (sz := i.size) vs 0 [] zs.toList hsz (by simp) (by simp [hn, hzs])
          simpa [hn] using this
        have h24 : ¬ (16777216 < len * i.size) := by omega
        simp only [List.map_toArray, hvs]
        unfold Instr.buildSlice
        simp only [Sem.run_bind, run_underlying hu, Result.andThen_ok, run_sizeOf' hs]
        by_cases h0 : len * i.size = 0
        · have := hfill ((Array.range 0).map (fun x => (#[] : Array Value)[x % 0]!)) (by simp [h0])
          simp [h0] at this ⊢
          simp [this, newRow]
        · have := hfill ((Array.range (len * i.size)).map (fun x => z.cells[x % z.cells.size]!)) (by simp)
          simp [h0, h24, run_zeroValue' hz, this, newRow]
      simp only [execOp, hrun, Sem.run_bind, Result.andThen_ok, Sem.run_pure]
      rfl
    · refine kk (.mem ⟨w.heap.size, len, [], [], e, (0, 0)⟩) ⟨⟨by rw [hfl, hn], fun h => absurd rfl (h _), fun g e => (by cases e; exact Nat.le_refl _), by omega⟩, fun _ _ e => (by cases e), fun g e => by cases e; exact ⟨rfl, by simp⟩⟩ ⟨_, rfl⟩ _ _ (f.put hd _) ?_
      have := s0.alloc (.cells (flat vs).toArray e)
      simpa [sl, Sh.obj] using this
end
end Go.Sz

namespace Go.Sz
open Go
attribute [local irreducible] pt lift exs own emp

section
variable {r : Option Nat} {P : Program} {Q : Exit → Act → World → Prop} {n : Nat} {D : List Deferred} {E : Env} {L M : List HProp} {κ : Ctx} {ops : Array Oper} {rest : List Oper}
variable {d : Nat} {dd : Option Tmp} {T : TypeId} {ps : String} {af : Array Edge} {gd : Option (Nat × Bool)}

/-! ### guards that are known -/
theorem tl_on {op : Op} {u : Value} {j dj : Nat} {fl : Bool} (hj : (ops[j]?).bind (·.dst) = some dj) (hu : E.get dj = some u) (hc : gtest u fl = true) (k : TL r P ops Q (⟨dd, op, T, ps, af, none⟩ :: rest) n D E L κ) :
    TL r P ops Q (⟨dd, op, T, ps, af, some (j, fl)⟩ :: rest) n D E L κ := fun a w f s => by
  have hw := wanted_slot (dd := dd) (T := T) (ps := ps) (af := af) (fl := fl) (op := op) hj hu f
  rw [hc] at hw
  have k' := k a w f s
  have hw' : Region.wanted (⟨dd, op, T, ps, af, none⟩ : Oper) (yielded ops a.tmps) = true := rfl
  change (if Region.wanted _ _ = true then _ else _) at k'
  rw [if_pos hw'] at k'
  show (if Region.wanted _ _ = true then _ else _)
  rw [if_pos hw]
  refine ⟨fun _ _ => trivial, ?_⟩
  have e1 : ((⟨dd, op, T, ps, af, some (j, fl)⟩ : Oper).semAt r a.eval) = ((⟨dd, op, T, ps, af, none⟩ : Oper).semAt r a.eval) := by
    cases r <;> cases op <;> rfl
  rw [e1]
  exact k'.2
theorem tl_off {op : Op} {u : Value} {j dj : Nat} {fl : Bool} (hj : (ops[j]?).bind (·.dst) = some dj) (hu : E.get dj = some u) (hc : gtest u fl = false) (hd : Nat.blt d n = true) (k : TL r P ops Q rest n D ((d, undef) :: E) L κ) :
    TL r P ops Q (⟨some d, op, T, ps, af, some (j, fl)⟩ :: rest) n D E L κ := fun a w f s => by
  have hw := wanted_slot (dd := some d) (T := T) (ps := ps) (af := af) (fl := fl) (op := op) hj hu f
  rw [hc] at hw
  exact wl_skip hw (k _ _ (f.put hd _) s)
theorem tl_off0 {op : Op} {u : Value} {j dj : Nat} {fl : Bool} (hj : (ops[j]?).bind (·.dst) = some dj) (hu : E.get dj = some u) (hc : gtest u fl = false) (k : TL r P ops Q rest n D E L κ) :
    TL r P ops Q (⟨none, op, T, ps, af, some (j, fl)⟩ :: rest) n D E L κ := fun a w f s => by
  have hw := wanted_slot (dd := none) (T := T) (ps := ps) (af := af) (fl := fl) (op := op) hj hu f
  rw [hc] at hw
  exact wl_skip hw (k _ _ f s)
theorem pr_pickT {x y z : Operand} {u : Value} (hx : E.ev x = some (.bool true)) (hy : E.ev y = some u) : PR P (.pick x y z) T n D E L κ u :=
  ⟨(fun _ h => by cases h), fun _ _ _ _ a w f s => by simp [execOp, f.ev hx, f.ev hy, asBool]⟩
theorem pr_pickF {x y z : Operand} {u : Value} (hx : E.ev x = some (.bool false)) (hz : E.ev z = some u) : PR P (.pick x y z) T n D E L κ u :=
  ⟨(fun _ h => by cases h), fun _ _ _ _ a w f s => by simp [execOp, f.ev hx, f.ev hz, asBool]⟩

/-! ### comparisons -/
theorem pr_eqlA {t yt : TypeId} {x y : Operand} {u v : Array Value} {b : Bool} (hm : P.eqGuardType P.depth t = false) (hx : E.ev x = some (.agg u)) (hy : E.ev y = some (.agg v)) (h : ∀ w : World, (Op.equalIn 10000 t (.agg u) (.agg v)).run P w = .ok b w) :
    PR P (.binOp .eql t x y yt) T n D E L κ (.bool b) :=
  ⟨(fun _ h => by cases h), fun _ _ _ _ a w f s => by
    simp only [execOp, f.ev hx, f.ev hy, Sem.run_bind, run_eqGuard_agg w .eql t x y u v hm, Result.andThen_ok, run_eql_struct, h, Sem.run_pure]⟩
theorem pr_neqA {t yt : TypeId} {x y : Operand} {u v : Array Value} {b : Bool} (hm : P.eqGuardType P.depth t = false) (hx : E.ev x = some (.agg u)) (hy : E.ev y = some (.agg v)) (h : ∀ w : World, (Op.equalIn 10000 t (.agg u) (.agg v)).run P w = .ok b w) :
    PR P (.binOp .neq t x y yt) T n D E L κ (.bool (!b)) :=
  ⟨(fun _ h => by cases h), fun _ _ _ _ a w f s => by
    simp only [execOp, f.ev hx, f.ev hy, Sem.run_bind, run_eqGuard_agg w .neq t x y u v hm, Result.andThen_ok, run_neq_struct, h, Sem.run_pure]⟩
def isNil : Value → Bool
  | .pointer none => true
  | _ => false
theorem run_equal_nil {t e : TypeId} {u : Value} (ht : P.underlying t = some (.pointer e)) (hu : u = .pointer none ∨ ∃ a, u = .pointer (some a)) {w : World} : (Op.equal t u (.pointer none)).run P w = .ok (isNil u) w := by
  unfold Op.equal
  show (Op.equalIn (9999 + 1) t u (.pointer none)).run P w = _
  unfold Op.equalIn
  rw [Sem.run_bind, run_underlying ht]
  rcases hu with rfl | ⟨a, rfl⟩ <;> rfl
/-- a pointer, compared with nil -/
theorem pr_eqlP {t yt e : TypeId} {x : Operand} {u : Value} (ht : P.underlying t = some (.pointer e)) (hx : E.ev x = some u) (hu : u = .pointer none ∨ ∃ a, u = .pointer (some a)) :
    PR P (.binOp .eql t x (.const (.pointer none)) yt) T n D E L κ (.bool (isNil u)) :=
  ⟨(fun _ h => by cases h), fun _ _ _ _ a w f s => by
    have h := run_equal_nil (P := P) ht hu (w := w)
    have hy : a.eval (.const (.pointer none)) = .pointer none := rfl
    rcases hu with rfl | ⟨b, rfl⟩ <;> simp [execOp, f.ev hx, hy, eqGuard, binOp, h]⟩
theorem pr_neqP {t yt e : TypeId} {x : Operand} {u : Value} (ht : P.underlying t = some (.pointer e)) (hx : E.ev x = some u) (hu : u = .pointer none ∨ ∃ a, u = .pointer (some a)) :
    PR P (.binOp .neq t x (.const (.pointer none)) yt) T n D E L κ (.bool (!isNil u)) :=
  ⟨(fun _ h => by cases h), fun _ _ _ _ a w f s => by
    have h := run_equal_nil (P := P) ht hu (w := w)
    have hy : a.eval (.const (.pointer none)) = .pointer none := rfl
    rcases hu with rfl | ⟨b, rfl⟩ <;> simp [execOp, f.ev hx, hy, eqGuard, binOp, h]⟩
/-- texts -/
theorem pr_eqlStr {t yt : TypeId} {x y : Operand} {u v : ByteArray} (hx : E.ev x = some (.string u)) (hy : E.ev y = some (.string v)) : PR P (.binOp .eql t x y yt) T n D E L κ (.bool (u == v)) :=
  ⟨(fun _ h => by cases h), fun _ _ _ _ a w f s => by simp [execOp, f.ev hx, f.ev hy, eqGuard, binOp, Op.stringOp, beq_toListBytes]⟩
theorem pr_neqStr {t yt : TypeId} {x y : Operand} {u v : ByteArray} (hx : E.ev x = some (.string u)) (hy : E.ev y = some (.string v)) : PR P (.binOp .neq t x y yt) T n D E L κ (.bool (u != v)) :=
  ⟨(fun _ h => by cases h), fun _ _ _ _ a w f s => by simp [execOp, f.ev hx, f.ev hy, eqGuard, binOp, Op.stringOp, bne, beq_toListBytes]⟩
/-- slices, compared with nil -/
def isNilS : Shp → Bool
  | .nil => true
  | _ => false
theorem pr_indexStr {t : TypeId} {x y : Operand} {u : ByteArray} {k : IntKind} {i : Nat} {b : UInt8} (ht : P.underlying t = some .string) (hx : E.ev x = some (.string u)) (hy : E.ev y = some (.int k (i : Int))) (hb : u[i]? = some b) : PR P (.index t x y) T n D E L κ (.int .u8 b.toNat) :=
  ⟨(fun _ h => by cases h), fun _ _ _ _ a w f s => by simp [execOp, f.ev hx, f.ev hy, Instr.index, asIntOf, run_underlying ht, hb]⟩

/-! ### bits -/
section
variable {t yt : TypeId} {x y : Operand} {k : IntKind} {i j : Int}
def bAnd (k : IntKind) (i j : Int) : Int := k.wrap ((BitVec.ofInt k.bits i &&& BitVec.ofInt k.bits j).toNat)
def bOr (k : IntKind) (i j : Int) : Int := k.wrap ((BitVec.ofInt k.bits i ||| BitVec.ofInt k.bits j).toNat)
def bXor (k : IntKind) (i j : Int) : Int := k.wrap ((BitVec.ofInt k.bits i ^^^ BitVec.ofInt k.bits j).toNat)
def bAndNot (k : IntKind) (i j : Int) : Int := k.wrap ((BitVec.ofInt k.bits i &&& ~~~BitVec.ofInt k.bits j).toNat)
theorem pr_bAnd (hx : E.ev x = some (.int k i)) (hy : E.ev y = some (.int k j)) : PR P (.binOp .and t x y yt) T n D E L κ (.int k (bAnd k i j)) := pr_bits hx hy (by simp) fun P w => rfl
theorem pr_bOr (hx : E.ev x = some (.int k i)) (hy : E.ev y = some (.int k j)) : PR P (.binOp .or t x y yt) T n D E L κ (.int k (bOr k i j)) := pr_bits hx hy (by simp) fun P w => rfl
theorem pr_bXor (hx : E.ev x = some (.int k i)) (hy : E.ev y = some (.int k j)) : PR P (.binOp .xor t x y yt) T n D E L κ (.int k (bXor k i j)) := pr_bits hx hy (by simp) fun P w => rfl
theorem pr_bAndNot (hx : E.ev x = some (.int k i)) (hy : E.ev y = some (.int k j)) : PR P (.binOp .andNot t x y yt) T n D E L κ (.int k (bAndNot k i j)) := pr_bits hx hy (by simp) fun P w => rfl
theorem pr_min {ts : Array TypeId} (hx : E.ev x = some (.int k i)) (hy : E.ev y = some (.int k j)) : PR P (.call { callee := .builtin .min, args := #[x, y], argTypes := ts }) T n D E L κ (.int k (min i j)) :=
  ⟨(fun _ h => by cases h), fun _ _ _ _ a w f s => by
    have : (if j < i then j else i) = min i j := by omega
    simp [execOp, resolve, invoke, builtin, f.ev hx, f.ev hy, Builtin.min_, Builtin.min2, this]⟩
theorem pr_max {ts : Array TypeId} (hx : E.ev x = some (.int k i)) (hy : E.ev y = some (.int k j)) : PR P (.call { callee := .builtin .max, args := #[x, y], argTypes := ts }) T n D E L κ (.int k (max i j)) :=
  ⟨(fun _ h => by cases h), fun _ _ _ _ a w f s => by
    have : (if i < j then j else i) = max i j := by omega
    simp [execOp, resolve, invoke, builtin, f.ev hx, f.ev hy, Builtin.max_, Builtin.max2, this]⟩
end

/-! ### new slices, copies -/
theorem tl_make {t e sz by_ k : Nat} {z : Value} {c : List Value} {x y : Operand} {kl kc : IntKind} (ht : slcF P t = some (e, sz, by_)) (hz : zeroV P e = some z) (hx : E.ev x = some (.int kl (k : Int))) (hy : E.ev y = some (.int kc (k : Int)))
    (hb : by_ * k ≤ 281474976710656 ∧ k ≤ 140737488355328) (hc : (madeCells z.cells (k * sz)).toList = c) (hd : Nat.blt d n = true)
    (kk : ∀ s, Sow sz s k c → IsM s → TL r P ops Q rest n D ((d, sv s k) :: E) (sl s c :: L) κ) :
    TL r P ops Q (⟨some d, .makeSlice t x y, T, ps, af, none⟩ :: rest) n D E L κ :=
  tl_run (by intro c h; cases h) fun a w f s0 => by
    obtain ⟨hu, i, hi, rfl, rfl⟩ := slcF_run ht
    have hz' : i.zero = some z := by
      unfold zeroV at hz
      rw [hi] at hz
      exact hz
    have hbi : (i.bytes : Int) * (k : Int) ≤ 281474976710656 := by
      have h : ((i.bytes * k : Nat) : Int) ≤ 281474976710656 := by omega
      rwa [Int.natCast_mul] at h
    have hrun := run_make (P := P) w t e i z hu hi hz' kl kc (k : Int) (k : Int) (by omega) (by omega) hbi (by omega)
    simp only [Int.toNat_natCast] at hrun
    subst hc
    have hl : (madeCells z.cells (k * i.size)).toList.length = k * i.size := by simp [size_madeCells]
    refine ⟨.value (sv (.mem ⟨w.heap.size, k, [], [], e, (0, 0)⟩) k), w.alloc (.cells (madeCells z.cells (k * i.size)) e), by simp [execOp, f.ev hx, f.ev hy, hrun, sv], .inl ⟨_, rfl, ?_⟩⟩
    refine kk (.mem ⟨w.heap.size, k, [], [], e, (0, 0)⟩) ⟨⟨hl, fun h => absurd rfl (h _), fun g e => (by cases e; exact Nat.le_refl _), by omega⟩, fun _ _ e => (by cases e), fun g e => by cases e; exact ⟨rfl, by simp⟩⟩ ⟨_, rfl⟩ _ _ (f.put hd _) ?_
    have := s0.alloc (.cells (madeCells z.cells (k * i.size)) e)
    simpa [sl, Sh.obj] using this

theorem take_held {s : Shp} {c : List Value} {w : World} {sz k m : Nat} (ok : Sok sz s k c) (hm : m ≤ k) (hw : held s c w) : (Builtin.firstCells sz m (sv s k)).run P w = .ok (c.take (m * sz)).toArray w := by
  cases s with
  | mem h =>
    refine run_firstCells_some w sz m _ _ _ _ ?_ fun j v hj => ?_
    · have := ok.len
      have := Nat.mul_le_mul_right sz hm
      simp; omega
    · rw [Addr.add_lit]
      refine obj_cell' (hw h rfl) ?_
      have hlt : j < m * sz := by have := (List.getElem?_eq_some_iff.1 hj).1; simp at this; omega
      rwa [List.getElem?_take_of_lt hlt] at hj
  | nil =>
    have := ok.far (fun _ e => by cases e)
    subst this
    have hm0 : m = 0 := by omega
    subst hm0
    rw [show sv .nil 0 = .slice none 0 0 from rfl]
    simpa using run_firstCells_none (P := P) w sz 0 0 0
  | wild a k' =>
    have := ok.far (fun _ e => by cases e)
    subst this
    have hm0 : m = 0 := by omega
    subst hm0
    rw [show sv (.wild a k') 0 = .slice (some a) 0 k' from rfl]
    simpa using run_firstCells_some (P := P) w sz 0 a 0 k' [] (by simp) (by simp)

theorem lenOf_sv {sz k : Nat} {s : Shp} {c : List Value} (ok : Sok sz s k c) : Builtin.lenOf (sv s k) = pure k := by
  obtain ⟨a, cap, e⟩ := sv_slice ok
  rw [e]; rfl

theorem tl_copyG {t t2 e sz by_ k m q : Nat} {x y : Operand} {s s2 : Shp} {c c2 : List Value} (ht : slcF P t = some (e, sz, by_)) (hx : E.ev x = some (sv s k)) (hy : E.ev y = some (sv s2 m)) (ok : Sok sz s k c) (ok2 : Sok sz s2 m c2)
    (hq : q = min m k) (h1 : allOne c2 = true) (hf : ∀ g, s = .mem g → g.fr = (0, 0)) (hd : ∀ d, dd = some d → Nat.blt d n = true) (hr : Rem L (sl s c) M) (h2 : RdS L κ s2 c2)
    (kk : ∀ a w, Fits E n D a → St (sl s (putAt c 0 (c2.take (q * sz))) :: M) κ w → wpListIn (Fc r) 0 P ops Q rest (a.put dd (.int .i64 q)) w) :
    TL r P ops Q (⟨dd, .call { callee := .builtin .copy, args := #[x, y], argTypes := #[t, t2] }, T, ps, af, none⟩ :: rest) n D E L κ :=
  tl_run (by intro c h; cases h) fun a w f s0 => by
    obtain ⟨hu, i, hi, rfl, _⟩ := slcF_run ht
    have hs : szOf P e = some i.size := by simp [szOf, hi]
    have s1 := s0.rem hr
    have hq1 : q ≤ m := by omega
    have hq2 : q ≤ k := by omega
    have hfc := take_held (P := P) ok2 hq1 (h2.held s0)
    have hlen : (c2.take (q * i.size)).length = q * i.size := by
      have := ok2.len
      have := Nat.mul_le_mul_right i.size hq1
      simp; omega
    have hmin : Nat.min m k = q := by rw [hq]
    cases s with
    | mem h =>
      have hfr := hf h rfl
      have hb : w.heap[h.b]? = some (.cells (List.toArray (h.pre ++ c ++ h.post)) h.T (0, 0)) := by
        have := s1.pt_heap
        rw [this, Sh.obj, hfr]
      have hle : q * i.size ≤ c.length := by rw [ok.len]; exact Nat.mul_le_mul_right _ hq2
      have ht1 : allOne (c2.take (q * i.size)) = true := allOne_iff.2 fun v hv => allOne_iff.1 h1 v (List.mem_of_mem_take hv)
      obtain ⟨w', q1, q2, q3, q4, q5, q6, q7⟩ := run_storeCells (P := P) h.pre.length (c2.take (q * i.size)) 0 _ w hb (by simp only [Nat.add_zero, hlen, List.size_toArray, List.length_append]; omega) ht1
      refine ⟨.value (.int .i64 q), w', ?_, .inl ⟨_, rfl, ?_⟩⟩
      · have e1 : sv (.mem h) k = .slice (some ⟨h.b, h.pre.length, none⟩) k h.cap := rfl
        have hl2 := lenOf_sv ok2
        simp [execOp, resolve, invoke, builtin, f.ev hx, f.ev hy, Builtin.copy_, e1, run_underlying hu, hl2, hmin, run_sizeOf' hs, hfc, q1, goInt]
      · refine kk _ _ f (s1.store (o' := h.obj _) ?_ q3 q4 q5 q6 q7)
        rw [q2]
        unfold Sh.obj
        rw [hfr, Nat.add_zero, spl_put _ _ _ (by rw [hlen]; simp; omega)]
        congr 3
        have := putAt_pre h.pre (c ++ h.post) 0 (c2.take (q * i.size))
        rw [Nat.add_zero] at this
        rw [List.append_assoc, this, putAt_post _ _ _ _ (by rw [hlen]; omega), List.append_assoc]
    | nil =>
      have := ok.far (fun _ e => by cases e)
      subst this
      have q0 : q = 0 := by omega
      subst q0
      have e0 := ok.len
      simp at e0
      subst e0
      have hl2 := lenOf_sv ok2
      refine ⟨.value (.int .i64 0), w, ?_, .inl ⟨_, rfl, ?_⟩⟩
      · have e1 : sv .nil 0 = .slice none 0 0 := rfl
        simp [execOp, resolve, invoke, builtin, f.ev hx, f.ev hy, Builtin.copy_, e1, run_underlying hu, hl2, hmin, run_sizeOf' hs, hfc, goInt]
      · have := kk _ _ f (by simpa [putAt] using s1)
        simpa using this
    | wild a0 k' =>
      have := ok.far (fun _ e => by cases e)
      subst this
      have q0 : q = 0 := by omega
      subst q0
      have e0 := ok.len
      simp at e0
      subst e0
      have hl2 := lenOf_sv ok2
      refine ⟨.value (.int .i64 0), w, ?_, .inl ⟨_, rfl, ?_⟩⟩
      · have e1 : sv (.wild a0 k') 0 = .slice (some a0) 0 k' := rfl
        simp at hfc
        simp [execOp, resolve, invoke, builtin, f.ev hx, f.ev hy, Builtin.copy_, e1, run_underlying hu, hl2, hmin, run_sizeOf' hs, hfc, goInt, storeCells]
      · have := kk _ _ f (by simpa [putAt] using s1)
        simpa using this

/-- a slice's cells, as an array's -/
theorem pr_arrayAt {t len sz k : Nat} {gg : Bool} {sz' : Nat} {x : Operand} {s : Shp} {c : List Value} (ht : arrOf P t = some (len, sz, gg)) (hx : E.ev x = some (sv s k)) (ok : Sok sz' s k c) (hl : len ≤ k) (hm : IsM s) : PR P (.sliceToArrayPointer t x) T n D E L κ (ea s 0) :=
  ⟨(fun _ h => by cases h), fun _ _ _ _ a w f s0 => by
    obtain ⟨g, rfl⟩ := hm
    unfold arrOf at ht
    split at ht
    · rename_i len' e hu
      split at ht
      · rename_i i g' hi' hg
        simp at ht
        obtain ⟨rfl, rfl, rfl⟩ := ht
        have : ¬ (k < len') := by omega
        simp [execOp, f.ev hx, Instr.arrayAt, sv, run_underlying hu, this, ea, ad]
      · cases ht
    · cases ht⟩

/-! ### maps of numbers -/
def mapE : Nat → List (Int × Value) → List MapEntry
  | _, [] => []
  | b, (k, v) :: l => { key := .int .i64 k, val := v, born := b } :: mapE (b + 1) l
def mapO (l : List (Int × Value)) : Obj := .map (mapE 0 l).toArray l.length
def mapIx (k : Int) : Nat → List (Int × Value) → Option (Nat × Value)
  | _, [] => none
  | i, (q, v) :: l => if k = q then some (i, v) else mapIx k (i + 1) l
def mapGet (k : Int) : List (Int × Value) → Option Value
  | [] => none
  | (q, v) :: l => if k = q then some v else mapGet k l
theorem mapE_app : ∀ (b : Nat) (l m : List (Int × Value)), mapE b (l ++ m) = mapE b l ++ mapE (b + l.length) m
  | b, [], m => rfl
  | b, (k, v) :: l, m => by
    show _ :: mapE (b + 1) (l ++ m) = _
    rw [mapE_app, List.length_cons, show b + 1 + l.length = b + (l.length + 1) from by omega]
    rfl
theorem findNow_map {k : Int} {kind : IntKind} : ∀ (l : List (Int × Value)) (b i : Nat), Instr.findNow (.int kind) (.int .i64 k) (mapE b l) i = some (mapIx k i l)
  | [], _, _ => rfl
  | (q, v) :: l, b, i => by
    simp only [mapE, Instr.findNow, Instr.sameNow, mapIx]
    by_cases h : k = q
    · simp [h]
    · have hb : (k == q) = false := by simpa using h
      simp [h, hb, findNow_map l]
theorem mapIx_get {k : Int} : ∀ (l : List (Int × Value)) (i : Nat), (mapIx k i l).map (·.2) = mapGet k l
  | [], _ => rfl
  | (q, v) :: l, i => by
    simp only [mapIx, mapGet]
    split
    · rfl
    · exact mapIx_get l _

theorem tl_makeMap {t : TypeId} (hd : Nat.blt d n = true) (k : ∀ b, TL r P ops Q rest n D ((d, .map (some b)) :: E) (pt b (mapO []) :: L) κ) :
    TL r P ops Q (⟨some d, .makeMap t none, T, ps, af, none⟩ :: rest) n D E L κ :=
  tl_run (by intro c h; cases h) fun a w f s => ⟨_, w.alloc (mapO []), by simp [execOp, Instr.makeMap, newObj, Sem.run]; rfl, .inl ⟨_, rfl, k _ _ _ (f.put hd _) (s.alloc _)⟩⟩
def mapT (P : Program) (t : TypeId) : Option (TypeId × TypeId × IntKind) :=
  match P.underlying t with
  | some (.map k e) => match P.underlying k with
    | some (.int kk) => some (k, e, kk)
    | _ => none
  | _ => none
theorem run_checkKey {e : Bool} {t : TypeId} {kk k : IntKind} {i : Int} {w : World} (ht : P.underlying t = some (.int kk)) : (Instr.checkKey e 10000 t (.int k i)).run P w = .ok () w := by
  show (Instr.checkKey e (9999 + 1) t (.int k i)).run P w = _
  unfold Instr.checkKey
  simp [run_underlying ht]
theorem tl_insert {t kt et b : Nat} {kk : IntKind} {l : List (Int × Value)} {x y z : Operand} {k : Int} {v : Value} (ht : mapT P t = some (kt, et, kk)) (hx : E.ev x = some (.map (some b))) (hy : E.ev y = some (.int .i64 k)) (hz : E.ev z = some v)
    (hn : mapGet k l = none) (hr : Rem L (pt b (mapO l)) M := by repeat (first | exact Rem.here | apply Rem.there))
    (kc : TL r P ops Q rest n D E (pt b (mapO (l ++ [(k, v)])) :: M) κ) : TL r P ops Q (⟨none, .insert t x y z, T, ps, af, none⟩ :: rest) n D E L κ :=
  tl_run (by intro c h; cases h) fun a w f s0 => by
    unfold mapT at ht
    split at ht
    · rename_i k' e' hu
      split at ht
      · rename_i kk' hk
        simp at ht
        obtain ⟨rfl, rfl, rfl⟩ := ht
        have s1 := s0.rem hr
        have hb := s1.pt_heap
        have hix : mapIx k 0 l = none := by
          have := mapIx_get (k := k) l 0
          rw [hn] at this
          cases e : mapIx k 0 l with
          | none => rfl
          | some p => rw [e] at this; cases this
        have hfk : (Instr.findKey k' (.int .i64 k) (mapE 0 l)).run P w = .ok none w := by
          unfold Instr.findKey
          simp [run_underlying hk, findNow_map, hix]
        have hg : (getObj b).run P w = .ok (mapO l) w := by simp [getObj, Sem.run, hb, mapO]
        have hrun : (Instr.mapUpdate t (.map (some b)) (.int .i64 k) v).run P w = .ok () { w with heap := w.heap.setIfInBounds b (mapO (l ++ [(k, v)])) } := by
          have e : mapO (l ++ [(k, v)]) = .map ((mapE 0 l).toArray.push { key := .int .i64 k, val := v, born := l.length }) (l.length + 1) := by
            unfold mapO
            rw [mapE_app]
            simp [mapE]
          unfold Instr.mapUpdate
          rw [e]
          clear e
          have hg' := hg
          unfold mapO at hg'
          simp only [Sem.run_bind, run_underlying hu, Result.andThen_ok, hg', run_checkKey hk, hfk]
          simp [setObj, Sem.run, hb, mapO]
        refine ⟨.skip, { w with heap := w.heap.setIfInBounds b (mapO (l ++ [(k, v)])) }, by simp [execOp, f.ev hx, f.ev hy, f.ev hz, hrun], .inr ⟨rfl, ?_⟩⟩
        refine kc _ _ f (s1.set ⟨s1.1.os, s1.1.tape, s1.1.output, by simpa using s1.1.size⟩ ?_ ?_)
        · have hlt : b < w.heap.size := (Array.getElem?_eq_some_iff.1 hb).1
          simp [hlt]
        · intro c hc
          simp [Array.getElem?_setIfInBounds_ne (Ne.symm hc)]
      · cases ht
    · cases ht
theorem pr_lookup2 {t kt et b : Nat} {kk : IntKind} {l : List (Int × Value)} {x y : Operand} {k : Int} {z : Value} (ht : mapT P t = some (kt, et, kk)) (hz : zeroV P et = some z) (hx : E.ev x = some (.map (some b))) (hy : E.ev y = some (.int .i64 k))
    (hr : Rdb L κ b (mapO l) := by first | exact Rdb.fr (by assumption) | exact Rdb.own (by repeat (first | exact Has.here | apply Has.there))) :
    PR P (.lookup t x y true) T n D E L κ (.tuple #[(mapGet k l).getD z, .bool (mapGet k l).isSome]) ∧ PR P (.lookup t x y false) T n D E L κ ((mapGet k l).getD z) := by
  have key : ∀ (c : Bool) a w, Fits E n D a → St L κ w → (Instr.lookup t (a.eval x) (a.eval y) c).run P w = .ok (bif c then .tuple #[(mapGet k l).getD z, .bool (mapGet k l).isSome] else (mapGet k l).getD z) w := by
    intro c a w f s0
    unfold mapT at ht
    split at ht
    · rename_i k' e' hu
      split at ht
      · rename_i kk' hk
        simp at ht
        obtain ⟨rfl, rfl, rfl⟩ := ht
        have hb := hr.heap s0
        have hg : (getObj b).run P w = .ok (mapO l) w := by simp [getObj, Sem.run, hb, mapO]
        have hfk : (Instr.findKey k' (.int .i64 k) (mapE 0 l)).run P w = .ok (mapIx k 0 l) w := by
          unfold Instr.findKey
          simp [run_underlying hk, findNow_map]
        have hget := mapIx_get (k := k) l 0
        unfold Instr.lookup
        rw [f.ev hx, f.ev hy]
        unfold mapO at hg
        simp only [Sem.run_bind, run_underlying hu, Result.andThen_ok, hg, Sem.run_pure, run_checkKey hk, hfk]
        cases e : mapIx k 0 l with
        | none => rw [e] at hget; simp at hget; cases c <;> simp [← hget, run_zeroValue' hz]
        | some p => rw [e] at hget; simp at hget; cases c <;> simp [← hget]
      · cases ht
    · cases ht
  exact ⟨⟨(fun _ h => by cases h), fun _ _ _ _ a w f s0 => by simp [execOp, key true a w f s0]⟩, ⟨(fun _ h => by cases h), fun _ _ _ _ a w f s0 => by simp [execOp, key false a w f s0]⟩⟩

/-! ### texts of bytes -/
def strOf (ns : List Int) : ByteArray := ns.foldl (fun r n => r.push (UInt8.ofNat n.toNat)) ByteArray.empty
def u8s (ns : List Int) : List Value := ns.map fun n => .int .u8 n
end
end Go.Sz
