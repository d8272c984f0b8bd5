/-
  A calculus for walking Go code in the model: frames as functions, one lemma a form of code, regions in whatever order.
  Nothing here speaks of a program.
-/
import Derived.Orders
import Derived.KernelRfl
import Derived.Laws.Sem
namespace Go.Wk
open Go

/-- A frame: what each slot holds. -/
abbrev Fr := Nat → Value

def upd (ρ : Fr) (d : Nat) (v : Value) : Fr := fun t => bif Nat.beq t d then v else ρ t

def updO (ρ : Fr) : Option Nat → Value → Fr
  | some d, v => upd ρ d v
  | none, _ => ρ

def Fr.ev (ρ : Fr) : Operand → Value
  | .tmp t => ρ t
  | .const v => v
  | .global g => .pointer (some ⟨g, 0, none⟩)
  | .func f => .func (.func f) #[] #[]

structure Rel (n : Nat) (a : Act) (ρ : Fr) : Prop where
  defers : a.defers = []
  size : a.tmps.size = n
  get : ∀ t, a.tmps.getD t undef = ρ t

theorem Rel.eval {n : Nat} {a : Act} {ρ : Fr} (h : Rel n a ρ) : a.eval = ρ.ev := by
  funext x
  cases x with
  | tmp t => exact h.get t
  | _ => rfl

theorem Rel.put {n : Nat} {a : Act} {ρ : Fr} (h : Rel n a ρ) {d : Option Nat} (hd : ∀ k, d = some k → k < n) (v : Value) : Rel n (a.put d v) (updO ρ d v) := by
  cases d with
  | none => exact h
  | some k =>
    have hk := hd k rfl
    refine ⟨h.defers, by simp [Act.put, h.size], fun t => ?_⟩
    have hg := h.get t
    simp only [Act.put, updO, upd]
    by_cases e : t = k
    · subst e
      have : t < a.tmps.size := by rw [h.size]; exact hk
      simp [this]
    · have e' : Nat.beq t k = false := by
        cases hb : Nat.beq t k with
        | false => rfl
        | true => exact absurd (Nat.eq_of_beq_eq_true hb) e
      rw [e', ← hg]
      simp [Array.getElem?_setIfInBounds_ne (Ne.symm e)]

/-- Whether an operation is wanted, by the frame. -/
def yieldedF (ops : Array Oper) (ρ : Fr) (j : Nat) : Option Bool :=
  match (ops[j]?).bind (·.dst) with
  | some d => match ρ d with
    | .bool b => some b
    | _ => none
  | none => none

theorem Rel.yielded {n : Nat} {a : Act} {ρ : Fr} (h : Rel n a ρ) (ops : Array Oper) : yielded ops a.tmps = yieldedF ops ρ := by
  funext j
  unfold Go.yielded yieldedF
  cases hd : (ops[j]?).bind (·.dst) with
  | none => rfl
  | some d =>
    have hg := h.get d
    simp only [Option.bind_some]
    cases ht : a.tmps[d]? with
    | none =>
      have : ρ d = undef := by rw [← hg]; simp [ht]
      rw [this]; rfl
    | some u =>
      have : ρ d = u := by rw [← hg]; simp [ht]
      rw [this]
      cases u <;> rfl

/-- An operation, by what it is and the type of what it gives. -/
def exOp (ρ : Operand → Value) (op : Op) (ty : TypeId) : Sem Next := execOp ρ ⟨none, op, ty, "", #[], none⟩

theorem execOp_eq (ρ : Operand → Value) (o : Oper) : execOp ρ o = exOp ρ o.op o.type := by
  obtain ⟨dst, op, type, pos, after, guard⟩ := o
  rfl

/-- What is asked behind an operation: it gives a value, or nothing, or a call that hands something back. -/
def after (P : Program) (K : Value → World → Prop) : Result Next → Prop
  | .ok (.value v) w' => K v w'
  | .ok .skip w' => K undef w'
  | .ok (.enter f args) w' => Calls P f args w' fun e w'' => ∃ v, e = .returned v ∧ K v w''
  | _ => False

theorem after_mono {P : Program} {K K' : Value → World → Prop} (h : ∀ v w, K v w → K' v w) {r : Result Next} (hr : after P K r) : after P K' r := by
  cases r with
  | ok n w =>
    cases n <;> simp only [after] at hr ⊢ <;> first | exact h _ _ hr | exact hr.mono fun e w'' ⟨v, he, hk⟩ => ⟨v, he, h _ _ hk⟩
  | halt x w => exact hr

inductive Md where
  | pure | read | stab | loud

/-- Same memory. -/
structure SameMem (w w' : World) : Prop where
  heap : w'.heap = w.heap
  os : w'.os = w.os
  tape : w'.tape = w.tape
  output : w'.output = w.output

theorem SameMem.refl (w : World) : SameMem w w := ⟨rfl, rfl, rfl, rfl⟩
theorem SameMem.trans {a b c : World} (h : SameMem a b) (k : SameMem b c) : SameMem a c :=
  ⟨k.heap.trans h.heap, k.os.trans h.os, k.tape.trans h.tape, k.output.trans h.output⟩

/-- What was there is as it was; there may be more. -/
structure Grown (w w' : World) : Prop where
  os : w'.os = w.os
  tape : w'.tape = w.tape
  output : w'.output = w.output
  size : w.heap.size ≤ w'.heap.size
  block : ∀ k, k < w.heap.size → w'.heap[k]? = w.heap[k]?

theorem Grown.refl (w : World) : Grown w w := ⟨rfl, rfl, rfl, Nat.le_refl _, fun _ _ => rfl⟩
theorem Grown.trans {a b c : World} (h : Grown a b) (k : Grown b c) : Grown a c :=
  ⟨k.os.trans h.os, k.tape.trans h.tape, k.output.trans h.output, Nat.le_trans h.size k.size, fun i hi => (k.block i (Nat.lt_of_lt_of_le hi h.size)).trans (h.block i hi)⟩
theorem Grown.push (w : World) (o : Obj) : Grown w { w with heap := w.heap.push o } :=
  ⟨rfl, rfl, rfl, by simp, fun k hk => by
    show (w.heap.push o)[k]? = _
    rw [Array.getElem?_push, if_neg (by omega)]⟩

theorem SameMem.grown {a b : World} (h : SameMem a b) : Grown a b := ⟨h.os, h.tape, h.output, by rw [h.heap]; exact Nat.le_refl _, fun _ _ => by rw [h.heap]⟩

/-- One operation, in its mode. -/
def step1 (P : Program) (C : World → Prop) (o : Oper) (m : Md) (ρ : Fr) (w : World) (K : Value → World → Prop) : Prop :=
  match m with
  | .pure => ∃ v, (∀ w', (exOp ρ.ev o.op o.type).run P w' = .ok (.value v) w') ∧ K v w
  | .read => ∃ v, (∀ w', Grown w w' → (exOp ρ.ev o.op o.type).run P w' = .ok (.value v) w') ∧ K v w
  | .stab => ∃ v, (∀ w', C w' → (exOp ρ.ev o.op o.type).run P w' = .ok (.value v) w') ∧ K v w
  | .loud => after P (fun v w' => C w' ∧ K v w') ((exOp ρ.ev o.op o.type).run P w)

/-- The operations, one by one. -/
def wk (P : Program) (ops : Array Oper) (C : World → Prop) (Q : Fr → World → Prop) : List (Nat × Md) → Fr → World → Prop
  | [], ρ, w => Q ρ w
  | (i, m) :: r, ρ, w => ∃ o, ops[i]? = some o ∧
      if Region.wanted o (yieldedF ops ρ) then step1 P C o m ρ w (fun v w' => wk P ops C Q r (updO ρ o.dst v) w')
      else wk P ops C Q r (updO ρ o.dst undef) w

/-- Code, over frames. -/
def cw (P : Program) (n : Nat) (c : Code) (Q : Exit → Fr → World → Prop) (ρ : Fr) (w : World) : Prop :=
  ∀ a, Rel n a ρ → c.wp P (fun e a' w' => ∃ ρ', Rel n a' ρ' ∧ Q e ρ' w') a w

def thn (K : Fr → World → Prop) (Q : Exit → Fr → World → Prop) : Exit → Fr → World → Prop
  | .normal, ρ, w => K ρ w
  | e, ρ, w => Q e ρ w

def blk (id : Nat) (Q : Exit → Fr → World → Prop) : Exit → Fr → World → Prop
  | .exit id', ρ, w => if id' = id then Q .normal ρ w else Q (.exit id') ρ w
  | e, ρ, w => Q e ρ w

section rules
variable {P : Program} {n : Nat} {Q : Exit → Fr → World → Prop} {ρ : Fr} {w : World}

theorem cw_mono {c : Code} {Q' : Exit → Fr → World → Prop} (h : cw P n c Q ρ w) (hq : ∀ e ρ w, Q e ρ w → Q' e ρ w) : cw P n c Q' ρ w :=
  fun a ha => wp_mono (h a ha) fun e _ w' ⟨ρ', hr, q⟩ => ⟨ρ', hr, hq e ρ' w' q⟩

theorem cw_skip (h : Q .normal ρ w) : cw P n .skip Q ρ w := fun _ ha => wp_skip ⟨ρ, ha, h⟩
theorem cw_ret (h : Q .ret ρ w) : cw P n .ret Q ρ w := fun _ ha => wp_ret ⟨ρ, ha, h⟩
theorem cw_exit {id : Nat} (h : Q (.exit id) ρ w) : cw P n (.exit id) Q ρ w := fun _ ha => wp_exit ⟨ρ, ha, h⟩

theorem cw_seq {x y : Code} (h : cw P n x (thn (fun ρ' w' => cw P n y Q ρ' w') Q) ρ w) : cw P n (.seq x y) Q ρ w := by
  intro a ha
  refine wp_seq (wp_mono (h a ha) fun e a' w' ⟨ρ', hr, q⟩ => ?_)
  cases e with
  | normal => exact q a' hr
  | _ => exact ⟨ρ', hr, q⟩

theorem cw_cond {c : Operand} {x y : Code} {t : Bool} (hc : ρ.ev c = .bool t) (ht : t = true → cw P n x Q ρ w) (hf : t = false → cw P n y Q ρ w) :
    cw P n (.cond c x y) Q ρ w := by
  intro a ha
  have hc' : a.eval c = .bool t := by rw [ha.eval]; exact hc
  exact wp_cond_split hc' (fun h => ht h a ha) (fun h => hf h a ha)

theorem cw_block {id : Nat} {c : Code} (h : cw P n c (blk id Q) ρ w) : cw P n (.block id c) Q ρ w := by
  intro a ha
  refine wp_block (wp_mono (h a ha) fun e a' w' ⟨ρ', hr, q⟩ => ?_)
  cases e with
  | exit id' =>
    simp only [Exit.inBlock]
    simp only [blk] at q
    split
    · rename_i he; rw [if_pos he] at q; exact ⟨ρ', hr, q⟩
    · rename_i he; rw [if_neg he] at q; exact ⟨ρ', hr, q⟩
  | _ => exact ⟨ρ', hr, q⟩

theorem cw_loop {c : Code} (I : Nat → Fr → World → Prop) (m : Nat) (h₀ : I m ρ w)
    (round : ∀ m ρ w, I m ρ w → cw P n c (thn (fun ρ' w' => ∃ m', m' < m ∧ I m' ρ' w') Q) ρ w) : cw P n (.loop c) Q ρ w := by
  intro a ha b k cs
  have key : ∀ m a w ρ, Rel n a ρ → I m ρ w → ∃ e a' w', (∃ ρ', Rel n a' ρ' ∧ Q e ρ' w') ∧ Arrives P (lone (b.at a (.code c :: .inLoop c :: k)) cs w) b k cs e a' w' := by
    intro m
    induction m using Nat.strongRecOn with
    | _ m ih =>
      intro a w ρ ha hI
      obtain ⟨e, a₁, w₁, ⟨ρ₁, hr₁, hq⟩, harr⟩ := round m ρ w hI a ha b (.inLoop c :: k) cs
      cases e with
      | normal =>
        obtain ⟨m', hlt, hI'⟩ := hq
        obtain ⟨e₂, a₂, w₂, hq₂, harr₂⟩ := ih m' hlt a₁ w₁ ρ₁ hr₁ hI'
        exact ⟨e₂, a₂, w₂, hq₂, .of_steps (Steps.trans harr (.one step_inLoop)) harr₂⟩
      | outgrown => exact ⟨_, a₁, w₁, ⟨ρ₁, hr₁, hq⟩, .pass (x := .inLoop c) rfl (fun _ _ => .inl (by simp)) harr⟩
      | _ => exact ⟨_, a₁, w₁, ⟨ρ₁, hr₁, hq⟩, .pass (x := .inLoop c) rfl (fun _ _ => .inl (by simp)) harr⟩
  obtain ⟨e, a', w', hq, harr⟩ := key m a w ρ ha h₀
  exact ⟨e, a', w', hq, .of_steps (.one step_loop) harr⟩

end rules
end Go.Wk
