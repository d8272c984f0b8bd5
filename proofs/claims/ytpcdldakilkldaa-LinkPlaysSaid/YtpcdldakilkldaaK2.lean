/-
  Operations that only make memory anew (or read it, or none of these), whatever values they meet.
-/
import Derived.Test.YtpcdldakilkldaaK1
import GoSem.Dispatch
namespace Go.Wk
open Go

def Gw (P : Program) {α : Type} (s : Sem α) : Prop := ∀ (w : World) (a : α) (w' : World), s.run P w = .ok a w' → Grown w w'

section
variable {P : Program} {α β : Type}
theorem Gw.pure (a : α) : Gw P (Pure.pure a : Sem α) := fun w b w' h => by
  simp at h; obtain ⟨_, rfl⟩ := h; exact .refl _
theorem Gw.bind {x : Sem α} {f : α → Sem β} (hx : Gw P x) (hf : ∀ a, Gw P (f a)) : Gw P (x >>= f) := fun w b w' h => by
  rw [Sem.run_bind] at h
  cases hr : x.run P w with
  | ok a w1 => rw [hr] at h; exact (hx w a w1 hr).trans (hf a w1 b w' h)
  | halt y w1 => rw [hr] at h; simp at h
theorem Gw.map {x : Sem α} (f : α → β) (hx : Gw P x) : Gw P (f <$> x) := fun w b w' h => by
  rw [Sem.run_map] at h
  cases hr : x.run P w with
  | ok a w1 => rw [hr] at h; simp at h; obtain ⟨_, rfl⟩ := h; exact hx w a w1 hr
  | halt y w1 => rw [hr] at h; simp at h
theorem Gw.halt (h : Halt) : Gw P (Sem.halt h : Sem α) := fun w b w' h => by simp at h
theorem Gw.stuck (why : String) : Gw P (Go.stuck why : Sem α) := Gw.halt _
theorem Gw.unsupported (u : Unsupported) : Gw P (Go.unsupported u : Sem α) := Gw.halt _
theorem Gw.goPanic (v : Value) : Gw P (Go.goPanic v : Sem α) := Gw.halt _
theorem Gw.program : Gw P Go.program := fun w b w' h => by
  rw [run_program] at h; simp at h; obtain ⟨_, rfl⟩ := h; exact .refl _
theorem Gw.load (a : Addr) (m : Mode) : Gw P (Go.load a m) := fun w b w' h => by
  rw [run_load] at h
  split at h
  · simp at h; obtain ⟨_, rfl⟩ := h; exact .refl _
  · split at h
    · simp at h; obtain ⟨_, rfl⟩ := h; exact .refl _
    · simp at h
theorem Gw.shape (r : Nat) : Gw P (Go.shape r) := fun w b w' h => by
  rw [run_shape] at h; simp at h; obtain ⟨_, rfl⟩ := h; exact .refl _
theorem Gw.getObj (r : Nat) : Gw P (Go.getObj r) := fun w b w' h => by
  simp only [Go.getObj, Sem.run] at h
  split at h
  · simp at h
  · simp at h; obtain ⟨_, rfl⟩ := h; exact .refl _
  · simp at h
theorem Gw.choose (q : Question) : Gw P (Go.choose q) := fun w b w' h => by
  rw [run_choose] at h
  split at h
  · simp at h; obtain ⟨_, rfl⟩ := h; exact .refl _
  · simp at h; obtain ⟨_, rfl⟩ := h; exact ⟨rfl, rfl, rfl, Nat.le_refl _, fun _ _ => rfl⟩
theorem Gw.newObj (o : Obj) : Gw P (Go.newObj o) := fun w b w' h => by
  rw [run_newObj] at h; simp only [Result.ok.injEq] at h; obtain ⟨_, rfl⟩ := h; exact .push _ _
theorem Gw.typeInfo (t : TypeId) : Gw P (Go.typeInfo t) := by
  unfold Go.typeInfo; refine .bind .program fun p => ?_; split; exact .pure _; exact .stuck _
theorem Gw.underlying (t : TypeId) : Gw P (Go.underlying t) := by
  unfold Go.underlying; refine .bind .program fun p => ?_; split; exact .pure _; exact .stuck _
theorem Gw.bindU {t : TypeId} {d : TypeDesc} {f : TypeDesc → Sem β} (h : P.underlying t = some d) (hf : Gw P (f d)) : Gw P (Go.underlying t >>= f) := fun w b w' hr => by
  rw [Sem.run_bind] at hr
  have : (Go.underlying t).run P w = .ok d w := by simp [Go.underlying, h]
  rw [this] at hr
  exact hf w b w' hr
theorem Gw.sizeOf (t : TypeId) : Gw P (Go.sizeOf t) := by
  unfold Go.sizeOf; exact .bind (.typeInfo t) fun _ => .pure _
theorem Gw.zeroValue (t : TypeId) : Gw P (Go.zeroValue t) := by
  unfold Go.zeroValue; refine .bind (.typeInfo t) fun p => ?_; split; exact .pure _; exact .unsupported _
theorem Gw.isAgg (t : TypeId) : Gw P (Go.isAgg t) := by
  unfold Go.isAgg; refine .bind (.underlying t) fun p => ?_; split <;> exact .pure _
theorem Gw.newRow (e : TypeId) (c : Array Value) : Gw P (Go.newRow e c) := by
  unfold Go.newRow; exact .bind (.newObj _) fun _ => .pure _
theorem Gw.loadCellsFrom (a : Addr) : ∀ (n i : Nat) (acc : Array Value), Gw P (Go.loadCellsFrom a i n acc)
  | 0, i, acc => by unfold Go.loadCellsFrom; exact .pure _
  | n + 1, i, acc => by unfold Go.loadCellsFrom; exact .bind (.load _ _) fun v => Gw.loadCellsFrom a n (i + 1) _
theorem Gw.loadCells (a : Addr) (n : Nat) : Gw P (Go.loadCells a n) := Gw.loadCellsFrom a n 0 _
theorem Gw.loadVar (t : TypeId) (a : Addr) : Gw P (Go.loadVar t a) := by
  unfold Go.loadVar
  refine .bind (.isAgg t) fun b => ?_
  split
  · exact .bind (.sizeOf t) fun n => .bind (.loadCells a n) fun _ => .pure _
  · exact .load _ _
theorem Gw.elemOf (t : TypeId) : Gw P (Go.elemOf t) := by
  unfold Go.elemOf; refine .bind (.underlying t) fun p => ?_; split; exact .pure _; exact .stuck _
theorem Gw.part (t : TypeId) (cs : Array Value) (off : Nat) : Gw P (Go.part t cs off) := by
  unfold Go.part
  refine .bind (.isAgg t) fun b => ?_
  split
  · exact .bind (.sizeOf t) fun n => .pure _
  · split; exact .pure _; exact .stuck _
theorem Gw.runtimePanic (e : RuntimeError) : Gw P (Go.runtimePanic e : Sem α) := by
  unfold Go.runtimePanic
  refine .bind .program fun p => ?_
  cases e <;> simp only <;> first
    | exact .goPanic _
    | exact .bind (.elemOf _) fun t => .bind (.newRow _ _) fun r => .goPanic _
theorem Gw.asIntOf (v : Value) : Gw P (Go.asIntOf v) := by
  unfold Go.asIntOf; split; exact .pure _; exact .unsupported _; exact .stuck _
theorem Gw.boundsPanic (k : IntKind) (x y : Int) (c : BoundsCode) : Gw P (Go.boundsPanic k x y c : Sem α) := by
  unfold Go.boundsPanic
  simp only
  split
  · exact .bind (.map _ (.choose _)) fun s => .runtimePanic _
  · exact .bind (.pure _) fun s => .runtimePanic _
theorem Gw.asInt (v : Value) : Gw P (Go.asInt v) := by unfold Go.asInt; exact .bind (.asIntOf v) fun _ => .pure _
theorem Gw.asBool (v : Value) : Gw P (Go.asBool v) := by unfold Go.asBool; split; exact .pure _; exact .stuck _
theorem Gw.asAgg (v : Value) : Gw P (Go.asAgg v) := by unfold Go.asAgg; split; exact .pure _; exact .stuck _
theorem Gw.asAddr (v : Value) : Gw P (Go.asAddr v) := by unfold Go.asAddr; split; exact .pure _; exact .runtimePanic _; exact .stuck _
theorem Gw.sureAddr (v : Value) : Gw P (Instr.sureAddr v) := by unfold Instr.sureAddr; split; exact .pure _; exact .stuck _
theorem Gw.numberAt (r : Nat) : Gw P (Go.numberAt r) := by
  unfold Go.numberAt
  refine .bind (.shape r) fun s => ?_
  split
  · exact .pure _
  · refine .bind (.getObj r) fun o => ?_
    split <;> exact .pure _
theorem Gw.viewAt (r : Nat) : Gw P (Go.viewAt r) := by
  unfold Go.viewAt
  refine .bind (.shape r) fun s => ?_
  split
  · exact .pure _
  · refine .bind (.getObj r) fun o => ?_
    split <;> exact .pure _
theorem Gw.behindNumber (n : Addr) : Gw P (Go.behindNumber n) := by
  unfold Go.behindNumber; exact .bind (.numberAt _) fun _ => .pure _
theorem Gw.asNumber (a : Addr) (l : Bool) : Gw P (Go.asNumber a l) := by
  unfold Go.asNumber; exact .bind (.newObj _) fun _ => .pure _
theorem Gw.noView (a : Addr) : Gw P (Go.noView a) := by
  unfold Go.noView; refine .bind (.viewAt _) fun s => ?_; split; exact .unsupported _; exact .pure _
theorem Gw.intArith (op : BinOp) (k : IntKind) (x y : Int) : Gw P (Op.intArith op k x y) := by unfold Op.intArith; split <;> first | exact .pure _ | exact .stuck _
theorem Gw.intBits (op : BinOp) (k : IntKind) (x y : Int) : Gw P (Op.intBits op k x y) := by unfold Op.intBits; simp only; split <;> first | exact .pure _ | exact .stuck _
theorem Gw.intDiv (op : BinOp) (k : IntKind) (x y : Int) : Gw P (Op.intDiv op k x y) := by
  unfold Op.intDiv; split; exact .runtimePanic _; split <;> first | exact .pure _ | exact .stuck _
theorem Gw.shift (op : BinOp) (k : IntKind) (x : Int) (yk : IntKind) (y : Int) : Gw P (Op.shift op k x yk y) := by
  unfold Op.shift; split; exact .runtimePanic _; simp only; split <;> first | exact .pure _ | exact .stuck _
theorem Gw.floatArith (op : BinOp) (k : FloatKind) (x y : Nat) : Gw P (Op.floatArith op k x y) := by
  unfold Op.floatArith
  cases op <;> simp only <;> refine .bind (by first | exact .pure _ | exact .stuck _) fun r => ?_ <;> (split <;> first | exact .pure _ | exact .bind (.choose _) fun _ => .pure _)
theorem Gw.intCmp (op : BinOp) (x y : Int) : Gw P (Op.intCmp op x y) := by unfold Op.intCmp; split <;> first | exact .pure _ | exact .stuck _
theorem Gw.floatCmp (op : BinOp) (k : FloatKind) (x y : Nat) : Gw P (Op.floatCmp op k x y) := by unfold Op.floatCmp; simp only; split <;> first | exact .pure _ | exact .stuck _
theorem Gw.unary (op : UnOp) (x : Value) : Gw P (Op.unary op x) := by
  unfold Op.unary; split <;> first | exact .intArith _ _ _ _ | exact .intBits _ _ _ _ | exact .pure _ | exact .unsupported _ | exact .stuck _
theorem Gw.mark (m : Mark) : Gw P (Go.mark m) := fun w b w' h => by
  rw [run_mark] at h; simp at h; obtain rfl := h; exact .refl _
theorem Gw.askRoom (n : Nat) : Gw P (Go.askRoom n) := by unfold Go.askRoom; split; exact .mark _; exact .pure _
theorem Gw.byteOf (a : Addr) : Gw P (Go.byteOf a) := by
  unfold Go.byteOf
  repeat' (first | with_reducible exact Gw.pure _ | with_reducible exact Gw.stuck _ | with_reducible exact Gw.unsupported _ | with_reducible exact Gw.runtimePanic _ | with_reducible exact Gw.boundsPanic _ _ _ _ | with_reducible exact Gw.underlying _ | with_reducible exact Gw.sizeOf _ | with_reducible exact Gw.typeInfo _ | with_reducible exact Gw.zeroValue _ | with_reducible exact Gw.program | with_reducible exact Gw.shape _ | with_reducible exact Gw.getObj _ | with_reducible exact Gw.noView _ | with_reducible exact Gw.sureAddr _ | with_reducible exact Gw.asIntOf _ | with_reducible exact Gw.asInt _ | with_reducible exact Gw.asBool _ | with_reducible exact Gw.asAgg _ | with_reducible exact Gw.asAddr _ | with_reducible exact Gw.part _ _ _ | with_reducible exact Gw.choose _ | with_reducible exact Gw.askRoom _ | with_reducible exact Gw.newRow _ _ | with_reducible exact Gw.loadVar _ _ | with_reducible exact Gw.behindNumber _ | with_reducible exact Gw.asNumber _ _ | with_reducible exact Gw.intArith _ _ _ _ | with_reducible exact Gw.intBits _ _ _ _ | with_reducible exact Gw.intDiv _ _ _ _ | with_reducible exact Gw.intCmp _ _ _ | with_reducible exact Gw.shift _ _ _ _ _ | with_reducible exact Gw.floatArith _ _ _ _ | with_reducible exact Gw.floatCmp _ _ _ _ | with_reducible refine Gw.bind ?_ (fun _ => ?_) | split | dsimp only)
theorem Gw.partAt (a : Addr) (c b : Nat) : Gw P (Go.partAt a c b) := by
  unfold Go.partAt
  exact .bind (.byteOf a) fun x => .bind (.byteOf _) fun y => .pure _
theorem Gw.fieldPlace (a : Addr) (f : Field) : Gw P (Go.fieldPlace a f) := by
  unfold Go.fieldPlace
  refine .bind (.sizeOf _) fun n => ?_
  split
  · exact .partAt _ _ _
  · exact .pure _
theorem Gw.fieldAt (s : TypeId) (a : Value) (f : Nat) : Gw P (Instr.fieldAt s a f) := by
  unfold Instr.fieldAt
  refine .bind (.underlying s) fun d => ?_
  split
  · split
    · exact .bind (.sureAddr a) fun b => .bind (.fieldPlace _ _) fun _ => .pure _
    · exact .stuck _
  · exact .stuck _
theorem Gw.field (s : TypeId) (a : Value) (f : Nat) : Gw P (Instr.field s a f) := by
  unfold Instr.field
  repeat' (first | with_reducible exact Gw.pure _ | with_reducible exact Gw.stuck _ | with_reducible exact Gw.unsupported _ | with_reducible exact Gw.runtimePanic _ | with_reducible exact Gw.boundsPanic _ _ _ _ | with_reducible exact Gw.underlying _ | with_reducible exact Gw.sizeOf _ | with_reducible exact Gw.typeInfo _ | with_reducible exact Gw.zeroValue _ | with_reducible exact Gw.program | with_reducible exact Gw.shape _ | with_reducible exact Gw.getObj _ | with_reducible exact Gw.noView _ | with_reducible exact Gw.sureAddr _ | with_reducible exact Gw.asIntOf _ | with_reducible exact Gw.asInt _ | with_reducible exact Gw.asBool _ | with_reducible exact Gw.asAgg _ | with_reducible exact Gw.asAddr _ | with_reducible exact Gw.part _ _ _ | with_reducible exact Gw.choose _ | with_reducible exact Gw.askRoom _ | with_reducible exact Gw.newRow _ _ | with_reducible exact Gw.loadVar _ _ | with_reducible exact Gw.behindNumber _ | with_reducible exact Gw.asNumber _ _ | with_reducible exact Gw.intArith _ _ _ _ | with_reducible exact Gw.intBits _ _ _ _ | with_reducible exact Gw.intDiv _ _ _ _ | with_reducible exact Gw.intCmp _ _ _ | with_reducible exact Gw.shift _ _ _ _ _ | with_reducible exact Gw.floatArith _ _ _ _ | with_reducible exact Gw.floatCmp _ _ _ _ | with_reducible refine Gw.bind ?_ (fun _ => ?_) | split | dsimp only)
theorem Gw.indexAt (t : TypeId) (x ix : Value) : Gw P (Instr.indexAt t x ix) := by
  unfold Instr.indexAt
  repeat' (first | with_reducible exact Gw.pure _ | with_reducible exact Gw.stuck _ | with_reducible exact Gw.unsupported _ | with_reducible exact Gw.runtimePanic _ | with_reducible exact Gw.boundsPanic _ _ _ _ | with_reducible exact Gw.underlying _ | with_reducible exact Gw.sizeOf _ | with_reducible exact Gw.typeInfo _ | with_reducible exact Gw.zeroValue _ | with_reducible exact Gw.program | with_reducible exact Gw.shape _ | with_reducible exact Gw.getObj _ | with_reducible exact Gw.noView _ | with_reducible exact Gw.sureAddr _ | with_reducible exact Gw.asIntOf _ | with_reducible exact Gw.asInt _ | with_reducible exact Gw.asBool _ | with_reducible exact Gw.asAgg _ | with_reducible exact Gw.asAddr _ | with_reducible exact Gw.part _ _ _ | with_reducible exact Gw.choose _ | with_reducible exact Gw.askRoom _ | with_reducible exact Gw.newRow _ _ | with_reducible exact Gw.loadVar _ _ | with_reducible exact Gw.behindNumber _ | with_reducible exact Gw.asNumber _ _ | with_reducible exact Gw.intArith _ _ _ _ | with_reducible exact Gw.intBits _ _ _ _ | with_reducible exact Gw.intDiv _ _ _ _ | with_reducible exact Gw.intCmp _ _ _ | with_reducible exact Gw.shift _ _ _ _ _ | with_reducible exact Gw.floatArith _ _ _ _ | with_reducible exact Gw.floatCmp _ _ _ _ | with_reducible refine Gw.bind ?_ (fun _ => ?_) | split | dsimp only)
theorem Gw.index (t : TypeId) (x ix : Value) : Gw P (Instr.index t x ix) := by
  unfold Instr.index
  repeat' (first | with_reducible exact Gw.pure _ | with_reducible exact Gw.stuck _ | with_reducible exact Gw.unsupported _ | with_reducible exact Gw.runtimePanic _ | with_reducible exact Gw.boundsPanic _ _ _ _ | with_reducible exact Gw.underlying _ | with_reducible exact Gw.sizeOf _ | with_reducible exact Gw.typeInfo _ | with_reducible exact Gw.zeroValue _ | with_reducible exact Gw.program | with_reducible exact Gw.shape _ | with_reducible exact Gw.getObj _ | with_reducible exact Gw.noView _ | with_reducible exact Gw.sureAddr _ | with_reducible exact Gw.asIntOf _ | with_reducible exact Gw.asInt _ | with_reducible exact Gw.asBool _ | with_reducible exact Gw.asAgg _ | with_reducible exact Gw.asAddr _ | with_reducible exact Gw.part _ _ _ | with_reducible exact Gw.choose _ | with_reducible exact Gw.askRoom _ | with_reducible exact Gw.newRow _ _ | with_reducible exact Gw.loadVar _ _ | with_reducible exact Gw.behindNumber _ | with_reducible exact Gw.asNumber _ _ | with_reducible exact Gw.intArith _ _ _ _ | with_reducible exact Gw.intBits _ _ _ _ | with_reducible exact Gw.intDiv _ _ _ _ | with_reducible exact Gw.intCmp _ _ _ | with_reducible exact Gw.shift _ _ _ _ _ | with_reducible exact Gw.floatArith _ _ _ _ | with_reducible exact Gw.floatCmp _ _ _ _ | with_reducible refine Gw.bind ?_ (fun _ => ?_) | split | dsimp only)
theorem Gw.extract (t : Value) (ix : Nat) : Gw P (Instr.extract t ix) := by
  unfold Instr.extract
  repeat' (first | with_reducible exact Gw.pure _ | with_reducible exact Gw.stuck _ | with_reducible exact Gw.unsupported _ | with_reducible exact Gw.runtimePanic _ | with_reducible exact Gw.boundsPanic _ _ _ _ | with_reducible exact Gw.underlying _ | with_reducible exact Gw.sizeOf _ | with_reducible exact Gw.typeInfo _ | with_reducible exact Gw.zeroValue _ | with_reducible exact Gw.program | with_reducible exact Gw.shape _ | with_reducible exact Gw.getObj _ | with_reducible exact Gw.noView _ | with_reducible exact Gw.sureAddr _ | with_reducible exact Gw.asIntOf _ | with_reducible exact Gw.asInt _ | with_reducible exact Gw.asBool _ | with_reducible exact Gw.asAgg _ | with_reducible exact Gw.asAddr _ | with_reducible exact Gw.part _ _ _ | with_reducible exact Gw.choose _ | with_reducible exact Gw.askRoom _ | with_reducible exact Gw.newRow _ _ | with_reducible exact Gw.loadVar _ _ | with_reducible exact Gw.behindNumber _ | with_reducible exact Gw.asNumber _ _ | with_reducible exact Gw.intArith _ _ _ _ | with_reducible exact Gw.intBits _ _ _ _ | with_reducible exact Gw.intDiv _ _ _ _ | with_reducible exact Gw.intCmp _ _ _ | with_reducible exact Gw.shift _ _ _ _ _ | with_reducible exact Gw.floatArith _ _ _ _ | with_reducible exact Gw.floatCmp _ _ _ _ | with_reducible refine Gw.bind ?_ (fun _ => ?_) | split | dsimp only)
theorem Gw.sliceBound (x : Value) (y : Nat) (c : BoundsCode) : Gw P (Instr.sliceBound x y c) := by
  unfold Instr.sliceBound
  repeat' (first | with_reducible exact Gw.pure _ | with_reducible exact Gw.stuck _ | with_reducible exact Gw.unsupported _ | with_reducible exact Gw.runtimePanic _ | with_reducible exact Gw.boundsPanic _ _ _ _ | with_reducible exact Gw.underlying _ | with_reducible exact Gw.sizeOf _ | with_reducible exact Gw.typeInfo _ | with_reducible exact Gw.zeroValue _ | with_reducible exact Gw.program | with_reducible exact Gw.shape _ | with_reducible exact Gw.getObj _ | with_reducible exact Gw.noView _ | with_reducible exact Gw.sureAddr _ | with_reducible exact Gw.asIntOf _ | with_reducible exact Gw.asInt _ | with_reducible exact Gw.asBool _ | with_reducible exact Gw.asAgg _ | with_reducible exact Gw.asAddr _ | with_reducible exact Gw.part _ _ _ | with_reducible exact Gw.choose _ | with_reducible exact Gw.askRoom _ | with_reducible exact Gw.newRow _ _ | with_reducible exact Gw.loadVar _ _ | with_reducible exact Gw.behindNumber _ | with_reducible exact Gw.asNumber _ _ | with_reducible exact Gw.intArith _ _ _ _ | with_reducible exact Gw.intBits _ _ _ _ | with_reducible exact Gw.intDiv _ _ _ _ | with_reducible exact Gw.intCmp _ _ _ | with_reducible exact Gw.shift _ _ _ _ _ | with_reducible exact Gw.floatArith _ _ _ _ | with_reducible exact Gw.floatCmp _ _ _ _ | with_reducible refine Gw.bind ?_ (fun _ => ?_) | split | dsimp only)
theorem Gw.sliceBounds (b : Bool) (l c : Nat) (lo hi mx : Option Value) : Gw P (Instr.sliceBounds b l c lo hi mx) := by
  unfold Instr.sliceBounds
  repeat' (first | with_reducible exact Gw.pure _ | with_reducible exact Gw.stuck _ | with_reducible exact Gw.unsupported _ | with_reducible exact Gw.runtimePanic _ | with_reducible exact Gw.boundsPanic _ _ _ _ | with_reducible exact Gw.underlying _ | with_reducible exact Gw.sizeOf _ | with_reducible exact Gw.typeInfo _ | with_reducible exact Gw.zeroValue _ | with_reducible exact Gw.program | with_reducible exact Gw.shape _ | with_reducible exact Gw.getObj _ | with_reducible exact Gw.noView _ | with_reducible exact Gw.sureAddr _ | with_reducible exact Gw.asIntOf _ | with_reducible exact Gw.asInt _ | with_reducible exact Gw.asBool _ | with_reducible exact Gw.asAgg _ | with_reducible exact Gw.asAddr _ | with_reducible exact Gw.part _ _ _ | with_reducible exact Gw.choose _ | with_reducible exact Gw.askRoom _ | with_reducible exact Gw.newRow _ _ | with_reducible exact Gw.loadVar _ _ | with_reducible exact Gw.behindNumber _ | with_reducible exact Gw.asNumber _ _ | with_reducible exact Gw.intArith _ _ _ _ | with_reducible exact Gw.intBits _ _ _ _ | with_reducible exact Gw.intDiv _ _ _ _ | with_reducible exact Gw.intCmp _ _ _ | with_reducible exact Gw.shift _ _ _ _ _ | with_reducible exact Gw.floatArith _ _ _ _ | with_reducible exact Gw.floatCmp _ _ _ _ | with_reducible exact Gw.sliceBound _ _ _ | with_reducible refine Gw.bind ?_ (fun _ => ?_) | split | dsimp only)
theorem Gw.slice (t : TypeId) (x : Value) (lo hi mx : Option Value) : Gw P (Instr.slice t x lo hi mx) := by
  unfold Instr.slice
  repeat' (first | with_reducible exact Gw.pure _ | with_reducible exact Gw.stuck _ | with_reducible exact Gw.unsupported _ | with_reducible exact Gw.runtimePanic _ | with_reducible exact Gw.boundsPanic _ _ _ _ | with_reducible exact Gw.underlying _ | with_reducible exact Gw.sizeOf _ | with_reducible exact Gw.typeInfo _ | with_reducible exact Gw.zeroValue _ | with_reducible exact Gw.program | with_reducible exact Gw.shape _ | with_reducible exact Gw.getObj _ | with_reducible exact Gw.noView _ | with_reducible exact Gw.sureAddr _ | with_reducible exact Gw.asIntOf _ | with_reducible exact Gw.asInt _ | with_reducible exact Gw.asBool _ | with_reducible exact Gw.asAgg _ | with_reducible exact Gw.asAddr _ | with_reducible exact Gw.part _ _ _ | with_reducible exact Gw.choose _ | with_reducible exact Gw.askRoom _ | with_reducible exact Gw.newRow _ _ | with_reducible exact Gw.loadVar _ _ | with_reducible exact Gw.behindNumber _ | with_reducible exact Gw.asNumber _ _ | with_reducible exact Gw.intArith _ _ _ _ | with_reducible exact Gw.intBits _ _ _ _ | with_reducible exact Gw.intDiv _ _ _ _ | with_reducible exact Gw.intCmp _ _ _ | with_reducible exact Gw.shift _ _ _ _ _ | with_reducible exact Gw.floatArith _ _ _ _ | with_reducible exact Gw.floatCmp _ _ _ _ | with_reducible exact Gw.sliceBounds _ _ _ _ _ _ | with_reducible refine Gw.bind ?_ (fun _ => ?_) | split | dsimp only)
theorem Gw.sliceAt (t : TypeId) (x : Value) (lo hi mx : Option Value) : Gw P (Instr.sliceAt t x lo hi mx) := by
  unfold Instr.sliceAt
  repeat' (first | with_reducible exact Gw.pure _ | with_reducible exact Gw.stuck _ | with_reducible exact Gw.unsupported _ | with_reducible exact Gw.runtimePanic _ | with_reducible exact Gw.boundsPanic _ _ _ _ | with_reducible exact Gw.underlying _ | with_reducible exact Gw.sizeOf _ | with_reducible exact Gw.typeInfo _ | with_reducible exact Gw.zeroValue _ | with_reducible exact Gw.program | with_reducible exact Gw.shape _ | with_reducible exact Gw.getObj _ | with_reducible exact Gw.noView _ | with_reducible exact Gw.sureAddr _ | with_reducible exact Gw.asIntOf _ | with_reducible exact Gw.asInt _ | with_reducible exact Gw.asBool _ | with_reducible exact Gw.asAgg _ | with_reducible exact Gw.asAddr _ | with_reducible exact Gw.part _ _ _ | with_reducible exact Gw.choose _ | with_reducible exact Gw.askRoom _ | with_reducible exact Gw.newRow _ _ | with_reducible exact Gw.loadVar _ _ | with_reducible exact Gw.behindNumber _ | with_reducible exact Gw.asNumber _ _ | with_reducible exact Gw.intArith _ _ _ _ | with_reducible exact Gw.intBits _ _ _ _ | with_reducible exact Gw.intDiv _ _ _ _ | with_reducible exact Gw.intCmp _ _ _ | with_reducible exact Gw.shift _ _ _ _ _ | with_reducible exact Gw.floatArith _ _ _ _ | with_reducible exact Gw.floatCmp _ _ _ _ | with_reducible exact Gw.sliceBounds _ _ _ _ _ _ | with_reducible exact Gw.slice _ _ _ _ _ | with_reducible refine Gw.bind ?_ (fun _ => ?_) | split | dsimp only)
theorem Gw.makeSlice (t : TypeId) (l c : Value) : Gw P (Instr.makeSlice t l c) := by
  unfold Instr.makeSlice
  repeat' (first | with_reducible exact Gw.pure _ | with_reducible exact Gw.stuck _ | with_reducible exact Gw.unsupported _ | with_reducible exact Gw.runtimePanic _ | with_reducible exact Gw.boundsPanic _ _ _ _ | with_reducible exact Gw.underlying _ | with_reducible exact Gw.sizeOf _ | with_reducible exact Gw.typeInfo _ | with_reducible exact Gw.zeroValue _ | with_reducible exact Gw.program | with_reducible exact Gw.shape _ | with_reducible exact Gw.getObj _ | with_reducible exact Gw.noView _ | with_reducible exact Gw.sureAddr _ | with_reducible exact Gw.asIntOf _ | with_reducible exact Gw.asInt _ | with_reducible exact Gw.asBool _ | with_reducible exact Gw.asAgg _ | with_reducible exact Gw.asAddr _ | with_reducible exact Gw.part _ _ _ | with_reducible exact Gw.choose _ | with_reducible exact Gw.askRoom _ | with_reducible exact Gw.newRow _ _ | with_reducible exact Gw.loadVar _ _ | with_reducible exact Gw.behindNumber _ | with_reducible exact Gw.asNumber _ _ | with_reducible exact Gw.intArith _ _ _ _ | with_reducible exact Gw.intBits _ _ _ _ | with_reducible exact Gw.intDiv _ _ _ _ | with_reducible exact Gw.intCmp _ _ _ | with_reducible exact Gw.shift _ _ _ _ _ | with_reducible exact Gw.floatArith _ _ _ _ | with_reducible exact Gw.floatCmp _ _ _ _ | with_reducible refine Gw.bind ?_ (fun _ => ?_) | split | dsimp only)
theorem Gw.len (ts : Array TypeId) (t : TypeId) (as : Array Value) : Gw P (Builtin.len_ ts t as) := by
  unfold Builtin.len_
  repeat' (first | with_reducible exact Gw.pure _ | with_reducible exact Gw.stuck _ | with_reducible exact Gw.unsupported _ | with_reducible exact Gw.runtimePanic _ | with_reducible exact Gw.boundsPanic _ _ _ _ | with_reducible exact Gw.underlying _ | with_reducible exact Gw.sizeOf _ | with_reducible exact Gw.typeInfo _ | with_reducible exact Gw.zeroValue _ | with_reducible exact Gw.program | with_reducible exact Gw.shape _ | with_reducible exact Gw.getObj _ | with_reducible exact Gw.noView _ | with_reducible exact Gw.sureAddr _ | with_reducible exact Gw.asIntOf _ | with_reducible exact Gw.asInt _ | with_reducible exact Gw.asBool _ | with_reducible exact Gw.asAgg _ | with_reducible exact Gw.asAddr _ | with_reducible exact Gw.part _ _ _ | with_reducible exact Gw.choose _ | with_reducible exact Gw.askRoom _ | with_reducible exact Gw.newRow _ _ | with_reducible exact Gw.loadVar _ _ | with_reducible exact Gw.behindNumber _ | with_reducible exact Gw.asNumber _ _ | with_reducible exact Gw.intArith _ _ _ _ | with_reducible exact Gw.intBits _ _ _ _ | with_reducible exact Gw.intDiv _ _ _ _ | with_reducible exact Gw.intCmp _ _ _ | with_reducible exact Gw.shift _ _ _ _ _ | with_reducible exact Gw.floatArith _ _ _ _ | with_reducible exact Gw.floatCmp _ _ _ _ | with_reducible refine Gw.bind ?_ (fun _ => ?_) | split | dsimp only)
theorem Gw.cap (ts : Array TypeId) (t : TypeId) (as : Array Value) : Gw P (Builtin.cap_ ts t as) := by
  unfold Builtin.cap_
  repeat' (first | with_reducible exact Gw.pure _ | with_reducible exact Gw.stuck _ | with_reducible exact Gw.unsupported _ | with_reducible exact Gw.runtimePanic _ | with_reducible exact Gw.boundsPanic _ _ _ _ | with_reducible exact Gw.underlying _ | with_reducible exact Gw.sizeOf _ | with_reducible exact Gw.typeInfo _ | with_reducible exact Gw.zeroValue _ | with_reducible exact Gw.program | with_reducible exact Gw.shape _ | with_reducible exact Gw.getObj _ | with_reducible exact Gw.noView _ | with_reducible exact Gw.sureAddr _ | with_reducible exact Gw.asIntOf _ | with_reducible exact Gw.asInt _ | with_reducible exact Gw.asBool _ | with_reducible exact Gw.asAgg _ | with_reducible exact Gw.asAddr _ | with_reducible exact Gw.part _ _ _ | with_reducible exact Gw.choose _ | with_reducible exact Gw.askRoom _ | with_reducible exact Gw.newRow _ _ | with_reducible exact Gw.loadVar _ _ | with_reducible exact Gw.behindNumber _ | with_reducible exact Gw.asNumber _ _ | with_reducible exact Gw.intArith _ _ _ _ | with_reducible exact Gw.intBits _ _ _ _ | with_reducible exact Gw.intDiv _ _ _ _ | with_reducible exact Gw.intCmp _ _ _ | with_reducible exact Gw.shift _ _ _ _ _ | with_reducible exact Gw.floatArith _ _ _ _ | with_reducible exact Gw.floatCmp _ _ _ _ | with_reducible refine Gw.bind ?_ (fun _ => ?_) | split | dsimp only)
theorem Gw.alloc (e : TypeId) : Gw P (Instr.alloc e true (.tuple #[])) := by
  unfold Instr.alloc
  exact .bind (.zeroValue _) fun _ => .bind (.newRow _ _) fun _ => .pure _
theorem Gw.box (e : TypeId) (v : Value) : Gw P (Instr.box e v) := by
  unfold Instr.box
  exact .bind (.newRow _ _) fun _ => .pure _
theorem Gw.convInt {k : IntKind} {q : IntKind} {s d : TypeId} (hs : P.underlying s = some (.int q)) (hd : P.underlying d = some (.int k)) (x : Value) : Gw P (convert s d x) := by
  unfold convert
  refine .bindU hs (.bindU hd ?_)
  split <;> first
    | (unfold Conv.intToInt; exact .pure _)
    | (unfold Conv.floatToInt; dsimp only; split <;> first | exact .bind (.choose _) fun _ => .pure _ | (split; exact .pure _; exact .bind (.choose _) fun _ => .pure _))
    | exact .unsupported _
    | contradiction
    | simp_all
theorem Gw.followBlind : ∀ (l : List FieldStep) (t : TypeId) (x : Option Value), Gw P (Go.followBlind l t x)
  | [], t, x => by unfold Go.followBlind; exact .pure _
  | st :: rest, t, x => by
    have ih := fun (t : TypeId) (x : Option Value) => Gw.followBlind rest t x
    unfold Go.followBlind
    repeat' (first | with_reducible exact Gw.pure _ | with_reducible exact Gw.stuck _ | with_reducible exact Gw.unsupported _ | with_reducible exact Gw.runtimePanic _ | with_reducible exact Gw.boundsPanic _ _ _ _ | with_reducible exact Gw.underlying _ | with_reducible exact Gw.sizeOf _ | with_reducible exact Gw.typeInfo _ | with_reducible exact Gw.zeroValue _ | with_reducible exact Gw.program | with_reducible exact Gw.shape _ | with_reducible exact Gw.getObj _ | with_reducible exact Gw.noView _ | with_reducible exact Gw.sureAddr _ | with_reducible exact Gw.asIntOf _ | with_reducible exact Gw.asInt _ | with_reducible exact Gw.asBool _ | with_reducible exact Gw.asAgg _ | with_reducible exact Gw.asAddr _ | with_reducible exact Gw.part _ _ _ | with_reducible exact Gw.choose _ | with_reducible exact Gw.askRoom _ | with_reducible exact Gw.newRow _ _ | with_reducible exact Gw.loadVar _ _ | with_reducible exact Gw.behindNumber _ | with_reducible exact Gw.asNumber _ _ | with_reducible exact Gw.intArith _ _ _ _ | with_reducible exact Gw.intBits _ _ _ _ | with_reducible exact Gw.intDiv _ _ _ _ | with_reducible exact Gw.intCmp _ _ _ | with_reducible exact Gw.shift _ _ _ _ _ | with_reducible exact Gw.floatArith _ _ _ _ | with_reducible exact Gw.floatCmp _ _ _ _ | with_reducible exact ih _ _ | with_reducible refine Gw.bind ?_ (fun _ => ?_) | split | dsimp only)
theorem Gw.nilAhead : ∀ (n : Nat) (t : TypeId) (v : Value) (name : String), Gw P (Go.nilAhead n t v name)
  | 0, _, _, _ => by unfold Go.nilAhead; exact .pure _
  | n + 1, t, v, name => by
    have ih := fun (t : TypeId) (v : Value) (name : String) => Gw.nilAhead n t v name
    unfold Go.nilAhead
    repeat' (first | with_reducible exact Gw.pure _ | with_reducible exact Gw.stuck _ | with_reducible exact Gw.unsupported _ | with_reducible exact Gw.runtimePanic _ | with_reducible exact Gw.boundsPanic _ _ _ _ | with_reducible exact Gw.underlying _ | with_reducible exact Gw.sizeOf _ | with_reducible exact Gw.typeInfo _ | with_reducible exact Gw.zeroValue _ | with_reducible exact Gw.program | with_reducible exact Gw.shape _ | with_reducible exact Gw.getObj _ | with_reducible exact Gw.noView _ | with_reducible exact Gw.sureAddr _ | with_reducible exact Gw.asIntOf _ | with_reducible exact Gw.asInt _ | with_reducible exact Gw.asBool _ | with_reducible exact Gw.asAgg _ | with_reducible exact Gw.asAddr _ | with_reducible exact Gw.part _ _ _ | with_reducible exact Gw.choose _ | with_reducible exact Gw.askRoom _ | with_reducible exact Gw.newRow _ _ | with_reducible exact Gw.loadVar _ _ | with_reducible exact Gw.behindNumber _ | with_reducible exact Gw.asNumber _ _ | with_reducible exact Gw.intArith _ _ _ _ | with_reducible exact Gw.intBits _ _ _ _ | with_reducible exact Gw.intDiv _ _ _ _ | with_reducible exact Gw.intCmp _ _ _ | with_reducible exact Gw.shift _ _ _ _ _ | with_reducible exact Gw.floatArith _ _ _ _ | with_reducible exact Gw.floatCmp _ _ _ _ | with_reducible exact ih _ _ _ | with_reducible exact Gw.followBlind _ _ _ | with_reducible refine Gw.bind ?_ (fun _ => ?_) | split | dsimp only)
theorem Gw.unsafeAdd2 (ts : Array TypeId) (t : TypeId) (p : Option Addr) (y : Value) : Gw P (Builtin.unsafeAdd_ ts t #[.pointer p, y]) := by
  refine Gw.bind (x := Go.asInt y) (Gw.asInt _) (fun n => ?_)
  repeat' (first | with_reducible exact Gw.pure _ | with_reducible exact Gw.stuck _ | with_reducible exact Gw.unsupported _ | with_reducible exact Gw.runtimePanic _ | with_reducible exact Gw.boundsPanic _ _ _ _ | with_reducible exact Gw.underlying _ | with_reducible exact Gw.sizeOf _ | with_reducible exact Gw.typeInfo _ | with_reducible exact Gw.zeroValue _ | with_reducible exact Gw.program | with_reducible exact Gw.shape _ | with_reducible exact Gw.getObj _ | with_reducible exact Gw.noView _ | with_reducible exact Gw.sureAddr _ | with_reducible exact Gw.asIntOf _ | with_reducible exact Gw.asInt _ | with_reducible exact Gw.asBool _ | with_reducible exact Gw.asAgg _ | with_reducible exact Gw.asAddr _ | with_reducible exact Gw.part _ _ _ | with_reducible exact Gw.choose _ | with_reducible exact Gw.askRoom _ | with_reducible exact Gw.newRow _ _ | with_reducible exact Gw.loadVar _ _ | with_reducible exact Gw.behindNumber _ | with_reducible exact Gw.asNumber _ _ | with_reducible exact Gw.intArith _ _ _ _ | with_reducible exact Gw.intBits _ _ _ _ | with_reducible exact Gw.intDiv _ _ _ _ | with_reducible exact Gw.intCmp _ _ _ | with_reducible exact Gw.shift _ _ _ _ _ | with_reducible exact Gw.floatArith _ _ _ _ | with_reducible exact Gw.floatCmp _ _ _ _ | with_reducible exact Gw.viewAt _ | with_reducible refine Gw.bind ?_ (fun _ => ?_) | split | dsimp only)
theorem Gw.unsafeAdd (ts : Array TypeId) (t : TypeId) (x y : Value) : Gw P (Builtin.unsafeAdd_ ts t #[x, y]) := by
  cases x with
  | pointer p => exact .unsafeAdd2 _ _ _ _
  | _ => exact .stuck _
theorem Gw.movedNumber (t : TypeId) (x y : Value) : Gw P (Go.movedNumber t x y) := by
  unfold Go.movedNumber
  repeat' (first | with_reducible exact Gw.pure _ | with_reducible exact Gw.stuck _ | with_reducible exact Gw.unsupported _ | with_reducible exact Gw.runtimePanic _ | with_reducible exact Gw.boundsPanic _ _ _ _ | with_reducible exact Gw.underlying _ | with_reducible exact Gw.sizeOf _ | with_reducible exact Gw.typeInfo _ | with_reducible exact Gw.zeroValue _ | with_reducible exact Gw.program | with_reducible exact Gw.shape _ | with_reducible exact Gw.getObj _ | with_reducible exact Gw.noView _ | with_reducible exact Gw.sureAddr _ | with_reducible exact Gw.asIntOf _ | with_reducible exact Gw.asInt _ | with_reducible exact Gw.asBool _ | with_reducible exact Gw.asAgg _ | with_reducible exact Gw.asAddr _ | with_reducible exact Gw.part _ _ _ | with_reducible exact Gw.choose _ | with_reducible exact Gw.askRoom _ | with_reducible exact Gw.newRow _ _ | with_reducible exact Gw.loadVar _ _ | with_reducible exact Gw.behindNumber _ | with_reducible exact Gw.asNumber _ _ | with_reducible exact Gw.intArith _ _ _ _ | with_reducible exact Gw.intBits _ _ _ _ | with_reducible exact Gw.intDiv _ _ _ _ | with_reducible exact Gw.intCmp _ _ _ | with_reducible exact Gw.shift _ _ _ _ _ | with_reducible exact Gw.floatArith _ _ _ _ | with_reducible exact Gw.floatCmp _ _ _ _ | with_reducible exact Gw.unsafeAdd _ _ _ _ | with_reducible refine Gw.bind ?_ (fun _ => ?_) | split | dsimp only)
theorem Gw.movedPointer (t : TypeId) (x y : Value) : Gw P (Go.movedPointer t x y) := by
  unfold Go.movedPointer
  repeat' (first | with_reducible exact Gw.pure _ | with_reducible exact Gw.stuck _ | with_reducible exact Gw.unsupported _ | with_reducible exact Gw.runtimePanic _ | with_reducible exact Gw.boundsPanic _ _ _ _ | with_reducible exact Gw.underlying _ | with_reducible exact Gw.sizeOf _ | with_reducible exact Gw.typeInfo _ | with_reducible exact Gw.zeroValue _ | with_reducible exact Gw.program | with_reducible exact Gw.shape _ | with_reducible exact Gw.getObj _ | with_reducible exact Gw.noView _ | with_reducible exact Gw.sureAddr _ | with_reducible exact Gw.asIntOf _ | with_reducible exact Gw.asInt _ | with_reducible exact Gw.asBool _ | with_reducible exact Gw.asAgg _ | with_reducible exact Gw.asAddr _ | with_reducible exact Gw.part _ _ _ | with_reducible exact Gw.choose _ | with_reducible exact Gw.askRoom _ | with_reducible exact Gw.newRow _ _ | with_reducible exact Gw.loadVar _ _ | with_reducible exact Gw.behindNumber _ | with_reducible exact Gw.asNumber _ _ | with_reducible exact Gw.intArith _ _ _ _ | with_reducible exact Gw.intBits _ _ _ _ | with_reducible exact Gw.intDiv _ _ _ _ | with_reducible exact Gw.intCmp _ _ _ | with_reducible exact Gw.shift _ _ _ _ _ | with_reducible exact Gw.floatArith _ _ _ _ | with_reducible exact Gw.floatCmp _ _ _ _ | with_reducible exact Gw.unsafeAdd _ _ _ _ | with_reducible exact Gw.numberAt _ | with_reducible refine Gw.bind ?_ (fun _ => ?_) | split | dsimp only)
theorem Gw.twoPlaces (a b : Addr) : Gw P (Op.twoPlaces a b) := by
  unfold Op.twoPlaces
  repeat' (first | with_reducible exact Gw.pure _ | with_reducible exact Gw.stuck _ | with_reducible exact Gw.unsupported _ | with_reducible exact Gw.runtimePanic _ | with_reducible exact Gw.boundsPanic _ _ _ _ | with_reducible exact Gw.underlying _ | with_reducible exact Gw.sizeOf _ | with_reducible exact Gw.typeInfo _ | with_reducible exact Gw.zeroValue _ | with_reducible exact Gw.program | with_reducible exact Gw.shape _ | with_reducible exact Gw.getObj _ | with_reducible exact Gw.noView _ | with_reducible exact Gw.sureAddr _ | with_reducible exact Gw.asIntOf _ | with_reducible exact Gw.asInt _ | with_reducible exact Gw.asBool _ | with_reducible exact Gw.asAgg _ | with_reducible exact Gw.asAddr _ | with_reducible exact Gw.part _ _ _ | with_reducible exact Gw.choose _ | with_reducible exact Gw.askRoom _ | with_reducible exact Gw.newRow _ _ | with_reducible exact Gw.loadVar _ _ | with_reducible exact Gw.behindNumber _ | with_reducible exact Gw.asNumber _ _ | with_reducible exact Gw.intArith _ _ _ _ | with_reducible exact Gw.intBits _ _ _ _ | with_reducible exact Gw.intDiv _ _ _ _ | with_reducible exact Gw.intCmp _ _ _ | with_reducible exact Gw.shift _ _ _ _ _ | with_reducible exact Gw.floatArith _ _ _ _ | with_reducible exact Gw.floatCmp _ _ _ _ | with_reducible exact Gw.byteOf _ | with_reducible refine Gw.bind ?_ (fun _ => ?_) | split | dsimp only)
theorem Gw.addrSub (k : IntKind) (a b : Addr) : Gw P (Op.addrSub k a b) := by
  unfold Op.addrSub
  repeat' (first | with_reducible exact Gw.pure _ | with_reducible exact Gw.stuck _ | with_reducible exact Gw.unsupported _ | with_reducible exact Gw.runtimePanic _ | with_reducible exact Gw.boundsPanic _ _ _ _ | with_reducible exact Gw.underlying _ | with_reducible exact Gw.sizeOf _ | with_reducible exact Gw.typeInfo _ | with_reducible exact Gw.zeroValue _ | with_reducible exact Gw.program | with_reducible exact Gw.shape _ | with_reducible exact Gw.getObj _ | with_reducible exact Gw.noView _ | with_reducible exact Gw.sureAddr _ | with_reducible exact Gw.asIntOf _ | with_reducible exact Gw.asInt _ | with_reducible exact Gw.asBool _ | with_reducible exact Gw.asAgg _ | with_reducible exact Gw.asAddr _ | with_reducible exact Gw.part _ _ _ | with_reducible exact Gw.choose _ | with_reducible exact Gw.askRoom _ | with_reducible exact Gw.newRow _ _ | with_reducible exact Gw.loadVar _ _ | with_reducible exact Gw.behindNumber _ | with_reducible exact Gw.asNumber _ _ | with_reducible exact Gw.intArith _ _ _ _ | with_reducible exact Gw.intBits _ _ _ _ | with_reducible exact Gw.intDiv _ _ _ _ | with_reducible exact Gw.intCmp _ _ _ | with_reducible exact Gw.shift _ _ _ _ _ | with_reducible exact Gw.floatArith _ _ _ _ | with_reducible exact Gw.floatCmp _ _ _ _ | with_reducible exact Gw.twoPlaces _ _ | with_reducible refine Gw.bind ?_ (fun _ => ?_) | split | dsimp only)
theorem Gw.addrCmp (op : BinOp) (a b : Addr) : Gw P (Op.addrCmp op a b) := by
  unfold Op.addrCmp
  repeat' (first | with_reducible exact Gw.pure _ | with_reducible exact Gw.stuck _ | with_reducible exact Gw.unsupported _ | with_reducible exact Gw.runtimePanic _ | with_reducible exact Gw.boundsPanic _ _ _ _ | with_reducible exact Gw.underlying _ | with_reducible exact Gw.sizeOf _ | with_reducible exact Gw.typeInfo _ | with_reducible exact Gw.zeroValue _ | with_reducible exact Gw.program | with_reducible exact Gw.shape _ | with_reducible exact Gw.getObj _ | with_reducible exact Gw.noView _ | with_reducible exact Gw.sureAddr _ | with_reducible exact Gw.asIntOf _ | with_reducible exact Gw.asInt _ | with_reducible exact Gw.asBool _ | with_reducible exact Gw.asAgg _ | with_reducible exact Gw.asAddr _ | with_reducible exact Gw.part _ _ _ | with_reducible exact Gw.choose _ | with_reducible exact Gw.askRoom _ | with_reducible exact Gw.newRow _ _ | with_reducible exact Gw.loadVar _ _ | with_reducible exact Gw.behindNumber _ | with_reducible exact Gw.asNumber _ _ | with_reducible exact Gw.intArith _ _ _ _ | with_reducible exact Gw.intBits _ _ _ _ | with_reducible exact Gw.intDiv _ _ _ _ | with_reducible exact Gw.intCmp _ _ _ | with_reducible exact Gw.shift _ _ _ _ _ | with_reducible exact Gw.floatArith _ _ _ _ | with_reducible exact Gw.floatCmp _ _ _ _ | with_reducible exact Gw.twoPlaces _ _ | with_reducible refine Gw.bind ?_ (fun _ => ?_) | split | dsimp only)
theorem Gw.addrMod (k : IntKind) (a : Addr) (n : Int) : Gw P (Op.addrMod k a n) := by
  unfold Op.addrMod
  repeat' (first | with_reducible exact Gw.pure _ | with_reducible exact Gw.stuck _ | with_reducible exact Gw.unsupported _ | with_reducible exact Gw.runtimePanic _ | with_reducible exact Gw.boundsPanic _ _ _ _ | with_reducible exact Gw.underlying _ | with_reducible exact Gw.sizeOf _ | with_reducible exact Gw.typeInfo _ | with_reducible exact Gw.zeroValue _ | with_reducible exact Gw.program | with_reducible exact Gw.shape _ | with_reducible exact Gw.getObj _ | with_reducible exact Gw.noView _ | with_reducible exact Gw.sureAddr _ | with_reducible exact Gw.asIntOf _ | with_reducible exact Gw.asInt _ | with_reducible exact Gw.asBool _ | with_reducible exact Gw.asAgg _ | with_reducible exact Gw.asAddr _ | with_reducible exact Gw.part _ _ _ | with_reducible exact Gw.choose _ | with_reducible exact Gw.askRoom _ | with_reducible exact Gw.newRow _ _ | with_reducible exact Gw.loadVar _ _ | with_reducible exact Gw.behindNumber _ | with_reducible exact Gw.asNumber _ _ | with_reducible exact Gw.intArith _ _ _ _ | with_reducible exact Gw.intBits _ _ _ _ | with_reducible exact Gw.intDiv _ _ _ _ | with_reducible exact Gw.intCmp _ _ _ | with_reducible exact Gw.shift _ _ _ _ _ | with_reducible exact Gw.floatArith _ _ _ _ | with_reducible exact Gw.floatCmp _ _ _ _ | with_reducible exact Gw.byteOf _ | with_reducible refine Gw.bind ?_ (fun _ => ?_) | split | dsimp only)
theorem Gw.stringOp (op : BinOp) (a b : ByteArray) : Gw P (Op.stringOp op a b) := by
  unfold Op.stringOp
  repeat' (first | with_reducible exact Gw.pure _ | with_reducible exact Gw.stuck _ | with_reducible exact Gw.unsupported _ | with_reducible exact Gw.runtimePanic _ | with_reducible exact Gw.boundsPanic _ _ _ _ | with_reducible exact Gw.underlying _ | with_reducible exact Gw.sizeOf _ | with_reducible exact Gw.typeInfo _ | with_reducible exact Gw.zeroValue _ | with_reducible exact Gw.program | with_reducible exact Gw.shape _ | with_reducible exact Gw.getObj _ | with_reducible exact Gw.noView _ | with_reducible exact Gw.sureAddr _ | with_reducible exact Gw.asIntOf _ | with_reducible exact Gw.asInt _ | with_reducible exact Gw.asBool _ | with_reducible exact Gw.asAgg _ | with_reducible exact Gw.asAddr _ | with_reducible exact Gw.part _ _ _ | with_reducible exact Gw.choose _ | with_reducible exact Gw.askRoom _ | with_reducible exact Gw.newRow _ _ | with_reducible exact Gw.loadVar _ _ | with_reducible exact Gw.behindNumber _ | with_reducible exact Gw.asNumber _ _ | with_reducible exact Gw.intArith _ _ _ _ | with_reducible exact Gw.intBits _ _ _ _ | with_reducible exact Gw.intDiv _ _ _ _ | with_reducible exact Gw.intCmp _ _ _ | with_reducible exact Gw.shift _ _ _ _ _ | with_reducible exact Gw.floatArith _ _ _ _ | with_reducible exact Gw.floatCmp _ _ _ _ | with_reducible refine Gw.bind ?_ (fun _ => ?_) | split | dsimp only)
theorem Gw.floatToFloat (s : FloatKind) (b : Nat) (d : FloatKind) : Gw P (Conv.floatToFloat s b d) := by
  unfold Conv.floatToFloat
  repeat' (first | with_reducible exact Gw.pure _ | with_reducible exact Gw.stuck _ | with_reducible exact Gw.unsupported _ | with_reducible exact Gw.runtimePanic _ | with_reducible exact Gw.boundsPanic _ _ _ _ | with_reducible exact Gw.underlying _ | with_reducible exact Gw.sizeOf _ | with_reducible exact Gw.typeInfo _ | with_reducible exact Gw.zeroValue _ | with_reducible exact Gw.program | with_reducible exact Gw.shape _ | with_reducible exact Gw.getObj _ | with_reducible exact Gw.noView _ | with_reducible exact Gw.sureAddr _ | with_reducible exact Gw.asIntOf _ | with_reducible exact Gw.asInt _ | with_reducible exact Gw.asBool _ | with_reducible exact Gw.asAgg _ | with_reducible exact Gw.asAddr _ | with_reducible exact Gw.part _ _ _ | with_reducible exact Gw.choose _ | with_reducible exact Gw.askRoom _ | with_reducible exact Gw.newRow _ _ | with_reducible exact Gw.loadVar _ _ | with_reducible exact Gw.behindNumber _ | with_reducible exact Gw.asNumber _ _ | with_reducible exact Gw.intArith _ _ _ _ | with_reducible exact Gw.intBits _ _ _ _ | with_reducible exact Gw.intDiv _ _ _ _ | with_reducible exact Gw.intCmp _ _ _ | with_reducible exact Gw.shift _ _ _ _ _ | with_reducible exact Gw.floatArith _ _ _ _ | with_reducible exact Gw.floatCmp _ _ _ _ | with_reducible refine Gw.bind ?_ (fun _ => ?_) | split | dsimp only)
theorem Gw.cArith (op : BinOp) (k : FloatKind) (x y : Nat) : Gw P (Op.Complex.arith op k x y) := by
  unfold Op.Complex.arith
  repeat' (first | with_reducible exact Gw.pure _ | with_reducible exact Gw.stuck _ | with_reducible exact Gw.unsupported _ | with_reducible exact Gw.runtimePanic _ | with_reducible exact Gw.boundsPanic _ _ _ _ | with_reducible exact Gw.underlying _ | with_reducible exact Gw.sizeOf _ | with_reducible exact Gw.typeInfo _ | with_reducible exact Gw.zeroValue _ | with_reducible exact Gw.program | with_reducible exact Gw.shape _ | with_reducible exact Gw.getObj _ | with_reducible exact Gw.noView _ | with_reducible exact Gw.sureAddr _ | with_reducible exact Gw.asIntOf _ | with_reducible exact Gw.asInt _ | with_reducible exact Gw.asBool _ | with_reducible exact Gw.asAgg _ | with_reducible exact Gw.asAddr _ | with_reducible exact Gw.part _ _ _ | with_reducible exact Gw.choose _ | with_reducible exact Gw.askRoom _ | with_reducible exact Gw.newRow _ _ | with_reducible exact Gw.loadVar _ _ | with_reducible exact Gw.behindNumber _ | with_reducible exact Gw.asNumber _ _ | with_reducible exact Gw.intArith _ _ _ _ | with_reducible exact Gw.intBits _ _ _ _ | with_reducible exact Gw.intDiv _ _ _ _ | with_reducible exact Gw.intCmp _ _ _ | with_reducible exact Gw.shift _ _ _ _ _ | with_reducible exact Gw.floatArith _ _ _ _ | with_reducible exact Gw.floatCmp _ _ _ _ | with_reducible refine Gw.bind ?_ (fun _ => ?_) | split | dsimp only)
theorem Gw.cCmp (op : BinOp) (k : FloatKind) (x y : Nat) : Gw P (Op.Complex.cmp op k x y) := by
  unfold Op.Complex.cmp
  repeat' (first | with_reducible exact Gw.pure _ | with_reducible exact Gw.stuck _ | with_reducible exact Gw.unsupported _ | with_reducible exact Gw.runtimePanic _ | with_reducible exact Gw.boundsPanic _ _ _ _ | with_reducible exact Gw.underlying _ | with_reducible exact Gw.sizeOf _ | with_reducible exact Gw.typeInfo _ | with_reducible exact Gw.zeroValue _ | with_reducible exact Gw.program | with_reducible exact Gw.shape _ | with_reducible exact Gw.getObj _ | with_reducible exact Gw.noView _ | with_reducible exact Gw.sureAddr _ | with_reducible exact Gw.asIntOf _ | with_reducible exact Gw.asInt _ | with_reducible exact Gw.asBool _ | with_reducible exact Gw.asAgg _ | with_reducible exact Gw.asAddr _ | with_reducible exact Gw.part _ _ _ | with_reducible exact Gw.choose _ | with_reducible exact Gw.askRoom _ | with_reducible exact Gw.newRow _ _ | with_reducible exact Gw.loadVar _ _ | with_reducible exact Gw.behindNumber _ | with_reducible exact Gw.asNumber _ _ | with_reducible exact Gw.intArith _ _ _ _ | with_reducible exact Gw.intBits _ _ _ _ | with_reducible exact Gw.intDiv _ _ _ _ | with_reducible exact Gw.intCmp _ _ _ | with_reducible exact Gw.shift _ _ _ _ _ | with_reducible exact Gw.floatArith _ _ _ _ | with_reducible exact Gw.floatCmp _ _ _ _ | with_reducible refine Gw.bind ?_ (fun _ => ?_) | split | dsimp only)
theorem Gw.cConv (s : FloatKind) (x : Nat) (d : FloatKind) : Gw P (Op.Complex.conv s x d) := by
  unfold Op.Complex.conv
  repeat' (first | with_reducible exact Gw.pure _ | with_reducible exact Gw.stuck _ | with_reducible exact Gw.unsupported _ | with_reducible exact Gw.runtimePanic _ | with_reducible exact Gw.boundsPanic _ _ _ _ | with_reducible exact Gw.underlying _ | with_reducible exact Gw.sizeOf _ | with_reducible exact Gw.typeInfo _ | with_reducible exact Gw.zeroValue _ | with_reducible exact Gw.program | with_reducible exact Gw.shape _ | with_reducible exact Gw.getObj _ | with_reducible exact Gw.noView _ | with_reducible exact Gw.sureAddr _ | with_reducible exact Gw.asIntOf _ | with_reducible exact Gw.asInt _ | with_reducible exact Gw.asBool _ | with_reducible exact Gw.asAgg _ | with_reducible exact Gw.asAddr _ | with_reducible exact Gw.part _ _ _ | with_reducible exact Gw.choose _ | with_reducible exact Gw.askRoom _ | with_reducible exact Gw.newRow _ _ | with_reducible exact Gw.loadVar _ _ | with_reducible exact Gw.behindNumber _ | with_reducible exact Gw.asNumber _ _ | with_reducible exact Gw.intArith _ _ _ _ | with_reducible exact Gw.intBits _ _ _ _ | with_reducible exact Gw.intDiv _ _ _ _ | with_reducible exact Gw.intCmp _ _ _ | with_reducible exact Gw.shift _ _ _ _ _ | with_reducible exact Gw.floatArith _ _ _ _ | with_reducible exact Gw.floatCmp _ _ _ _ | with_reducible exact Gw.floatToFloat _ _ _ | with_reducible refine Gw.bind ?_ (fun _ => ?_) | split | dsimp only)
theorem Gw.c_add (x y : Nat) : Gw P (Op.Complex.add x y) := Gw.cArith _ _ _ _
theorem Gw.c_sub (x y : Nat) : Gw P (Op.Complex.sub x y) := Gw.cArith _ _ _ _
theorem Gw.c_mul (x y : Nat) : Gw P (Op.Complex.mul x y) := Gw.cArith _ _ _ _
theorem Gw.c_quo (x y : Nat) : Gw P (Op.Complex.quo x y) := Gw.cArith _ _ _ _
theorem Gw.cProduct (a b c d : Nat) : Gw P (Op.Complex.product a b c d) := by
  unfold Op.Complex.product
  repeat' (first | with_reducible exact Gw.pure _ | with_reducible exact Gw.stuck _ | with_reducible exact Gw.unsupported _ | with_reducible exact Gw.runtimePanic _ | with_reducible exact Gw.boundsPanic _ _ _ _ | with_reducible exact Gw.underlying _ | with_reducible exact Gw.sizeOf _ | with_reducible exact Gw.typeInfo _ | with_reducible exact Gw.zeroValue _ | with_reducible exact Gw.program | with_reducible exact Gw.shape _ | with_reducible exact Gw.getObj _ | with_reducible exact Gw.noView _ | with_reducible exact Gw.sureAddr _ | with_reducible exact Gw.asIntOf _ | with_reducible exact Gw.asInt _ | with_reducible exact Gw.asBool _ | with_reducible exact Gw.asAgg _ | with_reducible exact Gw.asAddr _ | with_reducible exact Gw.part _ _ _ | with_reducible exact Gw.choose _ | with_reducible exact Gw.askRoom _ | with_reducible exact Gw.newRow _ _ | with_reducible exact Gw.loadVar _ _ | with_reducible exact Gw.behindNumber _ | with_reducible exact Gw.asNumber _ _ | with_reducible exact Gw.intArith _ _ _ _ | with_reducible exact Gw.intBits _ _ _ _ | with_reducible exact Gw.intDiv _ _ _ _ | with_reducible exact Gw.intCmp _ _ _ | with_reducible exact Gw.shift _ _ _ _ _ | with_reducible exact Gw.floatArith _ _ _ _ | with_reducible exact Gw.floatCmp _ _ _ _ | with_reducible exact Gw.c_add _ _ | with_reducible exact Gw.c_sub _ _ | with_reducible exact Gw.c_mul _ _ | with_reducible exact Gw.c_quo _ _ | with_reducible exact Gw.cCmp _ _ _ _ | with_reducible exact Gw.cArith _ _ _ _ | with_reducible exact Gw.cConv _ _ _ | with_reducible refine Gw.bind ?_ (fun _ => ?_) | split | dsimp only)
theorem Gw.cCorrected (s a b c d : Nat) : Gw P (Op.Complex.corrected s a b c d) := by
  unfold Op.Complex.corrected
  repeat' (first | with_reducible exact Gw.pure _ | with_reducible exact Gw.stuck _ | with_reducible exact Gw.unsupported _ | with_reducible exact Gw.runtimePanic _ | with_reducible exact Gw.boundsPanic _ _ _ _ | with_reducible exact Gw.underlying _ | with_reducible exact Gw.sizeOf _ | with_reducible exact Gw.typeInfo _ | with_reducible exact Gw.zeroValue _ | with_reducible exact Gw.program | with_reducible exact Gw.shape _ | with_reducible exact Gw.getObj _ | with_reducible exact Gw.noView _ | with_reducible exact Gw.sureAddr _ | with_reducible exact Gw.asIntOf _ | with_reducible exact Gw.asInt _ | with_reducible exact Gw.asBool _ | with_reducible exact Gw.asAgg _ | with_reducible exact Gw.asAddr _ | with_reducible exact Gw.part _ _ _ | with_reducible exact Gw.choose _ | with_reducible exact Gw.askRoom _ | with_reducible exact Gw.newRow _ _ | with_reducible exact Gw.loadVar _ _ | with_reducible exact Gw.behindNumber _ | with_reducible exact Gw.asNumber _ _ | with_reducible exact Gw.intArith _ _ _ _ | with_reducible exact Gw.intBits _ _ _ _ | with_reducible exact Gw.intDiv _ _ _ _ | with_reducible exact Gw.intCmp _ _ _ | with_reducible exact Gw.shift _ _ _ _ _ | with_reducible exact Gw.floatArith _ _ _ _ | with_reducible exact Gw.floatCmp _ _ _ _ | with_reducible exact Gw.c_add _ _ | with_reducible exact Gw.c_sub _ _ | with_reducible exact Gw.c_mul _ _ | with_reducible exact Gw.c_quo _ _ | with_reducible exact Gw.cCmp _ _ _ _ | with_reducible exact Gw.cArith _ _ _ _ | with_reducible exact Gw.cConv _ _ _ | with_reducible refine Gw.bind ?_ (fun _ => ?_) | split | dsimp only)
theorem Gw.cQuotient (a b c d : Nat) : Gw P (Op.Complex.quotient a b c d) := by
  unfold Op.Complex.quotient
  repeat' (first | with_reducible exact Gw.pure _ | with_reducible exact Gw.stuck _ | with_reducible exact Gw.unsupported _ | with_reducible exact Gw.runtimePanic _ | with_reducible exact Gw.boundsPanic _ _ _ _ | with_reducible exact Gw.underlying _ | with_reducible exact Gw.sizeOf _ | with_reducible exact Gw.typeInfo _ | with_reducible exact Gw.zeroValue _ | with_reducible exact Gw.program | with_reducible exact Gw.shape _ | with_reducible exact Gw.getObj _ | with_reducible exact Gw.noView _ | with_reducible exact Gw.sureAddr _ | with_reducible exact Gw.asIntOf _ | with_reducible exact Gw.asInt _ | with_reducible exact Gw.asBool _ | with_reducible exact Gw.asAgg _ | with_reducible exact Gw.asAddr _ | with_reducible exact Gw.part _ _ _ | with_reducible exact Gw.choose _ | with_reducible exact Gw.askRoom _ | with_reducible exact Gw.newRow _ _ | with_reducible exact Gw.loadVar _ _ | with_reducible exact Gw.behindNumber _ | with_reducible exact Gw.asNumber _ _ | with_reducible exact Gw.intArith _ _ _ _ | with_reducible exact Gw.intBits _ _ _ _ | with_reducible exact Gw.intDiv _ _ _ _ | with_reducible exact Gw.intCmp _ _ _ | with_reducible exact Gw.shift _ _ _ _ _ | with_reducible exact Gw.floatArith _ _ _ _ | with_reducible exact Gw.floatCmp _ _ _ _ | with_reducible exact Gw.c_add _ _ | with_reducible exact Gw.c_sub _ _ | with_reducible exact Gw.c_mul _ _ | with_reducible exact Gw.c_quo _ _ | with_reducible exact Gw.cCmp _ _ _ _ | with_reducible exact Gw.cArith _ _ _ _ | with_reducible exact Gw.cConv _ _ _ | with_reducible exact Gw.cCorrected _ _ _ _ _ | with_reducible refine Gw.bind ?_ (fun _ => ?_) | split | dsimp only)
theorem Gw.complexOp (op : BinOp) (k : FloatKind) (a b c d : Nat) : Gw P (Op.complexOp op k a b c d) := by
  unfold Op.complexOp
  repeat' (first | with_reducible exact Gw.pure _ | with_reducible exact Gw.stuck _ | with_reducible exact Gw.unsupported _ | with_reducible exact Gw.runtimePanic _ | with_reducible exact Gw.boundsPanic _ _ _ _ | with_reducible exact Gw.underlying _ | with_reducible exact Gw.sizeOf _ | with_reducible exact Gw.typeInfo _ | with_reducible exact Gw.zeroValue _ | with_reducible exact Gw.program | with_reducible exact Gw.shape _ | with_reducible exact Gw.getObj _ | with_reducible exact Gw.noView _ | with_reducible exact Gw.sureAddr _ | with_reducible exact Gw.asIntOf _ | with_reducible exact Gw.asInt _ | with_reducible exact Gw.asBool _ | with_reducible exact Gw.asAgg _ | with_reducible exact Gw.asAddr _ | with_reducible exact Gw.part _ _ _ | with_reducible exact Gw.choose _ | with_reducible exact Gw.askRoom _ | with_reducible exact Gw.newRow _ _ | with_reducible exact Gw.loadVar _ _ | with_reducible exact Gw.behindNumber _ | with_reducible exact Gw.asNumber _ _ | with_reducible exact Gw.intArith _ _ _ _ | with_reducible exact Gw.intBits _ _ _ _ | with_reducible exact Gw.intDiv _ _ _ _ | with_reducible exact Gw.intCmp _ _ _ | with_reducible exact Gw.shift _ _ _ _ _ | with_reducible exact Gw.floatArith _ _ _ _ | with_reducible exact Gw.floatCmp _ _ _ _ | with_reducible exact Gw.c_add _ _ | with_reducible exact Gw.c_sub _ _ | with_reducible exact Gw.c_mul _ _ | with_reducible exact Gw.c_quo _ _ | with_reducible exact Gw.cCmp _ _ _ _ | with_reducible exact Gw.cArith _ _ _ _ | with_reducible exact Gw.cConv _ _ _ | with_reducible exact Gw.cProduct _ _ _ _ | with_reducible exact Gw.cQuotient _ _ _ _ | with_reducible refine Gw.bind ?_ (fun _ => ?_) | split | dsimp only)
theorem Gw.equalAt {t : TypeId} (h : (∃ k, P.underlying t = some (.int k)) ∨ P.underlying t = some .bool ∨ P.underlying t = some .string) (x y : Value) : Gw P (Op.equal t x y) := by
  unfold Op.equal Op.maxDepth Op.equalIn
  rcases h with ⟨k, h⟩ | h | h
  all_goals
    refine .bindU h ?_
    split <;> first
      | contradiction
      | exact .pure _
      | exact .stuck _
      | exact .unsupported _
      | (split <;> first | exact .pure _ | exact .stuck _)
      | (refine .bind (.behindNumber _) fun p => .bind (.behindNumber _) fun q => ?_
         refine Gw.bind (x := Go.program) .program fun pr => ?_
         split
         · exact .bind (.byteOf _) fun _ => .bind (.byteOf _) fun _ => .pure _
         · refine .bind (.typeInfo _) fun i => ?_
           split
           · split
             · exact .pure _
             · exact .unsupported _
           · exact .unsupported _)
theorem Gw.eqGuardInAt {t : TypeId} (h : (∃ k, P.underlying t = some (.int k)) ∨ P.underlying t = some .bool ∨ P.underlying t = some .string) (a b : Value) : Gw P (Op.eqGuardIn Op.maxDepth t a b) := by
  unfold Op.maxDepth Op.eqGuardIn
  rcases h with ⟨k, h⟩ | h | h <;> exact .bindU h (.pure _)
theorem Gw.eqGuardAt {op : BinOp} {t : TypeId} (x y : Operand) (a b : Value) (h : (op ≠ .eql ∧ op ≠ .neq) ∨ (∃ k, P.underlying t = some (.int k)) ∨ P.underlying t = some .bool ∨ P.underlying t = some .string) : Gw P (Go.eqGuard op t x y a b) := by
  unfold Go.eqGuard
  rcases h with ⟨h1, h2⟩ | h
  · cases op <;> first | exact absurd rfl h1 | exact absurd rfl h2 | exact .pure _
  · have hg := fun a b => Gw.eqGuardInAt h a b
    repeat' (first | with_reducible exact Gw.pure _ | with_reducible exact Gw.stuck _ | with_reducible exact Gw.unsupported _ | with_reducible exact Gw.runtimePanic _ | with_reducible exact Gw.boundsPanic _ _ _ _ | with_reducible exact Gw.underlying _ | with_reducible exact Gw.sizeOf _ | with_reducible exact Gw.typeInfo _ | with_reducible exact Gw.zeroValue _ | with_reducible exact Gw.program | with_reducible exact Gw.shape _ | with_reducible exact Gw.getObj _ | with_reducible exact Gw.noView _ | with_reducible exact Gw.sureAddr _ | with_reducible exact Gw.asIntOf _ | with_reducible exact Gw.asInt _ | with_reducible exact Gw.asBool _ | with_reducible exact Gw.asAgg _ | with_reducible exact Gw.asAddr _ | with_reducible exact Gw.part _ _ _ | with_reducible exact Gw.choose _ | with_reducible exact Gw.askRoom _ | with_reducible exact Gw.newRow _ _ | with_reducible exact Gw.loadVar _ _ | with_reducible exact Gw.behindNumber _ | with_reducible exact Gw.asNumber _ _ | with_reducible exact Gw.intArith _ _ _ _ | with_reducible exact Gw.intBits _ _ _ _ | with_reducible exact Gw.intDiv _ _ _ _ | with_reducible exact Gw.intCmp _ _ _ | with_reducible exact Gw.shift _ _ _ _ _ | with_reducible exact Gw.floatArith _ _ _ _ | with_reducible exact Gw.floatCmp _ _ _ _ | with_reducible exact hg _ _ | with_reducible refine Gw.bind ?_ (fun _ => ?_) | split | dsimp only)
theorem Gw.binOpAt {op : BinOp} {t : TypeId} (a b : Value) (h : (op ≠ .eql ∧ op ≠ .neq) ∨ (∃ k, P.underlying t = some (.int k)) ∨ P.underlying t = some .bool ∨ P.underlying t = some .string) (hs : op ≠ .sub) : Gw P (Go.binOp op t a b) := by
  unfold Go.binOp
  repeat' (first | with_reducible exact Gw.pure _ | with_reducible exact Gw.stuck _ | with_reducible exact Gw.unsupported _ | with_reducible exact Gw.runtimePanic _ | with_reducible exact Gw.boundsPanic _ _ _ _ | with_reducible exact Gw.underlying _ | with_reducible exact Gw.sizeOf _ | with_reducible exact Gw.typeInfo _ | with_reducible exact Gw.zeroValue _ | with_reducible exact Gw.program | with_reducible exact Gw.shape _ | with_reducible exact Gw.getObj _ | with_reducible exact Gw.noView _ | with_reducible exact Gw.sureAddr _ | with_reducible exact Gw.asIntOf _ | with_reducible exact Gw.asInt _ | with_reducible exact Gw.asBool _ | with_reducible exact Gw.asAgg _ | with_reducible exact Gw.asAddr _ | with_reducible exact Gw.part _ _ _ | with_reducible exact Gw.choose _ | with_reducible exact Gw.askRoom _ | with_reducible exact Gw.newRow _ _ | with_reducible exact Gw.loadVar _ _ | with_reducible exact Gw.behindNumber _ | with_reducible exact Gw.asNumber _ _ | with_reducible exact Gw.intArith _ _ _ _ | with_reducible exact Gw.intBits _ _ _ _ | with_reducible exact Gw.intDiv _ _ _ _ | with_reducible exact Gw.intCmp _ _ _ | with_reducible exact Gw.shift _ _ _ _ _ | with_reducible exact Gw.floatArith _ _ _ _ | with_reducible exact Gw.floatCmp _ _ _ _ | with_reducible exact Gw.movedNumber _ _ _ | with_reducible exact Gw.movedPointer _ _ _ | with_reducible exact Gw.addrSub _ _ _ | with_reducible exact Gw.addrCmp _ _ _ | with_reducible exact Gw.addrMod _ _ _ | with_reducible exact Gw.stringOp _ _ _ | with_reducible exact Gw.complexOp _ _ _ _ _ _ | with_reducible refine Gw.bind ?_ (fun _ => ?_) | split | dsimp only)
  all_goals (refine .equalAt (h.resolve_left ?_) _ _; rintro ⟨h1, h2⟩; first | exact h1 rfl | exact h2 rfl)
theorem Gw.value {s : Sem Value} (h : Gw P s) : Gw P (s >>= fun v => Pure.pure (Next.value v)) := .bind h fun _ => .pure _
end

/-- What operations of these kinds do, they do by making memory anew, at most; and they give a value. -/
def growKind (P : Program) : Op → Bool
  | .move _ | .assign _ | .pick .. | .alloc _ | .box .. | .load .. | .fieldAddr .. | .field .. | .indexAddr .. | .extract .. | .index .. | .slice .. | .makeSlice .. | .unOp .. => true
  | .nilCheck _ => true
  | .call { callee := .builtin b, .. } => match b with
    | .len | .cap => true
    | _ => false
  | .convert s d _ => match P.underlying s, P.underlying d with
    | some (.int _), some (.int _) => true
    | _, _ => false
  | .binOp op t _ _ _ => match op with
    | .eql | .neq => match P.underlying t with
      | some (.int _) | some .bool | some .string => true
      | _ => false
    | .sub => false
    | _ => true
  | _ => false

/-- It gives a value, and has only made memory anew. -/
def GV (P : Program) (s : Sem Next) : Prop := ∀ (w : World) (a : Next) (w' : World), s.run P w = .ok a w' → Grown w w' ∧ ∃ v, a = .value v

theorem GV.value {P : Program} {s : Sem Value} (h : Gw P s) : GV P (s >>= fun v => Pure.pure (Next.value v)) := fun w a w' hr => by
  refine ⟨Gw.value h w a w' hr, ?_⟩
  rw [Sem.run_bind] at hr
  cases hs : s.run P w with
  | ok v w1 => rw [hs] at hr; simp at hr; exact ⟨v, hr.1.symm⟩
  | halt y w1 => rw [hs] at hr; simp at hr
theorem GV.pure {P : Program} (v : Value) : GV P (Pure.pure (Next.value v)) := fun w a w' hr => by
  simp at hr; obtain ⟨rfl, rfl⟩ := hr; exact ⟨.refl _, v, rfl⟩
theorem GV.never {P : Program} {s : Sem Next} (h : ∀ w a w', s.run P w ≠ .ok a w') : GV P s := fun w a w' hr => absurd hr (h w a w')
theorem GV.bind {P : Program} {α : Type} {s : Sem α} {f : α → Sem Next} (hs : Gw P s) (hf : ∀ a, GV P (f a)) : GV P (s >>= f) := fun w a w' hr => by
  rw [Sem.run_bind] at hr
  cases h : s.run P w with
  | ok v w1 =>
    rw [h] at hr
    obtain ⟨g, v', e⟩ := hf v w1 a w' hr
    exact ⟨(hs w v w1 h).trans g, v', e⟩
  | halt y w1 => rw [h] at hr; simp at hr
theorem GV.halt {P : Program} (h : Halt) : GV P (Sem.halt h : Sem Next) := .never fun w a w' hr => by simp at hr
theorem GV.nil {P : Program} : GV P (runtimePanic .nilDeref : Sem Next) := .never fun w a w' h => by
  unfold Go.runtimePanic at h
  simp at h

theorem growKind_spec {P : Program} {op : Op} (h : growKind P op = true) (ρ : Operand → Value) (ty : TypeId) : GV P (exOp ρ op ty) := by
  unfold exOp execOp
  cases op with
  | move x => exact .pure _
  | assign x => exact .pure _
  | pick c a b => exact .bind (.asBool _) fun _ => .pure _
  | alloc e => exact .value (.alloc e)
  | box e x => exact .value (.box e _)
  | load t a => exact .value (.bind (.sureAddr _) fun _ => .loadVar _ _)
  | fieldAddr s x f => exact .value (.fieldAt _ _ _)
  | field s x f => exact .value (.field _ _ _)
  | indexAddr t x i => exact .value (.indexAt _ _ _)
  | index t x i => exact .value (.index _ _ _)
  | extract t i => exact .value (.extract _ _)
  | slice t x lo hi mx => exact .value (.sliceAt _ _ _ _ _)
  | makeSlice t l c => exact .value (.makeSlice _ _ _)
  | unOp op t x => exact .value (.unary _ _)
  | nilCheck x =>
    dsimp only
    split
    · exact .nil
    · exact .nil
    · exact .nil
    · split
      · exact .nil
      · refine .bind .program fun p => .bind (.nilAhead _ _ _ _) fun b => ?_
        split
        · exact .bind (.unsupported _) fun _ => .pure _
        · exact GV.pure (Value.func _ _ _)
      · exact .pure _
    · exact .pure _
  | call c =>
    obtain ⟨callee, args, argTypes⟩ := c
    cases callee with
    | builtin b =>
      cases b <;> simp only [growKind, Bool.false_eq_true] at h
      · exact .value (.cap _ _ _)
      · exact .value (.len _ _ _)
    | _ => simp [growKind] at h
  | convert s d x =>
    simp only [growKind] at h
    split at h
    · rename_i hs hd
      exact .value (.convInt hs hd _)
    · cases h
  | binOp op t x y yt =>
    have ht : (op ≠ .eql ∧ op ≠ .neq) ∨ (∃ k, P.underlying t = some (.int k)) ∨ P.underlying t = some .bool ∨ P.underlying t = some .string := by
      by_cases h1 : op = .eql
      · subst h1
        simp only [growKind] at h
        right
        split at h
        · exact .inl ⟨_, by assumption⟩
        · exact .inr (.inl (by assumption))
        · exact .inr (.inr (by assumption))
        · cases h
      · by_cases h2 : op = .neq
        · subst h2
          simp only [growKind] at h
          right
          split at h
          · exact .inl ⟨_, by assumption⟩
          · exact .inr (.inl (by assumption))
          · exact .inr (.inr (by assumption))
          · cases h
        · exact .inl ⟨h1, h2⟩
    refine .value (.bind (.eqGuardAt _ _ _ _ ht) fun _ => ?_)
    exact Gw.binOpAt _ _ ht (by intro e; subst e; simp [growKind] at h)
  | _ => simp [growKind] at h
end Go.Wk
