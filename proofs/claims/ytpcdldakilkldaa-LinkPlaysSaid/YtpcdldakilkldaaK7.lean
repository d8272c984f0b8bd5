/-
  More of what a printed walk leans on.
-/
import Derived.Test.YtpcdldakilkldaaK6
namespace Go.Wk
open Go

theorem Ext.growOver {S : List Nat} {a b c : World} (h : Grown a b) (k : Ext S b c) (hS : ∀ x ∈ S, ¬ x < a.heap.size) : Grown a c :=
  ⟨k.os.trans h.os, k.tape.trans h.tape, k.output.trans h.output, Nat.le_trans h.size k.size,
    fun i hi => (k.block i (Nat.lt_of_lt_of_le hi h.size) fun hx => hS i hx hi).trans (h.block i hi)⟩

section
variable {P : Program} {ρ : Operand → Value} {ty : TypeId} {w : World}
theorem y_ptr {op : Op} {b off off' : Nat} (h : (exOp ρ op ty).run P w = .ok (.value (.pointer (some ⟨b, off, none⟩))) w) (he : off = off') : (exOp ρ op ty).run P w = .ok (.value (.pointer (some ⟨b, off', none⟩))) w := he ▸ h

theorem x_field_agg {s : TypeId} {x : Operand} {f off n : Nat} {cs vs : Array Value} (hf : fieldAt P s f = some (off, n, true)) (hx : ρ x = .agg cs) (hv : cs.extract off (off + n) = vs) :
    (exOp ρ (.field s x f) ty).run P w = .ok (.value (.agg vs)) w := by
  unfold fieldAt at hf
  split at hf
  · rename_i fs hs
    split at hf
    · rename_i fl hfl
      cases hi : P.info? fl.type with
      | none => simp [hi] at hf
      | some i =>
        cases hu : P.underlying fl.type with
        | none => simp [hi, hu] at hf
        | some dsc =>
          have key : (isAgg fl.type).run P w = .ok true w ∧ fl.offset = off ∧ i.size = n := by
            cases dsc <;> simp [hi, hu] at hf <;> simp [isAgg, run_underlying hu, hf]
          obtain ⟨ha, ho, hsz⟩ := key
          simp [exOp, execOp, hx, Instr.field, run_underlying hs, hfl, asAgg, part, ha, ho, sizeOf, typeInfo, hi, hsz, hv]
    · cases hf
  · cases hf

theorem x_build {t : TypeId} {parts : Array (Nat × Operand)} {cs : Array Value} (h : P.built t (parts.map fun (i, x) => (i, ρ x)).toList = some cs) : (exOp ρ (.build t parts) ty).run P w = .ok (.value (.agg cs)) w := by
  simp only [exOp, execOp, Sem.run_bind, run_build w t _ cs h, Result.andThen_ok, Sem.run_pure]
end

/-- What a result variable gives. -/
inductive R1 (P : Program) (ρ : Fr) (w : World) : ResultVar → Value → Prop where
  | tmp {t : Tmp} {v : Value} (h : ρ t = v) : R1 P ρ w (.tmp t) v
  | one {a : Tmp} {t : TypeId} {b off : Nat} {cs : Array Value} {e : TypeId} {fz : Nat × Nat} {v : Value} (ht : oneT P t = true) (hx : ρ a = .pointer (some ⟨b, off, none⟩))
      (hb : w.heap[b]? = some (.cells cs e fz)) (hv : cs[off]? = some v) : R1 P ρ w (.cell a t) v
  | agg {a : Tmp} {t : TypeId} {b off n : Nat} {cs vs : Array Value} {e : TypeId} {fz : Nat × Nat} (ht : aggT P t n = true) (hx : ρ a = .pointer (some ⟨b, off, none⟩))
      (hb : w.heap[b]? = some (.cells cs e fz)) (hl : off + n ≤ cs.size) (hv : cs.extract off (off + n) = vs) : R1 P ρ w (.cell a t) (.agg vs)
inductive RL (P : Program) (ρ : Fr) (w : World) : List ResultVar → List Value → Prop where
  | nil : RL P ρ w [] []
  | cons {r : ResultVar} {v : Value} {rs : List ResultVar} {vs : List Value} (h : R1 P ρ w r v) (hs : RL P ρ w rs vs) : RL P ρ w (r :: rs) (v :: vs)

def resV : List Value → Value
  | [v] => v
  | vs => .tuple vs.toArray

def r1 (ρ : Fr) : ResultVar → Sem Value
  | .tmp t => pure (ρ t)
  | .cell a t => do loadVar t (← asAddr (ρ a))

theorem run_R1 {P : Program} {ρ : Fr} {w : World} {r : ResultVar} {v : Value} (h : R1 P ρ w r v) : (r1 ρ r).run P w = .ok v w := by
  cases h with
  | tmp h => simp [r1, h]
  | one ht hx hb hv => simp [r1, hx, asAddr, loadVar, run_isAgg_one ht, cell_of hb, hv]
  | agg ht hx hb hl hv => simp [r1, hx, asAddr, loadVar, run_isAgg_agg ht, run_sizeOf_agg ht, run_loadCells_from hb _ _ hl, hv]

theorem run_RL {P : Program} {ρ : Fr} {w : World} : ∀ {rs : List ResultVar} {vs : List Value}, RL P ρ w rs vs → (rs.mapM (r1 ρ)).run P w = .ok vs w
  | _, _, .nil => by simp
  | _, _, .cons h hs => by
    have h1 := run_R1 h
    have h2 := run_RL hs
    simp only [List.mapM_cons, Sem.run_bind, h1, h2, Result.andThen_ok, Sem.run_pure]

theorem runRL {P : Program} {fn : Func} {ρ : Fr} {w : World} {rs : List ResultVar} {vs : List Value} {v : Value} (hr : fn.results = rs.toArray) (h : RL P ρ w rs vs) (hv : resV vs = v) : (resultsF fn ρ).run P w = .ok v w := by
  subst hv
  have e : resultsF fn ρ = (do let vs ← fn.results.mapM (r1 ρ); pure (if h : vs.size = 1 then vs[0] else .tuple vs)) := by
    unfold resultsF
    have : (fun r => r1 ρ r) = r1 ρ := rfl
    congr 1
  rw [e, hr]
  have := run_RL h
  simp only [List.mapM_toArray, Sem.run_bind, Sem.run_map, this, Result.andThen_ok, Sem.run_pure]
  match vs with
  | [] => rfl
  | [_] => rfl
  | _ :: _ :: _ => rfl

theorem mapArgs1 {f : Operand → Value} {a : Operand} {v : Value} (h : f a = v) : #[a].map f = #[v] := by simp [h]
theorem mapArgs2 {f : Operand → Value} {a b : Operand} {v u : Value} (h : f a = v) (k : f b = u) : #[a, b].map f = #[v, u] := by simp [h, k]
theorem mapArgs3 {f : Operand → Value} {a b c : Operand} {v u x : Value} (h : f a = v) (k : f b = u) (l : f c = x) : #[a, b, c].map f = #[v, u, x] := by simp [h, k, l]
theorem mapArgs4 {f : Operand → Value} {a b c d : Operand} {v u x y : Value} (h : f a = v) (k : f b = u) (l : f c = x) (m : f d = y) : #[a, b, c, d].map f = #[v, u, x, y] := by simp [h, k, l, m]
end Go.Wk
