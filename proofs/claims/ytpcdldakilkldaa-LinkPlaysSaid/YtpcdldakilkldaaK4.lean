/-
  Calls by contract; one lemma a kind of operation; memory as blocks.
-/
import Derived.Test.YtpcdldakilkldaaK3
import Derived.Laws.CopyRow
import Derived.Laws.Append
import Derived.Laws.AppendOwn
import Derived.Laws.Tables
namespace Go.Wk
open Go

/-! ### Memory -/

/-- Outside the blocks of S what was there is as it was. -/
structure ExtW (S : List Nat) (w w' : World) : Prop where
  os : w'.os = w.os
  tape : w'.tape = w.tape
  output : w'.output = w.output
  size : w.heap.size ≤ w'.heap.size
  block : ∀ k, k < w.heap.size → k ∉ S → w'.heap[k]? = w.heap[k]?
/-- And nothing is frozen that was not, nor the other way about. -/
structure Ext (S : List Nat) (w w' : World) : Prop extends ExtW S w w' where
  fz : ∀ a, w'.frozen? a = w.frozen? a

theorem Ext.refl (S : List Nat) (w : World) : Ext S w w := ⟨⟨rfl, rfl, rfl, Nat.le_refl _, fun _ _ _ => rfl⟩, fun _ => rfl⟩
theorem Ext.then {S T : List Nat} {a b c : World} (h : Ext S a b) (k : Ext T b c) (hT : ∀ x ∈ T, x < a.heap.size → x ∈ S) : Ext S a c :=
  ⟨⟨k.os.trans h.os, k.tape.trans h.tape, k.output.trans h.output, Nat.le_trans h.size k.size,
    fun i hi hS => (k.block i (Nat.lt_of_lt_of_le hi h.size) fun hx => hS (hT i hx hi)).trans (h.block i hi hS)⟩, fun x => (k.fz x).trans (h.fz x)⟩
theorem Ext.mono {S T : List Nat} {a b : World} (h : Ext S a b) (hs : ∀ x ∈ S, x < a.heap.size → x ∈ T) : Ext T a b :=
  ⟨⟨h.os, h.tape, h.output, h.size, fun i hi hT => h.block i hi fun hx => hT (hs i hx hi)⟩, h.fz⟩
theorem SameMem.ext {a b : World} (h : SameMem a b) (S : List Nat) : Ext S a b := ⟨⟨h.os, h.tape, h.output, by rw [h.heap]; exact Nat.le_refl _, fun _ _ _ => by rw [h.heap]⟩, fun x => by unfold World.frozen?; rw [h.heap]⟩
theorem Grown.ext {a b : World} (h : Grown a b) (S : List Nat) : ExtW S a b := ⟨h.os, h.tape, h.output, h.size, fun k hk _ => h.block k hk⟩
theorem Ext.grown {a b : World} (h : Ext [] a b) : Grown a b := ⟨h.os, h.tape, h.output, h.size, fun k hk => h.block k hk (by simp)⟩

/-- Nothing of it is frozen. -/
def softO : Obj → Bool
  | .cells _ _ (_, hi) => hi == 0
  | _ => true

theorem lt_of_block {w : World} {b : Nat} {o : Obj} (h : w.heap[b]? = some o) : b < w.heap.size := (Array.getElem?_eq_some_iff.1 h).1
theorem ExtW.keep {S : List Nat} {w w' : World} (h : ExtW S w w') {b : Nat} {o : Obj} (hb : w.heap[b]? = some o) (hS : b ∉ S) : w'.heap[b]? = some o :=
  (h.block b (lt_of_block hb) hS).trans hb
theorem Grown.keep {w w' : World} (h : Grown w w') {b : Nat} {o : Obj} (hb : w.heap[b]? = some o) : w'.heap[b]? = some o := (h.block b (lt_of_block hb)).trans hb
theorem SameMem.keep {w w' : World} (h : SameMem w w') {b : Nat} {o : Obj} (hb : w.heap[b]? = some o) : w'.heap[b]? = some o := by rw [h.heap]; exact hb

theorem cell_of {w : World} {b off : Nat} {cs : Array Value} {e : TypeId} {fz : Nat × Nat} (h : w.heap[b]? = some (.cells cs e fz)) : w.cell? ⟨b, off, none⟩ = cs[off]? := by
  simp [World.cell?, h]
theorem frozen_of {w : World} {b off : Nat} {cs : Array Value} {e : TypeId} (h : w.heap[b]? = some (.cells cs e (0, 0))) : w.frozen? ⟨b, off, none⟩ = false := by
  simp [World.frozen?, h]

theorem Ext.alloc (w : World) (o : Obj) (ho : softO o = true := by rfl) : Ext [] w { w with heap := w.heap.push o } := ⟨(Grown.push w o).ext [], fun a => by
  unfold World.frozen?
  by_cases hk : a.block = w.heap.size
  · have e1 : (w.heap.push o)[a.block]? = some o := by rw [hk]; simp
    have e2 : w.heap[a.block]? = none := Array.getElem?_eq_none (by omega)
    simp only [e1, e2]
    cases o with
    | cells cs e fz =>
      obtain ⟨lo, hi⟩ := fz
      have : hi = 0 := by simpa [softO] using ho
      subst this
      simp
    | _ => rfl
  · have e1 : (w.heap.push o)[a.block]? = w.heap[a.block]? := by rw [Array.getElem?_push, if_neg hk]
    simp only [e1]⟩
theorem Ext.drewAlloc (S : List Nat) (w : World) (o : Obj) (ho : softO o = true := by rfl) : Ext S w (w.drew.alloc o) :=
  ((⟨rfl, rfl, rfl, rfl⟩ : SameMem w w.drew).ext S).then (Ext.alloc w.drew o ho) (fun _ h => absurd h List.not_mem_nil)
theorem alloc_new (w : World) (o : Obj) : ({ w with heap := w.heap.push o } : World).heap[w.heap.size]? = some o := by simp
theorem alloc_size (w : World) (o : Obj) : ({ w with heap := w.heap.push o } : World).heap.size = w.heap.size + 1 := by simp

theorem frozen_setRow (w : World) (g : Nat) (cs : Array Value) (a : Addr) : (w.setRow g cs).frozen? a = w.frozen? a := by
  unfold World.frozen? World.setRow
  simp only [Array.getElem?_modify]
  by_cases hk : g = a.block
  · rw [if_pos hk]
    cases w.heap[a.block]? with
    | none => rfl
    | some o => cases o <;> rfl
  · rw [if_neg hk]
theorem Ext.setRow (w : World) (g : Nat) (cs : Array Value) : Ext [g] w (w.setRow g cs) :=
  ⟨⟨rfl, rfl, rfl, by simp, fun k _ hk => setRow_other w g k cs (by simpa using hk)⟩, frozen_setRow w g cs⟩

/-- Cells, some of them written anew. -/
def putCells (cs : Array Value) (off : Nat) : List Value → Array Value
  | [] => cs
  | v :: r => putCells (cs.setIfInBounds off v) (off + 1) r

theorem putCells_size (vs : List Value) : ∀ (cs : Array Value) (off : Nat), (putCells cs off vs).size = cs.size := by
  induction vs with
  | nil => intro cs off; rfl
  | cons v r ih => intro cs off; simp [putCells, ih]

theorem run_storeCells_put {P : Program} (g : Nat) (e : TypeId) : ∀ (vs : List Value) (off i : Nat) (cs : Array Value) (w : World), w.heap[g]? = some (.cells cs e (0, 0)) → off + i + vs.length ≤ cs.size →
    (∀ v ∈ vs, v.oneCell' = true) → ∃ w', (storeCells ⟨g, off, none⟩ vs i).run P w = .ok () w' ∧ Ext [g] w w' ∧ w'.heap.size = w.heap.size ∧ w'.heap[g]? = some (.cells (putCells cs (off + i) vs) e (0, 0))
  | [], off, i, cs, w, hg, _, _ => ⟨w, rfl, .refl _ _, rfl, hg⟩
  | v :: r, off, i, cs, w, hg, hl, h1 => by
    have hi : off + i < cs.size := by simp at hl; omega
    have hadd : (⟨g, off, none⟩ : Addr).add i = ⟨g, off + i, none⟩ := by unfold Addr.add; split <;> simp_all
    have hc : w.cell? ⟨g, off + i, none⟩ = some cs[off + i] := by rw [cell_of hg]; simp [hi]
    have hst : (store ((⟨g, off, none⟩ : Addr).add i) v).run P w = .ok () (w.setCell ⟨g, off + i, none⟩ v) := by
      rw [hadd, run_store P w _ v _ (h1 v (by simp)), hc]
      simp [frozen_of hg]
    rw [setCell_eq_setRow w g (off + i) cs e (0, 0) v hg] at hst
    obtain ⟨w', h2, h3, h4, h5⟩ := run_storeCells_put g e r off (i + 1) (cs.setIfInBounds (off + i) v) _ (setRow_heap w g cs _ e _ hg) (by simp at hl ⊢; omega) (fun x hx => h1 x (by simp [hx]))
    refine ⟨w', ?_, (Ext.setRow w g _).then h3 (fun x hx _ => hx), by rw [h4]; simp, ?_⟩
    · simp only [storeCells, Sem.run_bind, hst, Result.andThen_ok]; exact h2
    · rw [h5]; rfl

/-! ### Steps -/

/-- What an operation of a region is. -/
def opD (ops : Array Oper) (i : Nat) : Option (Option Tmp × Op × TypeId × Option (Nat × Bool)) := (ops[i]?).map fun o => (o.dst, o.op, o.type, o.guard)

def wantedG (ops : Array Oper) (ρ : Fr) : Option (Nat × Bool) → Bool
  | none => true
  | some (j, want) => yieldedF ops ρ j == some want

def CallsV (P : Program) (f : FuncId) (args : Array Value) (w : World) (K : Value → World → Prop) : Prop :=
  Calls P f args w fun e w' => ∃ v, e = .returned v ∧ K v w'

theorem CallsV.mono {P : Program} {f : FuncId} {args : Array Value} {w : World} {K K' : Value → World → Prop} (h : CallsV P f args w K) (hk : ∀ v w', K v w' → K' v w') : CallsV P f args w K' :=
  Calls.mono h fun _ _ ⟨v, he, hv⟩ => ⟨v, he, hk _ _ hv⟩

section steps
variable {P : Program} {ops : Array Oper} {C : World → Prop} {Q : Fr → World → Prop} {r : List (Nat × Md)} {ρ : Fr} {w : World} {i : Nat}
  {d : Option Tmp} {op : Op} {ty : TypeId} {g : Option (Nat × Bool)}

theorem opD_some (ho : opD ops i = some (d, op, ty, g)) : ∃ o, ops[i]? = some o ∧ o.dst = d ∧ o.op = op ∧ o.type = ty ∧ o.guard = g := by
  unfold opD at ho
  cases h : ops[i]? with
  | none => simp [h] at ho
  | some o =>
    simp only [h, Option.map_some, Option.some.injEq, Prod.mk.injEq] at ho
    exact ⟨o, rfl, ho.1, ho.2.1, ho.2.2.1, ho.2.2.2⟩

theorem wanted_of (o : Oper) (hg : o.guard = g) : Region.wanted o (yieldedF ops ρ) = wantedG ops ρ g := by
  subst hg
  unfold Region.wanted wantedG
  cases o.guard <;> rfl

theorem wk_pure (ho : opD ops i = some (d, op, ty, g)) (hw : wantedG ops ρ g = true) (v : Value) (hv : ∀ w', (exOp ρ.ev op ty).run P w' = .ok (.value v) w') (h : wk P ops C Q r (updO ρ d v) w) :
    wk P ops C Q ((i, .pure) :: r) ρ w := by
  obtain ⟨o, hi, rfl, rfl, rfl, hg⟩ := opD_some ho
  refine ⟨o, hi, ?_⟩
  rw [wanted_of o hg, if_pos hw]
  exact ⟨v, hv, h⟩

theorem wk_skip {m : Md} (ho : opD ops i = some (d, op, ty, g)) (hw : wantedG ops ρ g = false) (h : wk P ops C Q r (updO ρ d undef) w) : wk P ops C Q ((i, m) :: r) ρ w := by
  obtain ⟨o, hi, rfl, rfl, rfl, hg⟩ := opD_some ho
  refine ⟨o, hi, ?_⟩
  rw [wanted_of o hg, hw]
  exact h

theorem wk_read (ho : opD ops i = some (d, op, ty, g)) (hw : wantedG ops ρ g = true) (v : Value) (hv : ∀ w', Grown w w' → (exOp ρ.ev op ty).run P w' = .ok (.value v) w') (h : wk P ops C Q r (updO ρ d v) w) :
    wk P ops C Q ((i, .read) :: r) ρ w := by
  obtain ⟨o, hi, rfl, rfl, rfl, hg⟩ := opD_some ho
  refine ⟨o, hi, ?_⟩
  rw [wanted_of o hg, if_pos hw]
  exact ⟨v, hv, h⟩

theorem wk_stab (ho : opD ops i = some (d, op, ty, g)) (hw : wantedG ops ρ g = true) (v : Value) (hv : ∀ w', C w' → (exOp ρ.ev op ty).run P w' = .ok (.value v) w') (h : wk P ops C Q r (updO ρ d v) w) :
    wk P ops C Q ((i, .stab) :: r) ρ w := by
  obtain ⟨o, hi, rfl, rfl, rfl, hg⟩ := opD_some ho
  refine ⟨o, hi, ?_⟩
  rw [wanted_of o hg, if_pos hw]
  exact ⟨v, hv, h⟩

/-- An operation that is met where it stands. -/
theorem wk_at (ho : opD ops i = some (d, op, ty, g)) (hw : wantedG ops ρ g = true) (h : after P (fun v w' => C w' ∧ wk P ops C Q r (updO ρ d v) w') ((exOp ρ.ev op ty).run P w)) :
    wk P ops C Q ((i, .loud) :: r) ρ w := by
  obtain ⟨o, hi, rfl, rfl, rfl, hg⟩ := opD_some ho
  refine ⟨o, hi, ?_⟩
  rw [wanted_of o hg, if_pos hw]
  exact h

theorem wk_val (ho : opD ops i = some (d, op, ty, g)) (hw : wantedG ops ρ g = true) (v : Value) {w' : World} (hv : (exOp ρ.ev op ty).run P w = .ok (.value v) w') (hC : C w') (h : wk P ops C Q r (updO ρ d v) w') :
    wk P ops C Q ((i, .loud) :: r) ρ w := wk_at ho hw (by rw [hv]; exact ⟨hC, h⟩)
theorem wk_do (ho : opD ops i = some (d, op, ty, g)) (hw : wantedG ops ρ g = true) {w' : World} (hv : (exOp ρ.ev op ty).run P w = .ok .skip w') (hC : C w') (h : wk P ops C Q r (updO ρ d undef) w') :
    wk P ops C Q ((i, .loud) :: r) ρ w := wk_at ho hw (by rw [hv]; exact ⟨hC, h⟩)
theorem wk_call (ho : opD ops i = some (d, op, ty, g)) (hw : wantedG ops ρ g = true) (f : FuncId) (args : Array Value) (hv : (exOp ρ.ev op ty).run P w = .ok (.enter f args) w)
    (h : CallsV P f args w fun v w' => C w' ∧ wk P ops C Q r (updO ρ d v) w') : wk P ops C Q ((i, .loud) :: r) ρ w := wk_at ho hw (by rw [hv]; exact h)

theorem wk_nil (h : Q ρ w) : wk P ops C Q [] ρ w := h
end steps

/-! ### Functions -/

def resultsF (fn : Func) (ρ : Fr) : Sem Value := do
  let vs ← fn.results.mapM fun
    | .tmp t => pure (ρ t)
    | .cell a t => do loadVar t (← asAddr (ρ a))
  pure (if h : vs.size = 1 then vs[0] else .tuple vs)

theorem results_eq {n : Nat} {a : Act} {ρ : Fr} (ha : Rel n a ρ) (fn : Func) : results fn a.tmps = resultsF fn ρ := by
  unfold results resultsF
  have : (fun t => a.tmps.getD t undef) = ρ := funext ha.get
  rw [← this]
  rfl

/-- What is asked at a function's end. -/
def ends (P : Program) (fn : Func) (K : Value → World → Prop) : Exit → Fr → World → Prop
  | .normal, ρ, w | .ret, ρ, w => ∃ v, (resultsF fn ρ).run P w = .ok v w ∧ K v w
  | _, _, _ => False

theorem callsV_of {P : Program} {f : FuncId} {fn : Func} {c : Code} {args : Array Value} {w : World} {K : Value → World → Prop} (hf : P.funcs[f]? = some fn) (hb : fn.body = some c)
    {n : Nat} (hn : args.size + (fn.ntmps - args.size) = n) (h : cw P n c (ends P fn K) (fun t => args.getD t undef) w) : CallsV P f args w K := by
  refine calls_of_wp hf hb (wp_mono (h _ ⟨rfl, by simp [hn], fun t => ?_⟩) fun e a w' ⟨ρ', hr, hq⟩ => ?_)
  · simp only [Array.getD_eq_getD_getElem?]
    by_cases hlt : t < args.size
    · rw [Array.getElem?_append_left hlt]
    · rw [Array.getElem?_append_right (by omega), Array.getElem?_eq_none (xs := args) (by omega), Array.getElem?_replicate]
      split <;> rfl
  · cases e <;> simp only [ends] at hq <;> first
      | (obtain ⟨v, h1, h2⟩ := hq; exact ⟨hr.defers, v, by rw [results_eq hr]; exact h1, v, rfl, h2⟩)
      | exact hq.elim

theorem res_one {P : Program} {fn : Func} {t : Tmp} (h : fn.results = #[.tmp t]) (ρ : Fr) (w : World) : (resultsF fn ρ).run P w = .ok (ρ t) w := by simp [resultsF, h]
theorem res_none {P : Program} {fn : Func} (h : fn.results = #[]) (ρ : Fr) (w : World) : (resultsF fn ρ).run P w = .ok (.tuple #[]) w := by simp [resultsF, h]
theorem res_two {P : Program} {fn : Func} {t u : Tmp} (h : fn.results = #[.tmp t, .tmp u]) (ρ : Fr) (w : World) : (resultsF fn ρ).run P w = .ok (.tuple #[ρ t, ρ u]) w := by simp [resultsF, h]
theorem res_three {P : Program} {fn : Func} {t u s : Tmp} (h : fn.results = #[.tmp t, .tmp u, .tmp s]) (ρ : Fr) (w : World) : (resultsF fn ρ).run P w = .ok (.tuple #[ρ t, ρ u, ρ s]) w := by simp [resultsF, h]
end Go.Wk
