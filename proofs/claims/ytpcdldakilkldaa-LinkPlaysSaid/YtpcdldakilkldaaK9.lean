/-
  Slices of elements that are told by a list: each element's cells are 'enc' of it.
-/
import Derived.Test.YtpcdldakilkldaaK8
namespace Go.Wk
set_option linter.unusedSimpArgs false
open Go

def flat {α : Type} (enc : α → List Value) (L : List α) : List Value := L.flatMap enc

section
variable {α : Type} {enc : α → List Value} {sz : Nat}

theorem flat_len (hz : ∀ x, (enc x).length = sz) (L : List α) : (flat enc L).length = L.length * sz := by
  induction L with
  | nil => simp [flat]
  | cons x L ih =>
    have : flat enc (x :: L) = enc x ++ flat enc L := rfl
    rw [this, List.length_append, ih, hz, List.length_cons, Nat.add_mul]
    omega

theorem flat_append (L M : List α) : flat enc (L ++ M) = flat enc L ++ flat enc M := List.flatMap_append

theorem flat_get (hz : ∀ x, (enc x).length = sz) (d : α) : ∀ (L : List α) (k f : Nat), k < L.length → f < sz → (flat enc L)[k * sz + f]? = (enc (L.getD k d))[f]?
  | [], k, f, hk, _ => by simp at hk
  | x :: L, 0, f, _, hf => by
    have e : flat enc (x :: L) = enc x ++ flat enc L := rfl
    rw [e, Nat.zero_mul, Nat.zero_add, List.getElem?_append_left (by rw [hz]; exact hf)]
    rfl
  | x :: L, k + 1, f, hk, hf => by
    have e : flat enc (x :: L) = enc x ++ flat enc L := rfl
    have ih := flat_get hz d L k f (by simpa using hk) hf
    rw [e, List.getElem?_append_right (by rw [hz, Nat.add_mul]; omega), hz]
    have : (k + 1) * sz + f - sz = k * sz + f := by rw [Nat.add_mul]; omega
    rw [this, ih]
    simp

theorem flat_single (x : α) : flat enc [x] = enc x := by simp [flat]
end

abbrev SlE {α : Type} (w : World) (sz : Nat) (a : Option Addr) (b off : Nat) (enc : α → List Value) (L : List α) : Prop := Sl w sz a L.length b off (flat enc L)
abbrev OwnE {α : Type} (w : World) (e : TypeId) (sz g cap : Nat) (enc : α → List Value) (L : List α) (rest : List Value) : Prop := Own w e sz g L.length cap (flat enc L) rest

section
variable {α : Type} {enc : α → List Value} {sz : Nat} {w : World}

/-- A cell of an element. -/
theorem SlE.get {a : Option Addr} {b off : Nat} {L : List α} (h : SlE w sz a b off enc L) (hz : ∀ x, (enc x).length = sz) (d : α) (k f : Nat) (hk : k < L.length) {v : Value} (hv : (enc (L.getD k d))[f]? = some v) :
    w.cell? ⟨b, off + (k * sz + f), none⟩ = some v := by
  have hf : f < sz := by rw [← hz (L.getD k d)]; exact (List.getElem?_eq_some_iff.1 hv).1
  have hg := flat_get hz d L k f hk hf
  rw [hv] at hg
  obtain ⟨hj, he⟩ := List.getElem?_eq_some_iff.1 hg
  rw [h.cell _ hj, he]
/-- All cells of an element, from one on. -/
theorem SlE.getN {a : Option Addr} {b off : Nat} {L : List α} (h : SlE w sz a b off enc L) (hz : ∀ x, (enc x).length = sz) (d : α) (k f : Nat) (hk : k < L.length) {vs : List Value}
    (hv : ((enc (L.getD k d)).drop f).take vs.length = vs) : ∀ j (hj : j < vs.length), w.cell? ⟨b, off + (k * sz + f) + j, none⟩ = some vs[j] := fun j hj => by
  have h1 : (enc (L.getD k d))[f + j]? = some vs[j] := by
    have : (((enc (L.getD k d)).drop f).take vs.length)[j]? = some vs[j] := by rw [hv]; simp [hj]
    rw [List.getElem?_take, if_pos hj, List.getElem?_drop] at this
    exact this
  have := SlE.get h hz d k (f + j) hk h1
  rw [show off + (k * sz + f) + j = off + (k * sz + (f + j)) by omega]
  exact this

theorem OwnE.get {e : TypeId} {g cap : Nat} {L : List α} {rest : List Value} (h : OwnE w e sz g cap enc L rest) (hz : ∀ x, (enc x).length = sz) (d : α) (k f : Nat) (hk : k < L.length) {v : Value} (hv : (enc (L.getD k d))[f]? = some v) :
    w.cell? ⟨g, 0 + (k * sz + f), none⟩ = some v := SlE.get h.sl hz d k f hk hv
theorem OwnE.getN {e : TypeId} {g cap : Nat} {L : List α} {rest : List Value} (h : OwnE w e sz g cap enc L rest) (hz : ∀ x, (enc x).length = sz) (d : α) (k f : Nat) (hk : k < L.length) {vs : List Value}
    (hv : ((enc (L.getD k d)).drop f).take vs.length = vs) : ∀ j (hj : j < vs.length), w.cell? ⟨g, 0 + (k * sz + f) + j, none⟩ = some vs[j] := SlE.getN h.sl hz d k f hk hv

theorem putCells_list (vs : List Value) : ∀ (l : List Value) (off : Nat), off + vs.length ≤ l.length → putCells l.toArray off vs = (l.take off ++ vs ++ l.drop (off + vs.length)).toArray := by
  induction vs with
  | nil => intro l off _; simp [putCells]
  | cons v r ih =>
    intro l off h
    simp at h
    simp only [putCells, List.setIfInBounds_toArray]
    rw [ih _ _ (by simp; omega)]
    congr 1
    apply List.ext_getElem?
    intro j
    simp only [List.getElem?_append, List.length_append, List.length_take, List.length_set, List.getElem?_take, List.getElem?_set, List.length_cons, List.getElem?_drop]
    have e1 : min (off + 1) l.length = off + 1 := by omega
    have e2 : min off l.length = off := by omega
    rw [e1, e2]
    by_cases c1 : j < off
    · simp [c1, show j < off + 1 + r.length by omega, show j < off + (r.length + 1) by omega, show j < off + 1 by omega, show off ≠ j by omega]
    · by_cases c2 : j = off
      · subst c2
        simp [show j < l.length by omega, show j < j + 1 + r.length by omega]
      · have c3 : ¬ j < off + 1 := by omega
        have e3 : j - off = (j - (off + 1)) + 1 := by omega
        by_cases c4 : j < off + 1 + r.length
        · simp [c1, c3, c4, show j < off + (r.length + 1) by omega, e3]
        · simp [c1, c3, c4, show ¬ j < off + (r.length + 1) by omega, show off ≠ off + 1 + r.length + (j - (off + 1 + r.length)) by omega]
          congr 1
          omega

theorem flat_put (hz : ∀ x, (enc x).length = sz) (d : α) : ∀ (L : List α) (k f : Nat) (vs : List Value) (y : α), k < L.length → f + vs.length ≤ sz →
    (enc (L.getD k d)).take f ++ vs ++ (enc (L.getD k d)).drop (f + vs.length) = enc y →
    (flat enc L).take (k * sz + f) ++ vs ++ (flat enc L).drop (k * sz + f + vs.length) = flat enc (L.set k y)
  | [], k, f, vs, y, hk, _, _ => by simp at hk
  | x :: L, 0, f, vs, y, _, hf, hy => by
    have e : flat enc (x :: L) = enc x ++ flat enc L := rfl
    have e' : flat enc ((x :: L).set 0 y) = enc y ++ flat enc L := rfl
    simp only [List.getD_cons_zero] at hy
    rw [e, e', ← hy, Nat.zero_mul, Nat.zero_add, List.take_append_of_le_length (by rw [hz]; omega), List.drop_append_of_le_length (by rw [hz]; omega)]
    simp
  | x :: L, k + 1, f, vs, y, hk, hf, hy => by
    have e : flat enc (x :: L) = enc x ++ flat enc L := rfl
    have e' : flat enc ((x :: L).set (k + 1) y) = enc x ++ flat enc (L.set k y) := rfl
    have ih := flat_put hz d L k f vs y (by simpa using hk) hf (by simpa using hy)
    have hx := hz x
    have a1 : (k + 1) * sz + f = (enc x).length + (k * sz + f) := by rw [hx, Nat.add_mul]; omega
    rw [e, e', ← ih, a1, List.take_length_add_append, Nat.add_assoc, List.drop_length_add_append]
    simp [Nat.add_assoc]

/-- A store into one's own array: (a part of) an element. -/
theorem OwnE.put {P : Program} {e : TypeId} {g cap : Nat} {L : List α} {rest : List Value} (h : OwnE w e sz g cap enc L rest) (hz : ∀ x, (enc x).length = sz) (d : α) (k f : Nat) (hk : k < L.length) (vs : List Value) (y : α)
    (h1 : vs.all Value.oneCell' = true) (hf : f + vs.length ≤ sz) (hy : (enc (L.getD k d)).take f ++ vs ++ (enc (L.getD k d)).drop (f + vs.length) = enc y) :
    ∃ w', (storeCells ⟨g, 0 + (k * sz + f), none⟩ vs).run P w = .ok () w' ∧ Ext [g] w w' ∧ w'.heap.size = w.heap.size ∧ OwnE w' e sz g cap enc (L.set k y) rest := by
  have hlen := flat_len hz L
  have hb : k * sz + f + vs.length ≤ L.length * sz := by
    have : (k + 1) * sz ≤ L.length * sz := Nat.mul_le_mul_right _ hk
    rw [Nat.add_mul] at this
    omega
  obtain ⟨w', h2, h3, h4, h5⟩ := run_storeCells_put (P := P) g e vs (0 + (k * sz + f)) 0 _ w h.block (by simp [hlen]; omega) (fun v hv => List.all_eq_true.1 h1 v hv)
  refine ⟨w', h2, h3, h4, ?_, by rw [flat_len hz], ?_, by simpa using h.le, h.max⟩
  · rw [h5, Nat.add_zero, Nat.zero_add, putCells_list _ _ _ (by simp [hlen]; omega)]
    congr 3
    rw [← flat_put hz d L k f vs y hk hf hy, List.take_append_of_le_length (by omega), List.drop_append_of_le_length (by omega)]
    simp
  · rw [flat_len hz, List.length_set, ← hlen]; exact h.fit
end

section
variable {P : Program} {ops : Array Oper} {C : World → Prop} {Q : Fr → World → Prop} {r : List (Nat × Md)} {ρ : Fr} {w : World} {i : Nat}
  {d : Option Tmp} {ty : TypeId} {g : Option (Nat × Bool)} {α : Type} {enc : α → List Value} {sz : Nat}

theorem wk_store_own {t : TypeId} {x a : Operand} {b cap k f : Nat} {vs : List Value} {e : TypeId} {L : List α} {rest : List Value} (y dflt : α) (ho : opD ops i = some (d, .store t a x, ty, g)) (hw : wantedG ops ρ g = true)
    (ha : ρ.ev a = .pointer (some ⟨b, 0 + (k * sz + f), none⟩)) (hx : (ρ.ev x).cells = vs.toArray) (hs : P.cellsOf t = vs.length) (hi : (P.info? t).isSome = true) (hown : OwnE w e sz b cap enc L rest)
    (hz : ∀ x, (enc x).length = sz) (hk : k < L.length) (h1 : vs.all Value.oneCell' = true) (hf : f + vs.length ≤ sz) (hy : (enc (L.getD k dflt)).take f ++ vs ++ (enc (L.getD k dflt)).drop (f + vs.length) = enc y)
    (h : ∀ w', Ext [b] w w' → w'.heap.size = w.heap.size → OwnE w' e sz b cap enc (L.set k y) rest → C w' ∧ wk P ops C Q r (updO ρ d undef) w') :
    wk P ops C Q ((i, .loud) :: r) ρ w := by
  obtain ⟨w', h2, h3, h4, h5⟩ := OwnE.put (P := P) hown hz dflt k f hk vs y h1 hf hy
  obtain ⟨hC, hkk⟩ := h w' h3 h4 h5
  obtain ⟨inf, hinf⟩ := Option.isSome_iff_exists.1 hi
  have hsz : inf.size = vs.length := by simpa [Program.cellsOf, hinf] using hs
  refine wk_do ho hw ?_ hC hkk
  rw [Nat.zero_add] at h2 ha
  simp [exOp, execOp, ha, Instr.storeAt, Instr.sureAddr, storeVar, sizeOf, typeInfo, hinf, hsz, hx, h2]

/-- []T{..}: an array of its own. -/
def builtSl (P : Program) (t : TypeId) (len : Nat) (parts : Array (Nat × Value)) : Option (TypeId × Array Value) :=
  match P.underlying t with
  | some (.slice e) => match P.info? e with
    | some i => match i.zero with
      | some z => if len * i.size > 2 ^ 24 then none else
        (Instr.fill (fun j => some (j * i.size, i.size)) ((Array.range (len * i.size)).map (z.cells[· % z.cells.size]!)) parts.toList).map fun cs => (e, cs)
      | none => none
    | none => none
  | _ => none

theorem wk_buildSlice {t e : TypeId} {len : Nat} {parts : Array (Nat × Operand)} {cs : Array Value} (ho : opD ops i = some (d, .buildSlice t len parts, ty, g)) (hw : wantedG ops ρ g = true)
    (hb : builtSl P t len (parts.map fun (j, x) => (j, ρ.ev x)) = some (e, cs))
    (h : ∀ w' b, b = w.heap.size → Ext [] w w' → w'.heap.size = b + 1 → w'.heap[b]? = some (.cells cs e (0, 0)) → C w' ∧ wk P ops C Q r (updO ρ d (.slice (some ⟨b, 0, none⟩) len len)) w') :
    wk P ops C Q ((i, .loud) :: r) ρ w := by
  unfold builtSl at hb
  split at hb
  · rename_i e' hu
    split at hb
    · rename_i inf hi
      split at hb
      · rename_i z hzv
        split at hb
        · cases hb
        · rename_i hbig
          cases hfill : Instr.fill (fun j => some (j * inf.size, inf.size)) ((Array.range (len * inf.size)).map (z.cells[· % z.cells.size]!)) (parts.map fun (j, x) => (j, ρ.ev x)).toList with
          | none => rw [hfill] at hb; simp at hb
          | some cs' =>
            rw [hfill] at hb
            simp only [Option.map_some, Option.some.injEq, Prod.mk.injEq] at hb
            obtain ⟨rfl, rfl⟩ := hb
            have hk := h { w with heap := w.heap.push (.cells cs' e' (0, 0)) } w.heap.size rfl (Ext.alloc w _) (alloc_size w _) (alloc_new w _)
            refine wk_val ho hw _ ?_ hk.1 hk.2
            by_cases h0 : len * inf.size = 0
            · rw [h0] at hfill
              have h00 : ¬ (0 : Nat) > 2 ^ 24 := by omega
              simp only [exOp, execOp, Instr.buildSlice, Sem.run_bind, run_underlying hu, Result.andThen_ok, sizeOf, typeInfo, run_program, hi, Sem.run_pure, Sem.run_ite, h0, if_neg h00, if_true]
              have e0 : ((Array.range 0).map fun i => (#[] : Array Value)[i % (#[] : Array Value).size]!) = (Array.range 0).map fun i => z.cells[i % z.cells.size]! := by simp
              rw [e0, hfill]
              simp only [Sem.run_bind, newRow, run_newObj, Result.andThen_ok, Sem.run_pure]
            · simp only [exOp, execOp, Instr.buildSlice, Sem.run_bind, run_underlying hu, Result.andThen_ok, sizeOf, typeInfo, run_program, hi, Sem.run_pure, Sem.run_ite, if_neg hbig, if_neg h0, zeroValue, hzv, hfill, newRow, run_newObj]
      · cases hb
    · cases hb
  · cases hb
end
end Go.Wk
