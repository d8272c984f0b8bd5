/-
  Rows of laws: arguments of whatever type are opened, and read again afterwards.
-/
import Derived.Test.YtpcdldakilkldaaK17
import Derived.ProofKit
import Derived.OpenShut
import Derived.ReadAgain
import Derived.ChangeStays
import Derived.ChangeBears
import Derived.Deep.Slices
namespace Go.Wk
open Go Go.ChangeShapes Go.WideShapes Go.ChangeAt Go.RowKit

section
variable {H : Type} {enc : TypeId × Value → H} {P : Program} {w w' : World} {base : Nat} {spare : Nat → Bool} {held : Bool}

def slicesFull (P : Program) : Bool := (List.range P.types.size).all fun t => match P.underlying t with | some (.slice e) => decide (0 < P.cellsOf e) | _ => true

theorem Ext.sameAt (h : Ext [] w w') {p : MemPlace} (hp : p.block < w.heap.size) : w.sameAt w' p := by
  have hb := h.block p.block hp List.not_mem_nil
  cases p with
  | cell b off =>
    have hb' : w'.heap[b]? = w.heap[b]? := hb
    simp only [World.sameAt, World.cell?, hb']
  | map b => exact hb

theorem stay_all (hl : laidOutB P = true) (hm : mapsRowed P = true) (hf : slicesFull P = true) (hE : Ext [] w w') {sp : Nat → Bool} : ∀ {ts : List TypeId} {vs : List Value} {ds : List (DataW H)} {ps : List MemPlace},
    (∀ t ∈ ts, t < P.types.size) → DataW.TrodAll enc P w base (fun _ => true) true ts vs ds ps → (∀ p ∈ ps, sp p.block = true) → (∀ p ∈ ps, p.block < w.heap.size) → DataW.TrodAll enc P w' base sp true ts vs ds ps
  | [], [], [], _, _, h, _, _ => h
  | t :: _, _ :: _, _ :: _, _, ht, ⟨p, q, ⟨n, h1⟩, h2, e⟩, hs, hlt => by
    subst e
    refine ⟨p, q, ⟨n, DataW.trod_stays (kids_rows hl hm) (fun {t e} ht hu => slices_full_of P hf t e ht hu) (fun h => by cases h) (ht t (List.mem_cons.2 (.inl rfl))) h1 (fun x hx => hE.sameAt (hlt x (List.mem_append_left _ hx))) (fun x hx => hs x (List.mem_append_left _ hx))⟩, ?_, rfl⟩
    exact stay_all hl hm hf hE (fun t ht' => ht t (List.mem_cons.2 (.inr ht'))) h2 (fun x hx => hs x (List.mem_append_right _ hx)) (fun x hx => hlt x (List.mem_append_right _ hx))

/-- A law's last step: it answered true, and all that was there is as it was. -/
theorem post_true {f : Func} {s : ChangeSpec} {apart fresh handsOn again : Bool} {args : Array Value} {ds gs : List (DataW H)} {before : List MemPlace} {tb : TypeId}
    (hl : laidOutB P = true) (hm : mapsRowed P = true) (hf : slicesFull P = true) (hts : ∀ t ∈ f.params.toList, t < P.types.size)
    (hW : DataW.Whole enc P f.params.toList s.vars apart w args.toList ds gs before) (hv : s.vars = []) (hr : f.resultTypes = #[tb]) (hb : P.underlying tb = some .bool)
    (h1 : (s.fn H ds).results = [.lit (.bool true)]) (h2 : (s.fn H ds).args = ds) (h3 : (s.fn H ds).vars = []) (hE : Ext [] w w') :
    s.post enc P f apart fresh handsOn again w args (.bool true) w' := by
  have hW0 := hW
  obtain ⟨p, q, hA, hV, rfl, hfz, hnd⟩ := hW
  rw [hv] at hV
  obtain ⟨rfl, rfl⟩ := trodVars_none hV
  have hds : ds ++ ([] : List (DataW H)) = ds := List.append_nil ds
  have hlt : ∀ x ∈ p, x.block < w.heap.size := fun x hx => hW0.lt x (by simpa using hx)
  refine post_of_same (pa := p) (pv := []) hW0 ?_ (fun sp hsp => ?_) (fun sp _ => ?_) rfl (hE.kept _) hE.fz ?_
  · intro b sp hd
    rw [hds, hr, h1]
    exact trodAll_cons_mk (shut_bool hb _) trodAll_mk0
  · rw [hds, h2]
    exact stay_all hl hm hf hE hts hA (fun x hx => hsp x (by simpa using hx)) hlt
  · rw [hds, hv, h3]; rfl
  · exact ok_one hr rfl (okWide_bool_mk hb _)

theorem trodAll_len : ∀ {ts : List TypeId} {vs : List Value} {ds : List (DataW H)} {ps : List MemPlace}, DataW.TrodAll enc P w base spare held ts vs ds ps → ds.length = ts.length
  | [], [], [], _, _ => rfl
  | _ :: _, _ :: _, _ :: _, _, ⟨_, _, _, h2, _⟩ => by rw [List.length_cons, List.length_cons, trodAll_len h2]

/-! ### Arguments opened -/
theorem trod_lt {t : TypeId} {fuel : Nat} {cs : List Value} {x : DataW H × List MemPlace} : DataW.trod enc P w base spare held fuel t cs = some x → True := fun _ => trivial

/-- A slice of whatever elements, each of which opens as a datum of one's own. -/
theorem open_sl {α : Type} {en : α → List Value} {ok : α → Prop} {t e : TypeId} {sz fuel : Nat} {cs : List Value} {x : DataW H × List MemPlace} (ht : P.underlying t = some (.slice e)) (hC : P.cellsOf e = sz) (hp : 0 < sz)
    (hel : ∀ n cs x, DataW.trod enc P w base spare held n e cs = some x → ∃ z : α, cs = en z ∧ ok z)
    (h : DataW.trod enc P w base spare held fuel t cs = some x) :
    ∃ (a : Option Addr) (b off c : Nat) (L : List α), cs = [.slice a L.length c] ∧ SlE w sz a b off en L ∧ (∀ z ∈ L, ok z) ∧ (L.length = 0 ∨ b < w.heap.size) ∧ L.length ≤ c ∧ c ≤ maxLen ∧ (∀ z ∈ L, (en z).length = sz) := by
  rcases Go.Deep.open_slice ht h with ⟨rfl, _⟩ | ⟨a, len, cap, m, n, D, Pl, rfl, hb, hl, hcm, hm, _, hi⟩
  · exact ⟨none, 0, 0, 0, [], rfl, Sl.nil _ _ _ _ _, fun z hz => absurd hz List.not_mem_nil, .inl rfl, Nat.le_refl _, Nat.zero_le _, fun z hz => absurd hz List.not_mem_nil⟩
  · have hlm : len ≤ m := by subst hm; split <;> omega
    have hall : ∀ k, k ≤ len → ∃ L : List α, L.length = k ∧ (∀ z ∈ L, ok z) ∧ (∀ z ∈ L, (en z).length = sz) ∧ ∀ j (hj : j < (flat en L).length), w.cell? (a.add j) = some (flat en L)[j] := by
      intro k
      induction k with
      | zero => intro _; exact ⟨[], rfl, fun z hz => absurd hz List.not_mem_nil, fun z hz => absurd hz List.not_mem_nil, fun j hj => by simp [flat] at hj⟩
      | succ k ih =>
        intro hk
        obtain ⟨L, hL, ho, hs, hc⟩ := ih (by omega)
        obtain ⟨cs', h1, h2⟩ := hi k (by omega)
        obtain ⟨z, rfl, hz⟩ := hel _ _ _ h2
        obtain ⟨_, hcl, hat⟩ := World.cells?_some h1
        rw [hC] at hcl hat
        have hfl : (flat en L).length = k * sz := by
          have : ∀ M : List α, (∀ z ∈ M, (en z).length = sz) → (flat en M).length = M.length * sz := by
            intro M
            induction M with
            | nil => intro _; simp [flat]
            | cons y M ih =>
              intro hM
              have e1 : flat en (y :: M) = en y ++ flat en M := rfl
              rw [e1, List.length_append, hM y (List.mem_cons.2 (.inl rfl)), ih (fun z hz => hM z (List.mem_cons.2 (.inr hz))), List.length_cons, Nat.add_mul]; omega
          rw [this L hs, hL]
        have hap : flat en (L ++ [z]) = flat en L ++ en z := by rw [flat_append, flat_single]
        refine ⟨L ++ [z], by simp [hL], ?_, ?_, ?_⟩
        · intro y hy; rcases List.mem_append.1 hy with hy | hy
          · exact ho y hy
          · rw [List.mem_singleton.1 hy]; exact hz
        · intro y hy; rcases List.mem_append.1 hy with hy | hy
          · exact hs y hy
          · rw [List.mem_singleton.1 hy]; exact hcl
        · intro j hj
          simp only [hap] at hj ⊢
          rw [List.length_append, hfl, hcl] at hj
          by_cases hjl : j < k * sz
          · rw [List.getElem_append_left (by rw [hfl]; exact hjl)]
            exact hc j (by rw [hfl]; exact hjl)
          · have := hat (j - k * sz) (by omega)
            rw [Go.Deep.add_add, show k * sz + (j - k * sz) = j by omega] at this
            rw [this, List.getElem_append_right (by omega)]
            simp only [hfl]
            exact List.getElem?_eq_getElem (by omega)
    obtain ⟨L, hL, ho, hs, hc⟩ := hall len (Nat.le_refl _)
    have hfl : ∀ M : List α, (∀ z ∈ M, (en z).length = sz) → (flat en M).length = M.length * sz := by
      intro M
      induction M with
      | nil => intro _; simp [flat]
      | cons y M ih =>
        intro hM
        have e1 : flat en (y :: M) = en y ++ flat en M := rfl
        rw [e1, List.length_append, hM y (List.mem_cons.2 (.inl rfl)), ih (fun z hz => hM z (List.mem_cons.2 (.inr hz))), List.length_cons, Nat.add_mul]; omega
    by_cases hlen : len = 0
    · have hLn : L = [] := List.eq_nil_of_length_eq_zero (by omega)
      subst hLn
      refine ⟨some a, 0, 0, cap, [], ?_, Sl.nil _ _ _ _ _, ho, .inl rfl, Nat.zero_le _, hcm, hs⟩
      rw [show ([] : List α).length = len by simpa using hL]
    · have h0 := hc 0 (by rw [hfl L hs, hL]; exact Nat.mul_pos (by omega) hp)
      have hsp : a.spot = none := by
        have := World.cell?_spot h0
        simpa [Addr.add] using this
      obtain ⟨b, off, spot⟩ := a
      subst hsp
      have had : ∀ j, (⟨b, off, none⟩ : Addr).add j = ⟨b, off + j, none⟩ := fun j => by
        unfold Addr.add; split
        · rename_i h; subst h; rfl
        · rfl
      have hcell : ∀ j (h : j < (flat en L).length), w.cell? ⟨b, off + j, none⟩ = some (flat en L)[j] := fun j hj => by rw [← had]; exact hc j hj
      refine ⟨some ⟨b, off, none⟩, b, off, cap, L, by rw [hL], ⟨fun _ => rfl, hfl L hs, hcell⟩, ho, .inr ?_, by omega, hcm, hs⟩
      have := hcell 0 (by rw [hfl L hs, hL]; exact Nat.mul_pos (by omega) hp)
      exact cell_lt this

theorem open_trod {t : TypeId} {v : Value} {d : DataW H} {ps : List MemPlace} {cs : List Value} (h : DataW.Trod enc P w base spare held t v d ps) (hv : v.cells.toList = cs) : ∃ fuel x, DataW.trod enc P w base spare held fuel t cs = some x := by
  obtain ⟨fuel, hf⟩ := h
  rw [hv] at hf
  exact ⟨fuel, _, hf⟩

/-- A slice as an argument. -/
theorem open_slArg {α : Type} {en : α → List Value} {ok : α → Prop} {r : Reach} {b0 : Nat} {t e : TypeId} {sz : Nat} {v : Value} {d : DataW H} {ps : List MemPlace} (ht : P.underlying t = some (.slice e)) (hC : P.cellsOf e = sz) (hp : 0 < sz)
    (hel : ∀ n cs x, DataW.trod enc P w base spare held n e cs = some x → ∃ z : α, cs = en z ∧ ok z) (hval : Value.okWide P w r b0 t v) (h : DataW.Trod enc P w base spare held t v d ps) :
    ∃ (a : Option Addr) (b off c : Nat) (L : List α), v = .slice a L.length c ∧ SlE w sz a b off en L ∧ (∀ z ∈ L, ok z) ∧ (L.length = 0 ∨ b < w.heap.size) ∧ L.length ≤ c ∧ c ≤ maxLen := by
  obtain ⟨a, n, c, rfl⟩ := okWide_slice ht hval
  obtain ⟨fuel, hf⟩ := h
  obtain ⟨a', b, off, c', L, hcs, h1, h2, h3, h4, h5, _⟩ := open_sl ht hC hp hel hf
  have : [Value.slice a n c] = [.slice a' L.length c'] := hcs
  simp only [List.cons.injEq, Value.slice.injEq, and_true] at this
  obtain ⟨rfl, rfl, rfl⟩ := this
  exact ⟨a, b, off, c, L, rfl, h1, h2, h3, h4, h5⟩
theorem open_intE {t : TypeId} {k : IntKind} (ht : P.underlying t = some (.int k)) (n : Nat) (cs : List Value) (x : DataW H × List MemPlace) (h : DataW.trod enc P w base spare held n t cs = some x) : ∃ z : Int, cs = [.int k z] ∧ (Lit.int k z).wf = true := by
  obtain ⟨z, h1, _, h2⟩ := DataW.trod_int ht h
  exact ⟨z, h1, h2⟩
end
end Go.Wk
