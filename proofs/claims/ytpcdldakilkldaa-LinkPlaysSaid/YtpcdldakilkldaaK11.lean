/-
  A slice that begins as nil and is appended to.
-/
import Derived.Test.YtpcdldakilkldaaK10
namespace Go.Wk
open Go

def OwN {α : Type} (w : World) (e : TypeId) (sz : Nat) (a : Option Addr) (g c : Nat) (enc : α → List Value) (L : List α) (rest : List Value) : Prop :=
  (a = none ∧ c = 0 ∧ L = []) ∨ (a = some ⟨g, 0, none⟩ ∧ OwnE w e sz g c enc L rest)

/-- The block of a slice of one's own. -/
def ownL (a : Option Addr) : List Nat := match a with | some x => [x.block] | none => []

section
variable {α : Type} {enc : α → List Value} {sz : Nat} {w w' : World} {e : TypeId} {a : Option Addr} {g c : Nat} {L : List α} {rest : List Value}

theorem OwN.nil (w : World) (e : TypeId) (sz g : Nat) (enc : α → List Value) (rest : List Value) : OwN w e sz none g 0 enc [] rest := .inl ⟨rfl, rfl, rfl⟩
theorem ExtW.keepOwN {S : List Nat} (h : ExtW S w w') (ho : OwN w e sz a g c enc L rest) (hS : a = none ∨ g ∉ S) : OwN w' e sz a g c enc L rest := by
  rcases ho with ho | ⟨h1, h2⟩
  · exact .inl ho
  · subst h1
    exact .inr ⟨rfl, h.keepOwn h2 (hS.resolve_left (by simp))⟩
theorem SameMem.keepOwN (h : SameMem w w') (ho : OwN w e sz a g c enc L rest) : OwN w' e sz a g c enc L rest := (h.ext []).keepOwN ho (.inr List.not_mem_nil)
theorem Grown.keepOwN (h : Grown w w') (ho : OwN w e sz a g c enc L rest) : OwN w' e sz a g c enc L rest := (h.ext []).keepOwN ho (.inr List.not_mem_nil)
theorem OwN.owO (h : OwN w e sz a g c enc L rest) : OwO w e sz a g c enc L rest := by
  rcases h with ⟨rfl, rfl, rfl⟩ | ⟨rfl, h⟩
  · exact .empty _ _ _ _ _ _ _ _
  · exact h.owO
theorem OwN.sl (h : OwN w e sz a g c enc L rest) : SlE w sz a g 0 enc L := h.owO.sl
theorem OwN.le (h : OwN w e sz a g c enc L rest) : L.length ≤ c := h.owO.le
theorem OwN.own (h : OwN w e sz a g c enc L rest) (hp : 0 < L.length) : a = some ⟨g, 0, none⟩ ∧ OwnE w e sz g c enc L rest := h.owO.own hp
theorem OwN.notin (h : OwN w e sz a g c enc L rest) {x : Nat} (hx : a = none ∨ x ≠ g) : x ∉ ownL a := by
  rcases h with ⟨rfl, _⟩ | ⟨rfl, _⟩
  · exact List.not_mem_nil
  · have := hx.resolve_left (by simp)
    simpa [ownL] using this
theorem ownL_new {B : Nat} {S : List Nat} (h : OwN w e sz a g c enc L rest) (hB : B ≤ g) : ∀ x ∈ ownL a, x < B → x ∈ S := by
  rcases h with ⟨rfl, _⟩ | ⟨rfl, _⟩
  · intro x hx; exact absurd hx List.not_mem_nil
  · intro x hx hl
    have : x = g := by simpa [ownL] using hx
    omega
theorem ownL_new' {B : Nat} {S : List Nat} (h : OwN w e sz a g c enc L rest) (hB : a = none ∨ B ≤ g) : ∀ x ∈ ownL a, x < B → x ∈ S := by
  rcases hB with rfl | hB
  · intro x hx; exact absurd hx List.not_mem_nil
  · exact ownL_new h hB
theorem OwN.lt (h : OwN w e sz a g c enc L rest) : a = none ∨ g < w.heap.size := by
  rcases h with ⟨rfl, _⟩ | ⟨rfl, h⟩
  · exact .inl rfl
  · exact .inr h.lt
end

section
variable {P : Program} {ops : Array Oper} {C : World → Prop} {Q : Fr → World → Prop} {r : List (Nat × Md)} {ρ : Fr} {w : World} {i : Nat}
  {d : Option Tmp} {ty : TypeId} {gd : Option (Nat × Bool)} {α : Type} {enc : α → List Value} {sz : Nat}

/-- append, once more: of one's own or nil; what is appended is not nothing. -/
theorem wk_append {t e : TypeId} {by_ c cx bx offx g : Nat} {s x : Operand} {a ax : Option Addr} {L M : List α} {rest : List Value} (ho : opD ops i = some (d, .call ⟨.builtin .append, #[s, x], #[t, t]⟩, ty, gd)) (hw : wantedG ops ρ gd = true)
    (ht : appT P t = some (e, sz, by_)) (hz : zeroFits P e = true) (_hlen : ∀ x, (enc x).length = sz) (hs : ρ.ev s = .slice a L.length c) (hown : OwN w e sz a g c enc L rest) (hx : ρ.ev x = .slice ax M.length cx) (hsl : SlE w sz ax bx offx enc M)
    (hm : 0 < M.length) (h1 : ∀ x, (enc x).all Value.oneCell' = true) (hb : (L.length + M.length) * by_ ≤ 140737488355328 ∧ L.length + M.length ≤ 9223372036854775807)
    (h : ∀ w' b cap' rest', (a = none ∧ b = w.heap.size ∨ a ≠ none ∧ (b = g ∨ b = w.heap.size)) → Ext (ownL a) w w' → w'.heap.size ≤ w.heap.size + 1 → b < w'.heap.size → OwnE w' e sz b cap' enc (L ++ M) rest' →
      C w' ∧ wk P ops C Q r (updO ρ d (.slice (some ⟨b, 0, none⟩) (L ++ M).length cap')) w') :
    wk P ops C Q ((i, .loud) :: r) ρ w := by
  rcases hown with ⟨rfl, rfl, rfl⟩ | ⟨rfl, hown⟩
  · refine wk_append_nil ho hw ht hz hs hx hsl hm (by simpa using hb) fun w' b cap rest' hb' hE hsz hO => ?_
    have := h w' b cap rest' (.inl ⟨rfl, hb'⟩) hE (by omega) (by omega) (by simpa using hO)
    simpa using this
  · have hall : (flat enc M).all Value.oneCell' = true := by
      simp only [flat, List.all_flatMap, List.all_eq_true]
      exact fun x _ => List.all_eq_true.1 (h1 x)
    refine wk_append_own ho hw ht hz hs hown hx hsl hall hb fun w' b cap' rest' hb' hE hsz hlt hO => ?_
    have := h w' b cap' rest' (.inr ⟨by simp, hb'⟩) hE hsz hlt (by simpa only [OwnE, flat_append, List.length_append] using hO)
    simpa only [List.length_append] using this

theorem i64_to {n m : Int} (h : -9223372036854775808 ≤ n ∧ n ≤ 9223372036854775807) (e : n = m) : IntKind.i64.wrap n = m := e ▸ i64_id h

/-- A store into an element of one's own slice. -/
theorem wk_store_owO {t : TypeId} {x p : Operand} {b cap k f : Nat} {a : Option Addr} {vs : List Value} {e : TypeId} {L : List α} {rest : List Value} (y dflt : α) (ho : opD ops i = some (d, .store t p x, ty, gd)) (hw : wantedG ops ρ gd = true)
    (ha : ρ.ev p = .pointer (some ⟨b, 0 + (k * sz + f), none⟩)) (hx : (ρ.ev x).cells = vs.toArray) (hs : P.cellsOf t = vs.length) (hi : (P.info? t).isSome = true) (hown : OwO w e sz a b cap enc L rest)
    (hz : ∀ x, (enc x).length = sz) (hk : k < L.length) (h1 : vs.all Value.oneCell' = true) (hf : f + vs.length ≤ sz) (hy : (enc (L.getD k dflt)).take f ++ vs ++ (enc (L.getD k dflt)).drop (f + vs.length) = enc y)
    (h : ∀ w', Ext [b] w w' → w'.heap.size = w.heap.size → OwO w' e sz a b cap enc (L.set k y) rest → C w' ∧ wk P ops C Q r (updO ρ d undef) w') :
    wk P ops C Q ((i, .loud) :: r) ρ w :=
  wk_store_own y dflt ho hw ha hx hs hi (hown.own (by omega)).2 hz hk h1 hf hy fun w' hE hsz hO => h w' hE hsz ⟨fun _ => ⟨(hown.own (by omega)).1, hO⟩, by simpa using hown.le⟩
end
end Go.Wk
