/-
  A slice that is read, where an empty one lies anywhere.
-/
import Derived.Test.YtpcdldakilkldaaK16
namespace Go.Wk
open Go
section
variable {α : Type} {enc : α → List Value} {sz : Nat} {w w' : World} {a : Option Addr} {b off : Nat} {L : List α}
theorem ExtW.keepSlP {S : List Nat} (h : ExtW S w w') (hs : SlE w sz a b off enc L) (hS : L.length = 0 ∨ b ∉ S) : SlE w' sz a b off enc L := by
  rcases hS with hS | hS
  · have : L = [] := List.eq_nil_of_length_eq_zero hS
    subst this
    exact Sl.nil _ _ _ _ _
  · exact h.keepSl hs hS
theorem OwN.all {e : TypeId} {g c : Nat} {rest : List Value} (h : OwN w e sz a g c enc L rest) {p : Nat → Prop} (hp : a = none ∨ p g) : ∀ x, x ∈ ownL a → p x := by
  rcases h with ⟨rfl, _⟩ | ⟨rfl, _⟩
  · intro x hx; exact absurd hx List.not_mem_nil
  · intro x hx
    have : x = g := by simpa [ownL] using hx
    subst this
    exact hp.resolve_left (by simp)
end
end Go.Wk
