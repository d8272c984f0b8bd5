/-
  What stays, by classes, whatever comes up in between.
-/
import Derived.Test.YtpcdldakilkldaaK22
namespace Go.Wk
open Go
structure GC (C : List Nat) (γ : Nat → Nat) (w w' : World) : Prop where
  size : w.heap.size ≤ w'.heap.size
  block : ∀ b, b < w.heap.size → γ b ∉ C → w'.heap[b]? = w.heap[b]?
section
variable {C : List Nat} {w w1 : World} {γ γ1 : Nat → Nat} {c : Nat}
theorem GX.gc (h : GX C w γ w1 γ1) : GC C γ w w1 := ⟨h.size, h.block⟩
theorem GC.bk {b : Nat} {o : Obj} (g : GC C γ w w1) (h : Bk γ w b c o) (hc : c ∉ C) : w1.heap[b]? = some o := (g.block b h.lt (by rw [h.2]; exact hc)).trans h.1
section
variable {α : Type} {enc : α → List Value} {sz b off g cap e : Nat} {a : Option Addr} {L : List α} {rest : List Value}
theorem GC.sl (k : GC C γ w w1) (h : SlG γ w c sz a b off enc L) (hc : c ∉ C) : SlE w1 sz a b off enc L := by
  obtain ⟨h1, h2⟩ := h
  rcases h2 with h2 | ⟨h2, h3⟩
  · have : L = [] := List.eq_nil_of_length_eq_zero h2
    subst this
    exact Sl.nil _ _ _ _ _
  · exact h1.keepB (k.block b h2 (by rw [h3]; exact hc))
theorem GC.own (k : GC C γ w w1) (h : OwnG γ w c e sz g cap enc L rest) (hc : c ∉ C) : OwnE w1 e sz g cap enc L rest := Own.keepB h.1 (k.block g h.lt (by rw [h.2]; exact hc))
theorem GC.owN (k : GC C γ w w1) (h : OwNG γ w c e sz a g cap enc L rest) (hc : c ∉ C) : OwN w1 e sz a g cap enc L rest := by
  obtain ⟨h1 | ⟨h1, h3⟩, h2⟩ := h
  · exact .inl h1
  · have hg := h2.resolve_left (by rw [h1]; simp)
    exact .inr ⟨h1, Own.keepB h3 (k.block g (Own.lt h3) (by rw [hg]; exact hc))⟩
end
end
end Go.Wk
