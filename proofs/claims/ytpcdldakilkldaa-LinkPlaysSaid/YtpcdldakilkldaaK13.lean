/-
  Written cells as elements; division of natural numbers.
-/
import Derived.Test.YtpcdldakilkldaaK12
namespace Go.Wk
open Go

section
variable {α : Type} {enc : α → List Value} {sz : Nat} {w : World}
theorem SlE.of_cells {b : Nat} {cs : Array Value} {e : TypeId} {fz : Nat × Nat} {M : List α} (h : w.heap[b]? = some (.cells cs e fz)) (hz : ∀ x, (enc x).length = sz) (hc : cs = (flat enc M).toArray) : SlE w sz (some ⟨b, 0, none⟩) b 0 enc M := by
  subst hc
  refine Sl.of_block h (flat_len hz M) fun j hj => ?_
  rw [Nat.zero_add]
  simp [hj]
theorem OwnE.of_cells {b : Nat} {cs : Array Value} {e : TypeId} {M : List α} (h : w.heap[b]? = some (.cells cs e (0, 0))) (hz : ∀ x, (enc x).length = sz) (hc : cs = (flat enc M).toArray) (hm : M.length ≤ maxLen) : OwnE w e sz b M.length enc M [] := by
  subst hc
  exact ⟨by simpa using h, flat_len hz M, by simp [flat_len hz M], Nat.le_refl _, hm⟩
end

theorem y_slice {P : Program} {ρ : Operand → Value} {op : Op} {ty : TypeId} {w : World} {a : Option Addr} {n n' c : Nat} (h : (exOp ρ op ty).run P w = .ok (.value (.slice a n c)) w) (hn : n = n') :
    (exOp ρ op ty).run P w = .ok (.value (.slice a n' c)) w := hn ▸ h
theorem cut_len {α : Type} {L : List α} {l m : Nat} (h : l + m ≤ L.length) : m = ((L.drop l).take m).length := by simp; omega

theorem x_indexN {P : Program} {ρ : Operand → Value} {ty : TypeId} {w : World} {t e : TypeId} {x ix : Operand} {a : Option Addr} {b off n N c sz sz' : Nat} {xs : List Value} {k : IntKind} {i : Int} (ht : elemT P t = some (e, sz)) (hs : Sl w sz' a N b off xs) (hx : ρ x = .slice a n c) (hi : ρ ix = .int k i)
    (hN : N = n) (h : 0 ≤ i ∧ i < n) : ∀ w' : World, (exOp ρ (.indexAddr t x ix) ty).run P w' = .ok (.value (.pointer (some ⟨b, off + i.toNat * sz, none⟩))) w' := by
  subst hN; exact x_indexS ht hs hx hi h

theorem nat_quo {a b : Nat} (h : a ≤ 9223372036854775807) : IntKind.i64.wrap (Int.tdiv (a : Int) (b : Int)) = ((a / b : Nat) : Int) := by
  have e : Int.tdiv (a : Int) (b : Int) = ((a / b : Nat) : Int) := (Int.ofNat_tdiv _ _).symm
  have : a / b ≤ a := Nat.div_le_self _ _
  rw [e]
  generalize a / b = q at *
  exact i64_id (by omega)
theorem nat_rem {a b : Nat} : Int.tmod (a : Int) (b : Int) = ((a % b : Nat) : Int) := (Int.ofNat_tmod _ _).symm
end Go.Wk
