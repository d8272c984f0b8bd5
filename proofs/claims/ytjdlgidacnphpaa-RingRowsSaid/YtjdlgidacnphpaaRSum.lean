/-
  What a place holds at the end: the sum of all rows; the rows of RingRows.
-/
import Derived.Test.YtjdlgidacnphpaaRMath
import Derived.Test.YtjdlgidacnphpaaRC
set_option linter.unusedVariables false
namespace Go.Proofs.Ytjdlgidacnphpaa
open Go Go.Wk

theorem IsVal.sumAll {own : Nat → Nat → Int} {len n p : Nat} {L : List Int} (hv : IsVal own len n p (2 * n - 2) L) (h1 : 1 ≤ n) (hp : p < n) (hin : ∀ p i, InW (own p i)) (i : Nat) (hi : i < len) :
    L.getD i 0 = wrap128 (sumTo (fun t => own t i) n) := by
  by_cases h2 : 2 ≤ n
  · exact hv.sum h2 hin i hi (cover (by omega) hi)
  · have e : n = 1 := by omega
    subst e
    obtain ⟨c, hc, h3, h4⟩ := cover (len := len) (n := 1) (by omega) hi
    rw [hv.2 c hc i h3 h4]
    have hd := dist_lt (n := 1) (p := p) (c := c) (by omega)
    have hc0 : c = 0 := by omega
    subst hc0
    unfold valC
    rw [if_neg (by omega), if_neg (by omega), show dist 1 p 0 = 0 by omega]
    simp only [Ps, sumTo]
    rw [Int.zero_add, wrap_in (hin 0 i)]

/-- Noughts but one's row. -/
def ownR (row : List Int) (who : Nat) (p i : Nat) : Int := if p = who then row.getD i 0 else 0
theorem sumTo_one (x : Int) (who : Nat) : ∀ n, sumTo (fun t => if t = who then x else 0) n = if who < n then x else 0 := by
  intro n
  induction n with
  | zero => simp [sumTo]
  | succ n ih =>
    simp only [sumTo, ih]
    by_cases h : n = who
    · subst h; rw [if_neg (by omega), if_pos rfl, if_pos (by omega), Int.zero_add]
    · rw [if_neg h]
      by_cases h2 : who < n
      · rw [if_pos h2, if_pos (by omega), Int.add_zero]
      · rw [if_neg h2, if_neg (by omega), Int.add_zero]
theorem rows_sum {row L : List Int} {who n p : Nat} (hv : IsVal (ownR row who) row.length n p (2 * n - 2) L) (h1 : 1 ≤ n) (hw : who < n) (hp : p < n) (hin : ∀ i, InW (row.getD i 0)) : row = L := by
  refine list_ext_getD hv.1.symm row.length (Nat.le_refl _) fun j hj => ?_
  rw [hv.sumAll h1 hp (fun q i => by unfold ownR; split; exact hin i; unfold InW; omega) j hj]
  have := sumTo_one (row.getD j 0) who n
  rw [if_pos hw] at this
  unfold ownR
  rw [this, wrap_in (hin j)]
def setAt' (f : Nat → Nat) (i v : Nat) : Nat → Nat := fun k => if k = i then v else f k
theorem took_step {n j k t : Nat} (h2 : 2 ≤ n) (hj : j < n) (hk : k < n) : setAt' (fun k => if (k + n - 1) % n < j then t + 1 else t) ((j + 1) % n) (t + 1) k = if (k + n - 1) % n < j + 1 then t + 1 else t := by
  simp only [setAt']
  rw [pred_eq h2 hk, md (x := j + 1) (by omega)]
  (repeat' split) <;> omega
end Go.Proofs.Ytjdlgidacnphpaa
