/-
  Shorter words for an operation's place.
-/
import Derived.Test.YtpcdldakilkldaaK24
namespace Go.Wk
open Go
section
variable {ops : Array Oper} {i : Nat}
theorem opd (d : Tmp) (op : Op) (ty : TypeId) (h : opD ops i = some (some d, op, ty, none) := by kernel_rfl) : opD ops i = some (some d, op, ty, none) := h
theorem opg (d : Tmp) (op : Op) (ty : TypeId) (j : Nat) (b : Bool) (h : opD ops i = some (some d, op, ty, some (j, b)) := by kernel_rfl) : opD ops i = some (some d, op, ty, some (j, b)) := h
theorem opn (op : Op) (ty : TypeId) (h : opD ops i = some (none, op, ty, none) := by kernel_rfl) : opD ops i = some (none, op, ty, none) := h
theorem opm (op : Op) (ty : TypeId) (j : Nat) (b : Bool) (h : opD ops i = some (none, op, ty, some (j, b)) := by kernel_rfl) : opD ops i = some (none, op, ty, some (j, b)) := h
def skipD (ops : Array Oper) (i : Nat) (ρ : Fr) (d : Option Tmp) : Bool := match opD ops i with | some (d', _, _, g) => d' == d && !wantedG ops ρ g | none => false
variable {P : Program} {C : World → Prop} {Q : Fr → World → Prop} {r : List (Nat × Md)} {ρ : Fr} {w : World} {m : Md}
theorem wk_skp (d : Option Tmp) (hs : skipD ops i ρ d = true) (h : wk P ops C Q r (updO ρ d undef) w) : wk P ops C Q ((i, m) :: r) ρ w := by
  unfold skipD at hs
  split at hs
  · rename_i d' op ty g ho
    simp only [Bool.and_eq_true, Bool.not_eq_true', beq_iff_eq] at hs
    obtain ⟨rfl, hg⟩ := hs
    exact wk_skip ho hg h
  · cases hs
end
end Go.Wk
