/-
  A loop of a known number of rounds, unrolled.
-/
import Derived.Test.YtpcdldakilkldaaK14
namespace Go.Wk
open Go
section
variable {P : Program} {n : Nat} {c x : Code} {Q : Exit → Fr → World → Prop} {ρ : Fr} {w : World}

def Un (P : Program) (n : Nat) (x : Code) (Q : Exit → Fr → World → Prop) : Nat → Fr → World → Prop
  | 0, _, _ => False
  | k + 1, ρ, w => cw P n x (thn (fun ρ w => Un P n x Q k ρ w) Q) ρ w

theorem g_unroll (hc : c = .loop x) (k : Nat) (h : Un P n x Q k ρ w) : cw P n c Q ρ w := by
  subst hc
  refine cw_loop (fun m ρ w => Un P n x Q m ρ w) k h fun m ρ w hm => ?_
  cases m with
  | zero => exact hm.elim
  | succ m =>
    refine cw_mono hm fun e ρ' w' h => ?_
    cases e with
    | normal => exact ⟨m, Nat.lt_succ_self m, h⟩
    | _ => exact h
theorem un_succ {k : Nat} (h : cw P n x (thn (fun ρ w => Un P n x Q k ρ w) Q) ρ w) : Un P n x Q (k + 1) ρ w := h
end

section
variable {P : Program} {ops : Array Oper} {C : World → Prop} {Q : Fr → World → Prop} {r : List (Nat × Md)} {ρ : Fr} {w : World} {i : Nat}
  {d : Option Tmp} {ty : TypeId} {g : Option (Nat × Bool)} {α : Type} {enc : α → List Value} {sz : Nat}
theorem wk_makeR {t e : TypeId} {by_ n : Nat} {x y : Operand} {k q : IntKind} {a b : Int} (z0 : α) (ho : opD ops i = some (d, .makeSlice t x y, ty, g)) (hw : wantedG ops ρ g = true) (ht : appT P t = some (e, sz, by_))
    (hx : ρ.ev x = .int k a) (hy : ρ.ev y = .int q b) (ha : a = n) (hb : b = n) (hlim : by_ * n ≤ 281474976710656 ∧ n ≤ 9223372036854775807) (hz : ∀ x, (enc x).length = sz) (hz0 : zeroOf P e = some (enc z0).toArray)
    (h : ∀ w' b, b = w.heap.size → Ext [] w w' → w'.heap.size = b + 1 → OwnE w' e sz b n enc (List.replicate n z0) [] → C w' ∧ wk P ops C Q r (updO ρ d (.slice (some ⟨b, 0, none⟩) (List.replicate n z0).length n)) w') :
    wk P ops C Q ((i, .loud) :: r) ρ w :=
  wk_make z0 ho hw ht hx hy ha hb hlim hz hz0 fun w' b h1 h2 h3 h4 => by
    have := h w' b h1 h2 h3 h4
    rwa [List.length_replicate] at this
end
end Go.Wk
