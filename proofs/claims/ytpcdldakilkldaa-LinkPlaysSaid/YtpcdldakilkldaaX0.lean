/-
  The document's links, as they lie in memory.
-/
import Derived.Test.YtpcdldakilkldaaLB
import Derived.Test.YtpcdldakilkldaaLPure
import Derived.Test.YtpcdldakilkldaaK28
set_option linter.unusedVariables false
namespace Go.Proofs.Ytpcdldakilkldaa
open Go Go.Wk

def atP (s : SndR) : Int := if s.sent then s.at_ else -1
def encP (s : SndR) : List Value := encM s.m ++ [.int .i64 (atP s)]
theorem encP_len (s : SndR) : (encP s).length = 8 := rfl
theorem encP_one (s : SndR) : (encP s).all Value.oneCell' = true := rfl
structure RfR where
  own : Int
  peer : Int
  view : Int
  oa : Option Addr
  og : Nat
  oo : Nat
  oc : Nat
  out : List SndR
  last : Int
  told : Int
  ha : Option Addr
  hg : Nat
  hc : Nat
  held : List MsgR
  hrest : List Value
  come : Int
  now : Int
def RfR.obj (s : RfR) : Obj := .cells #[.int .i64 s.own, .int .i64 s.peer, .int .u32 s.view, .slice s.oa s.out.length s.oc, .int .u32 s.last, .int .u32 0, .int .u32 s.told, .slice s.ha s.held.length s.hc, .int .u32 s.come, .int .i64 s.now] 46 (0, 0)
structure RefAt (γ : Nat → Nat) (w : World) (k p : Nat) (s : RfR) : Prop where
  hp : Bk γ w p k s.obj
  ho : QuG γ w (k + 1) 71 8 s.oa s.og s.oo s.oc encP s.out
  hh : OwNG γ w (k + 2) 50 7 s.ha s.hg s.hc encM s.held s.hrest
  ao : AllOk γ w (s.out.map (·.m))
  ah : AllOk γ w s.held
  hn : s.oa = none → s.oc = 0
  b1 : 0 ≤ s.view ∧ s.view < 4294967296
  b2 : 0 ≤ s.last ∧ s.last < 4294967296
  b3 : 0 ≤ s.told ∧ s.told < 4294967296
  b4 : 0 ≤ s.come ∧ s.come < 4294967295
  b5 : 0 ≤ s.now ∧ s.now ≤ 9223372036854775807
  l1 : s.out.length ≤ 1024
  l2 : s.held.length ≤ 1000000
  l3 : ∀ j, j < s.out.length → 0 ≤ (s.out.getD j S0).at_ ∧ (s.out.getD j S0).at_ ≤ s.now
theorem RefAt.keep {C : List Nat} {w w1 : World} {γ γ1 : Nat → Nat} {k p : Nat} {s : RfR} (h : RefAt γ w k p s) (g : GX C w γ w1 γ1) (h0 : 0 ∉ C) (h1 : k ∉ C) (h2 : k + 1 ∉ C) (h3 : k + 2 ∉ C) : RefAt γ1 w1 k p s :=
  ⟨h.hp.keep g h1, h.ho.keep g h2, h.hh.keep g h3, h.ao.keep g h0, h.ah.keep g h0, h.hn, h.b1, h.b2, h.b3, h.b4, h.b5, h.l1, h.l2, h.l3⟩
theorem due_at {now : Int} {x : SndR} (h : 0 ≤ x.at_) : due now x = true ↔ ¬ (0 ≤ atP x ∧ now - atP x < 8) := by
  unfold due atP
  cases x.sent
  · simp
  · simp only [if_true, Bool.true_and, Bool.not_eq_true', decide_eq_false_iff_not]
    omega
theorem atP_at {x : SndR} (h : 0 ≤ atP x) : atP x = x.at_ := by
  unfold atP at h ⊢
  split
  · rfl
  · rename_i q; rw [if_neg q] at h; omega
end Go.Proofs.Ytpcdldakilkldaa
