/-
  LinkAgain holds of the given program: what is not acknowledged is sent again each eighth tick, as it was; acknowledged, never; for every input, without conditions.
-/
import Derived.Test.YtpcdldakilkldaaRows
import Derived.ProofKit
import Derived.OpenShut
import Derived.Test.YtpcdldakilkldaaLK
import Derived.Test.YtpcdldakilkldaaK18
namespace Go.Proofs.Ytpcdldakilkldaa.linkAgain
open Go.ChangeShapes Go.WideShapes Go.ChangeAt Go.RowKit
set_option linter.unusedVariables false

theorem own : ownKnob Try.prog.godebug = none := by kernel_rfl

theorem specs {H : Type} {enc : TypeId × Value → H} {w : World} {vs : List Value} {ds : List (DataW H)} {p : List MemPlace} (h : DataW.TrodAll enc Try.prog w 0 (fun _ => true) true [3, 3, 3] vs ds p) :
    (Rows.linkAgainSpec.fn H ds).results = [.lit (.bool true)] ∧ (Rows.linkAgainSpec.fn H ds).args = ds ∧ (Rows.linkAgainSpec.fn H ds).vars = [] := by
  have hl := Go.Wk.trodAll_len h
  match ds, hl with
  | [d0, d1, d2], _ => exact ⟨rfl, rfl, rfl⟩

theorem walk {H : Type} {enc : TypeId × Value → H} {w : World} {args : Array Value} {ds : List (DataW H)} {p : List MemPlace} {base : Nat} (hA : DataW.TrodAll enc Try.prog w 0 (fun _ => true) true Try.f3.params.toList args.toList ds p)
    (hval : ∀ (j : Nat) t v, Try.f3.params[j]? = some t → args[j]? = some v → Value.okWide Try.prog w .any base t v) : Calls Try.prog 3 args w fun e w' => e = .returned (.bool true) ∧ Go.Wk.Ext [] w w' := by
  rw [Try.params3] at hA hval
  obtain ⟨v0, _, d0, _, p0, _, ha0, rfl, rfl, h0, hA⟩ := trodAll_cons hA
  obtain ⟨v1, _, d1, _, p1, _, rfl, rfl, rfl, h1, hA⟩ := trodAll_cons hA
  obtain ⟨v2, _, d2, _, p2, _, rfl, rfl, rfl, h2, hA⟩ := trodAll_cons hA
  obtain ⟨rfl, _, _⟩ := trodAll_nil hA
  have hargs : args = #[v0, v1, v2] := Array.ext' ha0
  subst hargs
  obtain ⟨n, rfl, -, -, wn⟩ := open_int Try.underlying3 (hval 0 3 v0 rfl rfl) h0
  obtain ⟨u, rfl, -, -, wu⟩ := open_int Try.underlying3 (hval 1 3 v1 rfl rfl) h1
  obtain ⟨v, rfl, -, -, wv⟩ := open_int Try.underlying3 (hval 2 3 v2 rfl rfl) h2
  have key : Go.Wk.CallsV Try.prog 3 #[.int .i64 n, .int .i64 u, .int .i64 v] w fun v w' => v = .bool true ∧ Go.Wk.Ext [] w w' := by
    by_cases hg : 1 ≤ n ∧ n ≤ 32 ∧ 0 ≤ u ∧ u ≤ 100 ∧ 0 ≤ v ∧ v ≤ 100
    · obtain ⟨g1, g2, g3, g4, g5, g6⟩ := hg
      have en : n = ((n.toNat : Nat) : Int) := by omega
      have eu : u = ((u.toNat : Nat) : Int) := by omega
      have ev : v = ((v.toNat : Nat) : Int) := by omega
      rw [en, eu, ev]
      exact linkAgain_in (by omega) (by omega) (by omega) (by omega) fun w' h => ⟨rfl, h⟩
    · exact linkAgain_out hg fun w' h => ⟨rfl, h⟩
  exact Calls.mono key fun e w' ⟨v, he, hv, hE⟩ => ⟨by rw [he, hv], hE⟩

set_option maxRecDepth 100000 in
theorem lifted (os : Os) (started : os.Started) (H : Type) (enc : TypeId × Value → H) :
    ReturnsInHanded {} Try.checked os 3 .any (Rows.linkAgainSpec.pre6 enc Try.prog Try.f3 Rows.linkAgainRow.domain false) (Rows.linkAgainSpec.post enc Try.prog Try.f3 false true false false) := by
  refine returnsInHanded_of_change (C := Try.checked) own started (by kernel_rfl) Try.func3
    (ChangeSpec.witness6 (enc := enc) (C := Try.checked) false ⟨#[], #[.int .i64 0, .int .i64 0, .int .i64 0], []⟩ 8 (by kernel_rfl) (by kernel_rfl) (by kernel_rfl) (by kernel_rfl)) ?_
  intro W base args ds gs before hval0 hW hcnd _
  have hW' := hW
  obtain ⟨p, q, hA, hV, rfl, hfz, hnd⟩ := hW
  have hds : ∃ l, ds = l := ⟨_, rfl⟩
  refine (walk hA hval0).mono fun e W' ⟨he, hE⟩ => ⟨_, he, ?_⟩
  have hA2 := hA
  rw [Try.params3] at hA2
  obtain ⟨h1, h2, h3⟩ := specs hA2
  exact Go.Wk.post_true (tb := Try.f3.resultTypes[0]!) (by kernel_rfl) (by kernel_rfl) (by kernel_rfl) (by decide +kernel) hW' rfl (by kernel_rfl) (by kernel_rfl) h1 h2 h3 hE

theorem over : Rows.linkAgainRow.holds Try.pinned (OpenSpec.ofChange Rows.linkAgainSpec) :=
  OpenClaim.holds_of_wide 3 Try.f3 rfl rfl rfl rfl rfl rfl rfl ⟨rfl, rfl, rfl, rfl, rfl⟩ rfl rfl rfl rfl rfl (by kernel_rfl) Try.func3 (by kernel_rfl)
    (of_decide_eq_true (by kernel_rfl)) (by unfold Func.isWrapper; first | (rw [if_pos (by decide +kernel)]; kernel_rfl) | (rw [if_neg (by decide +kernel)]; exact ⟨rfl, rfl⟩))
    (fun os started H enc _ => lifted os started H enc)

theorem proved : Rows.LinkAgainSaid := over
#print axioms proved
end Go.Proofs.Ytpcdldakilkldaa.linkAgain
