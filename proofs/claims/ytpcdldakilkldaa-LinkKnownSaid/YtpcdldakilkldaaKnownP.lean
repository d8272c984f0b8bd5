/-
  LinkKnown holds of the given program: a link answers as chapter 21 tells of messages that come twice, ahead, from elsewhere; without conditions.
-/
import Derived.Test.YtpcdldakilkldaaRows
import Derived.ProofKit
import Derived.OpenShut
import Derived.Test.YtpcdldakilkldaaLI
import Derived.Test.YtpcdldakilkldaaK18
namespace Go.Proofs.Ytpcdldakilkldaa.linkKnown
open Go.ChangeShapes Go.WideShapes Go.ChangeAt Go.RowKit
set_option linter.unusedVariables false

theorem own : ownKnob Try.prog.godebug = none := by kernel_rfl

theorem specs {H : Type} {enc : TypeId × Value → H} {w : World} {vs : List Value} {ds : List (DataW H)} {p : List MemPlace} (h : DataW.TrodAll enc Try.prog w 0 (fun _ => true) true [] vs ds p) :
    (Rows.linkKnownSpec.fn H ds).results = [.lit (.bool true)] ∧ (Rows.linkKnownSpec.fn H ds).args = ds ∧ (Rows.linkKnownSpec.fn H ds).vars = [] := by
  have hl := Go.Wk.trodAll_len h
  match ds, hl with
  | [], _ => exact ⟨rfl, rfl, rfl⟩

theorem walk {H : Type} {enc : TypeId × Value → H} {w : World} {args : Array Value} {ds : List (DataW H)} {p : List MemPlace} {base : Nat} (hA : DataW.TrodAll enc Try.prog w 0 (fun _ => true) true Try.f4.params.toList args.toList ds p)
    (hval : ∀ (j : Nat) t v, Try.f4.params[j]? = some t → args[j]? = some v → Value.okWide Try.prog w .any base t v) : Calls Try.prog 4 args w fun e w' => e = .returned (.bool true) ∧ Go.Wk.Ext [] w w' := by
  rw [Try.params4] at hA hval
  obtain ⟨rfl, rfl, rfl⟩ := trodAll_none hA
  exact Calls.mono (linkKnown_c (w := w) (K := fun v w' => v = .bool true ∧ Go.Wk.Ext [] w w') fun w' h => ⟨rfl, h⟩) fun e w' ⟨v, he, hv, hE⟩ => ⟨by rw [he, hv], hE⟩

set_option maxRecDepth 100000 in
theorem lifted (os : Os) (started : os.Started) (H : Type) (enc : TypeId × Value → H) :
    ReturnsInHanded {} Try.checked os 4 .any (Rows.linkKnownSpec.pre6 enc Try.prog Try.f4 Rows.linkKnownRow.domain false) (Rows.linkKnownSpec.post enc Try.prog Try.f4 false true false false) := by
  refine returnsInHanded_of_change (C := Try.checked) own started (by kernel_rfl) Try.func4
    (ChangeSpec.witness6 (enc := enc) (C := Try.checked) false ⟨#[], #[], []⟩ 8 (by kernel_rfl) (by kernel_rfl) (by kernel_rfl) (by kernel_rfl)) ?_
  intro W base args ds gs before hval0 hW hcnd _
  have hW' := hW
  obtain ⟨p, q, hA, hV, rfl, hfz, hnd⟩ := hW
  have hds : ∃ l, ds = l := ⟨_, rfl⟩
  refine (walk hA hval0).mono fun e W' ⟨he, hE⟩ => ⟨_, he, ?_⟩
  have hA2 := hA
  rw [Try.params4] at hA2
  obtain ⟨h1, h2, h3⟩ := specs hA2
  exact Go.Wk.post_true (tb := Try.f4.resultTypes[0]!) (by kernel_rfl) (by kernel_rfl) (by kernel_rfl) (by decide +kernel) hW' rfl (by kernel_rfl) (by kernel_rfl) h1 h2 h3 hE

theorem over : Rows.linkKnownRow.holds Try.pinned (OpenSpec.ofChange Rows.linkKnownSpec) :=
  OpenClaim.holds_of_wide 4 Try.f4 rfl rfl rfl rfl rfl rfl rfl ⟨rfl, rfl, rfl, rfl, rfl⟩ rfl rfl rfl rfl rfl (by kernel_rfl) Try.func4 (by kernel_rfl)
    (of_decide_eq_true (by kernel_rfl)) (by unfold Func.isWrapper; first | (rw [if_pos (by decide +kernel)]; kernel_rfl) | (rw [if_neg (by decide +kernel)]; exact ⟨rfl, rfl⟩))
    (fun os started H enc _ => lifted os started H enc)

theorem proved : Rows.LinkKnownSaid := over
#print axioms proved
end Go.Proofs.Ytpcdldakilkldaa.linkKnown
