/-
  LinkPlays holds of the given program: whatever is called, a link answers as the document's does: each once, in order; for every input, without conditions.
-/
import Derived.Test.YtpcdldakilkldaaRows
import Derived.ProofKit
import Derived.OpenShut
import Derived.Test.YtpcdldakilkldaaX6
import Derived.Test.YtpcdldakilkldaaLR
import Derived.Test.YtpcdldakilkldaaK18
namespace Go.Proofs.Ytpcdldakilkldaa.linkPlays
open Go.ChangeShapes Go.WideShapes Go.ChangeAt Go.RowKit
set_option linter.unusedVariables false

theorem own : ownKnob Try.prog.godebug = none := by kernel_rfl

theorem specs {H : Type} {enc : TypeId × Value → H} {w : World} {vs : List Value} {ds : List (DataW H)} {p : List MemPlace} (h : DataW.TrodAll enc Try.prog w 0 (fun _ => true) true [3, 3, 27, 40] vs ds p) :
    (Rows.linkPlaysSpec.fn H ds).results = [.lit (.bool true)] ∧ (Rows.linkPlaysSpec.fn H ds).args = ds ∧ (Rows.linkPlaysSpec.fn H ds).vars = [] := by
  have hl := Go.Wk.trodAll_len h
  match ds, hl with
  | [d0, d1, d2, d3], _ => exact ⟨rfl, rfl, rfl⟩

theorem walk {H : Type} {enc : TypeId × Value → H} {w : World} {args : Array Value} {ds : List (DataW H)} {p : List MemPlace} {base : Nat} (hA : DataW.TrodAll enc Try.prog w 0 (fun _ => true) true Try.f5.params.toList args.toList ds p)
    (hval : ∀ (j : Nat) t v, Try.f5.params[j]? = some t → args[j]? = some v → Value.okWide Try.prog w .any base t v) : Calls Try.prog 5 args w fun e w' => e = .returned (.bool true) ∧ Go.Wk.Ext [] w w' := by
  rw [Try.params5] at hA hval
  obtain ⟨v0, _, d0, _, p0, _, ha0, rfl, rfl, h0, hA⟩ := trodAll_cons hA
  obtain ⟨v1, _, d1, _, p1, _, rfl, rfl, rfl, h1, hA⟩ := trodAll_cons hA
  obtain ⟨v2, _, d2, _, p2, _, rfl, rfl, rfl, h2, hA⟩ := trodAll_cons hA
  obtain ⟨v3, _, d3, _, p3, _, rfl, rfl, rfl, h3, hA⟩ := trodAll_cons hA
  obtain ⟨rfl, _, _⟩ := trodAll_nil hA
  have hargs : args = #[v0, v1, v2, v3] := Array.ext' ha0
  subst hargs
  obtain ⟨own, rfl, -, -, wn⟩ := open_int Try.underlying3 (hval 0 3 v0 rfl rfl) h0
  obtain ⟨peer, rfl, -, -, wu⟩ := open_int Try.underlying3 (hval 1 3 v1 rfl rfl) h1
  obtain ⟨view, rfl, -, -, wv⟩ := open_int Try.underlying27 (hval 2 27 v2 rfl rfl) h2
  obtain ⟨a, b, off, c, L, rfl, hs, hin, hb, hl, hmx⟩ := Go.Wk.open_slArg (en := encA) (ok := ARaw w) (sz := 10) Try.underlying40 (by kernel_rfl) (by decide) openAct (hval 3 40 v3 rfl rfl) h3
  have hvw := bounds_u32 wv
  have key : Go.Wk.CallsV Try.prog 5 #[.int .i64 own, .int .i64 peer, .int .u32 view, .slice a L.length c] w fun v w' => v = .bool true ∧ Go.Wk.Ext [] w w' :=
    linkPlays_c (by omega) ⟨hs, hb.imp id fun x => ⟨x, rfl⟩⟩ (allA_of hin) fun w' h => ⟨rfl, h⟩
  exact Calls.mono key fun e w' ⟨v, he, hv, hE⟩ => ⟨by rw [he, hv], hE⟩

set_option maxRecDepth 100000 in
theorem lifted (os : Os) (started : os.Started) (H : Type) (enc : TypeId × Value → H) :
    ReturnsInHanded {} Try.checked os 5 .any (Rows.linkPlaysSpec.pre6 enc Try.prog Try.f5 Rows.linkPlaysRow.domain false) (Rows.linkPlaysSpec.post enc Try.prog Try.f5 false true false false) := by
  refine returnsInHanded_of_change (C := Try.checked) own started (by kernel_rfl) Try.func5
    (ChangeSpec.witness6 (enc := enc) (C := Try.checked) false ⟨#[], #[.int .i64 0, .int .i64 0, .int .u32 0, .slice none 0 0], []⟩ 8 (by kernel_rfl) (by kernel_rfl) (by kernel_rfl) (by kernel_rfl)) ?_
  intro W base args ds gs before hval0 hW hcnd _
  have hW' := hW
  obtain ⟨p, q, hA, hV, rfl, hfz, hnd⟩ := hW
  have hds : ∃ l, ds = l := ⟨_, rfl⟩
  refine (walk hA hval0).mono fun e W' ⟨he, hE⟩ => ⟨_, he, ?_⟩
  have hA2 := hA
  rw [Try.params5] at hA2
  obtain ⟨h1, h2, h3⟩ := specs hA2
  exact Go.Wk.post_true (tb := Try.f5.resultTypes[0]!) (by kernel_rfl) (by kernel_rfl) (by kernel_rfl) (by decide +kernel) hW' rfl (by kernel_rfl) (by kernel_rfl) h1 h2 h3 hE

theorem over : Rows.linkPlaysRow.holds Try.pinned (OpenSpec.ofChange Rows.linkPlaysSpec) :=
  OpenClaim.holds_of_wide 5 Try.f5 rfl rfl rfl rfl rfl rfl rfl ⟨rfl, rfl, rfl, rfl, rfl⟩ rfl rfl rfl rfl rfl (by kernel_rfl) Try.func5 (by kernel_rfl)
    (of_decide_eq_true (by kernel_rfl)) (by unfold Func.isWrapper; first | (rw [if_pos (by decide +kernel)]; kernel_rfl) | (rw [if_neg (by decide +kernel)]; exact ⟨rfl, rfl⟩))
    (fun os started H enc _ => lifted os started H enc)

theorem proved : Rows.LinkPlaysSaid := over
#print axioms proved
end Go.Proofs.Ytpcdldakilkldaa.linkPlays
