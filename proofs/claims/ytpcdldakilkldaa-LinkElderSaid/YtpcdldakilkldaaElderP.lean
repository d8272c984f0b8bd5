/-
  LinkElder holds of the given program: words of another view, of another worker, for another one, change nothing of a link; for every input, without conditions.
-/
import Derived.Test.YtpcdldakilkldaaRows
import Derived.ProofKit
import Derived.OpenShut
import Derived.Test.YtpcdldakilkldaaLJ0
import Derived.Test.YtpcdldakilkldaaLJ1
import Derived.Test.YtpcdldakilkldaaLJ2
import Derived.Test.YtpcdldakilkldaaLJ3
import Derived.Test.YtpcdldakilkldaaLR
import Derived.Test.YtpcdldakilkldaaK18
namespace Go.Proofs.Ytpcdldakilkldaa.linkElder
open Go.ChangeShapes Go.WideShapes Go.ChangeAt Go.RowKit
set_option linter.unusedVariables false

theorem own : ownKnob Try.prog.godebug = none := by kernel_rfl

theorem specs {H : Type} {enc : TypeId × Value → H} {w : World} {vs : List Value} {ds : List (DataW H)} {p : List MemPlace} (h : DataW.TrodAll enc Try.prog w 0 (fun _ => true) true [32, 40] vs ds p) :
    (Rows.linkElderSpec.fn H ds).results = [.lit (.bool true)] ∧ (Rows.linkElderSpec.fn H ds).args = ds ∧ (Rows.linkElderSpec.fn H ds).vars = [] := by
  have hl := Go.Wk.trodAll_len h
  match ds, hl with
  | [d0, d1], _ => exact ⟨rfl, rfl, rfl⟩

theorem walk {H : Type} {enc : TypeId × Value → H} {w : World} {args : Array Value} {ds : List (DataW H)} {p : List MemPlace} {base : Nat} (hA : DataW.TrodAll enc Try.prog w 0 (fun _ => true) true Try.f6.params.toList args.toList ds p)
    (hval : ∀ (j : Nat) t v, Try.f6.params[j]? = some t → args[j]? = some v → Value.okWide Try.prog w .any base t v) : Calls Try.prog 6 args w fun e w' => e = .returned (.bool true) ∧ Go.Wk.Ext [] w w' := by
  rw [Try.params6] at hA hval
  obtain ⟨v0, _, d0, _, p0, _, ha0, rfl, rfl, h0, hA⟩ := trodAll_cons hA
  obtain ⟨v1, _, d1, _, p1, _, rfl, rfl, rfl, h1, hA⟩ := trodAll_cons hA
  obtain ⟨rfl, _, _⟩ := trodAll_nil hA
  have hargs : args = #[v0, v1] := Array.ext' ha0
  subst hargs
  obtain ⟨fuel, x, hf⟩ := Go.Wk.open_trod h0 rfl
  obtain ⟨m, hm, hraw⟩ := openMsg _ _ _ hf
  have hv0 : v0 = .agg (encM m).toArray := by rw [← hm]; exact agg_of (n := 7) (by rw [hm]; rfl) (by decide)
  subst hv0
  obtain ⟨a, b, off, c, L, rfl, hs, hin, hb, hl, hmx⟩ := Go.Wk.open_slArg (en := encA) (ok := ARaw w) (sz := 10) Try.underlying40 (by kernel_rfl) (by decide) openAct (hval 1 40 v1 rfl rfl) h1
  have key : Go.Wk.CallsV Try.prog 6 #[.agg (encM m).toArray, .slice a L.length c] w fun v w' => v = .bool true ∧ Go.Wk.Ext [] w w' :=
    by
      have hm1 := hraw.mIn
      have hs1 : Go.Wk.SlG (fun _ => 0) w 0 10 a b off encA L := ⟨hs, hb.imp id fun x => ⟨x, rfl⟩⟩
      by_cases hg : L.length ≤ 50 ∧ m.N.length ≤ 10 ∧ m.W.length ≤ 10 ∧ ¬ (m.frm = 1 ∧ m.to = 0 ∧ m.view = 7)
      · obtain ⟨g1, g2, g3, g4⟩ := hg
        by_cases q1 : m.frm = 1
        · by_cases q2 : m.to = 0
          · exact linkElder_3 hm1 hs1 (allA_of hin) g1 g2 g3 ⟨q1, q2, fun q3 => g4 ⟨q1, q2, q3⟩⟩ fun w' h => ⟨rfl, h⟩
          · exact linkElder_2 hm1 hs1 (allA_of hin) g1 g2 g3 ⟨q1, q2⟩ fun w' h => ⟨rfl, h⟩
        · exact linkElder_1 hm1 hs1 (allA_of hin) g1 g2 g3 q1 fun w' h => ⟨rfl, h⟩
      · exact linkElder_out hm1 hs1 (allA_of hin) hg fun w' h => ⟨rfl, h⟩
  exact Calls.mono key fun e w' ⟨v, he, hv, hE⟩ => ⟨by rw [he, hv], hE⟩

set_option maxRecDepth 100000 in
theorem lifted (os : Os) (started : os.Started) (H : Type) (enc : TypeId × Value → H) :
    ReturnsInHanded {} Try.checked os 6 .any (Rows.linkElderSpec.pre6 enc Try.prog Try.f6 Rows.linkElderRow.domain false) (Rows.linkElderSpec.post enc Try.prog Try.f6 false true false false) := by
  refine returnsInHanded_of_change (C := Try.checked) own started (by kernel_rfl) Try.func6
    (ChangeSpec.witness6 (enc := enc) (C := Try.checked) false ⟨#[], #[.agg #[.int .i64 0, .int .i64 0, .int .i64 0, .int .u32 0, .int .u32 0, .slice none 0 0, .slice none 0 0], .slice none 0 0], []⟩ 8 (by kernel_rfl) (by kernel_rfl) (by kernel_rfl) (by kernel_rfl)) ?_
  intro W base args ds gs before hval0 hW hcnd _
  have hW' := hW
  obtain ⟨p, q, hA, hV, rfl, hfz, hnd⟩ := hW
  have hds : ∃ l, ds = l := ⟨_, rfl⟩
  refine (walk hA hval0).mono fun e W' ⟨he, hE⟩ => ⟨_, he, ?_⟩
  have hA2 := hA
  rw [Try.params6] at hA2
  obtain ⟨h1, h2, h3⟩ := specs hA2
  exact Go.Wk.post_true (tb := Try.f6.resultTypes[0]!) (by kernel_rfl) (by kernel_rfl) (by kernel_rfl) (by decide +kernel) hW' rfl (by kernel_rfl) (by kernel_rfl) h1 h2 h3 hE

theorem over : Rows.linkElderRow.holds Try.pinned (OpenSpec.ofChange Rows.linkElderSpec) :=
  OpenClaim.holds_of_wide 6 Try.f6 rfl rfl rfl rfl rfl rfl rfl ⟨rfl, rfl, rfl, rfl, rfl⟩ rfl rfl rfl rfl rfl (by kernel_rfl) Try.func6 (by kernel_rfl)
    (of_decide_eq_true (by kernel_rfl)) (by unfold Func.isWrapper; first | (rw [if_pos (by decide +kernel)]; kernel_rfl) | (rw [if_neg (by decide +kernel)]; exact ⟨rfl, rfl⟩))
    (fun os started H enc _ => lifted os started H enc)

theorem proved : Rows.LinkElderSaid := over
#print axioms proved
end Go.Proofs.Ytpcdldakilkldaa.linkElder
