/-
  RingRows holds of the given program: rows of noughts but one's, brought round the ring, leave at each place that one's row; for every input, without conditions.
-/
import Derived.Test.YtjdlgidacnphpaaRows
import Derived.ProofKit
import Derived.OpenShut
import Derived.Test.YtjdlgidacnphpaaRJ
import Derived.Test.YtjdlgidacnphpaaK18
namespace Go.Proofs.Ytjdlgidacnphpaa.ringRows
open Go.ChangeShapes Go.WideShapes Go.ChangeAt Go.RowKit
set_option linter.unusedVariables false

theorem own : ownKnob Try.prog.godebug = none := by kernel_rfl

theorem inW_all {L : List Int} (h : ∀ z ∈ L, InW z) (i : Nat) : InW (L.getD i 0) := by
  rw [List.getD_eq_getElem?_getD]
  cases hi : L[i]? with
  | none => simp only [Option.getD_none]; unfold InW; omega
  | some z => exact h z (List.mem_of_getElem? hi)
theorem openW {H : Type} {enc : TypeId × Value → H} {w : World} {base : Nat} {spare : Nat → Bool} {held : Bool} (n : Nat) (cs : List Value) (x : DataW H × List MemPlace) (h : DataW.trod enc Try.prog w base spare held n 33 cs = some x) : ∃ z : Int, cs = encW z ∧ InW z := by
  obtain ⟨y0, y1, m, _, hl, h0, h1⟩ := trod_struct2 Try.underlying33 h
  obtain ⟨a, ha, wa⟩ := Go.Wk.open_intE Try.underlying2 _ _ _ h0
  obtain ⟨b, hb, wb⟩ := Go.Wk.open_intE Try.underlying31 _ _ _ h1
  have hl2 : cs.length = 2 := hl.trans (by kernel_rfl)
  have e2 : Try.prog.cellsOf 2 = 1 := by kernel_rfl
  have e31 : Try.prog.cellsOf 31 = 1 := by kernel_rfl
  match cs, hl2 with
  | [c0, c1], _ =>
    simp only [e2, e31, List.drop_zero, List.take_succ_cons, List.take_zero, List.drop_succ_cons, List.cons.injEq, and_true] at ha hb
    subst ha hb
    have wa := bounds_i64 wa
    have wb := bounds_u64 wb
    refine ⟨a * 18446744073709551616 + b, ?_, by unfold InW; omega⟩
    unfold encW hiOf loOf
    rw [show (a * 18446744073709551616 + b) / 18446744073709551616 = a by omega, show (a * 18446744073709551616 + b) % 18446744073709551616 = b by omega]

theorem specs {H : Type} {enc : TypeId × Value → H} {w : World} {vs : List Value} {ds : List (DataW H)} {p : List MemPlace} (h : DataW.TrodAll enc Try.prog w 0 (fun _ => true) true [3, 3, 25] vs ds p) :
    (Rows.ringRowsSpec.fn H ds).results = [.lit (.bool true)] ∧ (Rows.ringRowsSpec.fn H ds).args = ds ∧ (Rows.ringRowsSpec.fn H ds).vars = [] := by
  have hl := Go.Wk.trodAll_len h
  match ds, hl with
  | [d0, d1, d2], _ => exact ⟨rfl, rfl, rfl⟩

theorem walk {H : Type} {enc : TypeId × Value → H} {w : World} {args : Array Value} {ds : List (DataW H)} {p : List MemPlace} {base : Nat} (hA : DataW.TrodAll enc Try.prog w 0 (fun _ => true) true Try.f4.params.toList args.toList ds p)
    (hval : ∀ (j : Nat) t v, Try.f4.params[j]? = some t → args[j]? = some v → Value.okWide Try.prog w .any base t v) : Calls Try.prog 4 args w fun e w' => e = .returned (.bool true) ∧ Go.Wk.Ext [] w w' := by
  rw [Try.params4] at hA hval
  obtain ⟨v0, _, d0, _, p0, _, ha0, rfl, rfl, h0, hA⟩ := trodAll_cons hA
  obtain ⟨v1, _, d1, _, p1, _, rfl, rfl, rfl, h1, hA⟩ := trodAll_cons hA
  obtain ⟨v2, _, d2, _, p2, _, rfl, rfl, rfl, h2, hA⟩ := trodAll_cons hA
  obtain ⟨rfl, _, _⟩ := trodAll_nil hA
  have hargs : args = #[v0, v1, v2] := Array.ext' ha0
  subst hargs
  obtain ⟨n, rfl, -, -, wn⟩ := open_int Try.underlying3 (hval 0 3 v0 rfl rfl) h0
  obtain ⟨who, rfl, -, -, ww⟩ := open_int Try.underlying3 (hval 1 3 v1 rfl rfl) h1
  obtain ⟨a, b, off, c, L, rfl, hs, hin, hb, hl, hm⟩ := Go.Wk.open_slArg (en := encW) (ok := InW) (sz := 2) Try.underlying25 (by kernel_rfl) (by decide) openW (hval 2 25 v2 rfl rfl) h2
  have key : Go.Wk.CallsV Try.prog 4 #[.int .i64 n, .int .i64 who, .slice a L.length c] w fun v w' => v = .bool true ∧ Go.Wk.Ext [] w w' := by
    by_cases hg : 1 ≤ n ∧ n ≤ 8 ∧ 0 ≤ who ∧ who < n ∧ L.length ≤ 60
    · obtain ⟨g1, g2, g3, g4, g5⟩ := hg
      have en : n = ((n.toNat : Nat) : Int) := by omega
      have ew : who = ((who.toNat : Nat) : Int) := by omega
      rw [en, ew]
      exact ringRows_in hs hb (by omega) (by omega) (by omega) g5 (inW_all hin) fun w' h => ⟨rfl, h⟩
    · exact ringRows_out hg fun w' h => ⟨rfl, h⟩
  exact Calls.mono key fun e w' ⟨v, he, hv, hE⟩ => ⟨by rw [he, hv], hE⟩

set_option maxRecDepth 100000 in
theorem lifted (os : Os) (started : os.Started) (H : Type) (enc : TypeId × Value → H) :
    ReturnsInHanded {} Try.checked os 4 .any (Rows.ringRowsSpec.pre6 enc Try.prog Try.f4 Rows.ringRowsRow.domain false) (Rows.ringRowsSpec.post enc Try.prog Try.f4 false true false false) := by
  refine returnsInHanded_of_change (C := Try.checked) own started (by kernel_rfl) Try.func4
    (ChangeSpec.witness6 (enc := enc) (C := Try.checked) false ⟨#[], #[.int .i64 0, .int .i64 0, .slice none 0 0], []⟩ 8 (by kernel_rfl) (by kernel_rfl) (by kernel_rfl) (by kernel_rfl)) ?_
  intro W base args ds gs before hval0 hW hcnd _
  have hW' := hW
  obtain ⟨p, q, hA, hV, rfl, hfz, hnd⟩ := hW
  have hds : ∃ l, ds = l := ⟨_, rfl⟩
  refine (walk hA hval0).mono fun e W' ⟨he, hE⟩ => ⟨_, he, ?_⟩
  have hA2 := hA
  rw [Try.params4] at hA2
  obtain ⟨h1, h2, h3⟩ := specs hA2
  exact Go.Wk.post_true (tb := Try.f4.resultTypes[0]!) (by kernel_rfl) (by kernel_rfl) (by kernel_rfl) (by decide +kernel) hW' rfl (by kernel_rfl) (by kernel_rfl) h1 h2 h3 hE

theorem over : Rows.ringRowsRow.holds Try.pinned (OpenSpec.ofChange Rows.ringRowsSpec) :=
  OpenClaim.holds_of_wide 4 Try.f4 rfl rfl rfl rfl rfl rfl rfl ⟨rfl, rfl, rfl, rfl, rfl⟩ rfl rfl rfl rfl rfl (by kernel_rfl) Try.func4 (by kernel_rfl)
    (of_decide_eq_true (by kernel_rfl)) (by unfold Func.isWrapper; first | (rw [if_pos (by decide +kernel)]; kernel_rfl) | (rw [if_neg (by decide +kernel)]; exact ⟨rfl, rfl⟩))
    (fun os started H enc _ => lifted os started H enc)

theorem proved : Rows.RingRowsSaid := over
#print axioms proved
end Go.Proofs.Ytjdlgidacnphpaa.ringRows
