/-
  Links: a message and an act as arguments.
-/
import Derived.Test.YtpcdldakilkldaaLQ
import Derived.Test.YtpcdldakilkldaaK18
set_option linter.unusedVariables false
namespace Go.Proofs.Ytpcdldakilkldaa
open Go Go.ChangeShapes Go.WideShapes Go.ChangeAt Go.RowKit

section
variable {H : Type} {enc : TypeId × Value → H} {w : World} {base : Nat} {spare : Nat → Bool} {held : Bool}
theorem open_field {P : Program} {fs : Array Field} {cs : List Value} {n : Nat} {xs : List (DataW H × List MemPlace)} (hlen : xs.length = fs.size) (hf : ∀ (i : Nat) (f : Field), fs[i]? = some f → DataW.trod enc P w base spare held n f.type ((cs.drop f.offset).take (P.cellsOf f.type)) = xs[i]?)
    (i : Nat) (t : TypeId) (off : Nat) (hi : fs[i]?.map (fun f => (f.type, f.offset)) = some (t, off)) : ∃ y, DataW.trod enc P w base spare held n t ((cs.drop off).take (P.cellsOf t)) = some y := by
  obtain ⟨f, hi2, he⟩ := Option.map_eq_some_iff.1 hi
  cases he
  have hlt : i < xs.length := by
    rw [hlen]; exact (Array.getElem?_eq_some_iff.1 hi2).1
  exact ⟨xs[i], by rw [hf i f hi2, List.getElem?_eq_getElem hlt]⟩
theorem openWide (n : Nat) (cs : List Value) (x : DataW H × List MemPlace) (h : DataW.trod enc Try.prog w base spare held n 79 cs = some x) : ∃ z : Int, cs = encW z ∧ True := by
  obtain ⟨y0, y1, m, _, hl, h0, h1⟩ := trod_struct2 Try.underlying79 h
  obtain ⟨a, ha, wa⟩ := Go.Wk.open_intE Try.underlying2 _ _ _ h0
  obtain ⟨b, hb, wb⟩ := Go.Wk.open_intE Try.underlying77 _ _ _ h1
  have hl2 : cs.length = 2 := hl.trans (by kernel_rfl)
  have e2 : Try.prog.cellsOf 2 = 1 := by kernel_rfl
  have e31 : Try.prog.cellsOf 77 = 1 := by kernel_rfl
  match cs, hl2 with
  | [c0, c1], _ =>
    simp only [e2, e31, List.drop_zero, List.take_succ_cons, List.take_zero, List.drop_succ_cons, List.cons.injEq, and_true] at ha hb
    subst ha hb
    have wa := bounds_i64 wa
    have wb := bounds_u64 wb
    refine ⟨a * 18446744073709551616 + b, ?_, trivial⟩
    unfold encW hiOf loOf
    rw [show (a * 18446744073709551616 + b) / 18446744073709551616 = a by omega, show (a * 18446744073709551616 + b) % 18446744073709551616 = b by omega]
theorem openI64 (n : Nat) (cs : List Value) (x : DataW H × List MemPlace) (h : DataW.trod enc Try.prog w base spare held n 2 cs = some x) : ∃ z : Int, cs = encI z ∧ (-9223372036854775808 ≤ z ∧ z ≤ 9223372036854775807) := by
  obtain ⟨z, hz, wz⟩ := Go.Wk.open_intE Try.underlying2 _ _ _ h
  exact ⟨z, hz, bounds_i64 wz⟩
/-- A message as it lies in the memory. -/
structure MRaw (w : World) (m : MsgR) : Prop where
  n : Go.Wk.SlE w 1 m.na m.nb m.noff encI m.N
  nb : m.N.length = 0 ∨ m.nb < w.heap.size
  hw : Go.Wk.SlE w 2 m.wa m.wb m.woff encW m.W
  wb : m.W.length = 0 ∨ m.wb < w.heap.size
  v0 : 0 ≤ m.view ∧ m.view < 4294967296
  s0 : 0 ≤ m.seq ∧ m.seq < 4294967296
  nr : ∀ z ∈ m.N, -9223372036854775808 ≤ z ∧ z ≤ 9223372036854775807
theorem MRaw.mIn {m : MsgR} (h : MRaw w m) : MIn (fun _ => 0) w m := by
  refine ⟨⟨h.n, h.nb.imp id fun x => ⟨x, rfl⟩⟩, ⟨h.hw, h.wb.imp id fun x => ⟨x, rfl⟩⟩, h.v0, h.s0, fun i => ?_⟩
  rw [List.getD_eq_getElem?_getD]
  cases hi : m.N[i]? with
  | none => simp only [Option.getD_none]; omega
  | some z => exact h.nr z (List.mem_of_getElem? hi)
theorem openMsg (n : Nat) (cs : List Value) (x : DataW H × List MemPlace) (h : DataW.trod enc Try.prog w base spare held n 32 cs = some x) : ∃ m : MsgR, cs = encM m ∧ MRaw w m := by
  obtain ⟨xs, n, _, _, hl, hlen, hf⟩ := DataW.trod_struct Try.underlying32 h
  obtain ⟨y0, h0⟩ := open_field hlen hf 0 3 0 rfl
  obtain ⟨y1, h1⟩ := open_field hlen hf 1 3 1 rfl
  obtain ⟨y2, h2⟩ := open_field hlen hf 2 3 2 rfl
  obtain ⟨y3, h3⟩ := open_field hlen hf 3 27 3 rfl
  obtain ⟨y4, h4⟩ := open_field hlen hf 4 27 4 rfl
  obtain ⟨y5, h5⟩ := open_field hlen hf 5 29 5 rfl
  obtain ⟨y6, h6⟩ := open_field hlen hf 6 30 6 rfl
  have hl2 : cs.length = 7 := hl.trans (by kernel_rfl)
  have e3 : Try.prog.cellsOf 3 = 1 := by kernel_rfl
  have e27 : Try.prog.cellsOf 27 = 1 := by kernel_rfl
  have e29 : Try.prog.cellsOf 29 = 1 := by kernel_rfl
  have e30 : Try.prog.cellsOf 30 = 1 := by kernel_rfl
  obtain ⟨a0, b0, wa⟩ := Go.Wk.open_intE Try.underlying3 _ _ _ h0
  obtain ⟨a1, b1, wb⟩ := Go.Wk.open_intE Try.underlying3 _ _ _ h1
  obtain ⟨a2, b2, wc⟩ := Go.Wk.open_intE Try.underlying3 _ _ _ h2
  obtain ⟨a3, b3, wd⟩ := Go.Wk.open_intE Try.underlying27 _ _ _ h3
  obtain ⟨a4, b4, we⟩ := Go.Wk.open_intE Try.underlying27 _ _ _ h4
  obtain ⟨na, nb, noff, nc, N, b5, hN, oN, nbb, _, _, _⟩ := Go.Wk.open_sl (en := encI) Try.underlying29 (sz := 1) (by kernel_rfl) (by decide) openI64 h5
  obtain ⟨wa_, wb_, woff, wc_, W, b6, hW, oW, wbb, _, _, _⟩ := Go.Wk.open_sl (en := encW) Try.underlying30 (sz := 2) (by kernel_rfl) (by decide) openWide h6
  match cs, hl2 with
  | [c0, c1, c2, c3, c4, c5, c6], _ =>
    simp only [e3, e27, e29, e30, List.drop_zero, List.take_succ_cons, List.take_zero, List.drop_succ_cons, List.cons.injEq, and_true] at b0 b1 b2 b3 b4 b5 b6
    subst b0 b1 b2 b3 b4 b5 b6
    refine ⟨⟨a0, a1, a2, a3, a4, na, nb, noff, nc, N, wa_, wb_, woff, wc_, W⟩, rfl, hN, nbb, hW, wbb, ?_, ?_, oN⟩
    · have := bounds_u32 wd; show 0 ≤ a3 ∧ a3 < 4294967296; omega
    · have := bounds_u32 we; show 0 ≤ a4 ∧ a4 < 4294967296; omega
def ARaw (w : World) (a : ActR) : Prop := MRaw w a.m ∧ -9223372036854775808 ≤ a.now ∧ a.now ≤ 9223372036854775807
theorem openAct (n : Nat) (cs : List Value) (x : DataW H × List MemPlace) (h : DataW.trod enc Try.prog w base spare held n 48 cs = some x) : ∃ a : ActR, cs = encA a ∧ ARaw w a := by
  obtain ⟨xs, n, _, _, hl, hlen, hf⟩ := DataW.trod_struct Try.underlying48 h
  obtain ⟨y0, h0⟩ := open_field hlen hf 0 3 0 rfl
  obtain ⟨y1, h1⟩ := open_field hlen hf 1 4 1 rfl
  obtain ⟨y2, h2⟩ := open_field hlen hf 2 32 2 rfl
  obtain ⟨y3, h3⟩ := open_field hlen hf 3 2 9 rfl
  have hl2 : cs.length = 10 := hl.trans (by kernel_rfl)
  have e3 : Try.prog.cellsOf 3 = 1 := by kernel_rfl
  have e4 : Try.prog.cellsOf 4 = 1 := by kernel_rfl
  have e32 : Try.prog.cellsOf 32 = 7 := by kernel_rfl
  have e2 : Try.prog.cellsOf 2 = 1 := by kernel_rfl
  obtain ⟨a0, b0, wa⟩ := Go.Wk.open_intE Try.underlying3 _ _ _ h0
  obtain ⟨a1, b1, _⟩ := DataW.trod_bool Try.underlying4 h1
  obtain ⟨m, b2, hm⟩ := openMsg _ _ _ h2
  obtain ⟨a3, b3, wd⟩ := Go.Wk.open_intE Try.underlying2 _ _ _ h3
  match cs, hl2 with
  | [c0, c1, c2, c3, c4, c5, c6, c7, c8, c9], _ =>
    simp only [e3, e4, e32, e2, List.drop_zero, List.take_succ_cons, List.take_zero, List.drop_succ_cons, List.cons.injEq, and_true, encM] at b0 b1 b2 b3
    obtain ⟨q0, q1, q2, q3, q4, q5, q6⟩ := b2
    subst b0 b1 b3 q0 q1 q2 q3 q4 q5 q6
    exact ⟨⟨a0, a1, m, a3⟩, rfl, hm, bounds_i64 wd⟩
theorem allA_of {L : List ActR} (h : ∀ a ∈ L, ARaw w a) : AllA (fun _ => 0) w L := fun a ha => ⟨(h a ha).1.mIn, (h a ha).2⟩
theorem agg_of {v : Value} {n : Nat} (h : v.cells.toList.length = n) (hn : n ≠ 1) : v = .agg v.cells.toList.toArray := by
  cases v <;> first | (exfalso; apply hn; rw [← h]; rfl) | rfl
end
end Go.Proofs.Ytpcdldakilkldaa
