/-
  A part of the proofs over the program's package ring: contracts of its functions, step by step.
-/
import Derived.Test.YtjdlgidacnphpaaRE
import Derived.Test.YtjdlgidacnphpaaK15
set_option linter.unusedSimpArgs false
set_option linter.unusedVariables false
namespace Go.Proofs.Ytjdlgidacnphpaa
open Go Go.Wk

theorem keepRingE {S : List Nat} {w w' : World} (h : Ext S w w') {r g ck place n : Nat} {L : List Int} {round : Nat} {told taken : Bool} {la : Option Addr} {lc kc : Nat} {rest crest : List Value}
    (hR : RingAt w r g ck place n L round told taken la lc kc rest crest) (h1 : r ∉ S) (h2 : L.length = 0 ∨ g ∉ S) (h3 : ck ∉ S) : RingAt w' r g ck place n L round told taken la lc kc rest crest :=
  ⟨h.keep hR.hr h1, h.keepOwP hR.hl h2, h.keepOwn hR.hc h3, hR.nr, hR.kr, hR.kg, hR.h1, hR.h2, hR.h3, hR.h4, hR.h5, hR.hi, Nat.lt_of_lt_of_le hR.gl h.size⟩
theorem keepRingS {w w' : World} (h : SameMem w w') {r g ck place n : Nat} {L : List Int} {round : Nat} {told taken : Bool} {la : Option Addr} {lc kc : Nat} {rest crest : List Value}
    (hR : RingAt w r g ck place n L round told taken la lc kc rest crest) : RingAt w' r g ck place n L round told taken la lc kc rest crest := keepRingE (h.ext []) hR List.not_mem_nil (.inr List.not_mem_nil) List.not_mem_nil
theorem RingAt.rl {w : World} {r g ck place n : Nat} {L : List Int} {round : Nat} {told taken : Bool} {la : Option Addr} {lc kc : Nat} {rest crest : List Value} (hR : RingAt w r g ck place n L round told taken la lc kc rest crest) :
    r < w.heap.size ∧ g < w.heap.size ∧ ck < w.heap.size := ⟨lt_of_block hR.hr, hR.gl, hR.hc.lt⟩
theorem inW_cut {L : List Int} (h : ∀ i, InW (L.getD i 0)) (a b : Nat) : ∀ i, InW (((L.drop a).take b).getD i 0) := by
  intro i
  have := h (a + i)
  simp only [List.getD_eq_getElem?_getD, List.getElem?_take, List.getElem?_drop] at *
  split
  · exact this
  · simp only [Option.getD_none]; unfold InW; omega

def M (L : List Int) (place n round : Nat) : List Int := (L.drop (cFrom L.length n (sendsN place n round))).take (cTo L.length n (sendsN place n round) - cFrom L.length n (sendsN place n round))

section
variable {r g ck place n : Nat} {L : List Int} {round : Nat} {told taken : Bool} {la : Option Addr} {lc kc : Nat} {rest crest : List Value} {w : World} {K : Value → World → Prop}
theorem out_c (hR : RingAt w r g ck place n L round false taken la lc kc rest crest) (hn : 2 ≤ n) (hd : round ≤ 2 * n - 3)
    (hK : ∀ w' a' g' c' rest', Ext [r] w w' → RingAt w' r g ck place n L (if taken then round + 1 else round) (!taken) false la lc kc rest crest → OwO w' 33 2 a' g' c' encW (M L place n round) rest' →
      ((M L place n round).length = 0 ∨ (w.heap.size ≤ g' ∧ g' < w'.heap.size)) → w'.heap.size ≤ w.heap.size + 4 →
      K (.tuple #[.agg #[.int .i64 ((round : Nat) : Int), .int .i64 ((sendsN place n round : Nat) : Int), .slice a' (M L place n round).length c'], .bool true]) w') :
    CallsV Try.prog 9 #[.pointer (some ⟨r, 0, none⟩)] w K :=
  out_yes hR hd hn fun w' a' g' c' rest' h1 h2 h3 h4 h5 => hK w' a' g' c' rest' h1 (by simpa using h2) h3 h4 h5

theorem get_c {pr pc wc pb offp : Nat} {wa : Option Addr} {W : List Int} (hR : RingAt w r g ck place n L round told false la lc kc rest crest) (hn : 2 ≤ n) (hd : round ≤ 2 * n - 3) (hp : pr = round) (hc : pc = sendsN ((place + n - 1) % n) n round)
    (hw : W.length + cFrom L.length n (sendsN ((place + n - 1) % n) n round) = cTo L.length n (sendsN ((place + n - 1) % n) n round)) (hs : SlE w 2 wa pb offp encW W) (hpg : W.length = 0 ∨ pb ≠ g) (hwi : ∀ i, InW (W.getD i 0))
    {L' : List Int} (hL : mixL L W (cFrom L.length n (sendsN ((place + n - 1) % n) n round)) (addsN n round) W.length = L')
    (hK : ∀ w', Ext [r, g] w w' → RingAt w' r g ck place n L' (if told then round + 1 else round) false (!told) la lc kc rest crest → w.heap.size ≤ w'.heap.size → K (.int .i64 0) w') :
    CallsV Try.prog 10 #[.pointer (some ⟨r, 0, none⟩), .agg #[.int .i64 ((pr : Nat) : Int), .int .i64 ((pc : Nat) : Int), .slice wa W.length wc]] w K := by
  subst hL
  by_cases h0 : L.length = 0
  · exact get_ok0 hR hd hn hp hc hw hs hpg hwi h0 fun w' h1 h2 h3 => hK w' h1 (by simpa using h2) h3
  · exact get_ok1 hR hd hn hp hc hw hs hpg hwi h0 fun w' h1 h2 h3 => hK w' h1 (by simpa using h2) h3
end

noncomputable def oN29w1_0 : Code := (Try.f29.body).getD .skip
noncomputable def oN29w1_1 : Code := s1 oN29w1_0
noncomputable def oN29w1_2 : Code := s2 oN29w1_0
noncomputable def oR29w1_0 : Array Oper := rops oN29w1_1
noncomputable def oN29w1_3 : Code := s1 oN29w1_2
noncomputable def oN29w1_4 : Code := s2 oN29w1_2
noncomputable def oN29w1_5 : Code := s1 oN29w1_3
noncomputable def oN29w1_6 : Code := s2 oN29w1_3
noncomputable def oR29w1_1 : Array Oper := rops oN29w1_5
noncomputable def oN29w1_7 : Code := s1 oN29w1_6
noncomputable def oN29w1_8 : Code := s2 oN29w1_6
noncomputable def oN29w1_9 : Code := s1 oN29w1_4
noncomputable def oN29w1_10 : Code := s2 oN29w1_4
noncomputable def oR29w1_3 : Array Oper := rops oN29w1_9
theorem size_pos {n : Int} {w : World} (h : 0 ≤ n ∧ n ≤ 9223372036854775807) {K : Value → World → Prop} (hK : K (.int .u64 n) w) : CallsV Try.prog 29 #[.int .i64 n] w K := by
  refine callsV_of (c := oN29w1_0) Try.func29 (by kernel_rfl) (n := 12) (by kernel_rfl) ?_
  refine g_seq (x := oN29w1_1) (y := oN29w1_2) (by kernel_rfl) ?_
  refine g_region (ops := oR29w1_0) (id := 0) (by kernel_rfl) [(0, .pure)] (by kernel_rfl) (by kernel_rfl) ?_
  refine wk_pure (show opD oR29w1_0 0 = some (some 2, .assign (.const (.int .u64 0)), 31, none) from by kernel_rfl) (by kernel_rfl) (.int .u64 0) (fun _ => y_assign (by kernel_rfl)) ?_
  refine wk_nil ?_
  refine thn_n ?_
  refine g_seq (x := oN29w1_3) (y := oN29w1_4) (by kernel_rfl) ?_
  refine g_seq (x := oN29w1_5) (y := oN29w1_6) (by kernel_rfl) ?_
  refine g_region (ops := oR29w1_1) (id := 1) (by kernel_rfl) [(0, .pure), (1, .pure)] (by kernel_rfl) (by kernel_rfl) ?_
  refine wk_pure (show opD oR29w1_1 0 = some (some 3, .move (.tmp 0), 2, none) from by kernel_rfl) (by kernel_rfl) (.int .i64 n) (fun _ => y_move (by kernel_rfl)) ?_
  refine wk_pure (show opD oR29w1_1 1 = some (some 4, .binOp .lss 2 (.tmp 3) (.const (.int .i64 0)) 2, 4, none) from by kernel_rfl) (by kernel_rfl) (.bool false) (fun _ => y_lss (k := .i64) (a := n) (b := 0) (by kernel_rfl) (by kernel_rfl) (decide_eq_false (by omega))) ?_
  refine wk_nil ?_
  refine thn_n ?_
  refine g_cond_f (o := .tmp 4) (x := oN29w1_7) (y := oN29w1_8) (by kernel_rfl) (by kernel_rfl) ?_
  refine g_skip (by kernel_rfl) ?_
  refine thn_n ?_
  refine g_seq (x := oN29w1_9) (y := oN29w1_10) (by kernel_rfl) ?_
  refine g_region (ops := oR29w1_3) (id := 3) (by kernel_rfl) [(0, .pure), (1, .pure), (2, .pure)] (by kernel_rfl) (by kernel_rfl) ?_
  refine wk_pure (show opD oR29w1_3 0 = some (some 10, .move (.tmp 0), 2, none) from by kernel_rfl) (by kernel_rfl) (.int .i64 n) (fun _ => y_move (by kernel_rfl)) ?_
  refine wk_pure (show opD oR29w1_3 1 = some (some 11, .convert 2 31 (.tmp 10), 31, none) from by kernel_rfl) (by kernel_rfl) (.int .u64 n) (fun _ => y_conv (q := .i64) (a := n) (by kernel_rfl) (by kernel_rfl) (by kernel_rfl) (u64_id (by omega))) ?_
  refine wk_pure (show opD oR29w1_3 2 = some (some 2, .assign (.tmp 11), 31, none) from by kernel_rfl) (by kernel_rfl) (.int .u64 n) (fun _ => y_assign (by kernel_rfl)) ?_
  refine wk_nil ?_
  refine thn_n ?_
  refine g_ret (by kernel_rfl) ?_
  refine ends1_r (v := .int .u64 n) rfl (by kernel_rfl) ?_
  exact hK

noncomputable def oN24w2_0 : Code := (Try.f24.body).getD .skip
noncomputable def oN24w2_1 : Code := s1 oN24w2_0
noncomputable def oN24w2_2 : Code := s2 oN24w2_0
noncomputable def oR24w2_0 : Array Oper := rops oN24w2_1
noncomputable def oN24w2_3 : Code := s1 oN24w2_2
noncomputable def oN24w2_4 : Code := s2 oN24w2_2
noncomputable def oR24w2_1 : Array Oper := rops oN24w2_3
theorem from_pos {n : Int} {w : World} (h : 0 ≤ n ∧ n ≤ 9223372036854775807) {K : Value → World → Prop} (hK : ∀ w', Ext [] w w' → w'.heap.size = w.heap.size + 1 → K (.agg #[.bool false, .int .u64 n, .int .u64 0, .int .u64 0, .int .u64 0]) w') : CallsV Try.prog 24 #[.int .i64 n] w K := by
  refine callsV_of (c := oN24w2_0) Try.func24 (by kernel_rfl) (n := 9) (by kernel_rfl) ?_
  refine g_seq (x := oN24w2_1) (y := oN24w2_2) (by kernel_rfl) ?_
  refine g_region (ops := oR24w2_0) (id := 0) (by kernel_rfl) [(0, .loud)] (by kernel_rfl) (by kernel_rfl) ?_
  refine wk_alloc (z := #[.bool false, .int .u64 0, .int .u64 0, .int .u64 0, .int .u64 0]) (show opD oR24w2_0 0 = some (some 2, .alloc 58, 0, none) from by kernel_rfl) (by kernel_rfl) (by kernel_rfl) (fun w_2 b_1 eq_4 e_3 sz_5 hb_6 => ⟨?_, ?_⟩)
  · exact trivial
  refine wk_nil ?_
  refine thn_n ?_
  refine g_seq (x := oN24w2_3) (y := oN24w2_4) (by kernel_rfl) ?_
  refine g_region (ops := oR24w2_1) (id := 1) (by kernel_rfl) [(0, .pure), (1, .pure), (2, .pure), (3, .loud), (4, .pure), (5, .pure), (6, .loud)] (by kernel_rfl) (by kernel_rfl) ?_
  refine wk_pure (show opD oR24w2_1 0 = some (some 3, .move (.tmp 0), 2, none) from by kernel_rfl) (by kernel_rfl) (.int .i64 n) (fun _ => y_move (by kernel_rfl)) ?_
  refine wk_pure (show opD oR24w2_1 1 = some (some 4, .binOp .lss 2 (.tmp 3) (.const (.int .i64 0)) 2, 4, none) from by kernel_rfl) (by kernel_rfl) (.bool false) (fun _ => y_lss (k := .i64) (a := n) (b := 0) (by kernel_rfl) (by kernel_rfl) (decide_eq_false (by omega))) ?_
  refine wk_pure (show opD oR24w2_1 2 = some (some 5, .move (.tmp 0), 2, none) from by kernel_rfl) (by kernel_rfl) (.int .i64 n) (fun _ => y_move (by kernel_rfl)) ?_
  refine wk_call (show opD oR24w2_1 3 = some (some 6, .call ⟨.value (.func 29), #[.tmp 5], #[2]⟩, 31, none) from by kernel_rfl) (by kernel_rfl) 29 #[.int .i64 n] (x_call Try.func29 (by kernel_rfl) (c := (Try.f29.body).getD .skip) (by kernel_rfl) (by kernel_rfl) (by kernel_rfl)) (size_pos (n := n) (by omega) ⟨?_, ?_⟩)
  · exact trivial
  refine wk_pure (show opD oR24w2_1 4 = some (some 7, .build 56 #[(0, .tmp 6)], 56, none) from by kernel_rfl) (by kernel_rfl) (.agg #[.int .u64 n, .int .u64 0, .int .u64 0, .int .u64 0]) (fun _ => x_build (by kernel_rfl)) ?_
  refine wk_pure (show opD oR24w2_1 5 = some (some 8, .build 58 #[(0, .tmp 4), (1, .tmp 7)], 58, none) from by kernel_rfl) (by kernel_rfl) (.agg #[.bool false, .int .u64 n, .int .u64 0, .int .u64 0, .int .u64 0]) (fun _ => x_build (by kernel_rfl)) ?_
  refine wk_store (b := b_1) (off := 0) (cs' := #[.bool false, .int .u64 n, .int .u64 0, .int .u64 0, .int .u64 0]) (vs := #[.bool false, .int .u64 n, .int .u64 0, .int .u64 0, .int .u64 0]) (show opD oR24w2_1 6 = some (none, .store 58 (.tmp 2) (.tmp 8), 0, none) from by kernel_rfl) (by kernel_rfl) (by kernel_rfl) (by kernel_rfl) (by kernel_rfl) (by kernel_rfl) hb_6 (Nat.le_of_ble_eq_true rfl) (by kernel_rfl) (by kernel_rfl) (fun w_7 e_8 sz_9 hb_10 => ⟨?_, ?_⟩)
  · exact trivial
  refine wk_nil ?_
  refine thn_n ?_
  refine g_ret (by kernel_rfl) ?_
  refine endsR (v := .agg #[.bool false, .int .u64 n, .int .u64 0, .int .u64 0, .int .u64 0]) (runRL (vs := [.agg #[.bool false, .int .u64 n, .int .u64 0, .int .u64 0, .int .u64 0]]) (rs := [.cell 2 58]) rfl (RL.cons (.agg (n := 5) (off := 0) (by kernel_rfl) (by kernel_rfl) hb_10 (Nat.le_of_ble_eq_true rfl) (by kernel_rfl)) RL.nil) rfl) ?_
  exact hK _ (Ext.then (Ext.then (Ext.refl [] _) e_3 (fun _ h_ => absurd h_ List.not_mem_nil)) e_8 (by intro x_ hx_ hl_; simp only [List.mem_cons, List.not_mem_nil, or_false] at hx_ ⊢; omega)) (by omega)

noncomputable def oN18w3_0 : Code := (Try.f18.body).getD .skip
noncomputable def oN18w3_1 : Code := s1 oN18w3_0
noncomputable def oN18w3_2 : Code := s2 oN18w3_0
noncomputable def oR18w3_0 : Array Oper := rops oN18w3_1
noncomputable def oN18w3_3 : Code := s1 oN18w3_2
noncomputable def oN18w3_4 : Code := s2 oN18w3_2
noncomputable def oR18w3_1 : Array Oper := rops oN18w3_3
noncomputable def oN18w3_5 : Code := s1 oN18w3_4
noncomputable def oN18w3_6 : Code := s2 oN18w3_4
noncomputable def oN18w3_7 : Code := s1 oN18w3_5
noncomputable def oN18w3_8 : Code := s2 oN18w3_5
noncomputable def oR18w3_2 : Array Oper := rops oN18w3_7
noncomputable def oN18w3_9 : Code := s1 oN18w3_8
noncomputable def oN18w3_10 : Code := s2 oN18w3_8
noncomputable def oN18w3_11 : Code := s1 oN18w3_6
noncomputable def oN18w3_12 : Code := s2 oN18w3_6
noncomputable def oR18w3_7 : Array Oper := rops oN18w3_11
theorem wide_pos {m0 m1 m2 m3 : Int} {w : World} (h : 0 ≤ m1 ∧ m1 ≤ 9223372036854775807) {K : Value → World → Prop} (hK : ∀ w', Ext [] w w' → w'.heap.size = w.heap.size + 2 → K (.agg #[.int .i64 m1, .int .u64 m0]) w') : CallsV Try.prog 18 #[.agg #[.bool false, .int .u64 m0, .int .u64 m1, .int .u64 m2, .int .u64 m3]] w K := by
  refine callsV_of (c := oN18w3_0) Try.func18 (by kernel_rfl) (n := 26) (by kernel_rfl) ?_
  refine g_seq (x := oN18w3_1) (y := oN18w3_2) (by kernel_rfl) ?_
  refine g_region (ops := oR18w3_0) (id := 0) (by kernel_rfl) [(0, .loud), (1, .loud)] (by kernel_rfl) (by kernel_rfl) ?_
  refine wk_box (cs := #[.bool false, .int .u64 m0, .int .u64 m1, .int .u64 m2, .int .u64 m3]) (show opD oR18w3_0 0 = some (some 1, .box 58 (.tmp 0), 0, none) from by kernel_rfl) (by kernel_rfl) (by kernel_rfl) (fun w_2 b_1 eq_4 e_3 sz_5 hb_6 => ⟨?_, ?_⟩)
  · exact trivial
  refine wk_alloc (z := #[.int .i64 0, .int .u64 0]) (show opD oR18w3_0 1 = some (some 2, .alloc 33, 0, none) from by kernel_rfl) (by kernel_rfl) (by kernel_rfl) (fun w_8 b_7 eq_10 e_9 sz_11 hb_12 => ⟨?_, ?_⟩)
  · exact trivial
  refine wk_nil ?_
  refine thn_n ?_
  refine g_seq (x := oN18w3_3) (y := oN18w3_4) (by kernel_rfl) ?_
  refine g_draw (ops := oR18w3_1) (id := 1) (by kernel_rfl) (fun _ _ => True) [(0, .pure), (1, .pure), (3, .pure), (4, .pure), (2, .read), (6, .pure), (5, .read), (7, .pure)] (by kernel_rfl) (by kernel_rfl) (fun _ => trivial) (fun w_13 sm_14 => ?_)
  have hsz_15 : w_13.heap.size = w_8.heap.size := by rw [sm_14.heap]
  refine wk_pure (show opD oR18w3_1 0 = some (some 5, .fieldAddr 58 (.tmp 1) 1, 0, none) from by kernel_rfl) (by kernel_rfl) (.pointer (some ⟨b_1, 1, none⟩)) (fun _ => x_fieldAddr (b := b_1) (off := 0) (o := 1) (by kernel_rfl) (by kernel_rfl)) ?_
  refine wk_pure (show opD oR18w3_1 1 = some (some 6, .indexAddr 56 (.tmp 5) (.const (.int .i64 0)), 0, none) from by kernel_rfl) (by kernel_rfl) (.pointer (some ⟨b_1, 1, none⟩)) (fun _ => x_indexArr (b := b_1) (off := 1) (k := .i64) (i := 0) (e := 31) (len := 4) (sz := 1) (by kernel_rfl) (by kernel_rfl) (by kernel_rfl) (by decide)) ?_
  refine wk_pure (show opD oR18w3_1 3 = some (some 8, .fieldAddr 58 (.tmp 1) 1, 0, none) from by kernel_rfl) (by kernel_rfl) (.pointer (some ⟨b_1, 1, none⟩)) (fun _ => x_fieldAddr (b := b_1) (off := 0) (o := 1) (by kernel_rfl) (by kernel_rfl)) ?_
  refine wk_pure (show opD oR18w3_1 4 = some (some 9, .indexAddr 56 (.tmp 8) (.const (.int .i64 1)), 0, none) from by kernel_rfl) (by kernel_rfl) (.pointer (some ⟨b_1, 2, none⟩)) (fun _ => x_indexArr (b := b_1) (off := 1) (k := .i64) (i := 1) (e := 31) (len := 4) (sz := 1) (by kernel_rfl) (by kernel_rfl) (by kernel_rfl) (by decide)) ?_
  have hb_16 : w_13.heap[b_1]? = some (.cells #[.bool false, .int .u64 m0, .int .u64 m1, .int .u64 m2, .int .u64 m3] 58 (0, 0)) := (sm_14.keep (e_9.keep hb_6 List.not_mem_nil))
  refine wk_read (show opD oR18w3_1 2 = some (some 7, .load 31 (.tmp 6), 31, none) from by kernel_rfl) (by kernel_rfl) (.int .u64 m0) (fun w'_ g_ => x_load (b := b_1) (off := 1) (by kernel_rfl) (by kernel_rfl) (g_.keep hb_16) (by kernel_rfl)) ?_
  refine wk_pure (show opD oR18w3_1 6 = some (some 3, .assign (.tmp 7), 31, none) from by kernel_rfl) (by kernel_rfl) (.int .u64 m0) (fun _ => y_assign (by kernel_rfl)) ?_
  refine wk_read (show opD oR18w3_1 5 = some (some 10, .load 31 (.tmp 9), 31, none) from by kernel_rfl) (by kernel_rfl) (.int .u64 m1) (fun w'_ g_ => x_load (b := b_1) (off := 2) (by kernel_rfl) (by kernel_rfl) (g_.keep hb_16) (by kernel_rfl)) ?_
  refine wk_pure (show opD oR18w3_1 7 = some (some 4, .assign (.tmp 10), 31, none) from by kernel_rfl) (by kernel_rfl) (.int .u64 m1) (fun _ => y_assign (by kernel_rfl)) ?_
  refine wk_nil ?_
  refine thn_n ?_
  refine g_seq (x := oN18w3_5) (y := oN18w3_6) (by kernel_rfl) ?_
  refine g_seq (x := oN18w3_7) (y := oN18w3_8) (by kernel_rfl) ?_
  refine g_region (ops := oR18w3_2) (id := 2) (by kernel_rfl) [(0, .pure), (1, .loud)] (by kernel_rfl) (by kernel_rfl) ?_
  refine wk_pure (show opD oR18w3_2 0 = some (some 11, .fieldAddr 58 (.tmp 1) 0, 0, none) from by kernel_rfl) (by kernel_rfl) (.pointer (some ⟨b_1, 0, none⟩)) (fun _ => x_fieldAddr (b := b_1) (off := 0) (o := 0) (by kernel_rfl) (by kernel_rfl)) ?_
  refine wk_val (show opD oR18w3_2 1 = some (some 12, .load 4 (.tmp 11), 4, none) from by kernel_rfl) (by kernel_rfl) (.bool false) (x_load (b := b_1) (off := 0) (by kernel_rfl) (by kernel_rfl) hb_16 (by kernel_rfl)) trivial ?_
  refine wk_nil ?_
  refine thn_n ?_
  refine g_cond_f (o := .tmp 12) (x := oN18w3_9) (y := oN18w3_10) (by kernel_rfl) (by kernel_rfl) ?_
  refine g_skip (by kernel_rfl) ?_
  refine thn_n ?_
  refine g_seq (x := oN18w3_11) (y := oN18w3_12) (by kernel_rfl) ?_
  refine g_region (ops := oR18w3_7) (id := 7) (by kernel_rfl) [(0, .pure), (1, .pure), (2, .pure), (3, .pure), (4, .loud)] (by kernel_rfl) (by kernel_rfl) ?_
  refine wk_pure (show opD oR18w3_7 0 = some (some 22, .move (.tmp 4), 31, none) from by kernel_rfl) (by kernel_rfl) (.int .u64 m1) (fun _ => y_move (by kernel_rfl)) ?_
  refine wk_pure (show opD oR18w3_7 1 = some (some 23, .convert 31 2 (.tmp 22), 2, none) from by kernel_rfl) (by kernel_rfl) (.int .i64 m1) (fun _ => y_conv (q := .u64) (a := m1) (by kernel_rfl) (by kernel_rfl) (by kernel_rfl) (i64_id (by omega))) ?_
  refine wk_pure (show opD oR18w3_7 2 = some (some 24, .move (.tmp 3), 31, none) from by kernel_rfl) (by kernel_rfl) (.int .u64 m0) (fun _ => y_move (by kernel_rfl)) ?_
  refine wk_pure (show opD oR18w3_7 3 = some (some 25, .build 33 #[(0, .tmp 23), (1, .tmp 24)], 33, none) from by kernel_rfl) (by kernel_rfl) (.agg #[.int .i64 m1, .int .u64 m0]) (fun _ => x_build (by kernel_rfl)) ?_
  have hb_17 : w_13.heap[b_7]? = some (.cells #[.int .i64 0, .int .u64 0] 33 (0, 0)) := (sm_14.keep hb_12)
  refine wk_store (b := b_7) (off := 0) (cs' := #[.int .i64 m1, .int .u64 m0]) (vs := #[.int .i64 m1, .int .u64 m0]) (show opD oR18w3_7 4 = some (none, .store 33 (.tmp 2) (.tmp 25), 0, none) from by kernel_rfl) (by kernel_rfl) (by kernel_rfl) (by kernel_rfl) (by kernel_rfl) (by kernel_rfl) hb_17 (Nat.le_of_ble_eq_true rfl) (by kernel_rfl) (by kernel_rfl) (fun w_18 e_19 sz_20 hb_21 => ⟨?_, ?_⟩)
  · exact trivial
  refine wk_nil ?_
  refine thn_n ?_
  refine g_ret (by kernel_rfl) ?_
  refine endsR (v := .agg #[.int .i64 m1, .int .u64 m0]) (runRL (vs := [.agg #[.int .i64 m1, .int .u64 m0]]) (rs := [.cell 2 33]) rfl (RL.cons (.agg (n := 2) (off := 0) (by kernel_rfl) (by kernel_rfl) hb_21 (Nat.le_of_ble_eq_true rfl) (by kernel_rfl)) RL.nil) rfl) ?_
  exact hK _ (Ext.then (Ext.then (Ext.then (Ext.then (Ext.refl [] _) e_3 (fun _ h_ => absurd h_ List.not_mem_nil)) e_9 (fun _ h_ => absurd h_ List.not_mem_nil)) (sm_14.ext []) (fun _ h_ => absurd h_ List.not_mem_nil)) e_19 (by intro x_ hx_ hl_; simp only [List.mem_cons, List.not_mem_nil, or_false] at hx_ ⊢; omega)) (by omega)

theorem one_hi {n : Int} (h : 0 ≤ n ∧ n ≤ 9223372036854775807) : hiOf n = 0 := by unfold hiOf; omega
theorem one_lo {n : Int} (h : 0 ≤ n ∧ n ≤ 9223372036854775807) : loOf n = n := by unfold loOf; omega
noncomputable def oN14w4_0 : Code := (Try.f14.body).getD .skip
noncomputable def oN14w4_1 : Code := s1 oN14w4_0
noncomputable def oN14w4_2 : Code := s2 oN14w4_0
noncomputable def oR14w4_0 : Array Oper := rops oN14w4_1
noncomputable def oN14w4_3 : Code := s1 oN14w4_2
noncomputable def oN14w4_4 : Code := s2 oN14w4_2
noncomputable def oR14w4_1 : Array Oper := rops oN14w4_3
theorem one_c {n : Int} {w : World} (h : 0 ≤ n ∧ n ≤ 9223372036854775807) {K : Value → World → Prop} (hK : ∀ w' g, Ext [] w w' → OwnE w' 33 2 g 1 encW [n] [] → w.heap.size ≤ g → g < w'.heap.size → K (.slice (some ⟨g, 0, none⟩) [n].length 1) w') : CallsV Try.prog 14 #[.int .i64 n] w K := by
  refine callsV_of (c := oN14w4_0) Try.func14 (by kernel_rfl) (n := 7) (by kernel_rfl) ?_
  refine g_seq (x := oN14w4_1) (y := oN14w4_2) (by kernel_rfl) ?_
  refine g_region (ops := oR14w4_0) (id := 0) (by kernel_rfl) [(0, .pure)] (by kernel_rfl) (by kernel_rfl) ?_
  refine wk_pure (show opD oR14w4_0 0 = some (some 2, .assign (.const (.slice none 0 0)), 25, none) from by kernel_rfl) (by kernel_rfl) (.slice none 0 0) (fun _ => y_assign (by kernel_rfl)) ?_
  refine wk_nil ?_
  refine thn_n ?_
  refine g_seq (x := oN14w4_3) (y := oN14w4_4) (by kernel_rfl) ?_
  refine g_region (ops := oR14w4_1) (id := 1) (by kernel_rfl) [(0, .pure), (1, .loud), (2, .loud), (3, .loud), (4, .pure)] (by kernel_rfl) (by kernel_rfl) ?_
  refine wk_pure (show opD oR14w4_1 0 = some (some 3, .move (.tmp 0), 2, none) from by kernel_rfl) (by kernel_rfl) (.int .i64 n) (fun _ => y_move (by kernel_rfl)) ?_
  refine wk_call (show opD oR14w4_1 1 = some (some 4, .call ⟨.value (.func 24), #[.tmp 3], #[2]⟩, 58, none) from by kernel_rfl) (by kernel_rfl) 24 #[.int .i64 n] (x_call Try.func24 (by kernel_rfl) (c := (Try.f24.body).getD .skip) (by kernel_rfl) (by kernel_rfl) (by kernel_rfl)) (from_pos (n := n) (by omega) (fun w_1 e_2 sz_3 => ⟨?_, ?_⟩))
  · exact trivial
  have hsz_4 : w.heap.size ≤ w_1.heap.size := e_2.size
  refine wk_call (show opD oR14w4_1 2 = some (some 5, .call ⟨.value (.func 18), #[.tmp 4], #[58]⟩, 33, none) from by kernel_rfl) (by kernel_rfl) 18 #[.agg #[.bool false, .int .u64 n, .int .u64 0, .int .u64 0, .int .u64 0]] (x_call Try.func18 (by kernel_rfl) (c := (Try.f18.body).getD .skip) (by kernel_rfl) (by kernel_rfl) (by kernel_rfl)) (wide_pos (by omega) (fun w_5 e_6 sz_7 => ⟨?_, ?_⟩))
  · exact trivial
  have hsz_8 : w_1.heap.size ≤ w_5.heap.size := e_6.size
  refine wk_buildSlice (e := 33) (cs := #[.int .i64 0, .int .u64 n]) (show opD oR14w4_1 3 = some (some 6, .buildSlice 25 1 #[(0, .tmp 5)], 25, none) from by kernel_rfl) (by kernel_rfl) (by kernel_rfl) (fun w_9 b_10 eq_11 e_12 sz_13 hb_14 => ⟨?_, ?_⟩)
  · exact trivial
  refine wk_pure (show opD oR14w4_1 4 = some (some 2, .assign (.tmp 6), 25, none) from by kernel_rfl) (by kernel_rfl) (.slice (some ⟨b_10, 0, none⟩) 1 1) (fun _ => y_assign (by kernel_rfl)) ?_
  refine wk_nil ?_
  refine thn_n ?_
  refine g_ret (by kernel_rfl) ?_
  refine ends1_r (v := .slice (some ⟨b_10, 0, none⟩) 1 1) rfl (by kernel_rfl) ?_
  exact hK _ _ (Ext.then (Ext.then (Ext.then (Ext.refl [] _) e_2 (fun _ h_ => absurd h_ List.not_mem_nil)) e_6 (fun _ h_ => absurd h_ List.not_mem_nil)) e_12 (fun _ h_ => absurd h_ List.not_mem_nil)) (OwnE.of_cells hb_14 encW_len (by simp only [flat, List.flatMap_cons, List.flatMap_nil, encW, one_hi h, one_lo h]; rfl) (by simp [maxLen])) (by omega) (by omega)

end Go.Proofs.Ytjdlgidacnphpaa
