/-
  A part of the proofs over the program's package ring: contracts of its functions, step by step.
-/
import Derived.Test.YtjdlgidacnphpaaRD
set_option linter.unusedSimpArgs false
set_option linter.unusedVariables false
namespace Go.Proofs.Ytjdlgidacnphpaa
open Go Go.Wk

def mixL (L W : List Int) (fr : Nat) (add : Bool) : Nat → List Int
  | 0 => L
  | k + 1 => (mixL L W fr add k).set (fr + k) (if add then wrap128 ((mixL L W fr add k).getD (fr + k) 0 + W.getD k 0) else W.getD k 0)
theorem mixL_t {L W : List Int} {fr k : Nat} {add : Bool} (h : add = true) : mixL L W fr add (k + 1) = (mixL L W fr add k).set (fr + k) (wrap128 ((mixL L W fr add k).getD (fr + k) 0 + W.getD k 0)) := by simp [mixL, h]
theorem mixL_f {L W : List Int} {fr k : Nat} {add : Bool} (h : add = false) : mixL L W fr add (k + 1) = (mixL L W fr add k).set (fr + k) (W.getD k 0) := by simp [mixL, h]
theorem mixL_len (L W : List Int) (fr : Nat) (add : Bool) (k : Nat) : (mixL L W fr add k).length = L.length := by
  induction k with
  | zero => rfl
  | succ k ih => simp [mixL, ih]
theorem inW_wrap (z : Int) : InW (wrap128 z) := by unfold InW wrap128; omega
theorem mixL_in {L W : List Int} {fr : Nat} {add : Bool} (hL : ∀ i, InW (L.getD i 0)) (hW : ∀ i, InW (W.getD i 0)) (k : Nat) : ∀ i, InW ((mixL L W fr add k).getD i 0) := by
  induction k with
  | zero => exact hL
  | succ k ih =>
    intro i
    simp only [mixL, List.getD_eq_getElem?_getD, List.getElem?_set]
    split
    · split
      · simp only [Option.getD_some]
        split
        · exact inW_wrap _
        · have := hW k; simpa using this
      · simp only [Option.getD_none]; unfold InW; omega
    · have := ih i; simpa using this

noncomputable def nN9w1_0 : Code := (Try.f9.body).getD .skip
noncomputable def nN9w1_1 : Code := s1 nN9w1_0
noncomputable def nN9w1_2 : Code := s2 nN9w1_0
noncomputable def nR9w1_0 : Array Oper := rops nN9w1_1
noncomputable def nN9w1_3 : Code := s1 nN9w1_2
noncomputable def nN9w1_4 : Code := s2 nN9w1_2
noncomputable def nN9w1_5 : Code := s1 nN9w1_3
noncomputable def nN9w1_6 : Code := s2 nN9w1_3
noncomputable def nR9w1_1 : Array Oper := rops nN9w1_5
noncomputable def nN9w1_7 : Code := s1 nN9w1_6
noncomputable def nN9w1_8 : Code := s2 nN9w1_6
noncomputable def nN9w1_9 : Code := s1 nN9w1_7
noncomputable def nN9w1_10 : Code := s2 nN9w1_7
noncomputable def nR9w1_2 : Array Oper := rops nN9w1_9
theorem out_told {r g ck place n : Nat} {L : List Int} {round : Nat} {taken : Bool} {la : Option Addr} {lc kc : Nat} {rest crest : List Value} {w : World} (hR : RingAt w r g ck place n L round true taken la lc kc rest crest)  {K : Value → World → Prop} (hK : ∀ w', Ext [] w w' → w'.heap.size ≤ w.heap.size + 1 → K (.tuple #[(.agg #[.int .i64 0, .int .i64 0, .slice none 0 0]), .bool false]) w') : CallsV Try.prog 9 #[.pointer (some ⟨r, 0, none⟩)] w K := by
  refine callsV_of (c := nN9w1_0) Try.func9 (by kernel_rfl) (n := 68) (by kernel_rfl) ?_
  have hr := hR.hr
  have hl := hR.hl
  have hcc := hR.hc
  have hgr := hR.nr
  have hkr := hR.kr
  have hkg := hR.kg
  have h1 := hR.h1
  have h2 := hR.h2
  have h3 := hR.h3
  have h4 := hR.h4
  have h5 := hR.h5
  have hi := hR.hi
  have hgl := hR.gl
  have hcl := chk_len L.length n n
  have hll := hl.le
  have hrl := lt_of_block hr
  have hkl := hcc.lt
  refine g_seq (x := nN9w1_1) (y := nN9w1_2) (by kernel_rfl) ?_
  refine g_region (ops := nR9w1_0) (id := 0) (by kernel_rfl) [(0, .loud), (1, .pure)] (by kernel_rfl) (by kernel_rfl) ?_
  refine wk_alloc (z := #[.int .i64 0, .int .i64 0, .slice none 0 0]) (show opD nR9w1_0 0 = some (some 2, .alloc 37, 0, none) from by kernel_rfl) (by kernel_rfl) (by kernel_rfl) (fun w_2 b_1 eq_4 e_3 sz_5 hb_6 => ⟨?_, ?_⟩)
  · exact trivial
  refine wk_pure (show opD nR9w1_0 1 = some (some 3, .assign (.const (.bool false)), 4, none) from by kernel_rfl) (by kernel_rfl) (.bool false) (fun _ => y_assign (by kernel_rfl)) ?_
  refine wk_nil ?_
  refine thn_n ?_
  refine g_seq (x := nN9w1_3) (y := nN9w1_4) (by kernel_rfl) ?_
  refine g_seq (x := nN9w1_5) (y := nN9w1_6) (by kernel_rfl) ?_
  refine g_region (ops := nR9w1_1) (id := 1) (by kernel_rfl) [(0, .pure), (1, .pure), (2, .pure), (3, .loud), (4, .pure), (5, .pure), (6, .loud), (7, .pure)] (by kernel_rfl) (by kernel_rfl) ?_
  refine wk_pure (show opD nR9w1_1 0 = some (some 8, .move (.tmp 0), 27, none) from by kernel_rfl) (by kernel_rfl) (.pointer (some ⟨r, 0, none⟩)) (fun _ => y_move (by kernel_rfl)) ?_
  refine wk_pure (show opD nR9w1_1 1 = some (some 9, .nilCheck (.tmp 8), 0, none) from by kernel_rfl) (by kernel_rfl) (.pointer (some ⟨r, 0, none⟩)) (fun _ => x_nilCheck (by kernel_rfl)) ?_
  refine wk_pure (show opD nR9w1_1 2 = some (some 10, .fieldAddr 54 (.tmp 9) 5, 0, none) from by kernel_rfl) (by kernel_rfl) (.pointer (some ⟨r, 5, none⟩)) (fun _ => x_fieldAddr (b := r) (off := 0) (o := 5) (by kernel_rfl) (by kernel_rfl)) ?_
  have hb_7 : w_2.heap[r]? = some (.cells #[.int .i64 ((place : Nat) : Int), .int .i64 ((n : Nat) : Int), .slice la L.length lc, .slice (some ⟨ck, 0, none⟩) ((chk L.length n n).length) kc, .int .i64 ((round : Nat) : Int), .bool true, .bool taken] 54 (0, 0)) := (e_3.keep hr List.not_mem_nil)
  refine wk_val (show opD nR9w1_1 3 = some (some 11, .load 4 (.tmp 10), 4, none) from by kernel_rfl) (by kernel_rfl) (.bool true) (x_load (b := r) (off := 5) (by kernel_rfl) (by kernel_rfl) hb_7 (by kernel_rfl)) trivial ?_
  refine wk_pure (show opD nR9w1_1 4 = some (some 12, .move (.tmp 11), 4, none) from by kernel_rfl) (by kernel_rfl) (.bool true) (fun _ => y_move (by kernel_rfl)) ?_
  refine wk_skip (show opD nR9w1_1 5 = some (some 13, .move (.tmp 0), 27, some (4, false)) from by kernel_rfl) (by kernel_rfl) ?_
  refine wk_skip (show opD nR9w1_1 6 = some (some 14, .call ⟨.value (.func 13), #[.tmp 13], #[27]⟩, 4, some (4, false)) from by kernel_rfl) (by kernel_rfl) ?_
  refine wk_pure (show opD nR9w1_1 7 = some (some 15, .pick (.tmp 12) (.const (.bool true)) (.tmp 14), 4, none) from by kernel_rfl) (by kernel_rfl) (.bool true) (fun _ => y_pick_t (by kernel_rfl) (by kernel_rfl)) ?_
  refine wk_nil ?_
  refine thn_n ?_
  refine g_cond_t (o := .tmp 15) (x := nN9w1_7) (y := nN9w1_8) (by kernel_rfl) (by kernel_rfl) ?_
  refine g_seq (x := nN9w1_9) (y := nN9w1_10) (by kernel_rfl) ?_
  refine g_region (ops := nR9w1_2) (id := 2) (by kernel_rfl) [(0, .pure), (1, .loud), (2, .pure)] (by kernel_rfl) (by kernel_rfl) ?_
  refine wk_pure (show opD nR9w1_2 0 = some (some 16, .build 37 #[], 37, none) from by kernel_rfl) (by kernel_rfl) (.agg #[.int .i64 0, .int .i64 0, .slice none 0 0]) (fun _ => x_build (by kernel_rfl)) ?_
  refine wk_store (b := b_1) (off := 0) (cs' := #[.int .i64 0, .int .i64 0, .slice none 0 0]) (vs := #[.int .i64 0, .int .i64 0, .slice none 0 0]) (show opD nR9w1_2 1 = some (none, .store 37 (.tmp 2) (.tmp 16), 0, none) from by kernel_rfl) (by kernel_rfl) (by kernel_rfl) (by kernel_rfl) (by kernel_rfl) (by kernel_rfl) hb_6 (Nat.le_of_ble_eq_true rfl) (by kernel_rfl) (by kernel_rfl) (fun w_8 e_9 sz_10 hb_11 => ⟨?_, ?_⟩)
  · exact trivial
  refine wk_pure (show opD nR9w1_2 2 = some (some 3, .assign (.const (.bool false)), 4, none) from by kernel_rfl) (by kernel_rfl) (.bool false) (fun _ => y_assign (by kernel_rfl)) ?_
  refine wk_nil ?_
  refine thn_n ?_
  refine g_ret (by kernel_rfl) ?_
  refine thn_r ?_
  refine endsR (v := .tuple #[.agg #[.int .i64 0, .int .i64 0, .slice none 0 0], .bool false]) (runRL (vs := [.agg #[.int .i64 0, .int .i64 0, .slice none 0 0], .bool false]) (rs := [.cell 2 37, .tmp 3]) rfl (RL.cons (.agg (n := 3) (off := 0) (by kernel_rfl) (by kernel_rfl) hb_11 (Nat.le_of_ble_eq_true rfl) (by kernel_rfl)) (RL.cons (.tmp (by kernel_rfl)) RL.nil)) rfl) ?_
  exact hK _ (Ext.then (Ext.then (Ext.refl [] _) e_3 (fun _ h_ => absurd h_ List.not_mem_nil)) e_9 (by intro x_ hx_ hl_; simp only [List.mem_cons, List.not_mem_nil, or_false] at hx_ ⊢; omega)) (by omega)

noncomputable def nN9w2_0 : Code := (Try.f9.body).getD .skip
noncomputable def nN9w2_1 : Code := s1 nN9w2_0
noncomputable def nN9w2_2 : Code := s2 nN9w2_0
noncomputable def nR9w2_0 : Array Oper := rops nN9w2_1
noncomputable def nN9w2_3 : Code := s1 nN9w2_2
noncomputable def nN9w2_4 : Code := s2 nN9w2_2
noncomputable def nN9w2_5 : Code := s1 nN9w2_3
noncomputable def nN9w2_6 : Code := s2 nN9w2_3
noncomputable def nR9w2_1 : Array Oper := rops nN9w2_5
noncomputable def nN9w2_7 : Code := s1 nN9w2_6
noncomputable def nN9w2_8 : Code := s2 nN9w2_6
noncomputable def nN9w2_9 : Code := s1 nN9w2_7
noncomputable def nN9w2_10 : Code := s2 nN9w2_7
noncomputable def nR9w2_2 : Array Oper := rops nN9w2_9
theorem out_done {r g ck place n : Nat} {L : List Int} {round : Nat} {taken : Bool} {la : Option Addr} {lc kc : Nat} {rest crest : List Value} {w : World} (hR : RingAt w r g ck place n L round false taken la lc kc rest crest) (hd : round = 2 * n - 2) {K : Value → World → Prop} (hK : ∀ w', Ext [] w w' → w'.heap.size ≤ w.heap.size + 1 → K (.tuple #[(.agg #[.int .i64 0, .int .i64 0, .slice none 0 0]), .bool false]) w') : CallsV Try.prog 9 #[.pointer (some ⟨r, 0, none⟩)] w K := by
  refine callsV_of (c := nN9w2_0) Try.func9 (by kernel_rfl) (n := 68) (by kernel_rfl) ?_
  have hr := hR.hr
  have hl := hR.hl
  have hcc := hR.hc
  have hgr := hR.nr
  have hkr := hR.kr
  have hkg := hR.kg
  have h1 := hR.h1
  have h2 := hR.h2
  have h3 := hR.h3
  have h4 := hR.h4
  have h5 := hR.h5
  have hi := hR.hi
  have hgl := hR.gl
  have hcl := chk_len L.length n n
  have hll := hl.le
  have hrl := lt_of_block hr
  have hkl := hcc.lt
  refine g_seq (x := nN9w2_1) (y := nN9w2_2) (by kernel_rfl) ?_
  refine g_region (ops := nR9w2_0) (id := 0) (by kernel_rfl) [(0, .loud), (1, .pure)] (by kernel_rfl) (by kernel_rfl) ?_
  refine wk_alloc (z := #[.int .i64 0, .int .i64 0, .slice none 0 0]) (show opD nR9w2_0 0 = some (some 2, .alloc 37, 0, none) from by kernel_rfl) (by kernel_rfl) (by kernel_rfl) (fun w_2 b_1 eq_4 e_3 sz_5 hb_6 => ⟨?_, ?_⟩)
  · exact trivial
  refine wk_pure (show opD nR9w2_0 1 = some (some 3, .assign (.const (.bool false)), 4, none) from by kernel_rfl) (by kernel_rfl) (.bool false) (fun _ => y_assign (by kernel_rfl)) ?_
  refine wk_nil ?_
  refine thn_n ?_
  refine g_seq (x := nN9w2_3) (y := nN9w2_4) (by kernel_rfl) ?_
  refine g_seq (x := nN9w2_5) (y := nN9w2_6) (by kernel_rfl) ?_
  refine g_region (ops := nR9w2_1) (id := 1) (by kernel_rfl) [(0, .pure), (1, .pure), (2, .pure), (3, .loud), (4, .pure), (5, .pure), (6, .loud), (7, .pure)] (by kernel_rfl) (by kernel_rfl) ?_
  refine wk_pure (show opD nR9w2_1 0 = some (some 8, .move (.tmp 0), 27, none) from by kernel_rfl) (by kernel_rfl) (.pointer (some ⟨r, 0, none⟩)) (fun _ => y_move (by kernel_rfl)) ?_
  refine wk_pure (show opD nR9w2_1 1 = some (some 9, .nilCheck (.tmp 8), 0, none) from by kernel_rfl) (by kernel_rfl) (.pointer (some ⟨r, 0, none⟩)) (fun _ => x_nilCheck (by kernel_rfl)) ?_
  refine wk_pure (show opD nR9w2_1 2 = some (some 10, .fieldAddr 54 (.tmp 9) 5, 0, none) from by kernel_rfl) (by kernel_rfl) (.pointer (some ⟨r, 5, none⟩)) (fun _ => x_fieldAddr (b := r) (off := 0) (o := 5) (by kernel_rfl) (by kernel_rfl)) ?_
  have hb_7 : w_2.heap[r]? = some (.cells #[.int .i64 ((place : Nat) : Int), .int .i64 ((n : Nat) : Int), .slice la L.length lc, .slice (some ⟨ck, 0, none⟩) ((chk L.length n n).length) kc, .int .i64 ((round : Nat) : Int), .bool false, .bool taken] 54 (0, 0)) := (e_3.keep hr List.not_mem_nil)
  refine wk_val (show opD nR9w2_1 3 = some (some 11, .load 4 (.tmp 10), 4, none) from by kernel_rfl) (by kernel_rfl) (.bool false) (x_load (b := r) (off := 5) (by kernel_rfl) (by kernel_rfl) hb_7 (by kernel_rfl)) trivial ?_
  refine wk_pure (show opD nR9w2_1 4 = some (some 12, .move (.tmp 11), 4, none) from by kernel_rfl) (by kernel_rfl) (.bool false) (fun _ => y_move (by kernel_rfl)) ?_
  refine wk_pure (show opD nR9w2_1 5 = some (some 13, .move (.tmp 0), 27, some (4, false)) from by kernel_rfl) (by kernel_rfl) (.pointer (some ⟨r, 0, none⟩)) (fun _ => y_move (by kernel_rfl)) ?_
  refine wk_call (show opD nR9w2_1 6 = some (some 14, .call ⟨.value (.func 13), #[.tmp 13], #[27]⟩, 4, some (4, false)) from by kernel_rfl) (by kernel_rfl) 13 #[.pointer (some ⟨r, 0, none⟩)] (x_call Try.func13 (by kernel_rfl) (c := (Try.f13.body).getD .skip) (by kernel_rfl) (by kernel_rfl) (by kernel_rfl)) (done_d hb_7 (by omega) (decide_eq_true (by omega)) (fun w_8 s_9 => ⟨?_, ?_⟩))
  · exact trivial
  have hsz_10 : w_8.heap.size = w_2.heap.size := by rw [s_9.heap]
  refine wk_pure (show opD nR9w2_1 7 = some (some 15, .pick (.tmp 12) (.const (.bool true)) (.tmp 14), 4, none) from by kernel_rfl) (by kernel_rfl) (.bool true) (fun _ => y_pick_f (by kernel_rfl) (by kernel_rfl)) ?_
  refine wk_nil ?_
  refine thn_n ?_
  refine g_cond_t (o := .tmp 15) (x := nN9w2_7) (y := nN9w2_8) (by kernel_rfl) (by kernel_rfl) ?_
  refine g_seq (x := nN9w2_9) (y := nN9w2_10) (by kernel_rfl) ?_
  refine g_region (ops := nR9w2_2) (id := 2) (by kernel_rfl) [(0, .pure), (1, .loud), (2, .pure)] (by kernel_rfl) (by kernel_rfl) ?_
  refine wk_pure (show opD nR9w2_2 0 = some (some 16, .build 37 #[], 37, none) from by kernel_rfl) (by kernel_rfl) (.agg #[.int .i64 0, .int .i64 0, .slice none 0 0]) (fun _ => x_build (by kernel_rfl)) ?_
  have hb_11 : w_8.heap[b_1]? = some (.cells #[.int .i64 0, .int .i64 0, .slice none 0 0] 37 (0, 0)) := (s_9.keep hb_6)
  refine wk_store (b := b_1) (off := 0) (cs' := #[.int .i64 0, .int .i64 0, .slice none 0 0]) (vs := #[.int .i64 0, .int .i64 0, .slice none 0 0]) (show opD nR9w2_2 1 = some (none, .store 37 (.tmp 2) (.tmp 16), 0, none) from by kernel_rfl) (by kernel_rfl) (by kernel_rfl) (by kernel_rfl) (by kernel_rfl) (by kernel_rfl) hb_11 (Nat.le_of_ble_eq_true rfl) (by kernel_rfl) (by kernel_rfl) (fun w_12 e_13 sz_14 hb_15 => ⟨?_, ?_⟩)
  · exact trivial
  refine wk_pure (show opD nR9w2_2 2 = some (some 3, .assign (.const (.bool false)), 4, none) from by kernel_rfl) (by kernel_rfl) (.bool false) (fun _ => y_assign (by kernel_rfl)) ?_
  refine wk_nil ?_
  refine thn_n ?_
  refine g_ret (by kernel_rfl) ?_
  refine thn_r ?_
  refine endsR (v := .tuple #[.agg #[.int .i64 0, .int .i64 0, .slice none 0 0], .bool false]) (runRL (vs := [.agg #[.int .i64 0, .int .i64 0, .slice none 0 0], .bool false]) (rs := [.cell 2 37, .tmp 3]) rfl (RL.cons (.agg (n := 3) (off := 0) (by kernel_rfl) (by kernel_rfl) hb_15 (Nat.le_of_ble_eq_true rfl) (by kernel_rfl)) (RL.cons (.tmp (by kernel_rfl)) RL.nil)) rfl) ?_
  exact hK _ (Ext.then (Ext.then (Ext.then (Ext.refl [] _) e_3 (fun _ h_ => absurd h_ List.not_mem_nil)) (s_9.ext []) (fun _ h_ => absurd h_ List.not_mem_nil)) e_13 (by intro x_ hx_ hl_; simp only [List.mem_cons, List.not_mem_nil, or_false] at hx_ ⊢; omega)) (by omega)

theorem ringAt_next {w : World} {r g ck place n : Nat} {L : List Int} {round : Nat} {told taken : Bool} {la : Option Addr} {lc kc : Nat} {rest crest : List Value} (hr : w.heap[r]? = some (.cells #[.int .i64 ((place : Nat) : Int), .int .i64 ((n : Nat) : Int), .slice la L.length lc, .slice (some ⟨ck, 0, none⟩) ((chk L.length n n).length) kc, .int .i64 (if told && taken then ((round : Nat) : Int) + 1 else ((round : Nat) : Int)), .bool (told && !taken), .bool (taken && !told)] 54 (0, 0)))
    (hl : OwO w 33 2 la g lc encW L rest) (hc : OwnE w 63 2 ck kc encP (chk L.length n n) crest) (nr : L.length = 0 ∨ g ≠ r) (kr : ck ≠ r) (kg : L.length = 0 ∨ ck ≠ g) (h1 : 1 ≤ n) (h2 : n ≤ 16) (h3 : place < n) (h4 : L.length ≤ 400) (h5 : round + 1 ≤ 2 * n - 2) (hi : ∀ i, InW (L.getD i 0)) (gl : g < w.heap.size) :
    RingAt w r g ck place n L (if told && taken then round + 1 else round) (told && !taken) (taken && !told) la lc kc rest crest :=
  ⟨by rw [hr]; congr 5; cases told <;> cases taken <;> rfl, hl, hc, nr, kr, kg, h1, h2, h3, h4, by split <;> omega, hi, gl⟩

noncomputable def nN9w3_0 : Code := (Try.f9.body).getD .skip
noncomputable def nN9w3_1 : Code := s1 nN9w3_0
noncomputable def nN9w3_2 : Code := s2 nN9w3_0
noncomputable def nR9w3_0 : Array Oper := rops nN9w3_1
noncomputable def nN9w3_3 : Code := s1 nN9w3_2
noncomputable def nN9w3_4 : Code := s2 nN9w3_2
noncomputable def nN9w3_5 : Code := s1 nN9w3_3
noncomputable def nN9w3_6 : Code := s2 nN9w3_3
noncomputable def nR9w3_1 : Array Oper := rops nN9w3_5
noncomputable def nN9w3_7 : Code := s1 nN9w3_6
noncomputable def nN9w3_8 : Code := s2 nN9w3_6
noncomputable def nN9w3_9 : Code := s1 nN9w3_4
noncomputable def nN9w3_10 : Code := s2 nN9w3_4
noncomputable def nR9w3_3 : Array Oper := rops nN9w3_9
noncomputable def nN9w3_11 : Code := s1 nN9w3_10
noncomputable def nN9w3_12 : Code := s2 nN9w3_10
noncomputable def nR9w3_4 : Array Oper := rops nN9w3_11
noncomputable def nN9w3_13 : Code := s1 nN9w3_12
noncomputable def nN9w3_14 : Code := s2 nN9w3_12
noncomputable def nR9w3_5 : Array Oper := rops nN9w3_13
noncomputable def nN9w3_15 : Code := s1 nN9w3_14
noncomputable def nN9w3_16 : Code := s2 nN9w3_14
noncomputable def nR9w3_6 : Array Oper := rops nN9w3_15
noncomputable def nN9w3_17 : Code := s1 nN9w3_16
noncomputable def nN9w3_18 : Code := s2 nN9w3_16
noncomputable def nR9w3_7 : Array Oper := rops nN9w3_17
theorem out_yes {r g ck place n : Nat} {L : List Int} {round : Nat} {taken : Bool} {la : Option Addr} {lc kc : Nat} {rest crest : List Value} {w : World} (hR : RingAt w r g ck place n L round false taken la lc kc rest crest) (hd : round ≤ 2 * n - 3) (hn : 2 ≤ n) {K : Value → World → Prop} (hK : ∀ w' a' g' c' rest', Ext [r] w w' → RingAt w' r g ck place n L (if true && taken then round + 1 else round) (true && !taken) (taken && !true) la lc kc rest crest → OwO w' 33 2 a' g' c' encW ((L.drop (cFrom L.length n (sendsN place n round))).take (cTo L.length n (sendsN place n round) - cFrom L.length n (sendsN place n round))) rest' → (((L.drop (cFrom L.length n (sendsN place n round))).take (cTo L.length n (sendsN place n round) - cFrom L.length n (sendsN place n round))).length = 0 ∨ (w.heap.size ≤ g' ∧ g' < w'.heap.size)) → w'.heap.size ≤ w.heap.size + 4 → K (.tuple #[.agg #[.int .i64 ((round : Nat) : Int), .int .i64 ((sendsN place n round : Nat) : Int), .slice a' ((L.drop (cFrom L.length n (sendsN place n round))).take (cTo L.length n (sendsN place n round) - cFrom L.length n (sendsN place n round))).length c'], .bool true]) w') : CallsV Try.prog 9 #[.pointer (some ⟨r, 0, none⟩)] w K := by
  refine callsV_of (c := nN9w3_0) Try.func9 (by kernel_rfl) (n := 68) (by kernel_rfl) ?_
  have hr := hR.hr
  have hl := hR.hl
  have hcc := hR.hc
  have hgr := hR.nr
  have hkr := hR.kr
  have hkg := hR.kg
  have h1 := hR.h1
  have h2 := hR.h2
  have h3 := hR.h3
  have h4 := hR.h4
  have h5 := hR.h5
  have hi := hR.hi
  have hgl := hR.gl
  have hcl := chk_len L.length n n
  have hll := hl.le
  have hrl := lt_of_block hr
  have hkl := hcc.lt
  refine g_seq (x := nN9w3_1) (y := nN9w3_2) (by kernel_rfl) ?_
  refine g_region (ops := nR9w3_0) (id := 0) (by kernel_rfl) [(0, .loud), (1, .pure)] (by kernel_rfl) (by kernel_rfl) ?_
  refine wk_alloc (z := #[.int .i64 0, .int .i64 0, .slice none 0 0]) (show opD nR9w3_0 0 = some (some 2, .alloc 37, 0, none) from by kernel_rfl) (by kernel_rfl) (by kernel_rfl) (fun w_2 b_1 eq_4 e_3 sz_5 hb_6 => ⟨?_, ?_⟩)
  · exact trivial
  refine wk_pure (show opD nR9w3_0 1 = some (some 3, .assign (.const (.bool false)), 4, none) from by kernel_rfl) (by kernel_rfl) (.bool false) (fun _ => y_assign (by kernel_rfl)) ?_
  refine wk_nil ?_
  refine thn_n ?_
  refine g_seq (x := nN9w3_3) (y := nN9w3_4) (by kernel_rfl) ?_
  refine g_seq (x := nN9w3_5) (y := nN9w3_6) (by kernel_rfl) ?_
  refine g_region (ops := nR9w3_1) (id := 1) (by kernel_rfl) [(0, .pure), (1, .pure), (2, .pure), (3, .loud), (4, .pure), (5, .pure), (6, .loud), (7, .pure)] (by kernel_rfl) (by kernel_rfl) ?_
  refine wk_pure (show opD nR9w3_1 0 = some (some 8, .move (.tmp 0), 27, none) from by kernel_rfl) (by kernel_rfl) (.pointer (some ⟨r, 0, none⟩)) (fun _ => y_move (by kernel_rfl)) ?_
  refine wk_pure (show opD nR9w3_1 1 = some (some 9, .nilCheck (.tmp 8), 0, none) from by kernel_rfl) (by kernel_rfl) (.pointer (some ⟨r, 0, none⟩)) (fun _ => x_nilCheck (by kernel_rfl)) ?_
  refine wk_pure (show opD nR9w3_1 2 = some (some 10, .fieldAddr 54 (.tmp 9) 5, 0, none) from by kernel_rfl) (by kernel_rfl) (.pointer (some ⟨r, 5, none⟩)) (fun _ => x_fieldAddr (b := r) (off := 0) (o := 5) (by kernel_rfl) (by kernel_rfl)) ?_
  have hb_7 : w_2.heap[r]? = some (.cells #[.int .i64 ((place : Nat) : Int), .int .i64 ((n : Nat) : Int), .slice la L.length lc, .slice (some ⟨ck, 0, none⟩) ((chk L.length n n).length) kc, .int .i64 ((round : Nat) : Int), .bool false, .bool taken] 54 (0, 0)) := (e_3.keep hr List.not_mem_nil)
  refine wk_val (show opD nR9w3_1 3 = some (some 11, .load 4 (.tmp 10), 4, none) from by kernel_rfl) (by kernel_rfl) (.bool false) (x_load (b := r) (off := 5) (by kernel_rfl) (by kernel_rfl) hb_7 (by kernel_rfl)) trivial ?_
  refine wk_pure (show opD nR9w3_1 4 = some (some 12, .move (.tmp 11), 4, none) from by kernel_rfl) (by kernel_rfl) (.bool false) (fun _ => y_move (by kernel_rfl)) ?_
  refine wk_pure (show opD nR9w3_1 5 = some (some 13, .move (.tmp 0), 27, some (4, false)) from by kernel_rfl) (by kernel_rfl) (.pointer (some ⟨r, 0, none⟩)) (fun _ => y_move (by kernel_rfl)) ?_
  refine wk_call (show opD nR9w3_1 6 = some (some 14, .call ⟨.value (.func 13), #[.tmp 13], #[27]⟩, 4, some (4, false)) from by kernel_rfl) (by kernel_rfl) 13 #[.pointer (some ⟨r, 0, none⟩)] (x_call Try.func13 (by kernel_rfl) (c := (Try.f13.body).getD .skip) (by kernel_rfl) (by kernel_rfl) (by kernel_rfl)) (done_d hb_7 (by omega) (decide_eq_false (by omega)) (fun w_8 s_9 => ⟨?_, ?_⟩))
  · exact trivial
  have hsz_10 : w_8.heap.size = w_2.heap.size := by rw [s_9.heap]
  refine wk_pure (show opD nR9w3_1 7 = some (some 15, .pick (.tmp 12) (.const (.bool true)) (.tmp 14), 4, none) from by kernel_rfl) (by kernel_rfl) (.bool false) (fun _ => y_pick_f (by kernel_rfl) (by kernel_rfl)) ?_
  refine wk_nil ?_
  refine thn_n ?_
  refine g_cond_f (o := .tmp 15) (x := nN9w3_7) (y := nN9w3_8) (by kernel_rfl) (by kernel_rfl) ?_
  refine g_skip (by kernel_rfl) ?_
  refine thn_n ?_
  refine g_seq (x := nN9w3_9) (y := nN9w3_10) (by kernel_rfl) ?_
  refine g_draw (ops := nR9w3_3) (id := 3) (by kernel_rfl) (fun _ _ => True) [(0, .pure), (1, .pure), (2, .pure), (4, .pure), (5, .pure), (6, .pure), (8, .pure), (9, .pure), (10, .pure), (3, .read), (7, .read), (11, .read), (12, .loud), (13, .pure), (14, .pure), (15, .pure), (16, .pure), (17, .pure), (18, .pure), (19, .pure)] (by kernel_rfl) (by kernel_rfl) (fun _ => trivial) (fun w_11 sm_12 => ?_)
  have hsz_13 : w_11.heap.size = w_8.heap.size := by rw [sm_12.heap]
  refine wk_pure (show opD nR9w3_3 0 = some (some 18, .move (.tmp 0), 27, none) from by kernel_rfl) (by kernel_rfl) (.pointer (some ⟨r, 0, none⟩)) (fun _ => y_move (by kernel_rfl)) ?_
  refine wk_pure (show opD nR9w3_3 1 = some (some 19, .nilCheck (.tmp 18), 0, none) from by kernel_rfl) (by kernel_rfl) (.pointer (some ⟨r, 0, none⟩)) (fun _ => x_nilCheck (by kernel_rfl)) ?_
  refine wk_pure (show opD nR9w3_3 2 = some (some 20, .fieldAddr 54 (.tmp 19) 0, 0, none) from by kernel_rfl) (by kernel_rfl) (.pointer (some ⟨r, 0, none⟩)) (fun _ => x_fieldAddr (b := r) (off := 0) (o := 0) (by kernel_rfl) (by kernel_rfl)) ?_
  refine wk_pure (show opD nR9w3_3 4 = some (some 22, .move (.tmp 0), 27, none) from by kernel_rfl) (by kernel_rfl) (.pointer (some ⟨r, 0, none⟩)) (fun _ => y_move (by kernel_rfl)) ?_
  refine wk_pure (show opD nR9w3_3 5 = some (some 23, .nilCheck (.tmp 22), 0, none) from by kernel_rfl) (by kernel_rfl) (.pointer (some ⟨r, 0, none⟩)) (fun _ => x_nilCheck (by kernel_rfl)) ?_
  refine wk_pure (show opD nR9w3_3 6 = some (some 24, .fieldAddr 54 (.tmp 23) 1, 0, none) from by kernel_rfl) (by kernel_rfl) (.pointer (some ⟨r, 1, none⟩)) (fun _ => x_fieldAddr (b := r) (off := 0) (o := 1) (by kernel_rfl) (by kernel_rfl)) ?_
  refine wk_pure (show opD nR9w3_3 8 = some (some 26, .move (.tmp 0), 27, none) from by kernel_rfl) (by kernel_rfl) (.pointer (some ⟨r, 0, none⟩)) (fun _ => y_move (by kernel_rfl)) ?_
  refine wk_pure (show opD nR9w3_3 9 = some (some 27, .nilCheck (.tmp 26), 0, none) from by kernel_rfl) (by kernel_rfl) (.pointer (some ⟨r, 0, none⟩)) (fun _ => x_nilCheck (by kernel_rfl)) ?_
  refine wk_pure (show opD nR9w3_3 10 = some (some 28, .fieldAddr 54 (.tmp 27) 4, 0, none) from by kernel_rfl) (by kernel_rfl) (.pointer (some ⟨r, 4, none⟩)) (fun _ => x_fieldAddr (b := r) (off := 0) (o := 4) (by kernel_rfl) (by kernel_rfl)) ?_
  have hb_14 : w_11.heap[r]? = some (.cells #[.int .i64 ((place : Nat) : Int), .int .i64 ((n : Nat) : Int), .slice la L.length lc, .slice (some ⟨ck, 0, none⟩) ((chk L.length n n).length) kc, .int .i64 ((round : Nat) : Int), .bool false, .bool taken] 54 (0, 0)) := (sm_12.keep (s_9.keep hb_7))
  refine wk_read (show opD nR9w3_3 3 = some (some 21, .load 3 (.tmp 20), 3, none) from by kernel_rfl) (by kernel_rfl) (.int .i64 ((place : Nat) : Int)) (fun w'_ g_ => x_load (b := r) (off := 0) (by kernel_rfl) (by kernel_rfl) (g_.keep hb_14) (by kernel_rfl)) ?_
  refine wk_read (show opD nR9w3_3 7 = some (some 25, .load 3 (.tmp 24), 3, none) from by kernel_rfl) (by kernel_rfl) (.int .i64 ((n : Nat) : Int)) (fun w'_ g_ => x_load (b := r) (off := 1) (by kernel_rfl) (by kernel_rfl) (g_.keep hb_14) (by kernel_rfl)) ?_
  refine wk_read (show opD nR9w3_3 11 = some (some 29, .load 3 (.tmp 28), 3, none) from by kernel_rfl) (by kernel_rfl) (.int .i64 ((round : Nat) : Int)) (fun w'_ g_ => x_load (b := r) (off := 4) (by kernel_rfl) (by kernel_rfl) (g_.keep hb_14) (by kernel_rfl)) ?_
  refine wk_call (show opD nR9w3_3 12 = some (some 30, .call ⟨.value (.func 21), #[.tmp 21, .tmp 25, .tmp 29], #[3, 3, 3]⟩, 61, none) from by kernel_rfl) (by kernel_rfl) 21 #[.int .i64 ((place : Nat) : Int), .int .i64 ((n : Nat) : Int), .int .i64 ((round : Nat) : Int)] (x_call Try.func21 (by kernel_rfl) (c := (Try.f21.body).getD .skip) (by kernel_rfl) (by kernel_rfl) (by kernel_rfl)) (sends_n (place := place) (n := n) (round := round) (by omega) (by omega) (by omega) (by omega) ⟨?_, ?_⟩)
  · exact trivial
  have hsl := sendsN_lt (place := place) (n := n) (round := round) (by omega)
  have hcb := cBounds (len := L.length) hsl
  refine wk_pure (show opD nR9w3_3 13 = some (some 17, .move (.tmp 30), 61, none) from by kernel_rfl) (by kernel_rfl) (.tuple #[.int .i64 ((sendsN place n round : Nat) : Int), .bool (addsN n round), .int .i64 0]) (fun _ => y_move (by kernel_rfl)) ?_
  refine wk_pure (show opD nR9w3_3 14 = some (some 31, .extract (.tmp 17) 0, 3, none) from by kernel_rfl) (by kernel_rfl) (.int .i64 ((sendsN place n round : Nat) : Int)) (fun _ => x_extract (vs := #[.int .i64 ((sendsN place n round : Nat) : Int), .bool (addsN n round), .int .i64 0]) (by kernel_rfl) (by kernel_rfl)) ?_
  refine wk_pure (show opD nR9w3_3 15 = some (some 32, .extract (.tmp 17) 1, 4, none) from by kernel_rfl) (by kernel_rfl) (.bool (addsN n round)) (fun _ => x_extract (vs := #[.int .i64 ((sendsN place n round : Nat) : Int), .bool (addsN n round), .int .i64 0]) (by kernel_rfl) (by kernel_rfl)) ?_
  refine wk_pure (show opD nR9w3_3 16 = some (some 33, .extract (.tmp 17) 2, 28, none) from by kernel_rfl) (by kernel_rfl) (.int .i64 0) (fun _ => x_extract (vs := #[.int .i64 ((sendsN place n round : Nat) : Int), .bool (addsN n round), .int .i64 0]) (by kernel_rfl) (by kernel_rfl)) ?_
  refine wk_pure (show opD nR9w3_3 17 = some (some 4, .assign (.tmp 31), 3, none) from by kernel_rfl) (by kernel_rfl) (.int .i64 ((sendsN place n round : Nat) : Int)) (fun _ => y_assign (by kernel_rfl)) ?_
  refine wk_pure (show opD nR9w3_3 18 = some (some 5, .assign (.tmp 32), 4, none) from by kernel_rfl) (by kernel_rfl) (.bool (addsN n round)) (fun _ => y_assign (by kernel_rfl)) ?_
  refine wk_pure (show opD nR9w3_3 19 = some (some 6, .assign (.tmp 33), 28, none) from by kernel_rfl) (by kernel_rfl) (.int .i64 0) (fun _ => y_assign (by kernel_rfl)) ?_
  refine wk_nil ?_
  refine thn_n ?_
  refine g_seq (x := nN9w3_11) (y := nN9w3_12) (by kernel_rfl) ?_
  refine g_fork (ops := nR9w3_4) (id := 4) (by kernel_rfl) (fun w w' => Grown w w') (seqP [(0, .pure), (1, .pure), (2, .pure), (4, .pure), (5, .pure), (6, .pure), (7, .pure), (9, .pure), (10, .pure), (11, .pure), (13, .pure), (17, .pure), (18, .pure), (19, .pure), (21, .pure), (3, .stab), (8, .stab), (12, .stab), (14, .pure), (15, .pure), (16, .stab), (20, .stab), (22, .pure), (23, .pure), (24, .stab), (25, .pure)] (.two 26 28 (seqP [(27, .pure), (28, .loud), (29, .loud)] .nil) (seqP [(26, .loud), (27, .pure), (29, .loud)] .nil))) (by kernel_rfl) (by kernel_rfl) (fun _ => Grown.refl _) (fun w_15 sm_16 => wkP_seq ?_)
  have hsz_17 : w_15.heap.size = w_11.heap.size := by rw [sm_16.heap]
  refine wk_pure (show opD nR9w3_4 0 = some (some 34, .move (.tmp 0), 27, none) from by kernel_rfl) (by kernel_rfl) (.pointer (some ⟨r, 0, none⟩)) (fun _ => y_move (by kernel_rfl)) ?_
  refine wk_pure (show opD nR9w3_4 1 = some (some 35, .nilCheck (.tmp 34), 0, none) from by kernel_rfl) (by kernel_rfl) (.pointer (some ⟨r, 0, none⟩)) (fun _ => x_nilCheck (by kernel_rfl)) ?_
  refine wk_pure (show opD nR9w3_4 2 = some (some 36, .fieldAddr 54 (.tmp 35) 4, 0, none) from by kernel_rfl) (by kernel_rfl) (.pointer (some ⟨r, 4, none⟩)) (fun _ => x_fieldAddr (b := r) (off := 0) (o := 4) (by kernel_rfl) (by kernel_rfl)) ?_
  refine wk_pure (show opD nR9w3_4 4 = some (some 38, .move (.tmp 4), 3, none) from by kernel_rfl) (by kernel_rfl) (.int .i64 ((sendsN place n round : Nat) : Int)) (fun _ => y_move (by kernel_rfl)) ?_
  refine wk_pure (show opD nR9w3_4 5 = some (some 39, .move (.tmp 0), 27, none) from by kernel_rfl) (by kernel_rfl) (.pointer (some ⟨r, 0, none⟩)) (fun _ => y_move (by kernel_rfl)) ?_
  refine wk_pure (show opD nR9w3_4 6 = some (some 40, .nilCheck (.tmp 39), 0, none) from by kernel_rfl) (by kernel_rfl) (.pointer (some ⟨r, 0, none⟩)) (fun _ => x_nilCheck (by kernel_rfl)) ?_
  refine wk_pure (show opD nR9w3_4 7 = some (some 41, .fieldAddr 54 (.tmp 40) 2, 0, none) from by kernel_rfl) (by kernel_rfl) (.pointer (some ⟨r, 2, none⟩)) (fun _ => x_fieldAddr (b := r) (off := 0) (o := 2) (by kernel_rfl) (by kernel_rfl)) ?_
  refine wk_pure (show opD nR9w3_4 9 = some (some 43, .move (.tmp 0), 27, none) from by kernel_rfl) (by kernel_rfl) (.pointer (some ⟨r, 0, none⟩)) (fun _ => y_move (by kernel_rfl)) ?_
  refine wk_pure (show opD nR9w3_4 10 = some (some 44, .nilCheck (.tmp 43), 0, none) from by kernel_rfl) (by kernel_rfl) (.pointer (some ⟨r, 0, none⟩)) (fun _ => x_nilCheck (by kernel_rfl)) ?_
  refine wk_pure (show opD nR9w3_4 11 = some (some 45, .fieldAddr 54 (.tmp 44) 3, 0, none) from by kernel_rfl) (by kernel_rfl) (.pointer (some ⟨r, 3, none⟩)) (fun _ => x_fieldAddr (b := r) (off := 0) (o := 3) (by kernel_rfl) (by kernel_rfl)) ?_
  refine wk_pure (show opD nR9w3_4 13 = some (some 47, .move (.tmp 4), 3, none) from by kernel_rfl) (by kernel_rfl) (.int .i64 ((sendsN place n round : Nat) : Int)) (fun _ => y_move (by kernel_rfl)) ?_
  refine wk_pure (show opD nR9w3_4 17 = some (some 51, .move (.tmp 0), 27, none) from by kernel_rfl) (by kernel_rfl) (.pointer (some ⟨r, 0, none⟩)) (fun _ => y_move (by kernel_rfl)) ?_
  refine wk_pure (show opD nR9w3_4 18 = some (some 52, .nilCheck (.tmp 51), 0, none) from by kernel_rfl) (by kernel_rfl) (.pointer (some ⟨r, 0, none⟩)) (fun _ => x_nilCheck (by kernel_rfl)) ?_
  refine wk_pure (show opD nR9w3_4 19 = some (some 53, .fieldAddr 54 (.tmp 52) 3, 0, none) from by kernel_rfl) (by kernel_rfl) (.pointer (some ⟨r, 3, none⟩)) (fun _ => x_fieldAddr (b := r) (off := 0) (o := 3) (by kernel_rfl) (by kernel_rfl)) ?_
  refine wk_pure (show opD nR9w3_4 21 = some (some 55, .move (.tmp 4), 3, none) from by kernel_rfl) (by kernel_rfl) (.int .i64 ((sendsN place n round : Nat) : Int)) (fun _ => y_move (by kernel_rfl)) ?_
  refine wk_stab (show opD nR9w3_4 3 = some (some 37, .load 3 (.tmp 36), 3, none) from by kernel_rfl) (by kernel_rfl) (.int .i64 ((round : Nat) : Int)) (fun w'_ g_ => x_load (b := r) (off := 4) (by kernel_rfl) (by kernel_rfl) (Grown.keep g_ (sm_16.keep hb_14)) (by kernel_rfl)) ?_
  refine wk_stab (show opD nR9w3_4 8 = some (some 42, .load 25 (.tmp 41), 25, none) from by kernel_rfl) (by kernel_rfl) (.slice la L.length lc) (fun w'_ g_ => x_load (b := r) (off := 2) (by kernel_rfl) (by kernel_rfl) (Grown.keep g_ (sm_16.keep hb_14)) (by kernel_rfl)) ?_
  refine wk_stab (show opD nR9w3_4 12 = some (some 46, .load 49 (.tmp 45), 49, none) from by kernel_rfl) (by kernel_rfl) (.slice (some ⟨ck, 0, none⟩) ((chk L.length n n).length) kc) (fun w'_ g_ => x_load (b := r) (off := 3) (by kernel_rfl) (by kernel_rfl) (Grown.keep g_ (sm_16.keep hb_14)) (by kernel_rfl)) ?_
  have hb_18 : OwnE w_15 63 2 ck kc encP (chk L.length n n) crest := (sm_16.keepOwn (sm_12.keepOwn (s_9.keepOwn (e_3.keepOwn hcc List.not_mem_nil))))
  refine wk_pure (show opD nR9w3_4 14 = some (some 48, .indexAddr 49 (.tmp 46) (.tmp 47), 0, none) from by kernel_rfl) (by kernel_rfl) (.pointer (some ⟨ck, 0 + ((sendsN place n round) * 2 + 0), none⟩)) (fun _ => y_ptr (x_indexN (a := some ⟨ck, 0, none⟩) (b := ck) (off := 0) (n := ((chk L.length n n).length)) (c := kc) (k := .i64) (i := ((sendsN place n round : Nat) : Int)) (e := 63) (sz := 2) (sz' := 2) (by kernel_rfl) hb_18.sl (by kernel_rfl) (by kernel_rfl) rfl (by omega) _) (by omega)) ?_
  refine wk_pure (show opD nR9w3_4 15 = some (some 49, .indexAddr 63 (.tmp 48) (.const (.int .i64 0)), 0, none) from by kernel_rfl) (by kernel_rfl) (.pointer (some ⟨ck, 0 + ((sendsN place n round) * 2 + 0), none⟩)) (fun _ => y_ptr (x_indexArr (b := ck) (off := (0 + ((sendsN place n round) * 2 + 0))) (k := .i64) (i := 0) (e := 3) (len := 2) (sz := 1) (by kernel_rfl) (by kernel_rfl) (by kernel_rfl) (by decide)) (by omega)) ?_
  refine wk_stab (show opD nR9w3_4 16 = some (some 50, .load 3 (.tmp 49), 3, none) from by kernel_rfl) (by kernel_rfl) (.int .i64 ((cFrom L.length n (sendsN place n round) : Nat) : Int)) (fun w'_ g_ => x_load_c (b := ck) (off := (0 + ((sendsN place n round) * 2 + 0))) (by kernel_rfl) (by kernel_rfl) (SlE.get (Grown.keepOwn g_ hb_18).sl encP_len (0, 0) (sendsN place n round) 0 (by omega) rfl)) ?_
  refine wk_stab (show opD nR9w3_4 20 = some (some 54, .load 49 (.tmp 53), 49, none) from by kernel_rfl) (by kernel_rfl) (.slice (some ⟨ck, 0, none⟩) ((chk L.length n n).length) kc) (fun w'_ g_ => x_load (b := r) (off := 3) (by kernel_rfl) (by kernel_rfl) (Grown.keep g_ (sm_16.keep hb_14)) (by kernel_rfl)) ?_
  refine wk_pure (show opD nR9w3_4 22 = some (some 56, .indexAddr 49 (.tmp 54) (.tmp 55), 0, none) from by kernel_rfl) (by kernel_rfl) (.pointer (some ⟨ck, 0 + ((sendsN place n round) * 2 + 0), none⟩)) (fun _ => y_ptr (x_indexN (a := some ⟨ck, 0, none⟩) (b := ck) (off := 0) (n := ((chk L.length n n).length)) (c := kc) (k := .i64) (i := ((sendsN place n round : Nat) : Int)) (e := 63) (sz := 2) (sz' := 2) (by kernel_rfl) hb_18.sl (by kernel_rfl) (by kernel_rfl) rfl (by omega) _) (by omega)) ?_
  refine wk_pure (show opD nR9w3_4 23 = some (some 57, .indexAddr 63 (.tmp 56) (.const (.int .i64 1)), 0, none) from by kernel_rfl) (by kernel_rfl) (.pointer (some ⟨ck, 0 + ((sendsN place n round) * 2 + 1), none⟩)) (fun _ => y_ptr (x_indexArr (b := ck) (off := (0 + ((sendsN place n round) * 2 + 0))) (k := .i64) (i := 1) (e := 3) (len := 2) (sz := 1) (by kernel_rfl) (by kernel_rfl) (by kernel_rfl) (by decide)) (by omega)) ?_
  refine wk_stab (show opD nR9w3_4 24 = some (some 58, .load 3 (.tmp 57), 3, none) from by kernel_rfl) (by kernel_rfl) (.int .i64 ((cTo L.length n (sendsN place n round) : Nat) : Int)) (fun w'_ g_ => x_load_c (b := ck) (off := (0 + ((sendsN place n round) * 2 + 1))) (by kernel_rfl) (by kernel_rfl) (SlE.get (Grown.keepOwn g_ hb_18).sl encP_len (0, 0) (sendsN place n round) 1 (by omega) rfl)) ?_
  have hb_19 : OwO w_15 33 2 la g lc encW L rest := (sm_16.keepOwO (sm_12.keepOwO (s_9.keepOwO (e_3.keepOwP hl (hgr.imp id (fun h_ => List.not_mem_nil))))))
  have hs_20 : SlE w_15 2 (cutA la lc (cFrom L.length n (sendsN place n round)) 2) g (0 + (cFrom L.length n (sendsN place n round)) * 2) encW ((L.drop (cFrom L.length n (sendsN place n round))).take ((cTo L.length n (sendsN place n round)) - (cFrom L.length n (sendsN place n round)))) := hb_19.sl.cut encW_len lc (cFrom L.length n (sendsN place n round)) ((cTo L.length n (sendsN place n round)) - (cFrom L.length n (sendsN place n round))) (by (first | omega | (constructor <;> omega))) (by (first | omega | (constructor <;> omega)))
  refine wk_pure (show opD nR9w3_4 25 = some (some 59, .slice 25 (.tmp 42) (some (.tmp 50)) (some (.tmp 58)) none, 25, none) from by kernel_rfl) (by kernel_rfl) (.slice (cutA la lc (cFrom L.length n (sendsN place n round)) 2) (((L.drop (cFrom L.length n (sendsN place n round))).take ((cTo L.length n (sendsN place n round)) - (cFrom L.length n (sendsN place n round)))).length) (lc - (cFrom L.length n (sendsN place n round)))) (fun _ => y_slice (x_cut (a := la) (n := L.length) (c := lc) (sz := 2) (e := 33) (k := .i64) (li := ((cFrom L.length n (sendsN place n round) : Nat) : Int)) (q := .i64) (hi' := ((cTo L.length n (sendsN place n round) : Nat) : Int)) (l := (cFrom L.length n (sendsN place n round))) (h := (cTo L.length n (sendsN place n round))) (by kernel_rfl) (by kernel_rfl) (by kernel_rfl) (by kernel_rfl) (by omega) (by omega) (by (first | omega | (constructor <;> omega)))) (cut_len (by (first | omega | (constructor <;> omega))))) ?_
  refine wk_nil ?_
  refine wkP_two ?_ ?_
  · refine wk_call (show opD nR9w3_4 26 = some (some 60, .call ⟨.value (.func 17), #[.tmp 59], #[25]⟩, 25, none) from by kernel_rfl) (by kernel_rfl) 17 #[.slice (cutA la lc (cFrom L.length n (sendsN place n round)) 2) (((L.drop (cFrom L.length n (sendsN place n round))).take ((cTo L.length n (sendsN place n round)) - (cFrom L.length n (sendsN place n round)))).length) (lc - (cFrom L.length n (sendsN place n round)))] (x_call Try.func17 (by kernel_rfl) (c := (Try.f17.body).getD .skip) (by kernel_rfl) (by kernel_rfl) (by kernel_rfl)) (clone_c (L := ((L.drop (cFrom L.length n (sendsN place n round))).take ((cTo L.length n (sendsN place n round)) - (cFrom L.length n (sendsN place n round))))) hs_20 (by (first | omega | (rw [List.length_take, List.length_drop]; omega))) (fun w_21 a_22 g_23 c_24 rest_25 e_26 hO_27 hg_28 sz_29 => ⟨?_, ?_⟩))
    · exact (Grown.trans (Grown.refl _) e_26.grown)
    have hsz_30 : w_15.heap.size ≤ w_21.heap.size := e_26.size
    refine wk_nil ?_
    refine wkP_seq ?_
    refine wk_pure (show opD nR9w3_4 27 = some (some 61, .build 37 #[(0, .tmp 37), (1, .tmp 38), (2, .tmp 60)], 37, none) from by kernel_rfl) (by kernel_rfl) (.agg #[.int .i64 ((round : Nat) : Int), .int .i64 ((sendsN place n round : Nat) : Int), .slice a_22 (((L.drop (cFrom L.length n (sendsN place n round))).take ((cTo L.length n (sendsN place n round)) - (cFrom L.length n (sendsN place n round)))).length) c_24]) (fun _ => x_build (by kernel_rfl)) ?_
    refine wk_alloc (z := #[.int .i64 0, .int .i64 0, .slice none 0 0]) (show opD nR9w3_4 28 = some (some 7, .alloc 37, 0, none) from by kernel_rfl) (by kernel_rfl) (by kernel_rfl) (fun w_32 b_31 eq_34 e_33 sz_35 hb_36 => ⟨?_, ?_⟩)
    · exact (Grown.trans (Grown.trans (Grown.refl _) e_26.grown) e_33.grown)
    refine wk_store (b := b_31) (off := 0) (cs' := #[.int .i64 ((round : Nat) : Int), .int .i64 ((sendsN place n round : Nat) : Int), .slice a_22 (((L.drop (cFrom L.length n (sendsN place n round))).take ((cTo L.length n (sendsN place n round)) - (cFrom L.length n (sendsN place n round)))).length) c_24]) (vs := #[.int .i64 ((round : Nat) : Int), .int .i64 ((sendsN place n round : Nat) : Int), .slice a_22 (((L.drop (cFrom L.length n (sendsN place n round))).take ((cTo L.length n (sendsN place n round)) - (cFrom L.length n (sendsN place n round)))).length) c_24]) (show opD nR9w3_4 29 = some (none, .store 37 (.tmp 7) (.tmp 61), 0, none) from by kernel_rfl) (by kernel_rfl) (by kernel_rfl) (by kernel_rfl) (by kernel_rfl) (by kernel_rfl) hb_36 (Nat.le_of_ble_eq_true rfl) (by kernel_rfl) (by kernel_rfl) (fun w_37 e_38 sz_39 hb_40 => ⟨?_, ?_⟩)
    · exact (Ext.growOver (Grown.trans (Grown.trans (Grown.refl _) e_26.grown) e_33.grown) e_38 (by simp only [List.mem_cons, List.not_mem_nil, or_false]; omega))
    refine wk_nil ?_
    refine wkP_nil ?_
    refine thn_n ?_
    refine g_seq (x := nN9w3_13) (y := nN9w3_14) (by kernel_rfl) ?_
    refine g_region (ops := nR9w3_5) (id := 5) (by kernel_rfl) [(0, .pure), (1, .pure), (2, .pure), (3, .loud)] (by kernel_rfl) (by kernel_rfl) ?_
    refine wk_pure (show opD nR9w3_5 0 = some (some 62, .move (.tmp 0), 27, none) from by kernel_rfl) (by kernel_rfl) (.pointer (some ⟨r, 0, none⟩)) (fun _ => y_move (by kernel_rfl)) ?_
    refine wk_pure (show opD nR9w3_5 1 = some (some 63, .nilCheck (.tmp 62), 0, none) from by kernel_rfl) (by kernel_rfl) (.pointer (some ⟨r, 0, none⟩)) (fun _ => x_nilCheck (by kernel_rfl)) ?_
    refine wk_pure (show opD nR9w3_5 2 = some (some 64, .fieldAddr 54 (.tmp 63) 5, 0, none) from by kernel_rfl) (by kernel_rfl) (.pointer (some ⟨r, 5, none⟩)) (fun _ => x_fieldAddr (b := r) (off := 0) (o := 5) (by kernel_rfl) (by kernel_rfl)) ?_
    have hb_41 : w_37.heap[r]? = some (.cells #[.int .i64 ((place : Nat) : Int), .int .i64 ((n : Nat) : Int), .slice la L.length lc, .slice (some ⟨ck, 0, none⟩) ((chk L.length n n).length) kc, .int .i64 ((round : Nat) : Int), .bool false, .bool taken] 54 (0, 0)) := (e_38.keep (e_33.keep (e_26.keep (sm_16.keep hb_14) List.not_mem_nil) List.not_mem_nil) (by simp only [List.mem_cons, List.not_mem_nil, or_false]; omega))
    refine wk_store (b := r) (off := 5) (cs' := #[.int .i64 ((place : Nat) : Int), .int .i64 ((n : Nat) : Int), .slice la L.length lc, .slice (some ⟨ck, 0, none⟩) ((chk L.length n n).length) kc, .int .i64 ((round : Nat) : Int), .bool true, .bool taken]) (vs := #[.bool true]) (show opD nR9w3_5 3 = some (none, .store 4 (.tmp 64) (.const (.bool true)), 0, none) from by kernel_rfl) (by kernel_rfl) (by kernel_rfl) (by kernel_rfl) (by kernel_rfl) (by kernel_rfl) hb_41 (Nat.le_of_ble_eq_true rfl) (by kernel_rfl) (by kernel_rfl) (fun w_42 e_43 sz_44 hb_45 => ⟨?_, ?_⟩)
    · exact trivial
    refine wk_nil ?_
    refine thn_n ?_
    refine g_seq (x := nN9w3_15) (y := nN9w3_16) (by kernel_rfl) ?_
    refine g_region (ops := nR9w3_6) (id := 6) (by kernel_rfl) [(0, .pure), (1, .loud)] (by kernel_rfl) (by kernel_rfl) ?_
    refine wk_pure (show opD nR9w3_6 0 = some (some 65, .move (.tmp 0), 27, none) from by kernel_rfl) (by kernel_rfl) (.pointer (some ⟨r, 0, none⟩)) (fun _ => y_move (by kernel_rfl)) ?_
    refine wk_call (show opD nR9w3_6 1 = some (some 66, .call ⟨.value (.func 22), #[.tmp 65], #[27]⟩, 0, none) from by kernel_rfl) (by kernel_rfl) 22 #[.pointer (some ⟨r, 0, none⟩)] (x_call Try.func22 (by kernel_rfl) (c := (Try.f22.body).getD .skip) (by kernel_rfl) (by kernel_rfl) (by kernel_rfl)) (next_c hb_45 (by omega) (fun w_46 e_47 sz_48 hb_49 => ⟨?_, ?_⟩))
    · exact trivial
    have hsz_50 : w_42.heap.size ≤ w_46.heap.size := e_47.size
    refine wk_nil ?_
    refine thn_n ?_
    refine g_seq (x := nN9w3_17) (y := nN9w3_18) (by kernel_rfl) ?_
    refine g_region (ops := nR9w3_7) (id := 7) (by kernel_rfl) [(0, .loud), (1, .loud), (2, .pure)] (by kernel_rfl) (by kernel_rfl) ?_
    have hb_51 : w_46.heap[b_31]? = some (.cells #[.int .i64 ((round : Nat) : Int), .int .i64 ((sendsN place n round : Nat) : Int), .slice a_22 (((L.drop (cFrom L.length n (sendsN place n round))).take ((cTo L.length n (sendsN place n round)) - (cFrom L.length n (sendsN place n round)))).length) c_24] 37 (0, 0)) := (e_47.keep (e_43.keep hb_40 (by simp only [List.mem_cons, List.not_mem_nil, or_false]; omega)) (by simp only [List.mem_cons, List.not_mem_nil, or_false]; omega))
    refine wk_val (show opD nR9w3_7 0 = some (some 67, .load 37 (.tmp 7), 37, none) from by kernel_rfl) (by kernel_rfl) (.agg #[.int .i64 ((round : Nat) : Int), .int .i64 ((sendsN place n round : Nat) : Int), .slice a_22 (((L.drop (cFrom L.length n (sendsN place n round))).take ((cTo L.length n (sendsN place n round)) - (cFrom L.length n (sendsN place n round)))).length) c_24]) (x_load_agg (b := b_31) (off := 0) (n := 3) (by kernel_rfl) (by kernel_rfl) hb_51 (Nat.le_of_ble_eq_true rfl) (by kernel_rfl)) trivial ?_
    have hb_52 : w_46.heap[b_1]? = some (.cells #[.int .i64 0, .int .i64 0, .slice none 0 0] 37 (0, 0)) := (e_47.keep (e_43.keep (e_38.keep (e_33.keep (e_26.keep (sm_16.keep (sm_12.keep (s_9.keep hb_6))) List.not_mem_nil) List.not_mem_nil) (by simp only [List.mem_cons, List.not_mem_nil, or_false]; omega)) (by simp only [List.mem_cons, List.not_mem_nil, or_false]; omega)) (by simp only [List.mem_cons, List.not_mem_nil, or_false]; omega))
    refine wk_store (b := b_1) (off := 0) (cs' := #[.int .i64 ((round : Nat) : Int), .int .i64 ((sendsN place n round : Nat) : Int), .slice a_22 (((L.drop (cFrom L.length n (sendsN place n round))).take ((cTo L.length n (sendsN place n round)) - (cFrom L.length n (sendsN place n round)))).length) c_24]) (vs := #[.int .i64 ((round : Nat) : Int), .int .i64 ((sendsN place n round : Nat) : Int), .slice a_22 (((L.drop (cFrom L.length n (sendsN place n round))).take ((cTo L.length n (sendsN place n round)) - (cFrom L.length n (sendsN place n round)))).length) c_24]) (show opD nR9w3_7 1 = some (none, .store 37 (.tmp 2) (.tmp 67), 0, none) from by kernel_rfl) (by kernel_rfl) (by kernel_rfl) (by kernel_rfl) (by kernel_rfl) (by kernel_rfl) hb_52 (Nat.le_of_ble_eq_true rfl) (by kernel_rfl) (by kernel_rfl) (fun w_53 e_54 sz_55 hb_56 => ⟨?_, ?_⟩)
    · exact trivial
    refine wk_pure (show opD nR9w3_7 2 = some (some 3, .assign (.const (.bool true)), 4, none) from by kernel_rfl) (by kernel_rfl) (.bool true) (fun _ => y_assign (by kernel_rfl)) ?_
    refine wk_nil ?_
    refine thn_n ?_
    refine g_ret (by kernel_rfl) ?_
    refine endsR (v := .tuple #[.agg #[.int .i64 ((round : Nat) : Int), .int .i64 ((sendsN place n round : Nat) : Int), .slice a_22 (((L.drop (cFrom L.length n (sendsN place n round))).take ((cTo L.length n (sendsN place n round)) - (cFrom L.length n (sendsN place n round)))).length) c_24], .bool true]) (runRL (vs := [.agg #[.int .i64 ((round : Nat) : Int), .int .i64 ((sendsN place n round : Nat) : Int), .slice a_22 (((L.drop (cFrom L.length n (sendsN place n round))).take ((cTo L.length n (sendsN place n round)) - (cFrom L.length n (sendsN place n round)))).length) c_24], .bool true]) (rs := [.cell 2 37, .tmp 3]) rfl (RL.cons (.agg (n := 3) (off := 0) (by kernel_rfl) (by kernel_rfl) hb_56 (Nat.le_of_ble_eq_true rfl) (by kernel_rfl)) (RL.cons (.tmp (by kernel_rfl)) RL.nil)) rfl) ?_
    have hb_57 : w_53.heap[r]? = some (.cells #[.int .i64 ((place : Nat) : Int), .int .i64 ((n : Nat) : Int), .slice la L.length lc, .slice (some ⟨ck, 0, none⟩) ((chk L.length n n).length) kc, .int .i64 (if true && taken then ((round : Nat) : Int) + 1 else ((round : Nat) : Int)), .bool (true && !taken), .bool (taken && !true)] 54 (0, 0)) := (e_54.keep hb_49 (by simp only [List.mem_cons, List.not_mem_nil, or_false]; omega))
    have hb_58 : OwO w_53 33 2 la g lc encW L rest := (e_54.keepOwP (e_47.keepOwP (e_43.keepOwP (e_38.keepOwP (e_33.keepOwP (e_26.keepOwP hb_19 (hgr.imp id (fun h_ => List.not_mem_nil))) (hgr.imp id (fun h_ => List.not_mem_nil))) (hgr.imp id (fun h_ => (by simp only [List.mem_cons, List.not_mem_nil, or_false]; omega)))) (hgr.imp id (fun h_ => (by simp only [List.mem_cons, List.not_mem_nil, or_false]; omega)))) (hgr.imp id (fun h_ => (by simp only [List.mem_cons, List.not_mem_nil, or_false]; omega)))) (hgr.imp id (fun h_ => (by simp only [List.mem_cons, List.not_mem_nil, or_false]; omega))))
    have hb_59 : OwnE w_53 63 2 ck kc encP (chk L.length n n) crest := (e_54.keepOwn (e_47.keepOwn (e_43.keepOwn (e_38.keepOwn (e_33.keepOwn (e_26.keepOwn hb_18 List.not_mem_nil) List.not_mem_nil) (by simp only [List.mem_cons, List.not_mem_nil, or_false]; omega)) (by simp only [List.mem_cons, List.not_mem_nil, or_false]; omega)) (by simp only [List.mem_cons, List.not_mem_nil, or_false]; omega)) (by simp only [List.mem_cons, List.not_mem_nil, or_false]; omega))
    have hb_60 : OwO w_53 33 2 a_22 g_23 c_24 encW ((L.drop (cFrom L.length n (sendsN place n round))).take ((cTo L.length n (sendsN place n round)) - (cFrom L.length n (sendsN place n round)))) rest_25 := (e_54.keepOwP (e_47.keepOwP (e_43.keepOwP (e_38.keepOwP (e_33.keepOwP hO_27 (hg_28.imp id (fun h_ => List.not_mem_nil))) (hg_28.imp id (fun h_ => (by simp only [List.mem_cons, List.not_mem_nil, or_false]; omega)))) (hg_28.imp id (fun h_ => (by simp only [List.mem_cons, List.not_mem_nil, or_false]; omega)))) (hg_28.imp id (fun h_ => (by simp only [List.mem_cons, List.not_mem_nil, or_false]; omega)))) (hg_28.imp id (fun h_ => (by simp only [List.mem_cons, List.not_mem_nil, or_false]; omega))))
    exact hK _ _ _ _ _ (Ext.then (Ext.then (Ext.then (Ext.then (Ext.then (Ext.then (Ext.then (Ext.then (Ext.then (Ext.then (Ext.refl [r] _) e_3 (fun _ h_ => absurd h_ List.not_mem_nil)) (s_9.ext []) (fun _ h_ => absurd h_ List.not_mem_nil)) (sm_12.ext []) (fun _ h_ => absurd h_ List.not_mem_nil)) (sm_16.ext []) (fun _ h_ => absurd h_ List.not_mem_nil)) e_26 (fun _ h_ => absurd h_ List.not_mem_nil)) e_33 (fun _ h_ => absurd h_ List.not_mem_nil)) e_38 (by intro x_ hx_ hl_; simp only [List.mem_cons, List.not_mem_nil, or_false] at hx_ ⊢; omega)) e_43 (by intro x_ hx_ hl_; simp only [List.mem_cons, List.not_mem_nil, or_false] at hx_ ⊢; omega)) e_47 (by intro x_ hx_ hl_; simp only [List.mem_cons, List.not_mem_nil, or_false] at hx_ ⊢; omega)) e_54 (by intro x_ hx_ hl_; simp only [List.mem_cons, List.not_mem_nil, or_false] at hx_ ⊢; omega)) (ringAt_next (told := true) hb_57 hb_58 hb_59 hR.nr hR.kr hR.kg hR.h1 hR.h2 hR.h3 hR.h4 (by omega) hR.hi (by omega)) hb_60 (by have := (hg_28); omega) (by omega)
  · refine wk_alloc (z := #[.int .i64 0, .int .i64 0, .slice none 0 0]) (show opD nR9w3_4 28 = some (some 7, .alloc 37, 0, none) from by kernel_rfl) (by kernel_rfl) (by kernel_rfl) (fun w_62 b_61 eq_64 e_63 sz_65 hb_66 => ⟨?_, ?_⟩)
    · exact (Grown.trans (Grown.refl _) e_63.grown)
    refine wk_nil ?_
    refine wkP_seq ?_
    have hb_67 : SlE w_62 2 (cutA la lc (cFrom L.length n (sendsN place n round)) 2) g (0 + (cFrom L.length n (sendsN place n round)) * 2) encW ((L.drop (cFrom L.length n (sendsN place n round))).take ((cTo L.length n (sendsN place n round)) - (cFrom L.length n (sendsN place n round)))) := (e_63.keepSl hs_20 List.not_mem_nil)
    refine wk_call (show opD nR9w3_4 26 = some (some 60, .call ⟨.value (.func 17), #[.tmp 59], #[25]⟩, 25, none) from by kernel_rfl) (by kernel_rfl) 17 #[.slice (cutA la lc (cFrom L.length n (sendsN place n round)) 2) (((L.drop (cFrom L.length n (sendsN place n round))).take ((cTo L.length n (sendsN place n round)) - (cFrom L.length n (sendsN place n round)))).length) (lc - (cFrom L.length n (sendsN place n round)))] (x_call Try.func17 (by kernel_rfl) (c := (Try.f17.body).getD .skip) (by kernel_rfl) (by kernel_rfl) (by kernel_rfl)) (clone_c (L := ((L.drop (cFrom L.length n (sendsN place n round))).take ((cTo L.length n (sendsN place n round)) - (cFrom L.length n (sendsN place n round))))) hb_67 (by (first | omega | (rw [List.length_take, List.length_drop]; omega))) (fun w_68 a_69 g_70 c_71 rest_72 e_73 hO_74 hg_75 sz_76 => ⟨?_, ?_⟩))
    · exact (Grown.trans (Grown.trans (Grown.refl _) e_63.grown) e_73.grown)
    have hsz_77 : w_62.heap.size ≤ w_68.heap.size := e_73.size
    refine wk_pure (show opD nR9w3_4 27 = some (some 61, .build 37 #[(0, .tmp 37), (1, .tmp 38), (2, .tmp 60)], 37, none) from by kernel_rfl) (by kernel_rfl) (.agg #[.int .i64 ((round : Nat) : Int), .int .i64 ((sendsN place n round : Nat) : Int), .slice a_69 (((L.drop (cFrom L.length n (sendsN place n round))).take ((cTo L.length n (sendsN place n round)) - (cFrom L.length n (sendsN place n round)))).length) c_71]) (fun _ => x_build (by kernel_rfl)) ?_
    have hb_78 : w_68.heap[b_61]? = some (.cells #[.int .i64 0, .int .i64 0, .slice none 0 0] 37 (0, 0)) := (e_73.keep hb_66 List.not_mem_nil)
    refine wk_store (b := b_61) (off := 0) (cs' := #[.int .i64 ((round : Nat) : Int), .int .i64 ((sendsN place n round : Nat) : Int), .slice a_69 (((L.drop (cFrom L.length n (sendsN place n round))).take ((cTo L.length n (sendsN place n round)) - (cFrom L.length n (sendsN place n round)))).length) c_71]) (vs := #[.int .i64 ((round : Nat) : Int), .int .i64 ((sendsN place n round : Nat) : Int), .slice a_69 (((L.drop (cFrom L.length n (sendsN place n round))).take ((cTo L.length n (sendsN place n round)) - (cFrom L.length n (sendsN place n round)))).length) c_71]) (show opD nR9w3_4 29 = some (none, .store 37 (.tmp 7) (.tmp 61), 0, none) from by kernel_rfl) (by kernel_rfl) (by kernel_rfl) (by kernel_rfl) (by kernel_rfl) (by kernel_rfl) hb_78 (Nat.le_of_ble_eq_true rfl) (by kernel_rfl) (by kernel_rfl) (fun w_79 e_80 sz_81 hb_82 => ⟨?_, ?_⟩)
    · exact (Ext.growOver (Grown.trans (Grown.trans (Grown.refl _) e_63.grown) e_73.grown) e_80 (by simp only [List.mem_cons, List.not_mem_nil, or_false]; omega))
    refine wk_nil ?_
    refine wkP_nil ?_
    refine thn_n ?_
    refine g_seq (x := nN9w3_13) (y := nN9w3_14) (by kernel_rfl) ?_
    refine g_region (ops := nR9w3_5) (id := 5) (by kernel_rfl) [(0, .pure), (1, .pure), (2, .pure), (3, .loud)] (by kernel_rfl) (by kernel_rfl) ?_
    refine wk_pure (show opD nR9w3_5 0 = some (some 62, .move (.tmp 0), 27, none) from by kernel_rfl) (by kernel_rfl) (.pointer (some ⟨r, 0, none⟩)) (fun _ => y_move (by kernel_rfl)) ?_
    refine wk_pure (show opD nR9w3_5 1 = some (some 63, .nilCheck (.tmp 62), 0, none) from by kernel_rfl) (by kernel_rfl) (.pointer (some ⟨r, 0, none⟩)) (fun _ => x_nilCheck (by kernel_rfl)) ?_
    refine wk_pure (show opD nR9w3_5 2 = some (some 64, .fieldAddr 54 (.tmp 63) 5, 0, none) from by kernel_rfl) (by kernel_rfl) (.pointer (some ⟨r, 5, none⟩)) (fun _ => x_fieldAddr (b := r) (off := 0) (o := 5) (by kernel_rfl) (by kernel_rfl)) ?_
    have hb_83 : w_79.heap[r]? = some (.cells #[.int .i64 ((place : Nat) : Int), .int .i64 ((n : Nat) : Int), .slice la L.length lc, .slice (some ⟨ck, 0, none⟩) ((chk L.length n n).length) kc, .int .i64 ((round : Nat) : Int), .bool false, .bool taken] 54 (0, 0)) := (e_80.keep (e_73.keep (e_63.keep (sm_16.keep hb_14) List.not_mem_nil) List.not_mem_nil) (by simp only [List.mem_cons, List.not_mem_nil, or_false]; omega))
    refine wk_store (b := r) (off := 5) (cs' := #[.int .i64 ((place : Nat) : Int), .int .i64 ((n : Nat) : Int), .slice la L.length lc, .slice (some ⟨ck, 0, none⟩) ((chk L.length n n).length) kc, .int .i64 ((round : Nat) : Int), .bool true, .bool taken]) (vs := #[.bool true]) (show opD nR9w3_5 3 = some (none, .store 4 (.tmp 64) (.const (.bool true)), 0, none) from by kernel_rfl) (by kernel_rfl) (by kernel_rfl) (by kernel_rfl) (by kernel_rfl) (by kernel_rfl) hb_83 (Nat.le_of_ble_eq_true rfl) (by kernel_rfl) (by kernel_rfl) (fun w_84 e_85 sz_86 hb_87 => ⟨?_, ?_⟩)
    · exact trivial
    refine wk_nil ?_
    refine thn_n ?_
    refine g_seq (x := nN9w3_15) (y := nN9w3_16) (by kernel_rfl) ?_
    refine g_region (ops := nR9w3_6) (id := 6) (by kernel_rfl) [(0, .pure), (1, .loud)] (by kernel_rfl) (by kernel_rfl) ?_
    refine wk_pure (show opD nR9w3_6 0 = some (some 65, .move (.tmp 0), 27, none) from by kernel_rfl) (by kernel_rfl) (.pointer (some ⟨r, 0, none⟩)) (fun _ => y_move (by kernel_rfl)) ?_
    refine wk_call (show opD nR9w3_6 1 = some (some 66, .call ⟨.value (.func 22), #[.tmp 65], #[27]⟩, 0, none) from by kernel_rfl) (by kernel_rfl) 22 #[.pointer (some ⟨r, 0, none⟩)] (x_call Try.func22 (by kernel_rfl) (c := (Try.f22.body).getD .skip) (by kernel_rfl) (by kernel_rfl) (by kernel_rfl)) (next_c hb_87 (by omega) (fun w_88 e_89 sz_90 hb_91 => ⟨?_, ?_⟩))
    · exact trivial
    have hsz_92 : w_84.heap.size ≤ w_88.heap.size := e_89.size
    refine wk_nil ?_
    refine thn_n ?_
    refine g_seq (x := nN9w3_17) (y := nN9w3_18) (by kernel_rfl) ?_
    refine g_region (ops := nR9w3_7) (id := 7) (by kernel_rfl) [(0, .loud), (1, .loud), (2, .pure)] (by kernel_rfl) (by kernel_rfl) ?_
    have hb_93 : w_88.heap[b_61]? = some (.cells #[.int .i64 ((round : Nat) : Int), .int .i64 ((sendsN place n round : Nat) : Int), .slice a_69 (((L.drop (cFrom L.length n (sendsN place n round))).take ((cTo L.length n (sendsN place n round)) - (cFrom L.length n (sendsN place n round)))).length) c_71] 37 (0, 0)) := (e_89.keep (e_85.keep hb_82 (by simp only [List.mem_cons, List.not_mem_nil, or_false]; omega)) (by simp only [List.mem_cons, List.not_mem_nil, or_false]; omega))
    refine wk_val (show opD nR9w3_7 0 = some (some 67, .load 37 (.tmp 7), 37, none) from by kernel_rfl) (by kernel_rfl) (.agg #[.int .i64 ((round : Nat) : Int), .int .i64 ((sendsN place n round : Nat) : Int), .slice a_69 (((L.drop (cFrom L.length n (sendsN place n round))).take ((cTo L.length n (sendsN place n round)) - (cFrom L.length n (sendsN place n round)))).length) c_71]) (x_load_agg (b := b_61) (off := 0) (n := 3) (by kernel_rfl) (by kernel_rfl) hb_93 (Nat.le_of_ble_eq_true rfl) (by kernel_rfl)) trivial ?_
    have hb_94 : w_88.heap[b_1]? = some (.cells #[.int .i64 0, .int .i64 0, .slice none 0 0] 37 (0, 0)) := (e_89.keep (e_85.keep (e_80.keep (e_73.keep (e_63.keep (sm_16.keep (sm_12.keep (s_9.keep hb_6))) List.not_mem_nil) List.not_mem_nil) (by simp only [List.mem_cons, List.not_mem_nil, or_false]; omega)) (by simp only [List.mem_cons, List.not_mem_nil, or_false]; omega)) (by simp only [List.mem_cons, List.not_mem_nil, or_false]; omega))
    refine wk_store (b := b_1) (off := 0) (cs' := #[.int .i64 ((round : Nat) : Int), .int .i64 ((sendsN place n round : Nat) : Int), .slice a_69 (((L.drop (cFrom L.length n (sendsN place n round))).take ((cTo L.length n (sendsN place n round)) - (cFrom L.length n (sendsN place n round)))).length) c_71]) (vs := #[.int .i64 ((round : Nat) : Int), .int .i64 ((sendsN place n round : Nat) : Int), .slice a_69 (((L.drop (cFrom L.length n (sendsN place n round))).take ((cTo L.length n (sendsN place n round)) - (cFrom L.length n (sendsN place n round)))).length) c_71]) (show opD nR9w3_7 1 = some (none, .store 37 (.tmp 2) (.tmp 67), 0, none) from by kernel_rfl) (by kernel_rfl) (by kernel_rfl) (by kernel_rfl) (by kernel_rfl) (by kernel_rfl) hb_94 (Nat.le_of_ble_eq_true rfl) (by kernel_rfl) (by kernel_rfl) (fun w_95 e_96 sz_97 hb_98 => ⟨?_, ?_⟩)
    · exact trivial
    refine wk_pure (show opD nR9w3_7 2 = some (some 3, .assign (.const (.bool true)), 4, none) from by kernel_rfl) (by kernel_rfl) (.bool true) (fun _ => y_assign (by kernel_rfl)) ?_
    refine wk_nil ?_
    refine thn_n ?_
    refine g_ret (by kernel_rfl) ?_
    refine endsR (v := .tuple #[.agg #[.int .i64 ((round : Nat) : Int), .int .i64 ((sendsN place n round : Nat) : Int), .slice a_69 (((L.drop (cFrom L.length n (sendsN place n round))).take ((cTo L.length n (sendsN place n round)) - (cFrom L.length n (sendsN place n round)))).length) c_71], .bool true]) (runRL (vs := [.agg #[.int .i64 ((round : Nat) : Int), .int .i64 ((sendsN place n round : Nat) : Int), .slice a_69 (((L.drop (cFrom L.length n (sendsN place n round))).take ((cTo L.length n (sendsN place n round)) - (cFrom L.length n (sendsN place n round)))).length) c_71], .bool true]) (rs := [.cell 2 37, .tmp 3]) rfl (RL.cons (.agg (n := 3) (off := 0) (by kernel_rfl) (by kernel_rfl) hb_98 (Nat.le_of_ble_eq_true rfl) (by kernel_rfl)) (RL.cons (.tmp (by kernel_rfl)) RL.nil)) rfl) ?_
    have hb_99 : w_95.heap[r]? = some (.cells #[.int .i64 ((place : Nat) : Int), .int .i64 ((n : Nat) : Int), .slice la L.length lc, .slice (some ⟨ck, 0, none⟩) ((chk L.length n n).length) kc, .int .i64 (if true && taken then ((round : Nat) : Int) + 1 else ((round : Nat) : Int)), .bool (true && !taken), .bool (taken && !true)] 54 (0, 0)) := (e_96.keep hb_91 (by simp only [List.mem_cons, List.not_mem_nil, or_false]; omega))
    have hb_100 : OwO w_95 33 2 la g lc encW L rest := (e_96.keepOwP (e_89.keepOwP (e_85.keepOwP (e_80.keepOwP (e_73.keepOwP (e_63.keepOwP hb_19 (hgr.imp id (fun h_ => List.not_mem_nil))) (hgr.imp id (fun h_ => List.not_mem_nil))) (hgr.imp id (fun h_ => (by simp only [List.mem_cons, List.not_mem_nil, or_false]; omega)))) (hgr.imp id (fun h_ => (by simp only [List.mem_cons, List.not_mem_nil, or_false]; omega)))) (hgr.imp id (fun h_ => (by simp only [List.mem_cons, List.not_mem_nil, or_false]; omega)))) (hgr.imp id (fun h_ => (by simp only [List.mem_cons, List.not_mem_nil, or_false]; omega))))
    have hb_101 : OwnE w_95 63 2 ck kc encP (chk L.length n n) crest := (e_96.keepOwn (e_89.keepOwn (e_85.keepOwn (e_80.keepOwn (e_73.keepOwn (e_63.keepOwn hb_18 List.not_mem_nil) List.not_mem_nil) (by simp only [List.mem_cons, List.not_mem_nil, or_false]; omega)) (by simp only [List.mem_cons, List.not_mem_nil, or_false]; omega)) (by simp only [List.mem_cons, List.not_mem_nil, or_false]; omega)) (by simp only [List.mem_cons, List.not_mem_nil, or_false]; omega))
    have hb_102 : OwO w_95 33 2 a_69 g_70 c_71 encW ((L.drop (cFrom L.length n (sendsN place n round))).take ((cTo L.length n (sendsN place n round)) - (cFrom L.length n (sendsN place n round)))) rest_72 := (e_96.keepOwP (e_89.keepOwP (e_85.keepOwP (e_80.keepOwP hO_74 (hg_75.imp id (fun h_ => (by simp only [List.mem_cons, List.not_mem_nil, or_false]; omega)))) (hg_75.imp id (fun h_ => (by simp only [List.mem_cons, List.not_mem_nil, or_false]; omega)))) (hg_75.imp id (fun h_ => (by simp only [List.mem_cons, List.not_mem_nil, or_false]; omega)))) (hg_75.imp id (fun h_ => (by simp only [List.mem_cons, List.not_mem_nil, or_false]; omega))))
    exact hK _ _ _ _ _ (Ext.then (Ext.then (Ext.then (Ext.then (Ext.then (Ext.then (Ext.then (Ext.then (Ext.then (Ext.then (Ext.refl [r] _) e_3 (fun _ h_ => absurd h_ List.not_mem_nil)) (s_9.ext []) (fun _ h_ => absurd h_ List.not_mem_nil)) (sm_12.ext []) (fun _ h_ => absurd h_ List.not_mem_nil)) (sm_16.ext []) (fun _ h_ => absurd h_ List.not_mem_nil)) e_63 (fun _ h_ => absurd h_ List.not_mem_nil)) e_73 (fun _ h_ => absurd h_ List.not_mem_nil)) e_80 (by intro x_ hx_ hl_; simp only [List.mem_cons, List.not_mem_nil, or_false] at hx_ ⊢; omega)) e_85 (by intro x_ hx_ hl_; simp only [List.mem_cons, List.not_mem_nil, or_false] at hx_ ⊢; omega)) e_89 (by intro x_ hx_ hl_; simp only [List.mem_cons, List.not_mem_nil, or_false] at hx_ ⊢; omega)) e_96 (by intro x_ hx_ hl_; simp only [List.mem_cons, List.not_mem_nil, or_false] at hx_ ⊢; omega)) (ringAt_next (told := true) hb_99 hb_100 hb_101 hR.nr hR.kr hR.kg hR.h1 hR.h2 hR.h3 hR.h4 (by omega) hR.hi (by omega)) hb_102 (by have := (hg_75); omega) (by omega)

noncomputable def nN10w4_0 : Code := (Try.f10.body).getD .skip
noncomputable def nN10w4_1 : Code := s1 nN10w4_0
noncomputable def nN10w4_2 : Code := s2 nN10w4_0
noncomputable def nR10w4_0 : Array Oper := rops nN10w4_1
noncomputable def nN10w4_3 : Code := s1 nN10w4_2
noncomputable def nN10w4_4 : Code := s2 nN10w4_2
noncomputable def nN10w4_5 : Code := s1 nN10w4_3
noncomputable def nN10w4_6 : Code := s1 nN10w4_5
noncomputable def nN10w4_7 : Code := s2 nN10w4_5
noncomputable def nR10w4_1 : Array Oper := rops nN10w4_6
noncomputable def nN10w4_8 : Code := s1 nN10w4_7
noncomputable def nN10w4_9 : Code := s2 nN10w4_7
noncomputable def nN10w4_10 : Code := s1 nN10w4_8
noncomputable def nN10w4_11 : Code := s2 nN10w4_8
noncomputable def nR10w4_2 : Array Oper := rops nN10w4_10
theorem get_done {r g ck place n : Nat} {L : List Int} {round : Nat} {told taken : Bool} {la : Option Addr} {lc kc : Nat} {rest crest : List Value} {w : World} (hR : RingAt w r g ck place n L round told taken la lc kc rest crest) {pr pc wc : Nat} {wa : Option Addr} {W : List Int} (hd : round = 2 * n - 2) {K : Value → World → Prop} (hK : ∀ w', Ext [] w w' → w'.heap.size = w.heap.size + 1 → K (.int .i64 8) w') : CallsV Try.prog 10 #[.pointer (some ⟨r, 0, none⟩), .agg #[.int .i64 ((pr : Nat) : Int), .int .i64 ((pc : Nat) : Int), .slice wa W.length wc]] w K := by
  refine callsV_of (c := nN10w4_0) Try.func10 (by kernel_rfl) (n := 139) (by kernel_rfl) ?_
  have hr := hR.hr
  have hl := hR.hl
  have hcc := hR.hc
  have hgr := hR.nr
  have hkr := hR.kr
  have hkg := hR.kg
  have h1 := hR.h1
  have h2 := hR.h2
  have h3 := hR.h3
  have h4 := hR.h4
  have h5 := hR.h5
  have hi := hR.hi
  have hgl := hR.gl
  have hcl := chk_len L.length n n
  have hll := hl.le
  have hrl := lt_of_block hr
  have hkl := hcc.lt
  refine g_seq (x := nN10w4_1) (y := nN10w4_2) (by kernel_rfl) ?_
  refine g_region (ops := nR10w4_0) (id := 0) (by kernel_rfl) [(0, .loud), (1, .pure)] (by kernel_rfl) (by kernel_rfl) ?_
  refine wk_box (cs := #[.int .i64 ((pr : Nat) : Int), .int .i64 ((pc : Nat) : Int), .slice wa W.length wc]) (show opD nR10w4_0 0 = some (some 3, .box 37 (.tmp 1), 0, none) from by kernel_rfl) (by kernel_rfl) (by kernel_rfl) (fun w_2 b_1 eq_4 e_3 sz_5 hb_6 => ⟨?_, ?_⟩)
  · exact trivial
  refine wk_pure (show opD nR10w4_0 1 = some (some 4, .assign (.const (.int .i64 0)), 28, none) from by kernel_rfl) (by kernel_rfl) (.int .i64 0) (fun _ => y_assign (by kernel_rfl)) ?_
  refine wk_nil ?_
  refine thn_n ?_
  refine g_seq (x := nN10w4_3) (y := nN10w4_4) (by kernel_rfl) ?_
  refine g_block (x := nN10w4_5) (id := 0) (by kernel_rfl) ?_
  refine g_seq (x := nN10w4_6) (y := nN10w4_7) (by kernel_rfl) ?_
  refine g_draw (ops := nR10w4_1) (id := 1) (by kernel_rfl) (fun _ _ => True) [(0, .pure), (1, .loud), (2, .pure), (3, .pure), (5, .pure), (6, .pure), (7, .pure), (4, .read), (8, .read), (9, .pure), (10, .pure), (11, .pure), (12, .pure), (14, .pure), (15, .pure), (16, .pure), (13, .read), (17, .read), (18, .pure), (19, .pure), (20, .pure), (21, .pure), (22, .pure), (23, .read), (24, .pure), (25, .pure), (26, .pure)] (by kernel_rfl) (by kernel_rfl) (fun _ => trivial) (fun w_7 sm_8 => ?_)
  have hsz_9 : w_7.heap.size = w_2.heap.size := by rw [sm_8.heap]
  refine wk_pure (show opD nR10w4_1 0 = some (some 13, .move (.tmp 0), 27, none) from by kernel_rfl) (by kernel_rfl) (.pointer (some ⟨r, 0, none⟩)) (fun _ => y_move (by kernel_rfl)) ?_
  have hb_10 : w_7.heap[r]? = some (.cells #[.int .i64 ((place : Nat) : Int), .int .i64 ((n : Nat) : Int), .slice la L.length lc, .slice (some ⟨ck, 0, none⟩) ((chk L.length n n).length) kc, .int .i64 ((round : Nat) : Int), .bool told, .bool taken] 54 (0, 0)) := (sm_8.keep (e_3.keep hr List.not_mem_nil))
  refine wk_call (show opD nR10w4_1 1 = some (some 14, .call ⟨.value (.func 13), #[.tmp 13], #[27]⟩, 4, none) from by kernel_rfl) (by kernel_rfl) 13 #[.pointer (some ⟨r, 0, none⟩)] (x_call Try.func13 (by kernel_rfl) (c := (Try.f13.body).getD .skip) (by kernel_rfl) (by kernel_rfl) (by kernel_rfl)) (done_d hb_10 (by omega) (decide_eq_true (by omega)) (fun w_11 s_12 => ⟨?_, ?_⟩))
  · exact trivial
  have hsz_13 : w_11.heap.size = w_7.heap.size := by rw [s_12.heap]
  refine wk_pure (show opD nR10w4_1 2 = some (some 15, .move (.tmp 14), 4, none) from by kernel_rfl) (by kernel_rfl) (.bool true) (fun _ => y_move (by kernel_rfl)) ?_
  refine wk_skip (show opD nR10w4_1 3 = some (some 16, .fieldAddr 37 (.tmp 3) 0, 0, some (2, false)) from by kernel_rfl) (by kernel_rfl) ?_
  refine wk_skip (show opD nR10w4_1 5 = some (some 18, .move (.tmp 0), 27, some (2, false)) from by kernel_rfl) (by kernel_rfl) ?_
  refine wk_skip (show opD nR10w4_1 6 = some (some 19, .nilCheck (.tmp 18), 0, some (2, false)) from by kernel_rfl) (by kernel_rfl) ?_
  refine wk_skip (show opD nR10w4_1 7 = some (some 20, .fieldAddr 54 (.tmp 19) 4, 0, some (2, false)) from by kernel_rfl) (by kernel_rfl) ?_
  refine wk_skip (show opD nR10w4_1 4 = some (some 17, .load 3 (.tmp 16), 3, some (2, false)) from by kernel_rfl) (by kernel_rfl) ?_
  refine wk_skip (show opD nR10w4_1 8 = some (some 21, .load 3 (.tmp 20), 3, some (2, false)) from by kernel_rfl) (by kernel_rfl) ?_
  refine wk_skip (show opD nR10w4_1 9 = some (some 22, .binOp .lss 3 (.tmp 17) (.tmp 21) 3, 4, some (2, false)) from by kernel_rfl) (by kernel_rfl) ?_
  refine wk_pure (show opD nR10w4_1 10 = some (some 23, .pick (.tmp 15) (.const (.bool true)) (.tmp 22), 4, none) from by kernel_rfl) (by kernel_rfl) (.bool true) (fun _ => y_pick_t (by kernel_rfl) (by kernel_rfl)) ?_
  refine wk_pure (show opD nR10w4_1 11 = some (some 24, .move (.tmp 23), 4, none) from by kernel_rfl) (by kernel_rfl) (.bool true) (fun _ => y_move (by kernel_rfl)) ?_
  refine wk_skip (show opD nR10w4_1 12 = some (some 25, .fieldAddr 37 (.tmp 3) 0, 0, some (11, false)) from by kernel_rfl) (by kernel_rfl) ?_
  refine wk_skip (show opD nR10w4_1 14 = some (some 27, .move (.tmp 0), 27, some (11, false)) from by kernel_rfl) (by kernel_rfl) ?_
  refine wk_skip (show opD nR10w4_1 15 = some (some 28, .nilCheck (.tmp 27), 0, some (11, false)) from by kernel_rfl) (by kernel_rfl) ?_
  refine wk_skip (show opD nR10w4_1 16 = some (some 29, .fieldAddr 54 (.tmp 28) 4, 0, some (11, false)) from by kernel_rfl) (by kernel_rfl) ?_
  refine wk_skip (show opD nR10w4_1 13 = some (some 26, .load 3 (.tmp 25), 3, some (11, false)) from by kernel_rfl) (by kernel_rfl) ?_
  refine wk_skip (show opD nR10w4_1 17 = some (some 30, .load 3 (.tmp 29), 3, some (11, false)) from by kernel_rfl) (by kernel_rfl) ?_
  refine wk_skip (show opD nR10w4_1 18 = some (some 31, .binOp .eql 3 (.tmp 26) (.tmp 30) 3, 4, some (11, false)) from by kernel_rfl) (by kernel_rfl) ?_
  refine wk_skip (show opD nR10w4_1 19 = some (some 32, .move (.tmp 31), 4, some (11, false)) from by kernel_rfl) (by kernel_rfl) ?_
  refine wk_skip (show opD nR10w4_1 20 = some (some 33, .move (.tmp 0), 27, some (19, true)) from by kernel_rfl) (by kernel_rfl) ?_
  refine wk_skip (show opD nR10w4_1 21 = some (some 34, .nilCheck (.tmp 33), 0, some (19, true)) from by kernel_rfl) (by kernel_rfl) ?_
  refine wk_skip (show opD nR10w4_1 22 = some (some 35, .fieldAddr 54 (.tmp 34) 6, 0, some (19, true)) from by kernel_rfl) (by kernel_rfl) ?_
  refine wk_skip (show opD nR10w4_1 23 = some (some 36, .load 4 (.tmp 35), 4, some (19, true)) from by kernel_rfl) (by kernel_rfl) ?_
  refine wk_skip (show opD nR10w4_1 24 = some (some 37, .pick (.tmp 32) (.tmp 36) (.const (.bool false)), 4, some (11, false)) from by kernel_rfl) (by kernel_rfl) ?_
  refine wk_pure (show opD nR10w4_1 25 = some (some 38, .pick (.tmp 24) (.const (.bool true)) (.tmp 37), 4, none) from by kernel_rfl) (by kernel_rfl) (.bool true) (fun _ => y_pick_t (by kernel_rfl) (by kernel_rfl)) ?_
  refine wk_pure (show opD nR10w4_1 26 = some (some 12, .assign (.tmp 38), 4, none) from by kernel_rfl) (by kernel_rfl) (.bool true) (fun _ => y_assign (by kernel_rfl)) ?_
  refine wk_nil ?_
  refine thn_n ?_
  refine g_cond_t (o := .tmp 12) (x := nN10w4_8) (y := nN10w4_9) (by kernel_rfl) (by kernel_rfl) ?_
  refine g_seq (x := nN10w4_10) (y := nN10w4_11) (by kernel_rfl) ?_
  refine g_region (ops := nR10w4_2) (id := 2) (by kernel_rfl) [(0, .pure)] (by kernel_rfl) (by kernel_rfl) ?_
  refine wk_pure (show opD nR10w4_2 0 = some (some 4, .assign (.const (.int .i64 8)), 28, none) from by kernel_rfl) (by kernel_rfl) (.int .i64 8) (fun _ => y_assign (by kernel_rfl)) ?_
  refine wk_nil ?_
  refine thn_n ?_
  refine g_ret (by kernel_rfl) ?_
  refine blk_r ?_
  refine thn_r ?_
  refine ends1_r (v := .int .i64 8) rfl (by kernel_rfl) ?_
  exact hK _ (Ext.then (Ext.then (Ext.then (Ext.refl [] _) e_3 (fun _ h_ => absurd h_ List.not_mem_nil)) (sm_8.ext []) (fun _ h_ => absurd h_ List.not_mem_nil)) (s_12.ext []) (fun _ h_ => absurd h_ List.not_mem_nil)) (by omega)

noncomputable def nN10w5_0 : Code := (Try.f10.body).getD .skip
noncomputable def nN10w5_1 : Code := s1 nN10w5_0
noncomputable def nN10w5_2 : Code := s2 nN10w5_0
noncomputable def nR10w5_0 : Array Oper := rops nN10w5_1
noncomputable def nN10w5_3 : Code := s1 nN10w5_2
noncomputable def nN10w5_4 : Code := s2 nN10w5_2
noncomputable def nN10w5_5 : Code := s1 nN10w5_3
noncomputable def nN10w5_6 : Code := s1 nN10w5_5
noncomputable def nN10w5_7 : Code := s2 nN10w5_5
noncomputable def nR10w5_1 : Array Oper := rops nN10w5_6
noncomputable def nN10w5_8 : Code := s1 nN10w5_7
noncomputable def nN10w5_9 : Code := s2 nN10w5_7
noncomputable def nN10w5_10 : Code := s1 nN10w5_8
noncomputable def nN10w5_11 : Code := s2 nN10w5_8
noncomputable def nR10w5_2 : Array Oper := rops nN10w5_10
theorem get_old {r g ck place n : Nat} {L : List Int} {round : Nat} {told taken : Bool} {la : Option Addr} {lc kc : Nat} {rest crest : List Value} {w : World} (hR : RingAt w r g ck place n L round told taken la lc kc rest crest) {pr pc wc : Nat} {wa : Option Addr} {W : List Int} (hd : round ≤ 2 * n - 3) (hn : 2 ≤ n) (hp : pr < round) {K : Value → World → Prop} (hK : ∀ w', Ext [] w w' → w'.heap.size = w.heap.size + 1 → K (.int .i64 8) w') : CallsV Try.prog 10 #[.pointer (some ⟨r, 0, none⟩), .agg #[.int .i64 ((pr : Nat) : Int), .int .i64 ((pc : Nat) : Int), .slice wa W.length wc]] w K := by
  refine callsV_of (c := nN10w5_0) Try.func10 (by kernel_rfl) (n := 139) (by kernel_rfl) ?_
  have hr := hR.hr
  have hl := hR.hl
  have hcc := hR.hc
  have hgr := hR.nr
  have hkr := hR.kr
  have hkg := hR.kg
  have h1 := hR.h1
  have h2 := hR.h2
  have h3 := hR.h3
  have h4 := hR.h4
  have h5 := hR.h5
  have hi := hR.hi
  have hgl := hR.gl
  have hcl := chk_len L.length n n
  have hll := hl.le
  have hrl := lt_of_block hr
  have hkl := hcc.lt
  refine g_seq (x := nN10w5_1) (y := nN10w5_2) (by kernel_rfl) ?_
  refine g_region (ops := nR10w5_0) (id := 0) (by kernel_rfl) [(0, .loud), (1, .pure)] (by kernel_rfl) (by kernel_rfl) ?_
  refine wk_box (cs := #[.int .i64 ((pr : Nat) : Int), .int .i64 ((pc : Nat) : Int), .slice wa W.length wc]) (show opD nR10w5_0 0 = some (some 3, .box 37 (.tmp 1), 0, none) from by kernel_rfl) (by kernel_rfl) (by kernel_rfl) (fun w_2 b_1 eq_4 e_3 sz_5 hb_6 => ⟨?_, ?_⟩)
  · exact trivial
  refine wk_pure (show opD nR10w5_0 1 = some (some 4, .assign (.const (.int .i64 0)), 28, none) from by kernel_rfl) (by kernel_rfl) (.int .i64 0) (fun _ => y_assign (by kernel_rfl)) ?_
  refine wk_nil ?_
  refine thn_n ?_
  refine g_seq (x := nN10w5_3) (y := nN10w5_4) (by kernel_rfl) ?_
  refine g_block (x := nN10w5_5) (id := 0) (by kernel_rfl) ?_
  refine g_seq (x := nN10w5_6) (y := nN10w5_7) (by kernel_rfl) ?_
  refine g_draw (ops := nR10w5_1) (id := 1) (by kernel_rfl) (fun _ _ => True) [(0, .pure), (1, .loud), (2, .pure), (3, .pure), (5, .pure), (6, .pure), (7, .pure), (4, .read), (8, .read), (9, .pure), (10, .pure), (11, .pure), (12, .pure), (14, .pure), (15, .pure), (16, .pure), (13, .read), (17, .read), (18, .pure), (19, .pure), (20, .pure), (21, .pure), (22, .pure), (23, .read), (24, .pure), (25, .pure), (26, .pure)] (by kernel_rfl) (by kernel_rfl) (fun _ => trivial) (fun w_7 sm_8 => ?_)
  have hsz_9 : w_7.heap.size = w_2.heap.size := by rw [sm_8.heap]
  refine wk_pure (show opD nR10w5_1 0 = some (some 13, .move (.tmp 0), 27, none) from by kernel_rfl) (by kernel_rfl) (.pointer (some ⟨r, 0, none⟩)) (fun _ => y_move (by kernel_rfl)) ?_
  have hb_10 : w_7.heap[r]? = some (.cells #[.int .i64 ((place : Nat) : Int), .int .i64 ((n : Nat) : Int), .slice la L.length lc, .slice (some ⟨ck, 0, none⟩) ((chk L.length n n).length) kc, .int .i64 ((round : Nat) : Int), .bool told, .bool taken] 54 (0, 0)) := (sm_8.keep (e_3.keep hr List.not_mem_nil))
  refine wk_call (show opD nR10w5_1 1 = some (some 14, .call ⟨.value (.func 13), #[.tmp 13], #[27]⟩, 4, none) from by kernel_rfl) (by kernel_rfl) 13 #[.pointer (some ⟨r, 0, none⟩)] (x_call Try.func13 (by kernel_rfl) (c := (Try.f13.body).getD .skip) (by kernel_rfl) (by kernel_rfl) (by kernel_rfl)) (done_d hb_10 (by omega) (decide_eq_false (by omega)) (fun w_11 s_12 => ⟨?_, ?_⟩))
  · exact trivial
  have hsz_13 : w_11.heap.size = w_7.heap.size := by rw [s_12.heap]
  refine wk_pure (show opD nR10w5_1 2 = some (some 15, .move (.tmp 14), 4, none) from by kernel_rfl) (by kernel_rfl) (.bool false) (fun _ => y_move (by kernel_rfl)) ?_
  refine wk_pure (show opD nR10w5_1 3 = some (some 16, .fieldAddr 37 (.tmp 3) 0, 0, some (2, false)) from by kernel_rfl) (by kernel_rfl) (.pointer (some ⟨b_1, 0, none⟩)) (fun _ => x_fieldAddr (b := b_1) (off := 0) (o := 0) (by kernel_rfl) (by kernel_rfl)) ?_
  refine wk_pure (show opD nR10w5_1 5 = some (some 18, .move (.tmp 0), 27, some (2, false)) from by kernel_rfl) (by kernel_rfl) (.pointer (some ⟨r, 0, none⟩)) (fun _ => y_move (by kernel_rfl)) ?_
  refine wk_pure (show opD nR10w5_1 6 = some (some 19, .nilCheck (.tmp 18), 0, some (2, false)) from by kernel_rfl) (by kernel_rfl) (.pointer (some ⟨r, 0, none⟩)) (fun _ => x_nilCheck (by kernel_rfl)) ?_
  refine wk_pure (show opD nR10w5_1 7 = some (some 20, .fieldAddr 54 (.tmp 19) 4, 0, some (2, false)) from by kernel_rfl) (by kernel_rfl) (.pointer (some ⟨r, 4, none⟩)) (fun _ => x_fieldAddr (b := r) (off := 0) (o := 4) (by kernel_rfl) (by kernel_rfl)) ?_
  have hb_14 : w_11.heap[b_1]? = some (.cells #[.int .i64 ((pr : Nat) : Int), .int .i64 ((pc : Nat) : Int), .slice wa W.length wc] 37 (0, 0)) := (s_12.keep (sm_8.keep hb_6))
  refine wk_read (show opD nR10w5_1 4 = some (some 17, .load 3 (.tmp 16), 3, some (2, false)) from by kernel_rfl) (by kernel_rfl) (.int .i64 ((pr : Nat) : Int)) (fun w'_ g_ => x_load (b := b_1) (off := 0) (by kernel_rfl) (by kernel_rfl) (g_.keep hb_14) (by kernel_rfl)) ?_
  have hb_15 : w_11.heap[r]? = some (.cells #[.int .i64 ((place : Nat) : Int), .int .i64 ((n : Nat) : Int), .slice la L.length lc, .slice (some ⟨ck, 0, none⟩) ((chk L.length n n).length) kc, .int .i64 ((round : Nat) : Int), .bool told, .bool taken] 54 (0, 0)) := (s_12.keep hb_10)
  refine wk_read (show opD nR10w5_1 8 = some (some 21, .load 3 (.tmp 20), 3, some (2, false)) from by kernel_rfl) (by kernel_rfl) (.int .i64 ((round : Nat) : Int)) (fun w'_ g_ => x_load (b := r) (off := 4) (by kernel_rfl) (by kernel_rfl) (g_.keep hb_15) (by kernel_rfl)) ?_
  refine wk_pure (show opD nR10w5_1 9 = some (some 22, .binOp .lss 3 (.tmp 17) (.tmp 21) 3, 4, some (2, false)) from by kernel_rfl) (by kernel_rfl) (.bool true) (fun _ => y_lss (k := .i64) (a := ((pr : Nat) : Int)) (b := ((round : Nat) : Int)) (by kernel_rfl) (by kernel_rfl) (decide_eq_true (by omega))) ?_
  refine wk_pure (show opD nR10w5_1 10 = some (some 23, .pick (.tmp 15) (.const (.bool true)) (.tmp 22), 4, none) from by kernel_rfl) (by kernel_rfl) (.bool true) (fun _ => y_pick_f (by kernel_rfl) (by kernel_rfl)) ?_
  refine wk_pure (show opD nR10w5_1 11 = some (some 24, .move (.tmp 23), 4, none) from by kernel_rfl) (by kernel_rfl) (.bool true) (fun _ => y_move (by kernel_rfl)) ?_
  refine wk_skip (show opD nR10w5_1 12 = some (some 25, .fieldAddr 37 (.tmp 3) 0, 0, some (11, false)) from by kernel_rfl) (by kernel_rfl) ?_
  refine wk_skip (show opD nR10w5_1 14 = some (some 27, .move (.tmp 0), 27, some (11, false)) from by kernel_rfl) (by kernel_rfl) ?_
  refine wk_skip (show opD nR10w5_1 15 = some (some 28, .nilCheck (.tmp 27), 0, some (11, false)) from by kernel_rfl) (by kernel_rfl) ?_
  refine wk_skip (show opD nR10w5_1 16 = some (some 29, .fieldAddr 54 (.tmp 28) 4, 0, some (11, false)) from by kernel_rfl) (by kernel_rfl) ?_
  refine wk_skip (show opD nR10w5_1 13 = some (some 26, .load 3 (.tmp 25), 3, some (11, false)) from by kernel_rfl) (by kernel_rfl) ?_
  refine wk_skip (show opD nR10w5_1 17 = some (some 30, .load 3 (.tmp 29), 3, some (11, false)) from by kernel_rfl) (by kernel_rfl) ?_
  refine wk_skip (show opD nR10w5_1 18 = some (some 31, .binOp .eql 3 (.tmp 26) (.tmp 30) 3, 4, some (11, false)) from by kernel_rfl) (by kernel_rfl) ?_
  refine wk_skip (show opD nR10w5_1 19 = some (some 32, .move (.tmp 31), 4, some (11, false)) from by kernel_rfl) (by kernel_rfl) ?_
  refine wk_skip (show opD nR10w5_1 20 = some (some 33, .move (.tmp 0), 27, some (19, true)) from by kernel_rfl) (by kernel_rfl) ?_
  refine wk_skip (show opD nR10w5_1 21 = some (some 34, .nilCheck (.tmp 33), 0, some (19, true)) from by kernel_rfl) (by kernel_rfl) ?_
  refine wk_skip (show opD nR10w5_1 22 = some (some 35, .fieldAddr 54 (.tmp 34) 6, 0, some (19, true)) from by kernel_rfl) (by kernel_rfl) ?_
  refine wk_skip (show opD nR10w5_1 23 = some (some 36, .load 4 (.tmp 35), 4, some (19, true)) from by kernel_rfl) (by kernel_rfl) ?_
  refine wk_skip (show opD nR10w5_1 24 = some (some 37, .pick (.tmp 32) (.tmp 36) (.const (.bool false)), 4, some (11, false)) from by kernel_rfl) (by kernel_rfl) ?_
  refine wk_pure (show opD nR10w5_1 25 = some (some 38, .pick (.tmp 24) (.const (.bool true)) (.tmp 37), 4, none) from by kernel_rfl) (by kernel_rfl) (.bool true) (fun _ => y_pick_t (by kernel_rfl) (by kernel_rfl)) ?_
  refine wk_pure (show opD nR10w5_1 26 = some (some 12, .assign (.tmp 38), 4, none) from by kernel_rfl) (by kernel_rfl) (.bool true) (fun _ => y_assign (by kernel_rfl)) ?_
  refine wk_nil ?_
  refine thn_n ?_
  refine g_cond_t (o := .tmp 12) (x := nN10w5_8) (y := nN10w5_9) (by kernel_rfl) (by kernel_rfl) ?_
  refine g_seq (x := nN10w5_10) (y := nN10w5_11) (by kernel_rfl) ?_
  refine g_region (ops := nR10w5_2) (id := 2) (by kernel_rfl) [(0, .pure)] (by kernel_rfl) (by kernel_rfl) ?_
  refine wk_pure (show opD nR10w5_2 0 = some (some 4, .assign (.const (.int .i64 8)), 28, none) from by kernel_rfl) (by kernel_rfl) (.int .i64 8) (fun _ => y_assign (by kernel_rfl)) ?_
  refine wk_nil ?_
  refine thn_n ?_
  refine g_ret (by kernel_rfl) ?_
  refine blk_r ?_
  refine thn_r ?_
  refine ends1_r (v := .int .i64 8) rfl (by kernel_rfl) ?_
  exact hK _ (Ext.then (Ext.then (Ext.then (Ext.refl [] _) e_3 (fun _ h_ => absurd h_ List.not_mem_nil)) (sm_8.ext []) (fun _ h_ => absurd h_ List.not_mem_nil)) (s_12.ext []) (fun _ h_ => absurd h_ List.not_mem_nil)) (by omega)

noncomputable def nN10w6_0 : Code := (Try.f10.body).getD .skip
noncomputable def nN10w6_1 : Code := s1 nN10w6_0
noncomputable def nN10w6_2 : Code := s2 nN10w6_0
noncomputable def nR10w6_0 : Array Oper := rops nN10w6_1
noncomputable def nN10w6_3 : Code := s1 nN10w6_2
noncomputable def nN10w6_4 : Code := s2 nN10w6_2
noncomputable def nN10w6_5 : Code := s1 nN10w6_3
noncomputable def nN10w6_6 : Code := s1 nN10w6_5
noncomputable def nN10w6_7 : Code := s2 nN10w6_5
noncomputable def nR10w6_1 : Array Oper := rops nN10w6_6
noncomputable def nN10w6_8 : Code := s1 nN10w6_7
noncomputable def nN10w6_9 : Code := s2 nN10w6_7
noncomputable def nN10w6_10 : Code := s1 nN10w6_8
noncomputable def nN10w6_11 : Code := s2 nN10w6_8
noncomputable def nR10w6_2 : Array Oper := rops nN10w6_10
theorem get_again {r g ck place n : Nat} {L : List Int} {round : Nat} {told : Bool} {la : Option Addr} {lc kc : Nat} {rest crest : List Value} {w : World} (hR : RingAt w r g ck place n L round told true la lc kc rest crest) {pr pc wc : Nat} {wa : Option Addr} {W : List Int} (hd : round ≤ 2 * n - 3) (hn : 2 ≤ n) (hp : pr = round) {K : Value → World → Prop} (hK : ∀ w', Ext [] w w' → w'.heap.size = w.heap.size + 1 → K (.int .i64 8) w') : CallsV Try.prog 10 #[.pointer (some ⟨r, 0, none⟩), .agg #[.int .i64 ((pr : Nat) : Int), .int .i64 ((pc : Nat) : Int), .slice wa W.length wc]] w K := by
  refine callsV_of (c := nN10w6_0) Try.func10 (by kernel_rfl) (n := 139) (by kernel_rfl) ?_
  have hr := hR.hr
  have hl := hR.hl
  have hcc := hR.hc
  have hgr := hR.nr
  have hkr := hR.kr
  have hkg := hR.kg
  have h1 := hR.h1
  have h2 := hR.h2
  have h3 := hR.h3
  have h4 := hR.h4
  have h5 := hR.h5
  have hi := hR.hi
  have hgl := hR.gl
  have hcl := chk_len L.length n n
  have hll := hl.le
  have hrl := lt_of_block hr
  have hkl := hcc.lt
  refine g_seq (x := nN10w6_1) (y := nN10w6_2) (by kernel_rfl) ?_
  refine g_region (ops := nR10w6_0) (id := 0) (by kernel_rfl) [(0, .loud), (1, .pure)] (by kernel_rfl) (by kernel_rfl) ?_
  refine wk_box (cs := #[.int .i64 ((pr : Nat) : Int), .int .i64 ((pc : Nat) : Int), .slice wa W.length wc]) (show opD nR10w6_0 0 = some (some 3, .box 37 (.tmp 1), 0, none) from by kernel_rfl) (by kernel_rfl) (by kernel_rfl) (fun w_2 b_1 eq_4 e_3 sz_5 hb_6 => ⟨?_, ?_⟩)
  · exact trivial
  refine wk_pure (show opD nR10w6_0 1 = some (some 4, .assign (.const (.int .i64 0)), 28, none) from by kernel_rfl) (by kernel_rfl) (.int .i64 0) (fun _ => y_assign (by kernel_rfl)) ?_
  refine wk_nil ?_
  refine thn_n ?_
  refine g_seq (x := nN10w6_3) (y := nN10w6_4) (by kernel_rfl) ?_
  refine g_block (x := nN10w6_5) (id := 0) (by kernel_rfl) ?_
  refine g_seq (x := nN10w6_6) (y := nN10w6_7) (by kernel_rfl) ?_
  refine g_draw (ops := nR10w6_1) (id := 1) (by kernel_rfl) (fun _ _ => True) [(0, .pure), (1, .loud), (2, .pure), (3, .pure), (5, .pure), (6, .pure), (7, .pure), (4, .read), (8, .read), (9, .pure), (10, .pure), (11, .pure), (12, .pure), (14, .pure), (15, .pure), (16, .pure), (13, .read), (17, .read), (18, .pure), (19, .pure), (20, .pure), (21, .pure), (22, .pure), (23, .read), (24, .pure), (25, .pure), (26, .pure)] (by kernel_rfl) (by kernel_rfl) (fun _ => trivial) (fun w_7 sm_8 => ?_)
  have hsz_9 : w_7.heap.size = w_2.heap.size := by rw [sm_8.heap]
  refine wk_pure (show opD nR10w6_1 0 = some (some 13, .move (.tmp 0), 27, none) from by kernel_rfl) (by kernel_rfl) (.pointer (some ⟨r, 0, none⟩)) (fun _ => y_move (by kernel_rfl)) ?_
  have hb_10 : w_7.heap[r]? = some (.cells #[.int .i64 ((place : Nat) : Int), .int .i64 ((n : Nat) : Int), .slice la L.length lc, .slice (some ⟨ck, 0, none⟩) ((chk L.length n n).length) kc, .int .i64 ((round : Nat) : Int), .bool told, .bool true] 54 (0, 0)) := (sm_8.keep (e_3.keep hr List.not_mem_nil))
  refine wk_call (show opD nR10w6_1 1 = some (some 14, .call ⟨.value (.func 13), #[.tmp 13], #[27]⟩, 4, none) from by kernel_rfl) (by kernel_rfl) 13 #[.pointer (some ⟨r, 0, none⟩)] (x_call Try.func13 (by kernel_rfl) (c := (Try.f13.body).getD .skip) (by kernel_rfl) (by kernel_rfl) (by kernel_rfl)) (done_d hb_10 (by omega) (decide_eq_false (by omega)) (fun w_11 s_12 => ⟨?_, ?_⟩))
  · exact trivial
  have hsz_13 : w_11.heap.size = w_7.heap.size := by rw [s_12.heap]
  refine wk_pure (show opD nR10w6_1 2 = some (some 15, .move (.tmp 14), 4, none) from by kernel_rfl) (by kernel_rfl) (.bool false) (fun _ => y_move (by kernel_rfl)) ?_
  refine wk_pure (show opD nR10w6_1 3 = some (some 16, .fieldAddr 37 (.tmp 3) 0, 0, some (2, false)) from by kernel_rfl) (by kernel_rfl) (.pointer (some ⟨b_1, 0, none⟩)) (fun _ => x_fieldAddr (b := b_1) (off := 0) (o := 0) (by kernel_rfl) (by kernel_rfl)) ?_
  refine wk_pure (show opD nR10w6_1 5 = some (some 18, .move (.tmp 0), 27, some (2, false)) from by kernel_rfl) (by kernel_rfl) (.pointer (some ⟨r, 0, none⟩)) (fun _ => y_move (by kernel_rfl)) ?_
  refine wk_pure (show opD nR10w6_1 6 = some (some 19, .nilCheck (.tmp 18), 0, some (2, false)) from by kernel_rfl) (by kernel_rfl) (.pointer (some ⟨r, 0, none⟩)) (fun _ => x_nilCheck (by kernel_rfl)) ?_
  refine wk_pure (show opD nR10w6_1 7 = some (some 20, .fieldAddr 54 (.tmp 19) 4, 0, some (2, false)) from by kernel_rfl) (by kernel_rfl) (.pointer (some ⟨r, 4, none⟩)) (fun _ => x_fieldAddr (b := r) (off := 0) (o := 4) (by kernel_rfl) (by kernel_rfl)) ?_
  have hb_14 : w_11.heap[b_1]? = some (.cells #[.int .i64 ((pr : Nat) : Int), .int .i64 ((pc : Nat) : Int), .slice wa W.length wc] 37 (0, 0)) := (s_12.keep (sm_8.keep hb_6))
  refine wk_read (show opD nR10w6_1 4 = some (some 17, .load 3 (.tmp 16), 3, some (2, false)) from by kernel_rfl) (by kernel_rfl) (.int .i64 ((pr : Nat) : Int)) (fun w'_ g_ => x_load (b := b_1) (off := 0) (by kernel_rfl) (by kernel_rfl) (g_.keep hb_14) (by kernel_rfl)) ?_
  have hb_15 : w_11.heap[r]? = some (.cells #[.int .i64 ((place : Nat) : Int), .int .i64 ((n : Nat) : Int), .slice la L.length lc, .slice (some ⟨ck, 0, none⟩) ((chk L.length n n).length) kc, .int .i64 ((round : Nat) : Int), .bool told, .bool true] 54 (0, 0)) := (s_12.keep hb_10)
  refine wk_read (show opD nR10w6_1 8 = some (some 21, .load 3 (.tmp 20), 3, some (2, false)) from by kernel_rfl) (by kernel_rfl) (.int .i64 ((round : Nat) : Int)) (fun w'_ g_ => x_load (b := r) (off := 4) (by kernel_rfl) (by kernel_rfl) (g_.keep hb_15) (by kernel_rfl)) ?_
  refine wk_pure (show opD nR10w6_1 9 = some (some 22, .binOp .lss 3 (.tmp 17) (.tmp 21) 3, 4, some (2, false)) from by kernel_rfl) (by kernel_rfl) (.bool false) (fun _ => y_lss (k := .i64) (a := ((pr : Nat) : Int)) (b := ((round : Nat) : Int)) (by kernel_rfl) (by kernel_rfl) (decide_eq_false (by omega))) ?_
  refine wk_pure (show opD nR10w6_1 10 = some (some 23, .pick (.tmp 15) (.const (.bool true)) (.tmp 22), 4, none) from by kernel_rfl) (by kernel_rfl) (.bool false) (fun _ => y_pick_f (by kernel_rfl) (by kernel_rfl)) ?_
  refine wk_pure (show opD nR10w6_1 11 = some (some 24, .move (.tmp 23), 4, none) from by kernel_rfl) (by kernel_rfl) (.bool false) (fun _ => y_move (by kernel_rfl)) ?_
  refine wk_pure (show opD nR10w6_1 12 = some (some 25, .fieldAddr 37 (.tmp 3) 0, 0, some (11, false)) from by kernel_rfl) (by kernel_rfl) (.pointer (some ⟨b_1, 0, none⟩)) (fun _ => x_fieldAddr (b := b_1) (off := 0) (o := 0) (by kernel_rfl) (by kernel_rfl)) ?_
  refine wk_pure (show opD nR10w6_1 14 = some (some 27, .move (.tmp 0), 27, some (11, false)) from by kernel_rfl) (by kernel_rfl) (.pointer (some ⟨r, 0, none⟩)) (fun _ => y_move (by kernel_rfl)) ?_
  refine wk_pure (show opD nR10w6_1 15 = some (some 28, .nilCheck (.tmp 27), 0, some (11, false)) from by kernel_rfl) (by kernel_rfl) (.pointer (some ⟨r, 0, none⟩)) (fun _ => x_nilCheck (by kernel_rfl)) ?_
  refine wk_pure (show opD nR10w6_1 16 = some (some 29, .fieldAddr 54 (.tmp 28) 4, 0, some (11, false)) from by kernel_rfl) (by kernel_rfl) (.pointer (some ⟨r, 4, none⟩)) (fun _ => x_fieldAddr (b := r) (off := 0) (o := 4) (by kernel_rfl) (by kernel_rfl)) ?_
  refine wk_read (show opD nR10w6_1 13 = some (some 26, .load 3 (.tmp 25), 3, some (11, false)) from by kernel_rfl) (by kernel_rfl) (.int .i64 ((pr : Nat) : Int)) (fun w'_ g_ => x_load (b := b_1) (off := 0) (by kernel_rfl) (by kernel_rfl) (g_.keep hb_14) (by kernel_rfl)) ?_
  refine wk_read (show opD nR10w6_1 17 = some (some 30, .load 3 (.tmp 29), 3, some (11, false)) from by kernel_rfl) (by kernel_rfl) (.int .i64 ((round : Nat) : Int)) (fun w'_ g_ => x_load (b := r) (off := 4) (by kernel_rfl) (by kernel_rfl) (g_.keep hb_15) (by kernel_rfl)) ?_
  refine wk_pure (show opD nR10w6_1 18 = some (some 31, .binOp .eql 3 (.tmp 26) (.tmp 30) 3, 4, some (11, false)) from by kernel_rfl) (by kernel_rfl) (.bool true) (fun _ => y_eql (k := .i64) (a := ((pr : Nat) : Int)) (b := ((round : Nat) : Int)) (by kernel_rfl) (by kernel_rfl) (decide_eq_true (by omega))) ?_
  refine wk_pure (show opD nR10w6_1 19 = some (some 32, .move (.tmp 31), 4, some (11, false)) from by kernel_rfl) (by kernel_rfl) (.bool true) (fun _ => y_move (by kernel_rfl)) ?_
  refine wk_pure (show opD nR10w6_1 20 = some (some 33, .move (.tmp 0), 27, some (19, true)) from by kernel_rfl) (by kernel_rfl) (.pointer (some ⟨r, 0, none⟩)) (fun _ => y_move (by kernel_rfl)) ?_
  refine wk_pure (show opD nR10w6_1 21 = some (some 34, .nilCheck (.tmp 33), 0, some (19, true)) from by kernel_rfl) (by kernel_rfl) (.pointer (some ⟨r, 0, none⟩)) (fun _ => x_nilCheck (by kernel_rfl)) ?_
  refine wk_pure (show opD nR10w6_1 22 = some (some 35, .fieldAddr 54 (.tmp 34) 6, 0, some (19, true)) from by kernel_rfl) (by kernel_rfl) (.pointer (some ⟨r, 6, none⟩)) (fun _ => x_fieldAddr (b := r) (off := 0) (o := 6) (by kernel_rfl) (by kernel_rfl)) ?_
  refine wk_read (show opD nR10w6_1 23 = some (some 36, .load 4 (.tmp 35), 4, some (19, true)) from by kernel_rfl) (by kernel_rfl) (.bool true) (fun w'_ g_ => x_load (b := r) (off := 6) (by kernel_rfl) (by kernel_rfl) (g_.keep hb_15) (by kernel_rfl)) ?_
  refine wk_pure (show opD nR10w6_1 24 = some (some 37, .pick (.tmp 32) (.tmp 36) (.const (.bool false)), 4, some (11, false)) from by kernel_rfl) (by kernel_rfl) (.bool true) (fun _ => y_pick_t (by kernel_rfl) (by kernel_rfl)) ?_
  refine wk_pure (show opD nR10w6_1 25 = some (some 38, .pick (.tmp 24) (.const (.bool true)) (.tmp 37), 4, none) from by kernel_rfl) (by kernel_rfl) (.bool true) (fun _ => y_pick_f (by kernel_rfl) (by kernel_rfl)) ?_
  refine wk_pure (show opD nR10w6_1 26 = some (some 12, .assign (.tmp 38), 4, none) from by kernel_rfl) (by kernel_rfl) (.bool true) (fun _ => y_assign (by kernel_rfl)) ?_
  refine wk_nil ?_
  refine thn_n ?_
  refine g_cond_t (o := .tmp 12) (x := nN10w6_8) (y := nN10w6_9) (by kernel_rfl) (by kernel_rfl) ?_
  refine g_seq (x := nN10w6_10) (y := nN10w6_11) (by kernel_rfl) ?_
  refine g_region (ops := nR10w6_2) (id := 2) (by kernel_rfl) [(0, .pure)] (by kernel_rfl) (by kernel_rfl) ?_
  refine wk_pure (show opD nR10w6_2 0 = some (some 4, .assign (.const (.int .i64 8)), 28, none) from by kernel_rfl) (by kernel_rfl) (.int .i64 8) (fun _ => y_assign (by kernel_rfl)) ?_
  refine wk_nil ?_
  refine thn_n ?_
  refine g_ret (by kernel_rfl) ?_
  refine blk_r ?_
  refine thn_r ?_
  refine ends1_r (v := .int .i64 8) rfl (by kernel_rfl) ?_
  exact hK _ (Ext.then (Ext.then (Ext.then (Ext.refl [] _) e_3 (fun _ h_ => absurd h_ List.not_mem_nil)) (sm_8.ext []) (fun _ h_ => absurd h_ List.not_mem_nil)) (s_12.ext []) (fun _ h_ => absurd h_ List.not_mem_nil)) (by omega)

noncomputable def nN10w7_0 : Code := (Try.f10.body).getD .skip
noncomputable def nN10w7_1 : Code := s1 nN10w7_0
noncomputable def nN10w7_2 : Code := s2 nN10w7_0
noncomputable def nR10w7_0 : Array Oper := rops nN10w7_1
noncomputable def nN10w7_3 : Code := s1 nN10w7_2
noncomputable def nN10w7_4 : Code := s2 nN10w7_2
noncomputable def nN10w7_5 : Code := s1 nN10w7_3
noncomputable def nN10w7_6 : Code := s1 nN10w7_5
noncomputable def nN10w7_7 : Code := s2 nN10w7_5
noncomputable def nR10w7_1 : Array Oper := rops nN10w7_6
noncomputable def nN10w7_8 : Code := s1 nN10w7_7
noncomputable def nN10w7_9 : Code := s2 nN10w7_7
noncomputable def nN10w7_10 : Code := s1 nN10w7_9
noncomputable def nN10w7_11 : Code := s2 nN10w7_9
noncomputable def nR10w7_3 : Array Oper := rops nN10w7_10
noncomputable def nN10w7_12 : Code := s1 nN10w7_11
noncomputable def nN10w7_13 : Code := s2 nN10w7_11
noncomputable def nN10w7_14 : Code := s1 nN10w7_12
noncomputable def nN10w7_15 : Code := s2 nN10w7_12
noncomputable def nR10w7_4 : Array Oper := rops nN10w7_14
theorem get_wait {r g ck place n : Nat} {L : List Int} {round : Nat} {told taken : Bool} {la : Option Addr} {lc kc : Nat} {rest crest : List Value} {w : World} (hR : RingAt w r g ck place n L round told taken la lc kc rest crest) {pr pc wc : Nat} {wa : Option Addr} {W : List Int} (hd : round ≤ 2 * n - 3) (hn : 2 ≤ n) (hp : round < pr) {K : Value → World → Prop} (hK : ∀ w', Ext [] w w' → w'.heap.size = w.heap.size + 1 → K (.int .i64 10) w') : CallsV Try.prog 10 #[.pointer (some ⟨r, 0, none⟩), .agg #[.int .i64 ((pr : Nat) : Int), .int .i64 ((pc : Nat) : Int), .slice wa W.length wc]] w K := by
  refine callsV_of (c := nN10w7_0) Try.func10 (by kernel_rfl) (n := 139) (by kernel_rfl) ?_
  have hr := hR.hr
  have hl := hR.hl
  have hcc := hR.hc
  have hgr := hR.nr
  have hkr := hR.kr
  have hkg := hR.kg
  have h1 := hR.h1
  have h2 := hR.h2
  have h3 := hR.h3
  have h4 := hR.h4
  have h5 := hR.h5
  have hi := hR.hi
  have hgl := hR.gl
  have hcl := chk_len L.length n n
  have hll := hl.le
  have hrl := lt_of_block hr
  have hkl := hcc.lt
  refine g_seq (x := nN10w7_1) (y := nN10w7_2) (by kernel_rfl) ?_
  refine g_region (ops := nR10w7_0) (id := 0) (by kernel_rfl) [(0, .loud), (1, .pure)] (by kernel_rfl) (by kernel_rfl) ?_
  refine wk_box (cs := #[.int .i64 ((pr : Nat) : Int), .int .i64 ((pc : Nat) : Int), .slice wa W.length wc]) (show opD nR10w7_0 0 = some (some 3, .box 37 (.tmp 1), 0, none) from by kernel_rfl) (by kernel_rfl) (by kernel_rfl) (fun w_2 b_1 eq_4 e_3 sz_5 hb_6 => ⟨?_, ?_⟩)
  · exact trivial
  refine wk_pure (show opD nR10w7_0 1 = some (some 4, .assign (.const (.int .i64 0)), 28, none) from by kernel_rfl) (by kernel_rfl) (.int .i64 0) (fun _ => y_assign (by kernel_rfl)) ?_
  refine wk_nil ?_
  refine thn_n ?_
  refine g_seq (x := nN10w7_3) (y := nN10w7_4) (by kernel_rfl) ?_
  refine g_block (x := nN10w7_5) (id := 0) (by kernel_rfl) ?_
  refine g_seq (x := nN10w7_6) (y := nN10w7_7) (by kernel_rfl) ?_
  refine g_draw (ops := nR10w7_1) (id := 1) (by kernel_rfl) (fun _ _ => True) [(0, .pure), (1, .loud), (2, .pure), (3, .pure), (5, .pure), (6, .pure), (7, .pure), (4, .read), (8, .read), (9, .pure), (10, .pure), (11, .pure), (12, .pure), (14, .pure), (15, .pure), (16, .pure), (13, .read), (17, .read), (18, .pure), (19, .pure), (20, .pure), (21, .pure), (22, .pure), (23, .read), (24, .pure), (25, .pure), (26, .pure)] (by kernel_rfl) (by kernel_rfl) (fun _ => trivial) (fun w_7 sm_8 => ?_)
  have hsz_9 : w_7.heap.size = w_2.heap.size := by rw [sm_8.heap]
  refine wk_pure (show opD nR10w7_1 0 = some (some 13, .move (.tmp 0), 27, none) from by kernel_rfl) (by kernel_rfl) (.pointer (some ⟨r, 0, none⟩)) (fun _ => y_move (by kernel_rfl)) ?_
  have hb_10 : w_7.heap[r]? = some (.cells #[.int .i64 ((place : Nat) : Int), .int .i64 ((n : Nat) : Int), .slice la L.length lc, .slice (some ⟨ck, 0, none⟩) ((chk L.length n n).length) kc, .int .i64 ((round : Nat) : Int), .bool told, .bool taken] 54 (0, 0)) := (sm_8.keep (e_3.keep hr List.not_mem_nil))
  refine wk_call (show opD nR10w7_1 1 = some (some 14, .call ⟨.value (.func 13), #[.tmp 13], #[27]⟩, 4, none) from by kernel_rfl) (by kernel_rfl) 13 #[.pointer (some ⟨r, 0, none⟩)] (x_call Try.func13 (by kernel_rfl) (c := (Try.f13.body).getD .skip) (by kernel_rfl) (by kernel_rfl) (by kernel_rfl)) (done_d hb_10 (by omega) (decide_eq_false (by omega)) (fun w_11 s_12 => ⟨?_, ?_⟩))
  · exact trivial
  have hsz_13 : w_11.heap.size = w_7.heap.size := by rw [s_12.heap]
  refine wk_pure (show opD nR10w7_1 2 = some (some 15, .move (.tmp 14), 4, none) from by kernel_rfl) (by kernel_rfl) (.bool false) (fun _ => y_move (by kernel_rfl)) ?_
  refine wk_pure (show opD nR10w7_1 3 = some (some 16, .fieldAddr 37 (.tmp 3) 0, 0, some (2, false)) from by kernel_rfl) (by kernel_rfl) (.pointer (some ⟨b_1, 0, none⟩)) (fun _ => x_fieldAddr (b := b_1) (off := 0) (o := 0) (by kernel_rfl) (by kernel_rfl)) ?_
  refine wk_pure (show opD nR10w7_1 5 = some (some 18, .move (.tmp 0), 27, some (2, false)) from by kernel_rfl) (by kernel_rfl) (.pointer (some ⟨r, 0, none⟩)) (fun _ => y_move (by kernel_rfl)) ?_
  refine wk_pure (show opD nR10w7_1 6 = some (some 19, .nilCheck (.tmp 18), 0, some (2, false)) from by kernel_rfl) (by kernel_rfl) (.pointer (some ⟨r, 0, none⟩)) (fun _ => x_nilCheck (by kernel_rfl)) ?_
  refine wk_pure (show opD nR10w7_1 7 = some (some 20, .fieldAddr 54 (.tmp 19) 4, 0, some (2, false)) from by kernel_rfl) (by kernel_rfl) (.pointer (some ⟨r, 4, none⟩)) (fun _ => x_fieldAddr (b := r) (off := 0) (o := 4) (by kernel_rfl) (by kernel_rfl)) ?_
  have hb_14 : w_11.heap[b_1]? = some (.cells #[.int .i64 ((pr : Nat) : Int), .int .i64 ((pc : Nat) : Int), .slice wa W.length wc] 37 (0, 0)) := (s_12.keep (sm_8.keep hb_6))
  refine wk_read (show opD nR10w7_1 4 = some (some 17, .load 3 (.tmp 16), 3, some (2, false)) from by kernel_rfl) (by kernel_rfl) (.int .i64 ((pr : Nat) : Int)) (fun w'_ g_ => x_load (b := b_1) (off := 0) (by kernel_rfl) (by kernel_rfl) (g_.keep hb_14) (by kernel_rfl)) ?_
  have hb_15 : w_11.heap[r]? = some (.cells #[.int .i64 ((place : Nat) : Int), .int .i64 ((n : Nat) : Int), .slice la L.length lc, .slice (some ⟨ck, 0, none⟩) ((chk L.length n n).length) kc, .int .i64 ((round : Nat) : Int), .bool told, .bool taken] 54 (0, 0)) := (s_12.keep hb_10)
  refine wk_read (show opD nR10w7_1 8 = some (some 21, .load 3 (.tmp 20), 3, some (2, false)) from by kernel_rfl) (by kernel_rfl) (.int .i64 ((round : Nat) : Int)) (fun w'_ g_ => x_load (b := r) (off := 4) (by kernel_rfl) (by kernel_rfl) (g_.keep hb_15) (by kernel_rfl)) ?_
  refine wk_pure (show opD nR10w7_1 9 = some (some 22, .binOp .lss 3 (.tmp 17) (.tmp 21) 3, 4, some (2, false)) from by kernel_rfl) (by kernel_rfl) (.bool false) (fun _ => y_lss (k := .i64) (a := ((pr : Nat) : Int)) (b := ((round : Nat) : Int)) (by kernel_rfl) (by kernel_rfl) (decide_eq_false (by omega))) ?_
  refine wk_pure (show opD nR10w7_1 10 = some (some 23, .pick (.tmp 15) (.const (.bool true)) (.tmp 22), 4, none) from by kernel_rfl) (by kernel_rfl) (.bool false) (fun _ => y_pick_f (by kernel_rfl) (by kernel_rfl)) ?_
  refine wk_pure (show opD nR10w7_1 11 = some (some 24, .move (.tmp 23), 4, none) from by kernel_rfl) (by kernel_rfl) (.bool false) (fun _ => y_move (by kernel_rfl)) ?_
  refine wk_pure (show opD nR10w7_1 12 = some (some 25, .fieldAddr 37 (.tmp 3) 0, 0, some (11, false)) from by kernel_rfl) (by kernel_rfl) (.pointer (some ⟨b_1, 0, none⟩)) (fun _ => x_fieldAddr (b := b_1) (off := 0) (o := 0) (by kernel_rfl) (by kernel_rfl)) ?_
  refine wk_pure (show opD nR10w7_1 14 = some (some 27, .move (.tmp 0), 27, some (11, false)) from by kernel_rfl) (by kernel_rfl) (.pointer (some ⟨r, 0, none⟩)) (fun _ => y_move (by kernel_rfl)) ?_
  refine wk_pure (show opD nR10w7_1 15 = some (some 28, .nilCheck (.tmp 27), 0, some (11, false)) from by kernel_rfl) (by kernel_rfl) (.pointer (some ⟨r, 0, none⟩)) (fun _ => x_nilCheck (by kernel_rfl)) ?_
  refine wk_pure (show opD nR10w7_1 16 = some (some 29, .fieldAddr 54 (.tmp 28) 4, 0, some (11, false)) from by kernel_rfl) (by kernel_rfl) (.pointer (some ⟨r, 4, none⟩)) (fun _ => x_fieldAddr (b := r) (off := 0) (o := 4) (by kernel_rfl) (by kernel_rfl)) ?_
  refine wk_read (show opD nR10w7_1 13 = some (some 26, .load 3 (.tmp 25), 3, some (11, false)) from by kernel_rfl) (by kernel_rfl) (.int .i64 ((pr : Nat) : Int)) (fun w'_ g_ => x_load (b := b_1) (off := 0) (by kernel_rfl) (by kernel_rfl) (g_.keep hb_14) (by kernel_rfl)) ?_
  refine wk_read (show opD nR10w7_1 17 = some (some 30, .load 3 (.tmp 29), 3, some (11, false)) from by kernel_rfl) (by kernel_rfl) (.int .i64 ((round : Nat) : Int)) (fun w'_ g_ => x_load (b := r) (off := 4) (by kernel_rfl) (by kernel_rfl) (g_.keep hb_15) (by kernel_rfl)) ?_
  refine wk_pure (show opD nR10w7_1 18 = some (some 31, .binOp .eql 3 (.tmp 26) (.tmp 30) 3, 4, some (11, false)) from by kernel_rfl) (by kernel_rfl) (.bool false) (fun _ => y_eql (k := .i64) (a := ((pr : Nat) : Int)) (b := ((round : Nat) : Int)) (by kernel_rfl) (by kernel_rfl) (decide_eq_false (by omega))) ?_
  refine wk_pure (show opD nR10w7_1 19 = some (some 32, .move (.tmp 31), 4, some (11, false)) from by kernel_rfl) (by kernel_rfl) (.bool false) (fun _ => y_move (by kernel_rfl)) ?_
  refine wk_skip (show opD nR10w7_1 20 = some (some 33, .move (.tmp 0), 27, some (19, true)) from by kernel_rfl) (by kernel_rfl) ?_
  refine wk_skip (show opD nR10w7_1 21 = some (some 34, .nilCheck (.tmp 33), 0, some (19, true)) from by kernel_rfl) (by kernel_rfl) ?_
  refine wk_skip (show opD nR10w7_1 22 = some (some 35, .fieldAddr 54 (.tmp 34) 6, 0, some (19, true)) from by kernel_rfl) (by kernel_rfl) ?_
  refine wk_skip (show opD nR10w7_1 23 = some (some 36, .load 4 (.tmp 35), 4, some (19, true)) from by kernel_rfl) (by kernel_rfl) ?_
  refine wk_pure (show opD nR10w7_1 24 = some (some 37, .pick (.tmp 32) (.tmp 36) (.const (.bool false)), 4, some (11, false)) from by kernel_rfl) (by kernel_rfl) (.bool false) (fun _ => y_pick_f (by kernel_rfl) (by kernel_rfl)) ?_
  refine wk_pure (show opD nR10w7_1 25 = some (some 38, .pick (.tmp 24) (.const (.bool true)) (.tmp 37), 4, none) from by kernel_rfl) (by kernel_rfl) (.bool false) (fun _ => y_pick_f (by kernel_rfl) (by kernel_rfl)) ?_
  refine wk_pure (show opD nR10w7_1 26 = some (some 12, .assign (.tmp 38), 4, none) from by kernel_rfl) (by kernel_rfl) (.bool false) (fun _ => y_assign (by kernel_rfl)) ?_
  refine wk_nil ?_
  refine thn_n ?_
  refine g_cond_f (o := .tmp 12) (x := nN10w7_8) (y := nN10w7_9) (by kernel_rfl) (by kernel_rfl) ?_
  refine g_seq (x := nN10w7_10) (y := nN10w7_11) (by kernel_rfl) ?_
  refine g_draw (ops := nR10w7_3) (id := 3) (by kernel_rfl) (fun _ _ => True) [(0, .pure), (2, .pure), (3, .pure), (4, .pure), (1, .read), (5, .read), (6, .pure), (7, .pure)] (by kernel_rfl) (by kernel_rfl) (fun _ => trivial) (fun w_16 sm_17 => ?_)
  have hsz_18 : w_16.heap.size = w_11.heap.size := by rw [sm_17.heap]
  refine wk_pure (show opD nR10w7_3 0 = some (some 40, .fieldAddr 37 (.tmp 3) 0, 0, none) from by kernel_rfl) (by kernel_rfl) (.pointer (some ⟨b_1, 0, none⟩)) (fun _ => x_fieldAddr (b := b_1) (off := 0) (o := 0) (by kernel_rfl) (by kernel_rfl)) ?_
  refine wk_pure (show opD nR10w7_3 2 = some (some 42, .move (.tmp 0), 27, none) from by kernel_rfl) (by kernel_rfl) (.pointer (some ⟨r, 0, none⟩)) (fun _ => y_move (by kernel_rfl)) ?_
  refine wk_pure (show opD nR10w7_3 3 = some (some 43, .nilCheck (.tmp 42), 0, none) from by kernel_rfl) (by kernel_rfl) (.pointer (some ⟨r, 0, none⟩)) (fun _ => x_nilCheck (by kernel_rfl)) ?_
  refine wk_pure (show opD nR10w7_3 4 = some (some 44, .fieldAddr 54 (.tmp 43) 4, 0, none) from by kernel_rfl) (by kernel_rfl) (.pointer (some ⟨r, 4, none⟩)) (fun _ => x_fieldAddr (b := r) (off := 0) (o := 4) (by kernel_rfl) (by kernel_rfl)) ?_
  have hb_19 : w_16.heap[b_1]? = some (.cells #[.int .i64 ((pr : Nat) : Int), .int .i64 ((pc : Nat) : Int), .slice wa W.length wc] 37 (0, 0)) := (sm_17.keep hb_14)
  refine wk_read (show opD nR10w7_3 1 = some (some 41, .load 3 (.tmp 40), 3, none) from by kernel_rfl) (by kernel_rfl) (.int .i64 ((pr : Nat) : Int)) (fun w'_ g_ => x_load (b := b_1) (off := 0) (by kernel_rfl) (by kernel_rfl) (g_.keep hb_19) (by kernel_rfl)) ?_
  have hb_20 : w_16.heap[r]? = some (.cells #[.int .i64 ((place : Nat) : Int), .int .i64 ((n : Nat) : Int), .slice la L.length lc, .slice (some ⟨ck, 0, none⟩) ((chk L.length n n).length) kc, .int .i64 ((round : Nat) : Int), .bool told, .bool taken] 54 (0, 0)) := (sm_17.keep hb_15)
  refine wk_read (show opD nR10w7_3 5 = some (some 45, .load 3 (.tmp 44), 3, none) from by kernel_rfl) (by kernel_rfl) (.int .i64 ((round : Nat) : Int)) (fun w'_ g_ => x_load (b := r) (off := 4) (by kernel_rfl) (by kernel_rfl) (g_.keep hb_20) (by kernel_rfl)) ?_
  refine wk_pure (show opD nR10w7_3 6 = some (some 46, .binOp .gtr 3 (.tmp 41) (.tmp 45) 3, 4, none) from by kernel_rfl) (by kernel_rfl) (.bool true) (fun _ => y_gtr (k := .i64) (a := ((pr : Nat) : Int)) (b := ((round : Nat) : Int)) (by kernel_rfl) (by kernel_rfl) (decide_eq_true (by omega))) ?_
  refine wk_pure (show opD nR10w7_3 7 = some (some 39, .assign (.tmp 46), 4, none) from by kernel_rfl) (by kernel_rfl) (.bool true) (fun _ => y_assign (by kernel_rfl)) ?_
  refine wk_nil ?_
  refine thn_n ?_
  refine g_cond_t (o := .tmp 39) (x := nN10w7_12) (y := nN10w7_13) (by kernel_rfl) (by kernel_rfl) ?_
  refine g_seq (x := nN10w7_14) (y := nN10w7_15) (by kernel_rfl) ?_
  refine g_region (ops := nR10w7_4) (id := 4) (by kernel_rfl) [(0, .pure)] (by kernel_rfl) (by kernel_rfl) ?_
  refine wk_pure (show opD nR10w7_4 0 = some (some 4, .assign (.const (.int .i64 10)), 28, none) from by kernel_rfl) (by kernel_rfl) (.int .i64 10) (fun _ => y_assign (by kernel_rfl)) ?_
  refine wk_nil ?_
  refine thn_n ?_
  refine g_ret (by kernel_rfl) ?_
  refine blk_r ?_
  refine thn_r ?_
  refine ends1_r (v := .int .i64 10) rfl (by kernel_rfl) ?_
  exact hK _ (Ext.then (Ext.then (Ext.then (Ext.then (Ext.refl [] _) e_3 (fun _ h_ => absurd h_ List.not_mem_nil)) (sm_8.ext []) (fun _ h_ => absurd h_ List.not_mem_nil)) (s_12.ext []) (fun _ h_ => absurd h_ List.not_mem_nil)) (sm_17.ext []) (fun _ h_ => absurd h_ List.not_mem_nil)) (by omega)

noncomputable def nN10w8_0 : Code := (Try.f10.body).getD .skip
noncomputable def nN10w8_1 : Code := s1 nN10w8_0
noncomputable def nN10w8_2 : Code := s2 nN10w8_0
noncomputable def nR10w8_0 : Array Oper := rops nN10w8_1
noncomputable def nN10w8_3 : Code := s1 nN10w8_2
noncomputable def nN10w8_4 : Code := s2 nN10w8_2
noncomputable def nN10w8_5 : Code := s1 nN10w8_3
noncomputable def nN10w8_6 : Code := s1 nN10w8_5
noncomputable def nN10w8_7 : Code := s2 nN10w8_5
noncomputable def nR10w8_1 : Array Oper := rops nN10w8_6
noncomputable def nN10w8_8 : Code := s1 nN10w8_7
noncomputable def nN10w8_9 : Code := s2 nN10w8_7
noncomputable def nN10w8_10 : Code := s1 nN10w8_9
noncomputable def nN10w8_11 : Code := s2 nN10w8_9
noncomputable def nR10w8_3 : Array Oper := rops nN10w8_10
noncomputable def nN10w8_12 : Code := s1 nN10w8_11
noncomputable def nN10w8_13 : Code := s2 nN10w8_11
noncomputable def nN10w8_14 : Code := s1 nN10w8_4
noncomputable def nN10w8_15 : Code := s2 nN10w8_4
noncomputable def nR10w8_5 : Array Oper := rops nN10w8_14
noncomputable def nN10w8_16 : Code := s1 nN10w8_15
noncomputable def nN10w8_17 : Code := s2 nN10w8_15
noncomputable def nR10w8_6 : Array Oper := rops nN10w8_16
noncomputable def nN10w8_18 : Code := s1 nN10w8_17
noncomputable def nN10w8_19 : Code := s2 nN10w8_17
noncomputable def nN10w8_20 : Code := s1 nN10w8_18
noncomputable def nN10w8_21 : Code := s2 nN10w8_18
noncomputable def nR10w8_7 : Array Oper := rops nN10w8_20
noncomputable def nN10w8_22 : Code := s1 nN10w8_21
noncomputable def nN10w8_23 : Code := s2 nN10w8_21
noncomputable def nN10w8_24 : Code := s1 nN10w8_22
noncomputable def nN10w8_25 : Code := s2 nN10w8_22
noncomputable def nR10w8_8 : Array Oper := rops nN10w8_24
theorem get_chunk {r g ck place n : Nat} {L : List Int} {round : Nat} {told : Bool} {la : Option Addr} {lc kc : Nat} {rest crest : List Value} {w : World} (hR : RingAt w r g ck place n L round told false la lc kc rest crest) {pr pc wc : Nat} {wa : Option Addr} {W : List Int} (hd : round ≤ 2 * n - 3) (hn : 2 ≤ n) (hp : pr = round) (hc : pc ≠ (sendsN ((place + n - 1) % n) n round)) {K : Value → World → Prop} (hK : ∀ w', Ext [] w w' → w'.heap.size = w.heap.size + 1 → K (.int .i64 3) w') : CallsV Try.prog 10 #[.pointer (some ⟨r, 0, none⟩), .agg #[.int .i64 ((pr : Nat) : Int), .int .i64 ((pc : Nat) : Int), .slice wa W.length wc]] w K := by
  refine callsV_of (c := nN10w8_0) Try.func10 (by kernel_rfl) (n := 139) (by kernel_rfl) ?_
  have hr := hR.hr
  have hl := hR.hl
  have hcc := hR.hc
  have hgr := hR.nr
  have hkr := hR.kr
  have hkg := hR.kg
  have h1 := hR.h1
  have h2 := hR.h2
  have h3 := hR.h3
  have h4 := hR.h4
  have h5 := hR.h5
  have hi := hR.hi
  have hgl := hR.gl
  have hcl := chk_len L.length n n
  have hll := hl.le
  have hrl := lt_of_block hr
  have hkl := hcc.lt
  refine g_seq (x := nN10w8_1) (y := nN10w8_2) (by kernel_rfl) ?_
  refine g_region (ops := nR10w8_0) (id := 0) (by kernel_rfl) [(0, .loud), (1, .pure)] (by kernel_rfl) (by kernel_rfl) ?_
  refine wk_box (cs := #[.int .i64 ((pr : Nat) : Int), .int .i64 ((pc : Nat) : Int), .slice wa W.length wc]) (show opD nR10w8_0 0 = some (some 3, .box 37 (.tmp 1), 0, none) from by kernel_rfl) (by kernel_rfl) (by kernel_rfl) (fun w_2 b_1 eq_4 e_3 sz_5 hb_6 => ⟨?_, ?_⟩)
  · exact trivial
  refine wk_pure (show opD nR10w8_0 1 = some (some 4, .assign (.const (.int .i64 0)), 28, none) from by kernel_rfl) (by kernel_rfl) (.int .i64 0) (fun _ => y_assign (by kernel_rfl)) ?_
  refine wk_nil ?_
  refine thn_n ?_
  refine g_seq (x := nN10w8_3) (y := nN10w8_4) (by kernel_rfl) ?_
  refine g_block (x := nN10w8_5) (id := 0) (by kernel_rfl) ?_
  refine g_seq (x := nN10w8_6) (y := nN10w8_7) (by kernel_rfl) ?_
  refine g_draw (ops := nR10w8_1) (id := 1) (by kernel_rfl) (fun _ _ => True) [(0, .pure), (1, .loud), (2, .pure), (3, .pure), (5, .pure), (6, .pure), (7, .pure), (4, .read), (8, .read), (9, .pure), (10, .pure), (11, .pure), (12, .pure), (14, .pure), (15, .pure), (16, .pure), (13, .read), (17, .read), (18, .pure), (19, .pure), (20, .pure), (21, .pure), (22, .pure), (23, .read), (24, .pure), (25, .pure), (26, .pure)] (by kernel_rfl) (by kernel_rfl) (fun _ => trivial) (fun w_7 sm_8 => ?_)
  have hsz_9 : w_7.heap.size = w_2.heap.size := by rw [sm_8.heap]
  refine wk_pure (show opD nR10w8_1 0 = some (some 13, .move (.tmp 0), 27, none) from by kernel_rfl) (by kernel_rfl) (.pointer (some ⟨r, 0, none⟩)) (fun _ => y_move (by kernel_rfl)) ?_
  have hb_10 : w_7.heap[r]? = some (.cells #[.int .i64 ((place : Nat) : Int), .int .i64 ((n : Nat) : Int), .slice la L.length lc, .slice (some ⟨ck, 0, none⟩) ((chk L.length n n).length) kc, .int .i64 ((round : Nat) : Int), .bool told, .bool false] 54 (0, 0)) := (sm_8.keep (e_3.keep hr List.not_mem_nil))
  refine wk_call (show opD nR10w8_1 1 = some (some 14, .call ⟨.value (.func 13), #[.tmp 13], #[27]⟩, 4, none) from by kernel_rfl) (by kernel_rfl) 13 #[.pointer (some ⟨r, 0, none⟩)] (x_call Try.func13 (by kernel_rfl) (c := (Try.f13.body).getD .skip) (by kernel_rfl) (by kernel_rfl) (by kernel_rfl)) (done_d hb_10 (by omega) (decide_eq_false (by omega)) (fun w_11 s_12 => ⟨?_, ?_⟩))
  · exact trivial
  have hsz_13 : w_11.heap.size = w_7.heap.size := by rw [s_12.heap]
  refine wk_pure (show opD nR10w8_1 2 = some (some 15, .move (.tmp 14), 4, none) from by kernel_rfl) (by kernel_rfl) (.bool false) (fun _ => y_move (by kernel_rfl)) ?_
  refine wk_pure (show opD nR10w8_1 3 = some (some 16, .fieldAddr 37 (.tmp 3) 0, 0, some (2, false)) from by kernel_rfl) (by kernel_rfl) (.pointer (some ⟨b_1, 0, none⟩)) (fun _ => x_fieldAddr (b := b_1) (off := 0) (o := 0) (by kernel_rfl) (by kernel_rfl)) ?_
  refine wk_pure (show opD nR10w8_1 5 = some (some 18, .move (.tmp 0), 27, some (2, false)) from by kernel_rfl) (by kernel_rfl) (.pointer (some ⟨r, 0, none⟩)) (fun _ => y_move (by kernel_rfl)) ?_
  refine wk_pure (show opD nR10w8_1 6 = some (some 19, .nilCheck (.tmp 18), 0, some (2, false)) from by kernel_rfl) (by kernel_rfl) (.pointer (some ⟨r, 0, none⟩)) (fun _ => x_nilCheck (by kernel_rfl)) ?_
  refine wk_pure (show opD nR10w8_1 7 = some (some 20, .fieldAddr 54 (.tmp 19) 4, 0, some (2, false)) from by kernel_rfl) (by kernel_rfl) (.pointer (some ⟨r, 4, none⟩)) (fun _ => x_fieldAddr (b := r) (off := 0) (o := 4) (by kernel_rfl) (by kernel_rfl)) ?_
  have hb_14 : w_11.heap[b_1]? = some (.cells #[.int .i64 ((pr : Nat) : Int), .int .i64 ((pc : Nat) : Int), .slice wa W.length wc] 37 (0, 0)) := (s_12.keep (sm_8.keep hb_6))
  refine wk_read (show opD nR10w8_1 4 = some (some 17, .load 3 (.tmp 16), 3, some (2, false)) from by kernel_rfl) (by kernel_rfl) (.int .i64 ((pr : Nat) : Int)) (fun w'_ g_ => x_load (b := b_1) (off := 0) (by kernel_rfl) (by kernel_rfl) (g_.keep hb_14) (by kernel_rfl)) ?_
  have hb_15 : w_11.heap[r]? = some (.cells #[.int .i64 ((place : Nat) : Int), .int .i64 ((n : Nat) : Int), .slice la L.length lc, .slice (some ⟨ck, 0, none⟩) ((chk L.length n n).length) kc, .int .i64 ((round : Nat) : Int), .bool told, .bool false] 54 (0, 0)) := (s_12.keep hb_10)
  refine wk_read (show opD nR10w8_1 8 = some (some 21, .load 3 (.tmp 20), 3, some (2, false)) from by kernel_rfl) (by kernel_rfl) (.int .i64 ((round : Nat) : Int)) (fun w'_ g_ => x_load (b := r) (off := 4) (by kernel_rfl) (by kernel_rfl) (g_.keep hb_15) (by kernel_rfl)) ?_
  refine wk_pure (show opD nR10w8_1 9 = some (some 22, .binOp .lss 3 (.tmp 17) (.tmp 21) 3, 4, some (2, false)) from by kernel_rfl) (by kernel_rfl) (.bool false) (fun _ => y_lss (k := .i64) (a := ((pr : Nat) : Int)) (b := ((round : Nat) : Int)) (by kernel_rfl) (by kernel_rfl) (decide_eq_false (by omega))) ?_
  refine wk_pure (show opD nR10w8_1 10 = some (some 23, .pick (.tmp 15) (.const (.bool true)) (.tmp 22), 4, none) from by kernel_rfl) (by kernel_rfl) (.bool false) (fun _ => y_pick_f (by kernel_rfl) (by kernel_rfl)) ?_
  refine wk_pure (show opD nR10w8_1 11 = some (some 24, .move (.tmp 23), 4, none) from by kernel_rfl) (by kernel_rfl) (.bool false) (fun _ => y_move (by kernel_rfl)) ?_
  refine wk_pure (show opD nR10w8_1 12 = some (some 25, .fieldAddr 37 (.tmp 3) 0, 0, some (11, false)) from by kernel_rfl) (by kernel_rfl) (.pointer (some ⟨b_1, 0, none⟩)) (fun _ => x_fieldAddr (b := b_1) (off := 0) (o := 0) (by kernel_rfl) (by kernel_rfl)) ?_
  refine wk_pure (show opD nR10w8_1 14 = some (some 27, .move (.tmp 0), 27, some (11, false)) from by kernel_rfl) (by kernel_rfl) (.pointer (some ⟨r, 0, none⟩)) (fun _ => y_move (by kernel_rfl)) ?_
  refine wk_pure (show opD nR10w8_1 15 = some (some 28, .nilCheck (.tmp 27), 0, some (11, false)) from by kernel_rfl) (by kernel_rfl) (.pointer (some ⟨r, 0, none⟩)) (fun _ => x_nilCheck (by kernel_rfl)) ?_
  refine wk_pure (show opD nR10w8_1 16 = some (some 29, .fieldAddr 54 (.tmp 28) 4, 0, some (11, false)) from by kernel_rfl) (by kernel_rfl) (.pointer (some ⟨r, 4, none⟩)) (fun _ => x_fieldAddr (b := r) (off := 0) (o := 4) (by kernel_rfl) (by kernel_rfl)) ?_
  refine wk_read (show opD nR10w8_1 13 = some (some 26, .load 3 (.tmp 25), 3, some (11, false)) from by kernel_rfl) (by kernel_rfl) (.int .i64 ((pr : Nat) : Int)) (fun w'_ g_ => x_load (b := b_1) (off := 0) (by kernel_rfl) (by kernel_rfl) (g_.keep hb_14) (by kernel_rfl)) ?_
  refine wk_read (show opD nR10w8_1 17 = some (some 30, .load 3 (.tmp 29), 3, some (11, false)) from by kernel_rfl) (by kernel_rfl) (.int .i64 ((round : Nat) : Int)) (fun w'_ g_ => x_load (b := r) (off := 4) (by kernel_rfl) (by kernel_rfl) (g_.keep hb_15) (by kernel_rfl)) ?_
  refine wk_pure (show opD nR10w8_1 18 = some (some 31, .binOp .eql 3 (.tmp 26) (.tmp 30) 3, 4, some (11, false)) from by kernel_rfl) (by kernel_rfl) (.bool true) (fun _ => y_eql (k := .i64) (a := ((pr : Nat) : Int)) (b := ((round : Nat) : Int)) (by kernel_rfl) (by kernel_rfl) (decide_eq_true (by omega))) ?_
  refine wk_pure (show opD nR10w8_1 19 = some (some 32, .move (.tmp 31), 4, some (11, false)) from by kernel_rfl) (by kernel_rfl) (.bool true) (fun _ => y_move (by kernel_rfl)) ?_
  refine wk_pure (show opD nR10w8_1 20 = some (some 33, .move (.tmp 0), 27, some (19, true)) from by kernel_rfl) (by kernel_rfl) (.pointer (some ⟨r, 0, none⟩)) (fun _ => y_move (by kernel_rfl)) ?_
  refine wk_pure (show opD nR10w8_1 21 = some (some 34, .nilCheck (.tmp 33), 0, some (19, true)) from by kernel_rfl) (by kernel_rfl) (.pointer (some ⟨r, 0, none⟩)) (fun _ => x_nilCheck (by kernel_rfl)) ?_
  refine wk_pure (show opD nR10w8_1 22 = some (some 35, .fieldAddr 54 (.tmp 34) 6, 0, some (19, true)) from by kernel_rfl) (by kernel_rfl) (.pointer (some ⟨r, 6, none⟩)) (fun _ => x_fieldAddr (b := r) (off := 0) (o := 6) (by kernel_rfl) (by kernel_rfl)) ?_
  refine wk_read (show opD nR10w8_1 23 = some (some 36, .load 4 (.tmp 35), 4, some (19, true)) from by kernel_rfl) (by kernel_rfl) (.bool false) (fun w'_ g_ => x_load (b := r) (off := 6) (by kernel_rfl) (by kernel_rfl) (g_.keep hb_15) (by kernel_rfl)) ?_
  refine wk_pure (show opD nR10w8_1 24 = some (some 37, .pick (.tmp 32) (.tmp 36) (.const (.bool false)), 4, some (11, false)) from by kernel_rfl) (by kernel_rfl) (.bool false) (fun _ => y_pick_t (by kernel_rfl) (by kernel_rfl)) ?_
  refine wk_pure (show opD nR10w8_1 25 = some (some 38, .pick (.tmp 24) (.const (.bool true)) (.tmp 37), 4, none) from by kernel_rfl) (by kernel_rfl) (.bool false) (fun _ => y_pick_f (by kernel_rfl) (by kernel_rfl)) ?_
  refine wk_pure (show opD nR10w8_1 26 = some (some 12, .assign (.tmp 38), 4, none) from by kernel_rfl) (by kernel_rfl) (.bool false) (fun _ => y_assign (by kernel_rfl)) ?_
  refine wk_nil ?_
  refine thn_n ?_
  refine g_cond_f (o := .tmp 12) (x := nN10w8_8) (y := nN10w8_9) (by kernel_rfl) (by kernel_rfl) ?_
  refine g_seq (x := nN10w8_10) (y := nN10w8_11) (by kernel_rfl) ?_
  refine g_draw (ops := nR10w8_3) (id := 3) (by kernel_rfl) (fun _ _ => True) [(0, .pure), (2, .pure), (3, .pure), (4, .pure), (1, .read), (5, .read), (6, .pure), (7, .pure)] (by kernel_rfl) (by kernel_rfl) (fun _ => trivial) (fun w_16 sm_17 => ?_)
  have hsz_18 : w_16.heap.size = w_11.heap.size := by rw [sm_17.heap]
  refine wk_pure (show opD nR10w8_3 0 = some (some 40, .fieldAddr 37 (.tmp 3) 0, 0, none) from by kernel_rfl) (by kernel_rfl) (.pointer (some ⟨b_1, 0, none⟩)) (fun _ => x_fieldAddr (b := b_1) (off := 0) (o := 0) (by kernel_rfl) (by kernel_rfl)) ?_
  refine wk_pure (show opD nR10w8_3 2 = some (some 42, .move (.tmp 0), 27, none) from by kernel_rfl) (by kernel_rfl) (.pointer (some ⟨r, 0, none⟩)) (fun _ => y_move (by kernel_rfl)) ?_
  refine wk_pure (show opD nR10w8_3 3 = some (some 43, .nilCheck (.tmp 42), 0, none) from by kernel_rfl) (by kernel_rfl) (.pointer (some ⟨r, 0, none⟩)) (fun _ => x_nilCheck (by kernel_rfl)) ?_
  refine wk_pure (show opD nR10w8_3 4 = some (some 44, .fieldAddr 54 (.tmp 43) 4, 0, none) from by kernel_rfl) (by kernel_rfl) (.pointer (some ⟨r, 4, none⟩)) (fun _ => x_fieldAddr (b := r) (off := 0) (o := 4) (by kernel_rfl) (by kernel_rfl)) ?_
  have hb_19 : w_16.heap[b_1]? = some (.cells #[.int .i64 ((pr : Nat) : Int), .int .i64 ((pc : Nat) : Int), .slice wa W.length wc] 37 (0, 0)) := (sm_17.keep hb_14)
  refine wk_read (show opD nR10w8_3 1 = some (some 41, .load 3 (.tmp 40), 3, none) from by kernel_rfl) (by kernel_rfl) (.int .i64 ((pr : Nat) : Int)) (fun w'_ g_ => x_load (b := b_1) (off := 0) (by kernel_rfl) (by kernel_rfl) (g_.keep hb_19) (by kernel_rfl)) ?_
  have hb_20 : w_16.heap[r]? = some (.cells #[.int .i64 ((place : Nat) : Int), .int .i64 ((n : Nat) : Int), .slice la L.length lc, .slice (some ⟨ck, 0, none⟩) ((chk L.length n n).length) kc, .int .i64 ((round : Nat) : Int), .bool told, .bool false] 54 (0, 0)) := (sm_17.keep hb_15)
  refine wk_read (show opD nR10w8_3 5 = some (some 45, .load 3 (.tmp 44), 3, none) from by kernel_rfl) (by kernel_rfl) (.int .i64 ((round : Nat) : Int)) (fun w'_ g_ => x_load (b := r) (off := 4) (by kernel_rfl) (by kernel_rfl) (g_.keep hb_20) (by kernel_rfl)) ?_
  refine wk_pure (show opD nR10w8_3 6 = some (some 46, .binOp .gtr 3 (.tmp 41) (.tmp 45) 3, 4, none) from by kernel_rfl) (by kernel_rfl) (.bool false) (fun _ => y_gtr (k := .i64) (a := ((pr : Nat) : Int)) (b := ((round : Nat) : Int)) (by kernel_rfl) (by kernel_rfl) (decide_eq_false (by omega))) ?_
  refine wk_pure (show opD nR10w8_3 7 = some (some 39, .assign (.tmp 46), 4, none) from by kernel_rfl) (by kernel_rfl) (.bool false) (fun _ => y_assign (by kernel_rfl)) ?_
  refine wk_nil ?_
  refine thn_n ?_
  refine g_cond_f (o := .tmp 39) (x := nN10w8_12) (y := nN10w8_13) (by kernel_rfl) (by kernel_rfl) ?_
  refine g_skip (by kernel_rfl) ?_
  refine blk_n ?_
  refine thn_n ?_
  refine g_seq (x := nN10w8_14) (y := nN10w8_15) (by kernel_rfl) ?_
  refine g_draw (ops := nR10w8_5) (id := 5) (by kernel_rfl) (fun w w' => Grown w w') [(0, .pure), (1, .pure), (2, .pure), (4, .pure), (5, .pure), (6, .pure), (10, .pure), (11, .pure), (12, .pure), (15, .pure), (16, .pure), (17, .pure), (19, .pure), (20, .pure), (21, .pure), (3, .stab), (7, .stab), (8, .pure), (9, .pure), (13, .stab), (14, .pure), (18, .read), (22, .read), (23, .loud), (24, .pure), (25, .pure), (26, .pure), (27, .pure), (28, .pure), (29, .pure), (30, .pure)] (by kernel_rfl) (by kernel_rfl) (fun _ => Grown.refl _) (fun w_21 sm_22 => ?_)
  have hsz_23 : w_21.heap.size = w_16.heap.size := by rw [sm_22.heap]
  refine wk_pure (show opD nR10w8_5 0 = some (some 48, .move (.tmp 0), 27, none) from by kernel_rfl) (by kernel_rfl) (.pointer (some ⟨r, 0, none⟩)) (fun _ => y_move (by kernel_rfl)) ?_
  refine wk_pure (show opD nR10w8_5 1 = some (some 49, .nilCheck (.tmp 48), 0, none) from by kernel_rfl) (by kernel_rfl) (.pointer (some ⟨r, 0, none⟩)) (fun _ => x_nilCheck (by kernel_rfl)) ?_
  refine wk_pure (show opD nR10w8_5 2 = some (some 50, .fieldAddr 54 (.tmp 49) 0, 0, none) from by kernel_rfl) (by kernel_rfl) (.pointer (some ⟨r, 0, none⟩)) (fun _ => x_fieldAddr (b := r) (off := 0) (o := 0) (by kernel_rfl) (by kernel_rfl)) ?_
  refine wk_pure (show opD nR10w8_5 4 = some (some 52, .move (.tmp 0), 27, none) from by kernel_rfl) (by kernel_rfl) (.pointer (some ⟨r, 0, none⟩)) (fun _ => y_move (by kernel_rfl)) ?_
  refine wk_pure (show opD nR10w8_5 5 = some (some 53, .nilCheck (.tmp 52), 0, none) from by kernel_rfl) (by kernel_rfl) (.pointer (some ⟨r, 0, none⟩)) (fun _ => x_nilCheck (by kernel_rfl)) ?_
  refine wk_pure (show opD nR10w8_5 6 = some (some 54, .fieldAddr 54 (.tmp 53) 1, 0, none) from by kernel_rfl) (by kernel_rfl) (.pointer (some ⟨r, 1, none⟩)) (fun _ => x_fieldAddr (b := r) (off := 0) (o := 1) (by kernel_rfl) (by kernel_rfl)) ?_
  refine wk_pure (show opD nR10w8_5 10 = some (some 58, .move (.tmp 0), 27, none) from by kernel_rfl) (by kernel_rfl) (.pointer (some ⟨r, 0, none⟩)) (fun _ => y_move (by kernel_rfl)) ?_
  refine wk_pure (show opD nR10w8_5 11 = some (some 59, .nilCheck (.tmp 58), 0, none) from by kernel_rfl) (by kernel_rfl) (.pointer (some ⟨r, 0, none⟩)) (fun _ => x_nilCheck (by kernel_rfl)) ?_
  refine wk_pure (show opD nR10w8_5 12 = some (some 60, .fieldAddr 54 (.tmp 59) 1, 0, none) from by kernel_rfl) (by kernel_rfl) (.pointer (some ⟨r, 1, none⟩)) (fun _ => x_fieldAddr (b := r) (off := 0) (o := 1) (by kernel_rfl) (by kernel_rfl)) ?_
  refine wk_pure (show opD nR10w8_5 15 = some (some 63, .move (.tmp 0), 27, none) from by kernel_rfl) (by kernel_rfl) (.pointer (some ⟨r, 0, none⟩)) (fun _ => y_move (by kernel_rfl)) ?_
  refine wk_pure (show opD nR10w8_5 16 = some (some 64, .nilCheck (.tmp 63), 0, none) from by kernel_rfl) (by kernel_rfl) (.pointer (some ⟨r, 0, none⟩)) (fun _ => x_nilCheck (by kernel_rfl)) ?_
  refine wk_pure (show opD nR10w8_5 17 = some (some 65, .fieldAddr 54 (.tmp 64) 1, 0, none) from by kernel_rfl) (by kernel_rfl) (.pointer (some ⟨r, 1, none⟩)) (fun _ => x_fieldAddr (b := r) (off := 0) (o := 1) (by kernel_rfl) (by kernel_rfl)) ?_
  refine wk_pure (show opD nR10w8_5 19 = some (some 67, .move (.tmp 0), 27, none) from by kernel_rfl) (by kernel_rfl) (.pointer (some ⟨r, 0, none⟩)) (fun _ => y_move (by kernel_rfl)) ?_
  refine wk_pure (show opD nR10w8_5 20 = some (some 68, .nilCheck (.tmp 67), 0, none) from by kernel_rfl) (by kernel_rfl) (.pointer (some ⟨r, 0, none⟩)) (fun _ => x_nilCheck (by kernel_rfl)) ?_
  refine wk_pure (show opD nR10w8_5 21 = some (some 69, .fieldAddr 54 (.tmp 68) 4, 0, none) from by kernel_rfl) (by kernel_rfl) (.pointer (some ⟨r, 4, none⟩)) (fun _ => x_fieldAddr (b := r) (off := 0) (o := 4) (by kernel_rfl) (by kernel_rfl)) ?_
  refine wk_stab (show opD nR10w8_5 3 = some (some 51, .load 3 (.tmp 50), 3, none) from by kernel_rfl) (by kernel_rfl) (.int .i64 ((place : Nat) : Int)) (fun w'_ g_ => x_load (b := r) (off := 0) (by kernel_rfl) (by kernel_rfl) (Grown.keep g_ (sm_22.keep hb_20)) (by kernel_rfl)) ?_
  refine wk_stab (show opD nR10w8_5 7 = some (some 55, .load 3 (.tmp 54), 3, none) from by kernel_rfl) (by kernel_rfl) (.int .i64 ((n : Nat) : Int)) (fun w'_ g_ => x_load (b := r) (off := 1) (by kernel_rfl) (by kernel_rfl) (Grown.keep g_ (sm_22.keep hb_20)) (by kernel_rfl)) ?_
  refine wk_pure (show opD nR10w8_5 8 = some (some 56, .binOp .add 3 (.tmp 51) (.tmp 55) 3, 3, none) from by kernel_rfl) (by kernel_rfl) (.int .i64 ((place : Int) + (n : Int))) (fun _ => y_add (k := .i64) (a := ((place : Nat) : Int)) (b := ((n : Nat) : Int)) (by kernel_rfl) (by kernel_rfl) (i64_id (by omega))) ?_
  refine wk_pure (show opD nR10w8_5 9 = some (some 57, .binOp .sub 3 (.tmp 56) (.const (.int .i64 1)) 3, 3, none) from by kernel_rfl) (by kernel_rfl) (.int .i64 ((place : Int) + (n : Int) - 1)) (fun _ => y_sub (k := .i64) (a := ((place : Int) + (n : Int))) (b := 1) (by kernel_rfl) (by kernel_rfl) (i64_id (by omega))) ?_
  refine wk_stab (show opD nR10w8_5 13 = some (some 61, .load 3 (.tmp 60), 3, none) from by kernel_rfl) (by kernel_rfl) (.int .i64 ((n : Nat) : Int)) (fun w'_ g_ => x_load (b := r) (off := 1) (by kernel_rfl) (by kernel_rfl) (Grown.keep g_ (sm_22.keep hb_20)) (by kernel_rfl)) ?_
  refine wk_pure (show opD nR10w8_5 14 = some (some 62, .binOp .rem 3 (.tmp 57) (.tmp 61) 3, 3, none) from by kernel_rfl) (by kernel_rfl) (.int .i64 (((place + n - 1) % n : Nat) : Int)) (fun _ => y_rem (k := .i64) (a := ((place : Int) + (n : Int) - 1)) (b := ((n : Nat) : Int)) (by kernel_rfl) (by kernel_rfl) (by omega) (by rw [show ((place : Int) + (n : Int) - 1) = ((place + n - 1 : Nat) : Int) by omega]; exact nat_rem)) ?_
  have hb_24 : w_21.heap[r]? = some (.cells #[.int .i64 ((place : Nat) : Int), .int .i64 ((n : Nat) : Int), .slice la L.length lc, .slice (some ⟨ck, 0, none⟩) ((chk L.length n n).length) kc, .int .i64 ((round : Nat) : Int), .bool told, .bool false] 54 (0, 0)) := (sm_22.keep hb_20)
  refine wk_read (show opD nR10w8_5 18 = some (some 66, .load 3 (.tmp 65), 3, none) from by kernel_rfl) (by kernel_rfl) (.int .i64 ((n : Nat) : Int)) (fun w'_ g_ => x_load (b := r) (off := 1) (by kernel_rfl) (by kernel_rfl) (g_.keep hb_24) (by kernel_rfl)) ?_
  refine wk_read (show opD nR10w8_5 22 = some (some 70, .load 3 (.tmp 69), 3, none) from by kernel_rfl) (by kernel_rfl) (.int .i64 ((round : Nat) : Int)) (fun w'_ g_ => x_load (b := r) (off := 4) (by kernel_rfl) (by kernel_rfl) (g_.keep hb_24) (by kernel_rfl)) ?_
  refine wk_call (show opD nR10w8_5 23 = some (some 71, .call ⟨.value (.func 21), #[.tmp 62, .tmp 66, .tmp 70], #[3, 3, 3]⟩, 61, none) from by kernel_rfl) (by kernel_rfl) 21 #[.int .i64 (((place + n - 1) % n : Nat) : Int), .int .i64 ((n : Nat) : Int), .int .i64 ((round : Nat) : Int)] (x_call Try.func21 (by kernel_rfl) (c := (Try.f21.body).getD .skip) (by kernel_rfl) (by kernel_rfl) (by kernel_rfl)) (sends_n (place := (place + n - 1) % n) (n := n) (round := round) (by omega) (by omega) (by (first | omega | exact Nat.mod_lt _ (by omega))) (by omega) ⟨?_, ?_⟩)
  · exact (Grown.refl _)
  have hsl := sendsN_lt (place := (place + n - 1) % n) (n := n) (round := round) (by omega)
  have hcb := cBounds (len := L.length) hsl
  refine wk_pure (show opD nR10w8_5 24 = some (some 47, .move (.tmp 71), 61, none) from by kernel_rfl) (by kernel_rfl) (.tuple #[.int .i64 ((sendsN ((place + n - 1) % n) n round : Nat) : Int), .bool (addsN n round), .int .i64 0]) (fun _ => y_move (by kernel_rfl)) ?_
  refine wk_pure (show opD nR10w8_5 25 = some (some 72, .extract (.tmp 47) 0, 3, none) from by kernel_rfl) (by kernel_rfl) (.int .i64 ((sendsN ((place + n - 1) % n) n round : Nat) : Int)) (fun _ => x_extract (vs := #[.int .i64 ((sendsN ((place + n - 1) % n) n round : Nat) : Int), .bool (addsN n round), .int .i64 0]) (by kernel_rfl) (by kernel_rfl)) ?_
  refine wk_pure (show opD nR10w8_5 26 = some (some 73, .extract (.tmp 47) 1, 4, none) from by kernel_rfl) (by kernel_rfl) (.bool (addsN n round)) (fun _ => x_extract (vs := #[.int .i64 ((sendsN ((place + n - 1) % n) n round : Nat) : Int), .bool (addsN n round), .int .i64 0]) (by kernel_rfl) (by kernel_rfl)) ?_
  refine wk_pure (show opD nR10w8_5 27 = some (some 74, .extract (.tmp 47) 2, 28, none) from by kernel_rfl) (by kernel_rfl) (.int .i64 0) (fun _ => x_extract (vs := #[.int .i64 ((sendsN ((place + n - 1) % n) n round : Nat) : Int), .bool (addsN n round), .int .i64 0]) (by kernel_rfl) (by kernel_rfl)) ?_
  refine wk_pure (show opD nR10w8_5 28 = some (some 5, .assign (.tmp 72), 3, none) from by kernel_rfl) (by kernel_rfl) (.int .i64 ((sendsN ((place + n - 1) % n) n round : Nat) : Int)) (fun _ => y_assign (by kernel_rfl)) ?_
  refine wk_pure (show opD nR10w8_5 29 = some (some 6, .assign (.tmp 73), 4, none) from by kernel_rfl) (by kernel_rfl) (.bool (addsN n round)) (fun _ => y_assign (by kernel_rfl)) ?_
  refine wk_pure (show opD nR10w8_5 30 = some (some 7, .assign (.tmp 74), 28, none) from by kernel_rfl) (by kernel_rfl) (.int .i64 0) (fun _ => y_assign (by kernel_rfl)) ?_
  refine wk_nil ?_
  refine thn_n ?_
  refine g_seq (x := nN10w8_16) (y := nN10w8_17) (by kernel_rfl) ?_
  refine g_draw (ops := nR10w8_6) (id := 6) (by kernel_rfl) (fun _ _ => True) [(0, .pure), (1, .pure), (2, .pure), (4, .pure), (8, .pure), (9, .pure), (10, .pure), (12, .pure), (3, .read), (5, .pure), (6, .pure), (7, .read), (16, .pure), (11, .read), (13, .pure), (14, .pure), (15, .read), (17, .pure)] (by kernel_rfl) (by kernel_rfl) (fun _ => trivial) (fun w_25 sm_26 => ?_)
  have hsz_27 : w_25.heap.size = w_21.heap.size := by rw [sm_26.heap]
  refine wk_pure (show opD nR10w8_6 0 = some (some 75, .move (.tmp 0), 27, none) from by kernel_rfl) (by kernel_rfl) (.pointer (some ⟨r, 0, none⟩)) (fun _ => y_move (by kernel_rfl)) ?_
  refine wk_pure (show opD nR10w8_6 1 = some (some 76, .nilCheck (.tmp 75), 0, none) from by kernel_rfl) (by kernel_rfl) (.pointer (some ⟨r, 0, none⟩)) (fun _ => x_nilCheck (by kernel_rfl)) ?_
  refine wk_pure (show opD nR10w8_6 2 = some (some 77, .fieldAddr 54 (.tmp 76) 3, 0, none) from by kernel_rfl) (by kernel_rfl) (.pointer (some ⟨r, 3, none⟩)) (fun _ => x_fieldAddr (b := r) (off := 0) (o := 3) (by kernel_rfl) (by kernel_rfl)) ?_
  refine wk_pure (show opD nR10w8_6 4 = some (some 79, .move (.tmp 5), 3, none) from by kernel_rfl) (by kernel_rfl) (.int .i64 ((sendsN ((place + n - 1) % n) n round : Nat) : Int)) (fun _ => y_move (by kernel_rfl)) ?_
  refine wk_pure (show opD nR10w8_6 8 = some (some 83, .move (.tmp 0), 27, none) from by kernel_rfl) (by kernel_rfl) (.pointer (some ⟨r, 0, none⟩)) (fun _ => y_move (by kernel_rfl)) ?_
  refine wk_pure (show opD nR10w8_6 9 = some (some 84, .nilCheck (.tmp 83), 0, none) from by kernel_rfl) (by kernel_rfl) (.pointer (some ⟨r, 0, none⟩)) (fun _ => x_nilCheck (by kernel_rfl)) ?_
  refine wk_pure (show opD nR10w8_6 10 = some (some 85, .fieldAddr 54 (.tmp 84) 3, 0, none) from by kernel_rfl) (by kernel_rfl) (.pointer (some ⟨r, 3, none⟩)) (fun _ => x_fieldAddr (b := r) (off := 0) (o := 3) (by kernel_rfl) (by kernel_rfl)) ?_
  refine wk_pure (show opD nR10w8_6 12 = some (some 87, .move (.tmp 5), 3, none) from by kernel_rfl) (by kernel_rfl) (.int .i64 ((sendsN ((place + n - 1) % n) n round : Nat) : Int)) (fun _ => y_move (by kernel_rfl)) ?_
  have hb_28 : w_25.heap[r]? = some (.cells #[.int .i64 ((place : Nat) : Int), .int .i64 ((n : Nat) : Int), .slice la L.length lc, .slice (some ⟨ck, 0, none⟩) ((chk L.length n n).length) kc, .int .i64 ((round : Nat) : Int), .bool told, .bool false] 54 (0, 0)) := (sm_26.keep hb_24)
  refine wk_read (show opD nR10w8_6 3 = some (some 78, .load 49 (.tmp 77), 49, none) from by kernel_rfl) (by kernel_rfl) (.slice (some ⟨ck, 0, none⟩) ((chk L.length n n).length) kc) (fun w'_ g_ => x_load (b := r) (off := 3) (by kernel_rfl) (by kernel_rfl) (g_.keep hb_28) (by kernel_rfl)) ?_
  have hb_29 : OwnE w_25 63 2 ck kc encP (chk L.length n n) crest := (sm_26.keepOwn (sm_22.keepOwn (sm_17.keepOwn (s_12.keepOwn (sm_8.keepOwn (e_3.keepOwn hcc List.not_mem_nil))))))
  refine wk_pure (show opD nR10w8_6 5 = some (some 80, .indexAddr 49 (.tmp 78) (.tmp 79), 0, none) from by kernel_rfl) (by kernel_rfl) (.pointer (some ⟨ck, 0 + ((sendsN ((place + n - 1) % n) n round) * 2 + 0), none⟩)) (fun _ => y_ptr (x_indexN (a := some ⟨ck, 0, none⟩) (b := ck) (off := 0) (n := ((chk L.length n n).length)) (c := kc) (k := .i64) (i := ((sendsN ((place + n - 1) % n) n round : Nat) : Int)) (e := 63) (sz := 2) (sz' := 2) (by kernel_rfl) hb_29.sl (by kernel_rfl) (by kernel_rfl) rfl (by omega) _) (by omega)) ?_
  refine wk_pure (show opD nR10w8_6 6 = some (some 81, .indexAddr 63 (.tmp 80) (.const (.int .i64 0)), 0, none) from by kernel_rfl) (by kernel_rfl) (.pointer (some ⟨ck, 0 + ((sendsN ((place + n - 1) % n) n round) * 2 + 0), none⟩)) (fun _ => y_ptr (x_indexArr (b := ck) (off := (0 + ((sendsN ((place + n - 1) % n) n round) * 2 + 0))) (k := .i64) (i := 0) (e := 3) (len := 2) (sz := 1) (by kernel_rfl) (by kernel_rfl) (by kernel_rfl) (by decide)) (by omega)) ?_
  refine wk_read (show opD nR10w8_6 7 = some (some 82, .load 3 (.tmp 81), 3, none) from by kernel_rfl) (by kernel_rfl) (.int .i64 ((cFrom L.length n (sendsN ((place + n - 1) % n) n round) : Nat) : Int)) (fun w'_ g_ => x_load_c (b := ck) (off := (0 + ((sendsN ((place + n - 1) % n) n round) * 2 + 0))) (by kernel_rfl) (by kernel_rfl) (SlE.get (g_.keepOwn hb_29).sl encP_len (0, 0) (sendsN ((place + n - 1) % n) n round) 0 (by omega) rfl)) ?_
  refine wk_pure (show opD nR10w8_6 16 = some (some 8, .assign (.tmp 82), 3, none) from by kernel_rfl) (by kernel_rfl) (.int .i64 ((cFrom L.length n (sendsN ((place + n - 1) % n) n round) : Nat) : Int)) (fun _ => y_assign (by kernel_rfl)) ?_
  refine wk_read (show opD nR10w8_6 11 = some (some 86, .load 49 (.tmp 85), 49, none) from by kernel_rfl) (by kernel_rfl) (.slice (some ⟨ck, 0, none⟩) ((chk L.length n n).length) kc) (fun w'_ g_ => x_load (b := r) (off := 3) (by kernel_rfl) (by kernel_rfl) (g_.keep hb_28) (by kernel_rfl)) ?_
  refine wk_pure (show opD nR10w8_6 13 = some (some 88, .indexAddr 49 (.tmp 86) (.tmp 87), 0, none) from by kernel_rfl) (by kernel_rfl) (.pointer (some ⟨ck, 0 + ((sendsN ((place + n - 1) % n) n round) * 2 + 0), none⟩)) (fun _ => y_ptr (x_indexN (a := some ⟨ck, 0, none⟩) (b := ck) (off := 0) (n := ((chk L.length n n).length)) (c := kc) (k := .i64) (i := ((sendsN ((place + n - 1) % n) n round : Nat) : Int)) (e := 63) (sz := 2) (sz' := 2) (by kernel_rfl) hb_29.sl (by kernel_rfl) (by kernel_rfl) rfl (by omega) _) (by omega)) ?_
  refine wk_pure (show opD nR10w8_6 14 = some (some 89, .indexAddr 63 (.tmp 88) (.const (.int .i64 1)), 0, none) from by kernel_rfl) (by kernel_rfl) (.pointer (some ⟨ck, 0 + ((sendsN ((place + n - 1) % n) n round) * 2 + 1), none⟩)) (fun _ => y_ptr (x_indexArr (b := ck) (off := (0 + ((sendsN ((place + n - 1) % n) n round) * 2 + 0))) (k := .i64) (i := 1) (e := 3) (len := 2) (sz := 1) (by kernel_rfl) (by kernel_rfl) (by kernel_rfl) (by decide)) (by omega)) ?_
  refine wk_read (show opD nR10w8_6 15 = some (some 90, .load 3 (.tmp 89), 3, none) from by kernel_rfl) (by kernel_rfl) (.int .i64 ((cTo L.length n (sendsN ((place + n - 1) % n) n round) : Nat) : Int)) (fun w'_ g_ => x_load_c (b := ck) (off := (0 + ((sendsN ((place + n - 1) % n) n round) * 2 + 1))) (by kernel_rfl) (by kernel_rfl) (SlE.get (g_.keepOwn hb_29).sl encP_len (0, 0) (sendsN ((place + n - 1) % n) n round) 1 (by omega) rfl)) ?_
  refine wk_pure (show opD nR10w8_6 17 = some (some 9, .assign (.tmp 90), 3, none) from by kernel_rfl) (by kernel_rfl) (.int .i64 ((cTo L.length n (sendsN ((place + n - 1) % n) n round) : Nat) : Int)) (fun _ => y_assign (by kernel_rfl)) ?_
  refine wk_nil ?_
  refine thn_n ?_
  refine g_seq (x := nN10w8_18) (y := nN10w8_19) (by kernel_rfl) ?_
  refine g_seq (x := nN10w8_20) (y := nN10w8_21) (by kernel_rfl) ?_
  refine g_region (ops := nR10w8_7) (id := 7) (by kernel_rfl) [(0, .pure), (1, .loud), (2, .pure), (3, .pure), (4, .pure), (5, .pure), (6, .loud), (7, .pure), (8, .pure), (9, .pure), (10, .pure), (11, .pure), (12, .pure)] (by kernel_rfl) (by kernel_rfl) ?_
  refine wk_pure (show opD nR10w8_7 0 = some (some 91, .fieldAddr 37 (.tmp 3) 1, 0, none) from by kernel_rfl) (by kernel_rfl) (.pointer (some ⟨b_1, 1, none⟩)) (fun _ => x_fieldAddr (b := b_1) (off := 0) (o := 1) (by kernel_rfl) (by kernel_rfl)) ?_
  have hb_30 : w_25.heap[b_1]? = some (.cells #[.int .i64 ((pr : Nat) : Int), .int .i64 ((pc : Nat) : Int), .slice wa W.length wc] 37 (0, 0)) := (sm_26.keep (sm_22.keep hb_19))
  refine wk_val (show opD nR10w8_7 1 = some (some 92, .load 3 (.tmp 91), 3, none) from by kernel_rfl) (by kernel_rfl) (.int .i64 ((pc : Nat) : Int)) (x_load (b := b_1) (off := 1) (by kernel_rfl) (by kernel_rfl) hb_30 (by kernel_rfl)) trivial ?_
  refine wk_pure (show opD nR10w8_7 2 = some (some 93, .move (.tmp 5), 3, none) from by kernel_rfl) (by kernel_rfl) (.int .i64 ((sendsN ((place + n - 1) % n) n round : Nat) : Int)) (fun _ => y_move (by kernel_rfl)) ?_
  refine wk_pure (show opD nR10w8_7 3 = some (some 94, .binOp .neq 3 (.tmp 92) (.tmp 93) 3, 4, none) from by kernel_rfl) (by kernel_rfl) (.bool true) (fun _ => y_neq (k := .i64) (a := ((pc : Nat) : Int)) (b := ((sendsN ((place + n - 1) % n) n round : Nat) : Int)) (by kernel_rfl) (by kernel_rfl) (decide_eq_true (by omega))) ?_
  refine wk_pure (show opD nR10w8_7 4 = some (some 95, .move (.tmp 94), 4, none) from by kernel_rfl) (by kernel_rfl) (.bool true) (fun _ => y_move (by kernel_rfl)) ?_
  refine wk_skip (show opD nR10w8_7 5 = some (some 96, .fieldAddr 37 (.tmp 3) 2, 0, some (4, false)) from by kernel_rfl) (by kernel_rfl) ?_
  refine wk_skip (show opD nR10w8_7 6 = some (some 97, .load 25 (.tmp 96), 25, some (4, false)) from by kernel_rfl) (by kernel_rfl) ?_
  refine wk_skip (show opD nR10w8_7 7 = some (some 98, .call ⟨.builtin .len, #[.tmp 97], #[25]⟩, 3, some (4, false)) from by kernel_rfl) (by kernel_rfl) ?_
  refine wk_skip (show opD nR10w8_7 8 = some (some 99, .move (.tmp 9), 3, some (4, false)) from by kernel_rfl) (by kernel_rfl) ?_
  refine wk_skip (show opD nR10w8_7 9 = some (some 100, .move (.tmp 8), 3, some (4, false)) from by kernel_rfl) (by kernel_rfl) ?_
  refine wk_skip (show opD nR10w8_7 10 = some (some 101, .binOp .sub 3 (.tmp 99) (.tmp 100) 3, 3, some (4, false)) from by kernel_rfl) (by kernel_rfl) ?_
  refine wk_skip (show opD nR10w8_7 11 = some (some 102, .binOp .neq 3 (.tmp 98) (.tmp 101) 3, 4, some (4, false)) from by kernel_rfl) (by kernel_rfl) ?_
  refine wk_pure (show opD nR10w8_7 12 = some (some 103, .pick (.tmp 95) (.const (.bool true)) (.tmp 102), 4, none) from by kernel_rfl) (by kernel_rfl) (.bool true) (fun _ => y_pick_t (by kernel_rfl) (by kernel_rfl)) ?_
  refine wk_nil ?_
  refine thn_n ?_
  refine g_cond_t (o := .tmp 103) (x := nN10w8_22) (y := nN10w8_23) (by kernel_rfl) (by kernel_rfl) ?_
  refine g_seq (x := nN10w8_24) (y := nN10w8_25) (by kernel_rfl) ?_
  refine g_region (ops := nR10w8_8) (id := 8) (by kernel_rfl) [(0, .pure)] (by kernel_rfl) (by kernel_rfl) ?_
  refine wk_pure (show opD nR10w8_8 0 = some (some 4, .assign (.const (.int .i64 3)), 28, none) from by kernel_rfl) (by kernel_rfl) (.int .i64 3) (fun _ => y_assign (by kernel_rfl)) ?_
  refine wk_nil ?_
  refine thn_n ?_
  refine g_ret (by kernel_rfl) ?_
  refine thn_r ?_
  refine ends1_r (v := .int .i64 3) rfl (by kernel_rfl) ?_
  exact hK _ (Ext.then (Ext.then (Ext.then (Ext.then (Ext.then (Ext.then (Ext.refl [] _) e_3 (fun _ h_ => absurd h_ List.not_mem_nil)) (sm_8.ext []) (fun _ h_ => absurd h_ List.not_mem_nil)) (s_12.ext []) (fun _ h_ => absurd h_ List.not_mem_nil)) (sm_17.ext []) (fun _ h_ => absurd h_ List.not_mem_nil)) (sm_22.ext []) (fun _ h_ => absurd h_ List.not_mem_nil)) (sm_26.ext []) (fun _ h_ => absurd h_ List.not_mem_nil)) (by omega)

noncomputable def nN10w9_0 : Code := (Try.f10.body).getD .skip
noncomputable def nN10w9_1 : Code := s1 nN10w9_0
noncomputable def nN10w9_2 : Code := s2 nN10w9_0
noncomputable def nR10w9_0 : Array Oper := rops nN10w9_1
noncomputable def nN10w9_3 : Code := s1 nN10w9_2
noncomputable def nN10w9_4 : Code := s2 nN10w9_2
noncomputable def nN10w9_5 : Code := s1 nN10w9_3
noncomputable def nN10w9_6 : Code := s1 nN10w9_5
noncomputable def nN10w9_7 : Code := s2 nN10w9_5
noncomputable def nR10w9_1 : Array Oper := rops nN10w9_6
noncomputable def nN10w9_8 : Code := s1 nN10w9_7
noncomputable def nN10w9_9 : Code := s2 nN10w9_7
noncomputable def nN10w9_10 : Code := s1 nN10w9_9
noncomputable def nN10w9_11 : Code := s2 nN10w9_9
noncomputable def nR10w9_3 : Array Oper := rops nN10w9_10
noncomputable def nN10w9_12 : Code := s1 nN10w9_11
noncomputable def nN10w9_13 : Code := s2 nN10w9_11
noncomputable def nN10w9_14 : Code := s1 nN10w9_4
noncomputable def nN10w9_15 : Code := s2 nN10w9_4
noncomputable def nR10w9_5 : Array Oper := rops nN10w9_14
noncomputable def nN10w9_16 : Code := s1 nN10w9_15
noncomputable def nN10w9_17 : Code := s2 nN10w9_15
noncomputable def nR10w9_6 : Array Oper := rops nN10w9_16
noncomputable def nN10w9_18 : Code := s1 nN10w9_17
noncomputable def nN10w9_19 : Code := s2 nN10w9_17
noncomputable def nN10w9_20 : Code := s1 nN10w9_18
noncomputable def nN10w9_21 : Code := s2 nN10w9_18
noncomputable def nR10w9_7 : Array Oper := rops nN10w9_20
noncomputable def nN10w9_22 : Code := s1 nN10w9_21
noncomputable def nN10w9_23 : Code := s2 nN10w9_21
noncomputable def nN10w9_24 : Code := s1 nN10w9_22
noncomputable def nN10w9_25 : Code := s2 nN10w9_22
noncomputable def nR10w9_8 : Array Oper := rops nN10w9_24
theorem get_len {r g ck place n : Nat} {L : List Int} {round : Nat} {told : Bool} {la : Option Addr} {lc kc : Nat} {rest crest : List Value} {w : World} (hR : RingAt w r g ck place n L round told false la lc kc rest crest) {pr pc wc : Nat} {wa : Option Addr} {W : List Int} (hd : round ≤ 2 * n - 3) (hn : 2 ≤ n) (hp : pr = round) (hc : pc = (sendsN ((place + n - 1) % n) n round)) (hw : W.length + cFrom L.length n (sendsN ((place + n - 1) % n) n round) ≠ cTo L.length n (sendsN ((place + n - 1) % n) n round)) {K : Value → World → Prop} (hK : ∀ w', Ext [] w w' → w'.heap.size = w.heap.size + 1 → K (.int .i64 3) w') : CallsV Try.prog 10 #[.pointer (some ⟨r, 0, none⟩), .agg #[.int .i64 ((pr : Nat) : Int), .int .i64 ((pc : Nat) : Int), .slice wa W.length wc]] w K := by
  refine callsV_of (c := nN10w9_0) Try.func10 (by kernel_rfl) (n := 139) (by kernel_rfl) ?_
  have hr := hR.hr
  have hl := hR.hl
  have hcc := hR.hc
  have hgr := hR.nr
  have hkr := hR.kr
  have hkg := hR.kg
  have h1 := hR.h1
  have h2 := hR.h2
  have h3 := hR.h3
  have h4 := hR.h4
  have h5 := hR.h5
  have hi := hR.hi
  have hgl := hR.gl
  have hcl := chk_len L.length n n
  have hll := hl.le
  have hrl := lt_of_block hr
  have hkl := hcc.lt
  refine g_seq (x := nN10w9_1) (y := nN10w9_2) (by kernel_rfl) ?_
  refine g_region (ops := nR10w9_0) (id := 0) (by kernel_rfl) [(0, .loud), (1, .pure)] (by kernel_rfl) (by kernel_rfl) ?_
  refine wk_box (cs := #[.int .i64 ((pr : Nat) : Int), .int .i64 ((pc : Nat) : Int), .slice wa W.length wc]) (show opD nR10w9_0 0 = some (some 3, .box 37 (.tmp 1), 0, none) from by kernel_rfl) (by kernel_rfl) (by kernel_rfl) (fun w_2 b_1 eq_4 e_3 sz_5 hb_6 => ⟨?_, ?_⟩)
  · exact trivial
  refine wk_pure (show opD nR10w9_0 1 = some (some 4, .assign (.const (.int .i64 0)), 28, none) from by kernel_rfl) (by kernel_rfl) (.int .i64 0) (fun _ => y_assign (by kernel_rfl)) ?_
  refine wk_nil ?_
  refine thn_n ?_
  refine g_seq (x := nN10w9_3) (y := nN10w9_4) (by kernel_rfl) ?_
  refine g_block (x := nN10w9_5) (id := 0) (by kernel_rfl) ?_
  refine g_seq (x := nN10w9_6) (y := nN10w9_7) (by kernel_rfl) ?_
  refine g_draw (ops := nR10w9_1) (id := 1) (by kernel_rfl) (fun _ _ => True) [(0, .pure), (1, .loud), (2, .pure), (3, .pure), (5, .pure), (6, .pure), (7, .pure), (4, .read), (8, .read), (9, .pure), (10, .pure), (11, .pure), (12, .pure), (14, .pure), (15, .pure), (16, .pure), (13, .read), (17, .read), (18, .pure), (19, .pure), (20, .pure), (21, .pure), (22, .pure), (23, .read), (24, .pure), (25, .pure), (26, .pure)] (by kernel_rfl) (by kernel_rfl) (fun _ => trivial) (fun w_7 sm_8 => ?_)
  have hsz_9 : w_7.heap.size = w_2.heap.size := by rw [sm_8.heap]
  refine wk_pure (show opD nR10w9_1 0 = some (some 13, .move (.tmp 0), 27, none) from by kernel_rfl) (by kernel_rfl) (.pointer (some ⟨r, 0, none⟩)) (fun _ => y_move (by kernel_rfl)) ?_
  have hb_10 : w_7.heap[r]? = some (.cells #[.int .i64 ((place : Nat) : Int), .int .i64 ((n : Nat) : Int), .slice la L.length lc, .slice (some ⟨ck, 0, none⟩) ((chk L.length n n).length) kc, .int .i64 ((round : Nat) : Int), .bool told, .bool false] 54 (0, 0)) := (sm_8.keep (e_3.keep hr List.not_mem_nil))
  refine wk_call (show opD nR10w9_1 1 = some (some 14, .call ⟨.value (.func 13), #[.tmp 13], #[27]⟩, 4, none) from by kernel_rfl) (by kernel_rfl) 13 #[.pointer (some ⟨r, 0, none⟩)] (x_call Try.func13 (by kernel_rfl) (c := (Try.f13.body).getD .skip) (by kernel_rfl) (by kernel_rfl) (by kernel_rfl)) (done_d hb_10 (by omega) (decide_eq_false (by omega)) (fun w_11 s_12 => ⟨?_, ?_⟩))
  · exact trivial
  have hsz_13 : w_11.heap.size = w_7.heap.size := by rw [s_12.heap]
  refine wk_pure (show opD nR10w9_1 2 = some (some 15, .move (.tmp 14), 4, none) from by kernel_rfl) (by kernel_rfl) (.bool false) (fun _ => y_move (by kernel_rfl)) ?_
  refine wk_pure (show opD nR10w9_1 3 = some (some 16, .fieldAddr 37 (.tmp 3) 0, 0, some (2, false)) from by kernel_rfl) (by kernel_rfl) (.pointer (some ⟨b_1, 0, none⟩)) (fun _ => x_fieldAddr (b := b_1) (off := 0) (o := 0) (by kernel_rfl) (by kernel_rfl)) ?_
  refine wk_pure (show opD nR10w9_1 5 = some (some 18, .move (.tmp 0), 27, some (2, false)) from by kernel_rfl) (by kernel_rfl) (.pointer (some ⟨r, 0, none⟩)) (fun _ => y_move (by kernel_rfl)) ?_
  refine wk_pure (show opD nR10w9_1 6 = some (some 19, .nilCheck (.tmp 18), 0, some (2, false)) from by kernel_rfl) (by kernel_rfl) (.pointer (some ⟨r, 0, none⟩)) (fun _ => x_nilCheck (by kernel_rfl)) ?_
  refine wk_pure (show opD nR10w9_1 7 = some (some 20, .fieldAddr 54 (.tmp 19) 4, 0, some (2, false)) from by kernel_rfl) (by kernel_rfl) (.pointer (some ⟨r, 4, none⟩)) (fun _ => x_fieldAddr (b := r) (off := 0) (o := 4) (by kernel_rfl) (by kernel_rfl)) ?_
  have hb_14 : w_11.heap[b_1]? = some (.cells #[.int .i64 ((pr : Nat) : Int), .int .i64 ((pc : Nat) : Int), .slice wa W.length wc] 37 (0, 0)) := (s_12.keep (sm_8.keep hb_6))
  refine wk_read (show opD nR10w9_1 4 = some (some 17, .load 3 (.tmp 16), 3, some (2, false)) from by kernel_rfl) (by kernel_rfl) (.int .i64 ((pr : Nat) : Int)) (fun w'_ g_ => x_load (b := b_1) (off := 0) (by kernel_rfl) (by kernel_rfl) (g_.keep hb_14) (by kernel_rfl)) ?_
  have hb_15 : w_11.heap[r]? = some (.cells #[.int .i64 ((place : Nat) : Int), .int .i64 ((n : Nat) : Int), .slice la L.length lc, .slice (some ⟨ck, 0, none⟩) ((chk L.length n n).length) kc, .int .i64 ((round : Nat) : Int), .bool told, .bool false] 54 (0, 0)) := (s_12.keep hb_10)
  refine wk_read (show opD nR10w9_1 8 = some (some 21, .load 3 (.tmp 20), 3, some (2, false)) from by kernel_rfl) (by kernel_rfl) (.int .i64 ((round : Nat) : Int)) (fun w'_ g_ => x_load (b := r) (off := 4) (by kernel_rfl) (by kernel_rfl) (g_.keep hb_15) (by kernel_rfl)) ?_
  refine wk_pure (show opD nR10w9_1 9 = some (some 22, .binOp .lss 3 (.tmp 17) (.tmp 21) 3, 4, some (2, false)) from by kernel_rfl) (by kernel_rfl) (.bool false) (fun _ => y_lss (k := .i64) (a := ((pr : Nat) : Int)) (b := ((round : Nat) : Int)) (by kernel_rfl) (by kernel_rfl) (decide_eq_false (by omega))) ?_
  refine wk_pure (show opD nR10w9_1 10 = some (some 23, .pick (.tmp 15) (.const (.bool true)) (.tmp 22), 4, none) from by kernel_rfl) (by kernel_rfl) (.bool false) (fun _ => y_pick_f (by kernel_rfl) (by kernel_rfl)) ?_
  refine wk_pure (show opD nR10w9_1 11 = some (some 24, .move (.tmp 23), 4, none) from by kernel_rfl) (by kernel_rfl) (.bool false) (fun _ => y_move (by kernel_rfl)) ?_
  refine wk_pure (show opD nR10w9_1 12 = some (some 25, .fieldAddr 37 (.tmp 3) 0, 0, some (11, false)) from by kernel_rfl) (by kernel_rfl) (.pointer (some ⟨b_1, 0, none⟩)) (fun _ => x_fieldAddr (b := b_1) (off := 0) (o := 0) (by kernel_rfl) (by kernel_rfl)) ?_
  refine wk_pure (show opD nR10w9_1 14 = some (some 27, .move (.tmp 0), 27, some (11, false)) from by kernel_rfl) (by kernel_rfl) (.pointer (some ⟨r, 0, none⟩)) (fun _ => y_move (by kernel_rfl)) ?_
  refine wk_pure (show opD nR10w9_1 15 = some (some 28, .nilCheck (.tmp 27), 0, some (11, false)) from by kernel_rfl) (by kernel_rfl) (.pointer (some ⟨r, 0, none⟩)) (fun _ => x_nilCheck (by kernel_rfl)) ?_
  refine wk_pure (show opD nR10w9_1 16 = some (some 29, .fieldAddr 54 (.tmp 28) 4, 0, some (11, false)) from by kernel_rfl) (by kernel_rfl) (.pointer (some ⟨r, 4, none⟩)) (fun _ => x_fieldAddr (b := r) (off := 0) (o := 4) (by kernel_rfl) (by kernel_rfl)) ?_
  refine wk_read (show opD nR10w9_1 13 = some (some 26, .load 3 (.tmp 25), 3, some (11, false)) from by kernel_rfl) (by kernel_rfl) (.int .i64 ((pr : Nat) : Int)) (fun w'_ g_ => x_load (b := b_1) (off := 0) (by kernel_rfl) (by kernel_rfl) (g_.keep hb_14) (by kernel_rfl)) ?_
  refine wk_read (show opD nR10w9_1 17 = some (some 30, .load 3 (.tmp 29), 3, some (11, false)) from by kernel_rfl) (by kernel_rfl) (.int .i64 ((round : Nat) : Int)) (fun w'_ g_ => x_load (b := r) (off := 4) (by kernel_rfl) (by kernel_rfl) (g_.keep hb_15) (by kernel_rfl)) ?_
  refine wk_pure (show opD nR10w9_1 18 = some (some 31, .binOp .eql 3 (.tmp 26) (.tmp 30) 3, 4, some (11, false)) from by kernel_rfl) (by kernel_rfl) (.bool true) (fun _ => y_eql (k := .i64) (a := ((pr : Nat) : Int)) (b := ((round : Nat) : Int)) (by kernel_rfl) (by kernel_rfl) (decide_eq_true (by omega))) ?_
  refine wk_pure (show opD nR10w9_1 19 = some (some 32, .move (.tmp 31), 4, some (11, false)) from by kernel_rfl) (by kernel_rfl) (.bool true) (fun _ => y_move (by kernel_rfl)) ?_
  refine wk_pure (show opD nR10w9_1 20 = some (some 33, .move (.tmp 0), 27, some (19, true)) from by kernel_rfl) (by kernel_rfl) (.pointer (some ⟨r, 0, none⟩)) (fun _ => y_move (by kernel_rfl)) ?_
  refine wk_pure (show opD nR10w9_1 21 = some (some 34, .nilCheck (.tmp 33), 0, some (19, true)) from by kernel_rfl) (by kernel_rfl) (.pointer (some ⟨r, 0, none⟩)) (fun _ => x_nilCheck (by kernel_rfl)) ?_
  refine wk_pure (show opD nR10w9_1 22 = some (some 35, .fieldAddr 54 (.tmp 34) 6, 0, some (19, true)) from by kernel_rfl) (by kernel_rfl) (.pointer (some ⟨r, 6, none⟩)) (fun _ => x_fieldAddr (b := r) (off := 0) (o := 6) (by kernel_rfl) (by kernel_rfl)) ?_
  refine wk_read (show opD nR10w9_1 23 = some (some 36, .load 4 (.tmp 35), 4, some (19, true)) from by kernel_rfl) (by kernel_rfl) (.bool false) (fun w'_ g_ => x_load (b := r) (off := 6) (by kernel_rfl) (by kernel_rfl) (g_.keep hb_15) (by kernel_rfl)) ?_
  refine wk_pure (show opD nR10w9_1 24 = some (some 37, .pick (.tmp 32) (.tmp 36) (.const (.bool false)), 4, some (11, false)) from by kernel_rfl) (by kernel_rfl) (.bool false) (fun _ => y_pick_t (by kernel_rfl) (by kernel_rfl)) ?_
  refine wk_pure (show opD nR10w9_1 25 = some (some 38, .pick (.tmp 24) (.const (.bool true)) (.tmp 37), 4, none) from by kernel_rfl) (by kernel_rfl) (.bool false) (fun _ => y_pick_f (by kernel_rfl) (by kernel_rfl)) ?_
  refine wk_pure (show opD nR10w9_1 26 = some (some 12, .assign (.tmp 38), 4, none) from by kernel_rfl) (by kernel_rfl) (.bool false) (fun _ => y_assign (by kernel_rfl)) ?_
  refine wk_nil ?_
  refine thn_n ?_
  refine g_cond_f (o := .tmp 12) (x := nN10w9_8) (y := nN10w9_9) (by kernel_rfl) (by kernel_rfl) ?_
  refine g_seq (x := nN10w9_10) (y := nN10w9_11) (by kernel_rfl) ?_
  refine g_draw (ops := nR10w9_3) (id := 3) (by kernel_rfl) (fun _ _ => True) [(0, .pure), (2, .pure), (3, .pure), (4, .pure), (1, .read), (5, .read), (6, .pure), (7, .pure)] (by kernel_rfl) (by kernel_rfl) (fun _ => trivial) (fun w_16 sm_17 => ?_)
  have hsz_18 : w_16.heap.size = w_11.heap.size := by rw [sm_17.heap]
  refine wk_pure (show opD nR10w9_3 0 = some (some 40, .fieldAddr 37 (.tmp 3) 0, 0, none) from by kernel_rfl) (by kernel_rfl) (.pointer (some ⟨b_1, 0, none⟩)) (fun _ => x_fieldAddr (b := b_1) (off := 0) (o := 0) (by kernel_rfl) (by kernel_rfl)) ?_
  refine wk_pure (show opD nR10w9_3 2 = some (some 42, .move (.tmp 0), 27, none) from by kernel_rfl) (by kernel_rfl) (.pointer (some ⟨r, 0, none⟩)) (fun _ => y_move (by kernel_rfl)) ?_
  refine wk_pure (show opD nR10w9_3 3 = some (some 43, .nilCheck (.tmp 42), 0, none) from by kernel_rfl) (by kernel_rfl) (.pointer (some ⟨r, 0, none⟩)) (fun _ => x_nilCheck (by kernel_rfl)) ?_
  refine wk_pure (show opD nR10w9_3 4 = some (some 44, .fieldAddr 54 (.tmp 43) 4, 0, none) from by kernel_rfl) (by kernel_rfl) (.pointer (some ⟨r, 4, none⟩)) (fun _ => x_fieldAddr (b := r) (off := 0) (o := 4) (by kernel_rfl) (by kernel_rfl)) ?_
  have hb_19 : w_16.heap[b_1]? = some (.cells #[.int .i64 ((pr : Nat) : Int), .int .i64 ((pc : Nat) : Int), .slice wa W.length wc] 37 (0, 0)) := (sm_17.keep hb_14)
  refine wk_read (show opD nR10w9_3 1 = some (some 41, .load 3 (.tmp 40), 3, none) from by kernel_rfl) (by kernel_rfl) (.int .i64 ((pr : Nat) : Int)) (fun w'_ g_ => x_load (b := b_1) (off := 0) (by kernel_rfl) (by kernel_rfl) (g_.keep hb_19) (by kernel_rfl)) ?_
  have hb_20 : w_16.heap[r]? = some (.cells #[.int .i64 ((place : Nat) : Int), .int .i64 ((n : Nat) : Int), .slice la L.length lc, .slice (some ⟨ck, 0, none⟩) ((chk L.length n n).length) kc, .int .i64 ((round : Nat) : Int), .bool told, .bool false] 54 (0, 0)) := (sm_17.keep hb_15)
  refine wk_read (show opD nR10w9_3 5 = some (some 45, .load 3 (.tmp 44), 3, none) from by kernel_rfl) (by kernel_rfl) (.int .i64 ((round : Nat) : Int)) (fun w'_ g_ => x_load (b := r) (off := 4) (by kernel_rfl) (by kernel_rfl) (g_.keep hb_20) (by kernel_rfl)) ?_
  refine wk_pure (show opD nR10w9_3 6 = some (some 46, .binOp .gtr 3 (.tmp 41) (.tmp 45) 3, 4, none) from by kernel_rfl) (by kernel_rfl) (.bool false) (fun _ => y_gtr (k := .i64) (a := ((pr : Nat) : Int)) (b := ((round : Nat) : Int)) (by kernel_rfl) (by kernel_rfl) (decide_eq_false (by omega))) ?_
  refine wk_pure (show opD nR10w9_3 7 = some (some 39, .assign (.tmp 46), 4, none) from by kernel_rfl) (by kernel_rfl) (.bool false) (fun _ => y_assign (by kernel_rfl)) ?_
  refine wk_nil ?_
  refine thn_n ?_
  refine g_cond_f (o := .tmp 39) (x := nN10w9_12) (y := nN10w9_13) (by kernel_rfl) (by kernel_rfl) ?_
  refine g_skip (by kernel_rfl) ?_
  refine blk_n ?_
  refine thn_n ?_
  refine g_seq (x := nN10w9_14) (y := nN10w9_15) (by kernel_rfl) ?_
  refine g_draw (ops := nR10w9_5) (id := 5) (by kernel_rfl) (fun w w' => Grown w w') [(0, .pure), (1, .pure), (2, .pure), (4, .pure), (5, .pure), (6, .pure), (10, .pure), (11, .pure), (12, .pure), (15, .pure), (16, .pure), (17, .pure), (19, .pure), (20, .pure), (21, .pure), (3, .stab), (7, .stab), (8, .pure), (9, .pure), (13, .stab), (14, .pure), (18, .read), (22, .read), (23, .loud), (24, .pure), (25, .pure), (26, .pure), (27, .pure), (28, .pure), (29, .pure), (30, .pure)] (by kernel_rfl) (by kernel_rfl) (fun _ => Grown.refl _) (fun w_21 sm_22 => ?_)
  have hsz_23 : w_21.heap.size = w_16.heap.size := by rw [sm_22.heap]
  refine wk_pure (show opD nR10w9_5 0 = some (some 48, .move (.tmp 0), 27, none) from by kernel_rfl) (by kernel_rfl) (.pointer (some ⟨r, 0, none⟩)) (fun _ => y_move (by kernel_rfl)) ?_
  refine wk_pure (show opD nR10w9_5 1 = some (some 49, .nilCheck (.tmp 48), 0, none) from by kernel_rfl) (by kernel_rfl) (.pointer (some ⟨r, 0, none⟩)) (fun _ => x_nilCheck (by kernel_rfl)) ?_
  refine wk_pure (show opD nR10w9_5 2 = some (some 50, .fieldAddr 54 (.tmp 49) 0, 0, none) from by kernel_rfl) (by kernel_rfl) (.pointer (some ⟨r, 0, none⟩)) (fun _ => x_fieldAddr (b := r) (off := 0) (o := 0) (by kernel_rfl) (by kernel_rfl)) ?_
  refine wk_pure (show opD nR10w9_5 4 = some (some 52, .move (.tmp 0), 27, none) from by kernel_rfl) (by kernel_rfl) (.pointer (some ⟨r, 0, none⟩)) (fun _ => y_move (by kernel_rfl)) ?_
  refine wk_pure (show opD nR10w9_5 5 = some (some 53, .nilCheck (.tmp 52), 0, none) from by kernel_rfl) (by kernel_rfl) (.pointer (some ⟨r, 0, none⟩)) (fun _ => x_nilCheck (by kernel_rfl)) ?_
  refine wk_pure (show opD nR10w9_5 6 = some (some 54, .fieldAddr 54 (.tmp 53) 1, 0, none) from by kernel_rfl) (by kernel_rfl) (.pointer (some ⟨r, 1, none⟩)) (fun _ => x_fieldAddr (b := r) (off := 0) (o := 1) (by kernel_rfl) (by kernel_rfl)) ?_
  refine wk_pure (show opD nR10w9_5 10 = some (some 58, .move (.tmp 0), 27, none) from by kernel_rfl) (by kernel_rfl) (.pointer (some ⟨r, 0, none⟩)) (fun _ => y_move (by kernel_rfl)) ?_
  refine wk_pure (show opD nR10w9_5 11 = some (some 59, .nilCheck (.tmp 58), 0, none) from by kernel_rfl) (by kernel_rfl) (.pointer (some ⟨r, 0, none⟩)) (fun _ => x_nilCheck (by kernel_rfl)) ?_
  refine wk_pure (show opD nR10w9_5 12 = some (some 60, .fieldAddr 54 (.tmp 59) 1, 0, none) from by kernel_rfl) (by kernel_rfl) (.pointer (some ⟨r, 1, none⟩)) (fun _ => x_fieldAddr (b := r) (off := 0) (o := 1) (by kernel_rfl) (by kernel_rfl)) ?_
  refine wk_pure (show opD nR10w9_5 15 = some (some 63, .move (.tmp 0), 27, none) from by kernel_rfl) (by kernel_rfl) (.pointer (some ⟨r, 0, none⟩)) (fun _ => y_move (by kernel_rfl)) ?_
  refine wk_pure (show opD nR10w9_5 16 = some (some 64, .nilCheck (.tmp 63), 0, none) from by kernel_rfl) (by kernel_rfl) (.pointer (some ⟨r, 0, none⟩)) (fun _ => x_nilCheck (by kernel_rfl)) ?_
  refine wk_pure (show opD nR10w9_5 17 = some (some 65, .fieldAddr 54 (.tmp 64) 1, 0, none) from by kernel_rfl) (by kernel_rfl) (.pointer (some ⟨r, 1, none⟩)) (fun _ => x_fieldAddr (b := r) (off := 0) (o := 1) (by kernel_rfl) (by kernel_rfl)) ?_
  refine wk_pure (show opD nR10w9_5 19 = some (some 67, .move (.tmp 0), 27, none) from by kernel_rfl) (by kernel_rfl) (.pointer (some ⟨r, 0, none⟩)) (fun _ => y_move (by kernel_rfl)) ?_
  refine wk_pure (show opD nR10w9_5 20 = some (some 68, .nilCheck (.tmp 67), 0, none) from by kernel_rfl) (by kernel_rfl) (.pointer (some ⟨r, 0, none⟩)) (fun _ => x_nilCheck (by kernel_rfl)) ?_
  refine wk_pure (show opD nR10w9_5 21 = some (some 69, .fieldAddr 54 (.tmp 68) 4, 0, none) from by kernel_rfl) (by kernel_rfl) (.pointer (some ⟨r, 4, none⟩)) (fun _ => x_fieldAddr (b := r) (off := 0) (o := 4) (by kernel_rfl) (by kernel_rfl)) ?_
  refine wk_stab (show opD nR10w9_5 3 = some (some 51, .load 3 (.tmp 50), 3, none) from by kernel_rfl) (by kernel_rfl) (.int .i64 ((place : Nat) : Int)) (fun w'_ g_ => x_load (b := r) (off := 0) (by kernel_rfl) (by kernel_rfl) (Grown.keep g_ (sm_22.keep hb_20)) (by kernel_rfl)) ?_
  refine wk_stab (show opD nR10w9_5 7 = some (some 55, .load 3 (.tmp 54), 3, none) from by kernel_rfl) (by kernel_rfl) (.int .i64 ((n : Nat) : Int)) (fun w'_ g_ => x_load (b := r) (off := 1) (by kernel_rfl) (by kernel_rfl) (Grown.keep g_ (sm_22.keep hb_20)) (by kernel_rfl)) ?_
  refine wk_pure (show opD nR10w9_5 8 = some (some 56, .binOp .add 3 (.tmp 51) (.tmp 55) 3, 3, none) from by kernel_rfl) (by kernel_rfl) (.int .i64 ((place : Int) + (n : Int))) (fun _ => y_add (k := .i64) (a := ((place : Nat) : Int)) (b := ((n : Nat) : Int)) (by kernel_rfl) (by kernel_rfl) (i64_id (by omega))) ?_
  refine wk_pure (show opD nR10w9_5 9 = some (some 57, .binOp .sub 3 (.tmp 56) (.const (.int .i64 1)) 3, 3, none) from by kernel_rfl) (by kernel_rfl) (.int .i64 ((place : Int) + (n : Int) - 1)) (fun _ => y_sub (k := .i64) (a := ((place : Int) + (n : Int))) (b := 1) (by kernel_rfl) (by kernel_rfl) (i64_id (by omega))) ?_
  refine wk_stab (show opD nR10w9_5 13 = some (some 61, .load 3 (.tmp 60), 3, none) from by kernel_rfl) (by kernel_rfl) (.int .i64 ((n : Nat) : Int)) (fun w'_ g_ => x_load (b := r) (off := 1) (by kernel_rfl) (by kernel_rfl) (Grown.keep g_ (sm_22.keep hb_20)) (by kernel_rfl)) ?_
  refine wk_pure (show opD nR10w9_5 14 = some (some 62, .binOp .rem 3 (.tmp 57) (.tmp 61) 3, 3, none) from by kernel_rfl) (by kernel_rfl) (.int .i64 (((place + n - 1) % n : Nat) : Int)) (fun _ => y_rem (k := .i64) (a := ((place : Int) + (n : Int) - 1)) (b := ((n : Nat) : Int)) (by kernel_rfl) (by kernel_rfl) (by omega) (by rw [show ((place : Int) + (n : Int) - 1) = ((place + n - 1 : Nat) : Int) by omega]; exact nat_rem)) ?_
  have hb_24 : w_21.heap[r]? = some (.cells #[.int .i64 ((place : Nat) : Int), .int .i64 ((n : Nat) : Int), .slice la L.length lc, .slice (some ⟨ck, 0, none⟩) ((chk L.length n n).length) kc, .int .i64 ((round : Nat) : Int), .bool told, .bool false] 54 (0, 0)) := (sm_22.keep hb_20)
  refine wk_read (show opD nR10w9_5 18 = some (some 66, .load 3 (.tmp 65), 3, none) from by kernel_rfl) (by kernel_rfl) (.int .i64 ((n : Nat) : Int)) (fun w'_ g_ => x_load (b := r) (off := 1) (by kernel_rfl) (by kernel_rfl) (g_.keep hb_24) (by kernel_rfl)) ?_
  refine wk_read (show opD nR10w9_5 22 = some (some 70, .load 3 (.tmp 69), 3, none) from by kernel_rfl) (by kernel_rfl) (.int .i64 ((round : Nat) : Int)) (fun w'_ g_ => x_load (b := r) (off := 4) (by kernel_rfl) (by kernel_rfl) (g_.keep hb_24) (by kernel_rfl)) ?_
  refine wk_call (show opD nR10w9_5 23 = some (some 71, .call ⟨.value (.func 21), #[.tmp 62, .tmp 66, .tmp 70], #[3, 3, 3]⟩, 61, none) from by kernel_rfl) (by kernel_rfl) 21 #[.int .i64 (((place + n - 1) % n : Nat) : Int), .int .i64 ((n : Nat) : Int), .int .i64 ((round : Nat) : Int)] (x_call Try.func21 (by kernel_rfl) (c := (Try.f21.body).getD .skip) (by kernel_rfl) (by kernel_rfl) (by kernel_rfl)) (sends_n (place := (place + n - 1) % n) (n := n) (round := round) (by omega) (by omega) (by (first | omega | exact Nat.mod_lt _ (by omega))) (by omega) ⟨?_, ?_⟩)
  · exact (Grown.refl _)
  have hsl := sendsN_lt (place := (place + n - 1) % n) (n := n) (round := round) (by omega)
  have hcb := cBounds (len := L.length) hsl
  refine wk_pure (show opD nR10w9_5 24 = some (some 47, .move (.tmp 71), 61, none) from by kernel_rfl) (by kernel_rfl) (.tuple #[.int .i64 ((sendsN ((place + n - 1) % n) n round : Nat) : Int), .bool (addsN n round), .int .i64 0]) (fun _ => y_move (by kernel_rfl)) ?_
  refine wk_pure (show opD nR10w9_5 25 = some (some 72, .extract (.tmp 47) 0, 3, none) from by kernel_rfl) (by kernel_rfl) (.int .i64 ((sendsN ((place + n - 1) % n) n round : Nat) : Int)) (fun _ => x_extract (vs := #[.int .i64 ((sendsN ((place + n - 1) % n) n round : Nat) : Int), .bool (addsN n round), .int .i64 0]) (by kernel_rfl) (by kernel_rfl)) ?_
  refine wk_pure (show opD nR10w9_5 26 = some (some 73, .extract (.tmp 47) 1, 4, none) from by kernel_rfl) (by kernel_rfl) (.bool (addsN n round)) (fun _ => x_extract (vs := #[.int .i64 ((sendsN ((place + n - 1) % n) n round : Nat) : Int), .bool (addsN n round), .int .i64 0]) (by kernel_rfl) (by kernel_rfl)) ?_
  refine wk_pure (show opD nR10w9_5 27 = some (some 74, .extract (.tmp 47) 2, 28, none) from by kernel_rfl) (by kernel_rfl) (.int .i64 0) (fun _ => x_extract (vs := #[.int .i64 ((sendsN ((place + n - 1) % n) n round : Nat) : Int), .bool (addsN n round), .int .i64 0]) (by kernel_rfl) (by kernel_rfl)) ?_
  refine wk_pure (show opD nR10w9_5 28 = some (some 5, .assign (.tmp 72), 3, none) from by kernel_rfl) (by kernel_rfl) (.int .i64 ((sendsN ((place + n - 1) % n) n round : Nat) : Int)) (fun _ => y_assign (by kernel_rfl)) ?_
  refine wk_pure (show opD nR10w9_5 29 = some (some 6, .assign (.tmp 73), 4, none) from by kernel_rfl) (by kernel_rfl) (.bool (addsN n round)) (fun _ => y_assign (by kernel_rfl)) ?_
  refine wk_pure (show opD nR10w9_5 30 = some (some 7, .assign (.tmp 74), 28, none) from by kernel_rfl) (by kernel_rfl) (.int .i64 0) (fun _ => y_assign (by kernel_rfl)) ?_
  refine wk_nil ?_
  refine thn_n ?_
  refine g_seq (x := nN10w9_16) (y := nN10w9_17) (by kernel_rfl) ?_
  refine g_draw (ops := nR10w9_6) (id := 6) (by kernel_rfl) (fun _ _ => True) [(0, .pure), (1, .pure), (2, .pure), (4, .pure), (8, .pure), (9, .pure), (10, .pure), (12, .pure), (3, .read), (5, .pure), (6, .pure), (7, .read), (16, .pure), (11, .read), (13, .pure), (14, .pure), (15, .read), (17, .pure)] (by kernel_rfl) (by kernel_rfl) (fun _ => trivial) (fun w_25 sm_26 => ?_)
  have hsz_27 : w_25.heap.size = w_21.heap.size := by rw [sm_26.heap]
  refine wk_pure (show opD nR10w9_6 0 = some (some 75, .move (.tmp 0), 27, none) from by kernel_rfl) (by kernel_rfl) (.pointer (some ⟨r, 0, none⟩)) (fun _ => y_move (by kernel_rfl)) ?_
  refine wk_pure (show opD nR10w9_6 1 = some (some 76, .nilCheck (.tmp 75), 0, none) from by kernel_rfl) (by kernel_rfl) (.pointer (some ⟨r, 0, none⟩)) (fun _ => x_nilCheck (by kernel_rfl)) ?_
  refine wk_pure (show opD nR10w9_6 2 = some (some 77, .fieldAddr 54 (.tmp 76) 3, 0, none) from by kernel_rfl) (by kernel_rfl) (.pointer (some ⟨r, 3, none⟩)) (fun _ => x_fieldAddr (b := r) (off := 0) (o := 3) (by kernel_rfl) (by kernel_rfl)) ?_
  refine wk_pure (show opD nR10w9_6 4 = some (some 79, .move (.tmp 5), 3, none) from by kernel_rfl) (by kernel_rfl) (.int .i64 ((sendsN ((place + n - 1) % n) n round : Nat) : Int)) (fun _ => y_move (by kernel_rfl)) ?_
  refine wk_pure (show opD nR10w9_6 8 = some (some 83, .move (.tmp 0), 27, none) from by kernel_rfl) (by kernel_rfl) (.pointer (some ⟨r, 0, none⟩)) (fun _ => y_move (by kernel_rfl)) ?_
  refine wk_pure (show opD nR10w9_6 9 = some (some 84, .nilCheck (.tmp 83), 0, none) from by kernel_rfl) (by kernel_rfl) (.pointer (some ⟨r, 0, none⟩)) (fun _ => x_nilCheck (by kernel_rfl)) ?_
  refine wk_pure (show opD nR10w9_6 10 = some (some 85, .fieldAddr 54 (.tmp 84) 3, 0, none) from by kernel_rfl) (by kernel_rfl) (.pointer (some ⟨r, 3, none⟩)) (fun _ => x_fieldAddr (b := r) (off := 0) (o := 3) (by kernel_rfl) (by kernel_rfl)) ?_
  refine wk_pure (show opD nR10w9_6 12 = some (some 87, .move (.tmp 5), 3, none) from by kernel_rfl) (by kernel_rfl) (.int .i64 ((sendsN ((place + n - 1) % n) n round : Nat) : Int)) (fun _ => y_move (by kernel_rfl)) ?_
  have hb_28 : w_25.heap[r]? = some (.cells #[.int .i64 ((place : Nat) : Int), .int .i64 ((n : Nat) : Int), .slice la L.length lc, .slice (some ⟨ck, 0, none⟩) ((chk L.length n n).length) kc, .int .i64 ((round : Nat) : Int), .bool told, .bool false] 54 (0, 0)) := (sm_26.keep hb_24)
  refine wk_read (show opD nR10w9_6 3 = some (some 78, .load 49 (.tmp 77), 49, none) from by kernel_rfl) (by kernel_rfl) (.slice (some ⟨ck, 0, none⟩) ((chk L.length n n).length) kc) (fun w'_ g_ => x_load (b := r) (off := 3) (by kernel_rfl) (by kernel_rfl) (g_.keep hb_28) (by kernel_rfl)) ?_
  have hb_29 : OwnE w_25 63 2 ck kc encP (chk L.length n n) crest := (sm_26.keepOwn (sm_22.keepOwn (sm_17.keepOwn (s_12.keepOwn (sm_8.keepOwn (e_3.keepOwn hcc List.not_mem_nil))))))
  refine wk_pure (show opD nR10w9_6 5 = some (some 80, .indexAddr 49 (.tmp 78) (.tmp 79), 0, none) from by kernel_rfl) (by kernel_rfl) (.pointer (some ⟨ck, 0 + ((sendsN ((place + n - 1) % n) n round) * 2 + 0), none⟩)) (fun _ => y_ptr (x_indexN (a := some ⟨ck, 0, none⟩) (b := ck) (off := 0) (n := ((chk L.length n n).length)) (c := kc) (k := .i64) (i := ((sendsN ((place + n - 1) % n) n round : Nat) : Int)) (e := 63) (sz := 2) (sz' := 2) (by kernel_rfl) hb_29.sl (by kernel_rfl) (by kernel_rfl) rfl (by omega) _) (by omega)) ?_
  refine wk_pure (show opD nR10w9_6 6 = some (some 81, .indexAddr 63 (.tmp 80) (.const (.int .i64 0)), 0, none) from by kernel_rfl) (by kernel_rfl) (.pointer (some ⟨ck, 0 + ((sendsN ((place + n - 1) % n) n round) * 2 + 0), none⟩)) (fun _ => y_ptr (x_indexArr (b := ck) (off := (0 + ((sendsN ((place + n - 1) % n) n round) * 2 + 0))) (k := .i64) (i := 0) (e := 3) (len := 2) (sz := 1) (by kernel_rfl) (by kernel_rfl) (by kernel_rfl) (by decide)) (by omega)) ?_
  refine wk_read (show opD nR10w9_6 7 = some (some 82, .load 3 (.tmp 81), 3, none) from by kernel_rfl) (by kernel_rfl) (.int .i64 ((cFrom L.length n (sendsN ((place + n - 1) % n) n round) : Nat) : Int)) (fun w'_ g_ => x_load_c (b := ck) (off := (0 + ((sendsN ((place + n - 1) % n) n round) * 2 + 0))) (by kernel_rfl) (by kernel_rfl) (SlE.get (g_.keepOwn hb_29).sl encP_len (0, 0) (sendsN ((place + n - 1) % n) n round) 0 (by omega) rfl)) ?_
  refine wk_pure (show opD nR10w9_6 16 = some (some 8, .assign (.tmp 82), 3, none) from by kernel_rfl) (by kernel_rfl) (.int .i64 ((cFrom L.length n (sendsN ((place + n - 1) % n) n round) : Nat) : Int)) (fun _ => y_assign (by kernel_rfl)) ?_
  refine wk_read (show opD nR10w9_6 11 = some (some 86, .load 49 (.tmp 85), 49, none) from by kernel_rfl) (by kernel_rfl) (.slice (some ⟨ck, 0, none⟩) ((chk L.length n n).length) kc) (fun w'_ g_ => x_load (b := r) (off := 3) (by kernel_rfl) (by kernel_rfl) (g_.keep hb_28) (by kernel_rfl)) ?_
  refine wk_pure (show opD nR10w9_6 13 = some (some 88, .indexAddr 49 (.tmp 86) (.tmp 87), 0, none) from by kernel_rfl) (by kernel_rfl) (.pointer (some ⟨ck, 0 + ((sendsN ((place + n - 1) % n) n round) * 2 + 0), none⟩)) (fun _ => y_ptr (x_indexN (a := some ⟨ck, 0, none⟩) (b := ck) (off := 0) (n := ((chk L.length n n).length)) (c := kc) (k := .i64) (i := ((sendsN ((place + n - 1) % n) n round : Nat) : Int)) (e := 63) (sz := 2) (sz' := 2) (by kernel_rfl) hb_29.sl (by kernel_rfl) (by kernel_rfl) rfl (by omega) _) (by omega)) ?_
  refine wk_pure (show opD nR10w9_6 14 = some (some 89, .indexAddr 63 (.tmp 88) (.const (.int .i64 1)), 0, none) from by kernel_rfl) (by kernel_rfl) (.pointer (some ⟨ck, 0 + ((sendsN ((place + n - 1) % n) n round) * 2 + 1), none⟩)) (fun _ => y_ptr (x_indexArr (b := ck) (off := (0 + ((sendsN ((place + n - 1) % n) n round) * 2 + 0))) (k := .i64) (i := 1) (e := 3) (len := 2) (sz := 1) (by kernel_rfl) (by kernel_rfl) (by kernel_rfl) (by decide)) (by omega)) ?_
  refine wk_read (show opD nR10w9_6 15 = some (some 90, .load 3 (.tmp 89), 3, none) from by kernel_rfl) (by kernel_rfl) (.int .i64 ((cTo L.length n (sendsN ((place + n - 1) % n) n round) : Nat) : Int)) (fun w'_ g_ => x_load_c (b := ck) (off := (0 + ((sendsN ((place + n - 1) % n) n round) * 2 + 1))) (by kernel_rfl) (by kernel_rfl) (SlE.get (g_.keepOwn hb_29).sl encP_len (0, 0) (sendsN ((place + n - 1) % n) n round) 1 (by omega) rfl)) ?_
  refine wk_pure (show opD nR10w9_6 17 = some (some 9, .assign (.tmp 90), 3, none) from by kernel_rfl) (by kernel_rfl) (.int .i64 ((cTo L.length n (sendsN ((place + n - 1) % n) n round) : Nat) : Int)) (fun _ => y_assign (by kernel_rfl)) ?_
  refine wk_nil ?_
  refine thn_n ?_
  refine g_seq (x := nN10w9_18) (y := nN10w9_19) (by kernel_rfl) ?_
  refine g_seq (x := nN10w9_20) (y := nN10w9_21) (by kernel_rfl) ?_
  refine g_region (ops := nR10w9_7) (id := 7) (by kernel_rfl) [(0, .pure), (1, .loud), (2, .pure), (3, .pure), (4, .pure), (5, .pure), (6, .loud), (7, .pure), (8, .pure), (9, .pure), (10, .pure), (11, .pure), (12, .pure)] (by kernel_rfl) (by kernel_rfl) ?_
  refine wk_pure (show opD nR10w9_7 0 = some (some 91, .fieldAddr 37 (.tmp 3) 1, 0, none) from by kernel_rfl) (by kernel_rfl) (.pointer (some ⟨b_1, 1, none⟩)) (fun _ => x_fieldAddr (b := b_1) (off := 0) (o := 1) (by kernel_rfl) (by kernel_rfl)) ?_
  have hb_30 : w_25.heap[b_1]? = some (.cells #[.int .i64 ((pr : Nat) : Int), .int .i64 ((pc : Nat) : Int), .slice wa W.length wc] 37 (0, 0)) := (sm_26.keep (sm_22.keep hb_19))
  refine wk_val (show opD nR10w9_7 1 = some (some 92, .load 3 (.tmp 91), 3, none) from by kernel_rfl) (by kernel_rfl) (.int .i64 ((pc : Nat) : Int)) (x_load (b := b_1) (off := 1) (by kernel_rfl) (by kernel_rfl) hb_30 (by kernel_rfl)) trivial ?_
  refine wk_pure (show opD nR10w9_7 2 = some (some 93, .move (.tmp 5), 3, none) from by kernel_rfl) (by kernel_rfl) (.int .i64 ((sendsN ((place + n - 1) % n) n round : Nat) : Int)) (fun _ => y_move (by kernel_rfl)) ?_
  refine wk_pure (show opD nR10w9_7 3 = some (some 94, .binOp .neq 3 (.tmp 92) (.tmp 93) 3, 4, none) from by kernel_rfl) (by kernel_rfl) (.bool false) (fun _ => y_neq (k := .i64) (a := ((pc : Nat) : Int)) (b := ((sendsN ((place + n - 1) % n) n round : Nat) : Int)) (by kernel_rfl) (by kernel_rfl) (decide_eq_false (by omega))) ?_
  refine wk_pure (show opD nR10w9_7 4 = some (some 95, .move (.tmp 94), 4, none) from by kernel_rfl) (by kernel_rfl) (.bool false) (fun _ => y_move (by kernel_rfl)) ?_
  refine wk_pure (show opD nR10w9_7 5 = some (some 96, .fieldAddr 37 (.tmp 3) 2, 0, some (4, false)) from by kernel_rfl) (by kernel_rfl) (.pointer (some ⟨b_1, 2, none⟩)) (fun _ => x_fieldAddr (b := b_1) (off := 0) (o := 2) (by kernel_rfl) (by kernel_rfl)) ?_
  refine wk_val (show opD nR10w9_7 6 = some (some 97, .load 25 (.tmp 96), 25, some (4, false)) from by kernel_rfl) (by kernel_rfl) (.slice wa W.length wc) (x_load (b := b_1) (off := 2) (by kernel_rfl) (by kernel_rfl) hb_30 (by kernel_rfl)) trivial ?_
  refine wk_pure (show opD nR10w9_7 7 = some (some 98, .call ⟨.builtin .len, #[.tmp 97], #[25]⟩, 3, some (4, false)) from by kernel_rfl) (by kernel_rfl) (.int .i64 ((W.length : Nat) : Int)) (fun _ => x_len (a := wa) (n := W.length) (c := wc) (by kernel_rfl) (by kernel_rfl)) ?_
  refine wk_pure (show opD nR10w9_7 8 = some (some 99, .move (.tmp 9), 3, some (4, false)) from by kernel_rfl) (by kernel_rfl) (.int .i64 ((cTo L.length n (sendsN ((place + n - 1) % n) n round) : Nat) : Int)) (fun _ => y_move (by kernel_rfl)) ?_
  refine wk_pure (show opD nR10w9_7 9 = some (some 100, .move (.tmp 8), 3, some (4, false)) from by kernel_rfl) (by kernel_rfl) (.int .i64 ((cFrom L.length n (sendsN ((place + n - 1) % n) n round) : Nat) : Int)) (fun _ => y_move (by kernel_rfl)) ?_
  refine wk_pure (show opD nR10w9_7 10 = some (some 101, .binOp .sub 3 (.tmp 99) (.tmp 100) 3, 3, some (4, false)) from by kernel_rfl) (by kernel_rfl) (.int .i64 (((cTo L.length n (sendsN ((place + n - 1) % n) n round) : Nat) : Int) - ((cFrom L.length n (sendsN ((place + n - 1) % n) n round) : Nat) : Int))) (fun _ => y_sub (k := .i64) (a := ((cTo L.length n (sendsN ((place + n - 1) % n) n round) : Nat) : Int)) (b := ((cFrom L.length n (sendsN ((place + n - 1) % n) n round) : Nat) : Int)) (by kernel_rfl) (by kernel_rfl) (i64_id (by omega))) ?_
  refine wk_pure (show opD nR10w9_7 11 = some (some 102, .binOp .neq 3 (.tmp 98) (.tmp 101) 3, 4, some (4, false)) from by kernel_rfl) (by kernel_rfl) (.bool true) (fun _ => y_neq (k := .i64) (a := ((W.length : Nat) : Int)) (b := (((cTo L.length n (sendsN ((place + n - 1) % n) n round) : Nat) : Int) - ((cFrom L.length n (sendsN ((place + n - 1) % n) n round) : Nat) : Int))) (by kernel_rfl) (by kernel_rfl) (decide_eq_true (by omega))) ?_
  refine wk_pure (show opD nR10w9_7 12 = some (some 103, .pick (.tmp 95) (.const (.bool true)) (.tmp 102), 4, none) from by kernel_rfl) (by kernel_rfl) (.bool true) (fun _ => y_pick_f (by kernel_rfl) (by kernel_rfl)) ?_
  refine wk_nil ?_
  refine thn_n ?_
  refine g_cond_t (o := .tmp 103) (x := nN10w9_22) (y := nN10w9_23) (by kernel_rfl) (by kernel_rfl) ?_
  refine g_seq (x := nN10w9_24) (y := nN10w9_25) (by kernel_rfl) ?_
  refine g_region (ops := nR10w9_8) (id := 8) (by kernel_rfl) [(0, .pure)] (by kernel_rfl) (by kernel_rfl) ?_
  refine wk_pure (show opD nR10w9_8 0 = some (some 4, .assign (.const (.int .i64 3)), 28, none) from by kernel_rfl) (by kernel_rfl) (.int .i64 3) (fun _ => y_assign (by kernel_rfl)) ?_
  refine wk_nil ?_
  refine thn_n ?_
  refine g_ret (by kernel_rfl) ?_
  refine thn_r ?_
  refine ends1_r (v := .int .i64 3) rfl (by kernel_rfl) ?_
  exact hK _ (Ext.then (Ext.then (Ext.then (Ext.then (Ext.then (Ext.then (Ext.refl [] _) e_3 (fun _ h_ => absurd h_ List.not_mem_nil)) (sm_8.ext []) (fun _ h_ => absurd h_ List.not_mem_nil)) (s_12.ext []) (fun _ h_ => absurd h_ List.not_mem_nil)) (sm_17.ext []) (fun _ h_ => absurd h_ List.not_mem_nil)) (sm_22.ext []) (fun _ h_ => absurd h_ List.not_mem_nil)) (sm_26.ext []) (fun _ h_ => absurd h_ List.not_mem_nil)) (by omega)

noncomputable def nN10w10_0 : Code := (Try.f10.body).getD .skip
noncomputable def nN10w10_1 : Code := s1 nN10w10_0
noncomputable def nN10w10_2 : Code := s2 nN10w10_0
noncomputable def nR10w10_0 : Array Oper := rops nN10w10_1
noncomputable def nN10w10_3 : Code := s1 nN10w10_2
noncomputable def nN10w10_4 : Code := s2 nN10w10_2
noncomputable def nN10w10_5 : Code := s1 nN10w10_3
noncomputable def nN10w10_6 : Code := s1 nN10w10_5
noncomputable def nN10w10_7 : Code := s2 nN10w10_5
noncomputable def nR10w10_1 : Array Oper := rops nN10w10_6
noncomputable def nN10w10_8 : Code := s1 nN10w10_7
noncomputable def nN10w10_9 : Code := s2 nN10w10_7
noncomputable def nN10w10_10 : Code := s1 nN10w10_9
noncomputable def nN10w10_11 : Code := s2 nN10w10_9
noncomputable def nR10w10_3 : Array Oper := rops nN10w10_10
noncomputable def nN10w10_12 : Code := s1 nN10w10_11
noncomputable def nN10w10_13 : Code := s2 nN10w10_11
noncomputable def nN10w10_14 : Code := s1 nN10w10_4
noncomputable def nN10w10_15 : Code := s2 nN10w10_4
noncomputable def nR10w10_5 : Array Oper := rops nN10w10_14
noncomputable def nN10w10_16 : Code := s1 nN10w10_15
noncomputable def nN10w10_17 : Code := s2 nN10w10_15
noncomputable def nR10w10_6 : Array Oper := rops nN10w10_16
noncomputable def nN10w10_18 : Code := s1 nN10w10_17
noncomputable def nN10w10_19 : Code := s2 nN10w10_17
noncomputable def nN10w10_20 : Code := s1 nN10w10_18
noncomputable def nN10w10_21 : Code := s2 nN10w10_18
noncomputable def nR10w10_7 : Array Oper := rops nN10w10_20
noncomputable def nN10w10_22 : Code := s1 nN10w10_21
noncomputable def nN10w10_23 : Code := s2 nN10w10_21
noncomputable def nN10w10_24 : Code := s1 nN10w10_19
noncomputable def nN10w10_25 : Code := s2 nN10w10_19
noncomputable def nN10w10_26 : Code := s1 nN10w10_24
noncomputable def nN10w10_27 : Code := s2 nN10w10_24
noncomputable def nR10w10_9 : Array Oper := rops nN10w10_26
noncomputable def nN10w10_28 : Code := s1 nN10w10_27
noncomputable def nN10w10_29 : Code := s1 nN10w10_28
noncomputable def nN10w10_30 : Code := s1 nN10w10_29
noncomputable def nN10w10_31 : Code := s2 nN10w10_29
noncomputable def nR10w10_10 : Array Oper := rops nN10w10_30
noncomputable def nN10w10_32 : Code := s1 nN10w10_31
noncomputable def nN10w10_33 : Code := s2 nN10w10_31
noncomputable def nN10w10_34 : Code := s1 nN10w10_32
noncomputable def nN10w10_35 : Code := s2 nN10w10_32
noncomputable def nN10w10_36 : Code := s1 nN10w10_25
noncomputable def nN10w10_37 : Code := s2 nN10w10_25
noncomputable def nR10w10_16 : Array Oper := rops nN10w10_36
noncomputable def nN10w10_38 : Code := s1 nN10w10_37
noncomputable def nN10w10_39 : Code := s2 nN10w10_37
noncomputable def nR10w10_17 : Array Oper := rops nN10w10_38
noncomputable def nN10w10_40 : Code := s1 nN10w10_39
noncomputable def nN10w10_41 : Code := s2 nN10w10_39
noncomputable def nR10w10_18 : Array Oper := rops nN10w10_40
theorem get_ok0 {r g ck place n : Nat} {L : List Int} {round : Nat} {told : Bool} {la : Option Addr} {lc kc : Nat} {rest crest : List Value} {w : World} (hR : RingAt w r g ck place n L round told false la lc kc rest crest) {pr pc wc : Nat} {wa : Option Addr} {W : List Int} (hd : round ≤ 2 * n - 3) (hn : 2 ≤ n) (hp : pr = round) {pb offp : Nat} (hc : pc = (sendsN ((place + n - 1) % n) n round)) (hw : W.length + cFrom L.length n (sendsN ((place + n - 1) % n) n round) = cTo L.length n (sendsN ((place + n - 1) % n) n round)) (hs : SlE w 2 wa pb offp encW W) (hpg : W.length = 0 ∨ pb ≠ g) (hwi : ∀ i, InW (W.getD i 0)) (hL : L.length = 0) {K : Value → World → Prop} (hK : ∀ w', Ext [r, g] w w' → RingAt w' r g ck place n (mixL L W (cFrom L.length n (sendsN ((place + n - 1) % n) n round)) (addsN n round) W.length) (if told && true then round + 1 else round) (told && !true) (true && !told) la lc kc rest crest → w.heap.size ≤ w'.heap.size → K (.int .i64 0) w') : CallsV Try.prog 10 #[.pointer (some ⟨r, 0, none⟩), .agg #[.int .i64 ((pr : Nat) : Int), .int .i64 ((pc : Nat) : Int), .slice wa W.length wc]] w K := by
  refine callsV_of (c := nN10w10_0) Try.func10 (by kernel_rfl) (n := 139) (by kernel_rfl) ?_
  have hr := hR.hr
  have hl := hR.hl
  have hcc := hR.hc
  have hgr := hR.nr
  have hkr := hR.kr
  have hkg := hR.kg
  have h1 := hR.h1
  have h2 := hR.h2
  have h3 := hR.h3
  have h4 := hR.h4
  have h5 := hR.h5
  have hi := hR.hi
  have hgl := hR.gl
  have hcl := chk_len L.length n n
  have hll := hl.le
  have hrl := lt_of_block hr
  have hkl := hcc.lt
  refine g_seq (x := nN10w10_1) (y := nN10w10_2) (by kernel_rfl) ?_
  refine g_region (ops := nR10w10_0) (id := 0) (by kernel_rfl) [(0, .loud), (1, .pure)] (by kernel_rfl) (by kernel_rfl) ?_
  refine wk_box (cs := #[.int .i64 ((pr : Nat) : Int), .int .i64 ((pc : Nat) : Int), .slice wa W.length wc]) (show opD nR10w10_0 0 = some (some 3, .box 37 (.tmp 1), 0, none) from by kernel_rfl) (by kernel_rfl) (by kernel_rfl) (fun w_2 b_1 eq_4 e_3 sz_5 hb_6 => ⟨?_, ?_⟩)
  · exact trivial
  refine wk_pure (show opD nR10w10_0 1 = some (some 4, .assign (.const (.int .i64 0)), 28, none) from by kernel_rfl) (by kernel_rfl) (.int .i64 0) (fun _ => y_assign (by kernel_rfl)) ?_
  refine wk_nil ?_
  refine thn_n ?_
  refine g_seq (x := nN10w10_3) (y := nN10w10_4) (by kernel_rfl) ?_
  refine g_block (x := nN10w10_5) (id := 0) (by kernel_rfl) ?_
  refine g_seq (x := nN10w10_6) (y := nN10w10_7) (by kernel_rfl) ?_
  refine g_draw (ops := nR10w10_1) (id := 1) (by kernel_rfl) (fun _ _ => True) [(0, .pure), (1, .loud), (2, .pure), (3, .pure), (5, .pure), (6, .pure), (7, .pure), (4, .read), (8, .read), (9, .pure), (10, .pure), (11, .pure), (12, .pure), (14, .pure), (15, .pure), (16, .pure), (13, .read), (17, .read), (18, .pure), (19, .pure), (20, .pure), (21, .pure), (22, .pure), (23, .read), (24, .pure), (25, .pure), (26, .pure)] (by kernel_rfl) (by kernel_rfl) (fun _ => trivial) (fun w_7 sm_8 => ?_)
  have hsz_9 : w_7.heap.size = w_2.heap.size := by rw [sm_8.heap]
  refine wk_pure (show opD nR10w10_1 0 = some (some 13, .move (.tmp 0), 27, none) from by kernel_rfl) (by kernel_rfl) (.pointer (some ⟨r, 0, none⟩)) (fun _ => y_move (by kernel_rfl)) ?_
  have hb_10 : w_7.heap[r]? = some (.cells #[.int .i64 ((place : Nat) : Int), .int .i64 ((n : Nat) : Int), .slice la L.length lc, .slice (some ⟨ck, 0, none⟩) ((chk L.length n n).length) kc, .int .i64 ((round : Nat) : Int), .bool told, .bool false] 54 (0, 0)) := (sm_8.keep (e_3.keep hr List.not_mem_nil))
  refine wk_call (show opD nR10w10_1 1 = some (some 14, .call ⟨.value (.func 13), #[.tmp 13], #[27]⟩, 4, none) from by kernel_rfl) (by kernel_rfl) 13 #[.pointer (some ⟨r, 0, none⟩)] (x_call Try.func13 (by kernel_rfl) (c := (Try.f13.body).getD .skip) (by kernel_rfl) (by kernel_rfl) (by kernel_rfl)) (done_d hb_10 (by omega) (decide_eq_false (by omega)) (fun w_11 s_12 => ⟨?_, ?_⟩))
  · exact trivial
  have hsz_13 : w_11.heap.size = w_7.heap.size := by rw [s_12.heap]
  refine wk_pure (show opD nR10w10_1 2 = some (some 15, .move (.tmp 14), 4, none) from by kernel_rfl) (by kernel_rfl) (.bool false) (fun _ => y_move (by kernel_rfl)) ?_
  refine wk_pure (show opD nR10w10_1 3 = some (some 16, .fieldAddr 37 (.tmp 3) 0, 0, some (2, false)) from by kernel_rfl) (by kernel_rfl) (.pointer (some ⟨b_1, 0, none⟩)) (fun _ => x_fieldAddr (b := b_1) (off := 0) (o := 0) (by kernel_rfl) (by kernel_rfl)) ?_
  refine wk_pure (show opD nR10w10_1 5 = some (some 18, .move (.tmp 0), 27, some (2, false)) from by kernel_rfl) (by kernel_rfl) (.pointer (some ⟨r, 0, none⟩)) (fun _ => y_move (by kernel_rfl)) ?_
  refine wk_pure (show opD nR10w10_1 6 = some (some 19, .nilCheck (.tmp 18), 0, some (2, false)) from by kernel_rfl) (by kernel_rfl) (.pointer (some ⟨r, 0, none⟩)) (fun _ => x_nilCheck (by kernel_rfl)) ?_
  refine wk_pure (show opD nR10w10_1 7 = some (some 20, .fieldAddr 54 (.tmp 19) 4, 0, some (2, false)) from by kernel_rfl) (by kernel_rfl) (.pointer (some ⟨r, 4, none⟩)) (fun _ => x_fieldAddr (b := r) (off := 0) (o := 4) (by kernel_rfl) (by kernel_rfl)) ?_
  have hb_14 : w_11.heap[b_1]? = some (.cells #[.int .i64 ((pr : Nat) : Int), .int .i64 ((pc : Nat) : Int), .slice wa W.length wc] 37 (0, 0)) := (s_12.keep (sm_8.keep hb_6))
  refine wk_read (show opD nR10w10_1 4 = some (some 17, .load 3 (.tmp 16), 3, some (2, false)) from by kernel_rfl) (by kernel_rfl) (.int .i64 ((pr : Nat) : Int)) (fun w'_ g_ => x_load (b := b_1) (off := 0) (by kernel_rfl) (by kernel_rfl) (g_.keep hb_14) (by kernel_rfl)) ?_
  have hb_15 : w_11.heap[r]? = some (.cells #[.int .i64 ((place : Nat) : Int), .int .i64 ((n : Nat) : Int), .slice la L.length lc, .slice (some ⟨ck, 0, none⟩) ((chk L.length n n).length) kc, .int .i64 ((round : Nat) : Int), .bool told, .bool false] 54 (0, 0)) := (s_12.keep hb_10)
  refine wk_read (show opD nR10w10_1 8 = some (some 21, .load 3 (.tmp 20), 3, some (2, false)) from by kernel_rfl) (by kernel_rfl) (.int .i64 ((round : Nat) : Int)) (fun w'_ g_ => x_load (b := r) (off := 4) (by kernel_rfl) (by kernel_rfl) (g_.keep hb_15) (by kernel_rfl)) ?_
  refine wk_pure (show opD nR10w10_1 9 = some (some 22, .binOp .lss 3 (.tmp 17) (.tmp 21) 3, 4, some (2, false)) from by kernel_rfl) (by kernel_rfl) (.bool false) (fun _ => y_lss (k := .i64) (a := ((pr : Nat) : Int)) (b := ((round : Nat) : Int)) (by kernel_rfl) (by kernel_rfl) (decide_eq_false (by omega))) ?_
  refine wk_pure (show opD nR10w10_1 10 = some (some 23, .pick (.tmp 15) (.const (.bool true)) (.tmp 22), 4, none) from by kernel_rfl) (by kernel_rfl) (.bool false) (fun _ => y_pick_f (by kernel_rfl) (by kernel_rfl)) ?_
  refine wk_pure (show opD nR10w10_1 11 = some (some 24, .move (.tmp 23), 4, none) from by kernel_rfl) (by kernel_rfl) (.bool false) (fun _ => y_move (by kernel_rfl)) ?_
  refine wk_pure (show opD nR10w10_1 12 = some (some 25, .fieldAddr 37 (.tmp 3) 0, 0, some (11, false)) from by kernel_rfl) (by kernel_rfl) (.pointer (some ⟨b_1, 0, none⟩)) (fun _ => x_fieldAddr (b := b_1) (off := 0) (o := 0) (by kernel_rfl) (by kernel_rfl)) ?_
  refine wk_pure (show opD nR10w10_1 14 = some (some 27, .move (.tmp 0), 27, some (11, false)) from by kernel_rfl) (by kernel_rfl) (.pointer (some ⟨r, 0, none⟩)) (fun _ => y_move (by kernel_rfl)) ?_
  refine wk_pure (show opD nR10w10_1 15 = some (some 28, .nilCheck (.tmp 27), 0, some (11, false)) from by kernel_rfl) (by kernel_rfl) (.pointer (some ⟨r, 0, none⟩)) (fun _ => x_nilCheck (by kernel_rfl)) ?_
  refine wk_pure (show opD nR10w10_1 16 = some (some 29, .fieldAddr 54 (.tmp 28) 4, 0, some (11, false)) from by kernel_rfl) (by kernel_rfl) (.pointer (some ⟨r, 4, none⟩)) (fun _ => x_fieldAddr (b := r) (off := 0) (o := 4) (by kernel_rfl) (by kernel_rfl)) ?_
  refine wk_read (show opD nR10w10_1 13 = some (some 26, .load 3 (.tmp 25), 3, some (11, false)) from by kernel_rfl) (by kernel_rfl) (.int .i64 ((pr : Nat) : Int)) (fun w'_ g_ => x_load (b := b_1) (off := 0) (by kernel_rfl) (by kernel_rfl) (g_.keep hb_14) (by kernel_rfl)) ?_
  refine wk_read (show opD nR10w10_1 17 = some (some 30, .load 3 (.tmp 29), 3, some (11, false)) from by kernel_rfl) (by kernel_rfl) (.int .i64 ((round : Nat) : Int)) (fun w'_ g_ => x_load (b := r) (off := 4) (by kernel_rfl) (by kernel_rfl) (g_.keep hb_15) (by kernel_rfl)) ?_
  refine wk_pure (show opD nR10w10_1 18 = some (some 31, .binOp .eql 3 (.tmp 26) (.tmp 30) 3, 4, some (11, false)) from by kernel_rfl) (by kernel_rfl) (.bool true) (fun _ => y_eql (k := .i64) (a := ((pr : Nat) : Int)) (b := ((round : Nat) : Int)) (by kernel_rfl) (by kernel_rfl) (decide_eq_true (by omega))) ?_
  refine wk_pure (show opD nR10w10_1 19 = some (some 32, .move (.tmp 31), 4, some (11, false)) from by kernel_rfl) (by kernel_rfl) (.bool true) (fun _ => y_move (by kernel_rfl)) ?_
  refine wk_pure (show opD nR10w10_1 20 = some (some 33, .move (.tmp 0), 27, some (19, true)) from by kernel_rfl) (by kernel_rfl) (.pointer (some ⟨r, 0, none⟩)) (fun _ => y_move (by kernel_rfl)) ?_
  refine wk_pure (show opD nR10w10_1 21 = some (some 34, .nilCheck (.tmp 33), 0, some (19, true)) from by kernel_rfl) (by kernel_rfl) (.pointer (some ⟨r, 0, none⟩)) (fun _ => x_nilCheck (by kernel_rfl)) ?_
  refine wk_pure (show opD nR10w10_1 22 = some (some 35, .fieldAddr 54 (.tmp 34) 6, 0, some (19, true)) from by kernel_rfl) (by kernel_rfl) (.pointer (some ⟨r, 6, none⟩)) (fun _ => x_fieldAddr (b := r) (off := 0) (o := 6) (by kernel_rfl) (by kernel_rfl)) ?_
  refine wk_read (show opD nR10w10_1 23 = some (some 36, .load 4 (.tmp 35), 4, some (19, true)) from by kernel_rfl) (by kernel_rfl) (.bool false) (fun w'_ g_ => x_load (b := r) (off := 6) (by kernel_rfl) (by kernel_rfl) (g_.keep hb_15) (by kernel_rfl)) ?_
  refine wk_pure (show opD nR10w10_1 24 = some (some 37, .pick (.tmp 32) (.tmp 36) (.const (.bool false)), 4, some (11, false)) from by kernel_rfl) (by kernel_rfl) (.bool false) (fun _ => y_pick_t (by kernel_rfl) (by kernel_rfl)) ?_
  refine wk_pure (show opD nR10w10_1 25 = some (some 38, .pick (.tmp 24) (.const (.bool true)) (.tmp 37), 4, none) from by kernel_rfl) (by kernel_rfl) (.bool false) (fun _ => y_pick_f (by kernel_rfl) (by kernel_rfl)) ?_
  refine wk_pure (show opD nR10w10_1 26 = some (some 12, .assign (.tmp 38), 4, none) from by kernel_rfl) (by kernel_rfl) (.bool false) (fun _ => y_assign (by kernel_rfl)) ?_
  refine wk_nil ?_
  refine thn_n ?_
  refine g_cond_f (o := .tmp 12) (x := nN10w10_8) (y := nN10w10_9) (by kernel_rfl) (by kernel_rfl) ?_
  refine g_seq (x := nN10w10_10) (y := nN10w10_11) (by kernel_rfl) ?_
  refine g_draw (ops := nR10w10_3) (id := 3) (by kernel_rfl) (fun _ _ => True) [(0, .pure), (2, .pure), (3, .pure), (4, .pure), (1, .read), (5, .read), (6, .pure), (7, .pure)] (by kernel_rfl) (by kernel_rfl) (fun _ => trivial) (fun w_16 sm_17 => ?_)
  have hsz_18 : w_16.heap.size = w_11.heap.size := by rw [sm_17.heap]
  refine wk_pure (show opD nR10w10_3 0 = some (some 40, .fieldAddr 37 (.tmp 3) 0, 0, none) from by kernel_rfl) (by kernel_rfl) (.pointer (some ⟨b_1, 0, none⟩)) (fun _ => x_fieldAddr (b := b_1) (off := 0) (o := 0) (by kernel_rfl) (by kernel_rfl)) ?_
  refine wk_pure (show opD nR10w10_3 2 = some (some 42, .move (.tmp 0), 27, none) from by kernel_rfl) (by kernel_rfl) (.pointer (some ⟨r, 0, none⟩)) (fun _ => y_move (by kernel_rfl)) ?_
  refine wk_pure (show opD nR10w10_3 3 = some (some 43, .nilCheck (.tmp 42), 0, none) from by kernel_rfl) (by kernel_rfl) (.pointer (some ⟨r, 0, none⟩)) (fun _ => x_nilCheck (by kernel_rfl)) ?_
  refine wk_pure (show opD nR10w10_3 4 = some (some 44, .fieldAddr 54 (.tmp 43) 4, 0, none) from by kernel_rfl) (by kernel_rfl) (.pointer (some ⟨r, 4, none⟩)) (fun _ => x_fieldAddr (b := r) (off := 0) (o := 4) (by kernel_rfl) (by kernel_rfl)) ?_
  have hb_19 : w_16.heap[b_1]? = some (.cells #[.int .i64 ((pr : Nat) : Int), .int .i64 ((pc : Nat) : Int), .slice wa W.length wc] 37 (0, 0)) := (sm_17.keep hb_14)
  refine wk_read (show opD nR10w10_3 1 = some (some 41, .load 3 (.tmp 40), 3, none) from by kernel_rfl) (by kernel_rfl) (.int .i64 ((pr : Nat) : Int)) (fun w'_ g_ => x_load (b := b_1) (off := 0) (by kernel_rfl) (by kernel_rfl) (g_.keep hb_19) (by kernel_rfl)) ?_
  have hb_20 : w_16.heap[r]? = some (.cells #[.int .i64 ((place : Nat) : Int), .int .i64 ((n : Nat) : Int), .slice la L.length lc, .slice (some ⟨ck, 0, none⟩) ((chk L.length n n).length) kc, .int .i64 ((round : Nat) : Int), .bool told, .bool false] 54 (0, 0)) := (sm_17.keep hb_15)
  refine wk_read (show opD nR10w10_3 5 = some (some 45, .load 3 (.tmp 44), 3, none) from by kernel_rfl) (by kernel_rfl) (.int .i64 ((round : Nat) : Int)) (fun w'_ g_ => x_load (b := r) (off := 4) (by kernel_rfl) (by kernel_rfl) (g_.keep hb_20) (by kernel_rfl)) ?_
  refine wk_pure (show opD nR10w10_3 6 = some (some 46, .binOp .gtr 3 (.tmp 41) (.tmp 45) 3, 4, none) from by kernel_rfl) (by kernel_rfl) (.bool false) (fun _ => y_gtr (k := .i64) (a := ((pr : Nat) : Int)) (b := ((round : Nat) : Int)) (by kernel_rfl) (by kernel_rfl) (decide_eq_false (by omega))) ?_
  refine wk_pure (show opD nR10w10_3 7 = some (some 39, .assign (.tmp 46), 4, none) from by kernel_rfl) (by kernel_rfl) (.bool false) (fun _ => y_assign (by kernel_rfl)) ?_
  refine wk_nil ?_
  refine thn_n ?_
  refine g_cond_f (o := .tmp 39) (x := nN10w10_12) (y := nN10w10_13) (by kernel_rfl) (by kernel_rfl) ?_
  refine g_skip (by kernel_rfl) ?_
  refine blk_n ?_
  refine thn_n ?_
  refine g_seq (x := nN10w10_14) (y := nN10w10_15) (by kernel_rfl) ?_
  refine g_draw (ops := nR10w10_5) (id := 5) (by kernel_rfl) (fun w w' => Grown w w') [(0, .pure), (1, .pure), (2, .pure), (4, .pure), (5, .pure), (6, .pure), (10, .pure), (11, .pure), (12, .pure), (15, .pure), (16, .pure), (17, .pure), (19, .pure), (20, .pure), (21, .pure), (3, .stab), (7, .stab), (8, .pure), (9, .pure), (13, .stab), (14, .pure), (18, .read), (22, .read), (23, .loud), (24, .pure), (25, .pure), (26, .pure), (27, .pure), (28, .pure), (29, .pure), (30, .pure)] (by kernel_rfl) (by kernel_rfl) (fun _ => Grown.refl _) (fun w_21 sm_22 => ?_)
  have hsz_23 : w_21.heap.size = w_16.heap.size := by rw [sm_22.heap]
  refine wk_pure (show opD nR10w10_5 0 = some (some 48, .move (.tmp 0), 27, none) from by kernel_rfl) (by kernel_rfl) (.pointer (some ⟨r, 0, none⟩)) (fun _ => y_move (by kernel_rfl)) ?_
  refine wk_pure (show opD nR10w10_5 1 = some (some 49, .nilCheck (.tmp 48), 0, none) from by kernel_rfl) (by kernel_rfl) (.pointer (some ⟨r, 0, none⟩)) (fun _ => x_nilCheck (by kernel_rfl)) ?_
  refine wk_pure (show opD nR10w10_5 2 = some (some 50, .fieldAddr 54 (.tmp 49) 0, 0, none) from by kernel_rfl) (by kernel_rfl) (.pointer (some ⟨r, 0, none⟩)) (fun _ => x_fieldAddr (b := r) (off := 0) (o := 0) (by kernel_rfl) (by kernel_rfl)) ?_
  refine wk_pure (show opD nR10w10_5 4 = some (some 52, .move (.tmp 0), 27, none) from by kernel_rfl) (by kernel_rfl) (.pointer (some ⟨r, 0, none⟩)) (fun _ => y_move (by kernel_rfl)) ?_
  refine wk_pure (show opD nR10w10_5 5 = some (some 53, .nilCheck (.tmp 52), 0, none) from by kernel_rfl) (by kernel_rfl) (.pointer (some ⟨r, 0, none⟩)) (fun _ => x_nilCheck (by kernel_rfl)) ?_
  refine wk_pure (show opD nR10w10_5 6 = some (some 54, .fieldAddr 54 (.tmp 53) 1, 0, none) from by kernel_rfl) (by kernel_rfl) (.pointer (some ⟨r, 1, none⟩)) (fun _ => x_fieldAddr (b := r) (off := 0) (o := 1) (by kernel_rfl) (by kernel_rfl)) ?_
  refine wk_pure (show opD nR10w10_5 10 = some (some 58, .move (.tmp 0), 27, none) from by kernel_rfl) (by kernel_rfl) (.pointer (some ⟨r, 0, none⟩)) (fun _ => y_move (by kernel_rfl)) ?_
  refine wk_pure (show opD nR10w10_5 11 = some (some 59, .nilCheck (.tmp 58), 0, none) from by kernel_rfl) (by kernel_rfl) (.pointer (some ⟨r, 0, none⟩)) (fun _ => x_nilCheck (by kernel_rfl)) ?_
  refine wk_pure (show opD nR10w10_5 12 = some (some 60, .fieldAddr 54 (.tmp 59) 1, 0, none) from by kernel_rfl) (by kernel_rfl) (.pointer (some ⟨r, 1, none⟩)) (fun _ => x_fieldAddr (b := r) (off := 0) (o := 1) (by kernel_rfl) (by kernel_rfl)) ?_
  refine wk_pure (show opD nR10w10_5 15 = some (some 63, .move (.tmp 0), 27, none) from by kernel_rfl) (by kernel_rfl) (.pointer (some ⟨r, 0, none⟩)) (fun _ => y_move (by kernel_rfl)) ?_
  refine wk_pure (show opD nR10w10_5 16 = some (some 64, .nilCheck (.tmp 63), 0, none) from by kernel_rfl) (by kernel_rfl) (.pointer (some ⟨r, 0, none⟩)) (fun _ => x_nilCheck (by kernel_rfl)) ?_
  refine wk_pure (show opD nR10w10_5 17 = some (some 65, .fieldAddr 54 (.tmp 64) 1, 0, none) from by kernel_rfl) (by kernel_rfl) (.pointer (some ⟨r, 1, none⟩)) (fun _ => x_fieldAddr (b := r) (off := 0) (o := 1) (by kernel_rfl) (by kernel_rfl)) ?_
  refine wk_pure (show opD nR10w10_5 19 = some (some 67, .move (.tmp 0), 27, none) from by kernel_rfl) (by kernel_rfl) (.pointer (some ⟨r, 0, none⟩)) (fun _ => y_move (by kernel_rfl)) ?_
  refine wk_pure (show opD nR10w10_5 20 = some (some 68, .nilCheck (.tmp 67), 0, none) from by kernel_rfl) (by kernel_rfl) (.pointer (some ⟨r, 0, none⟩)) (fun _ => x_nilCheck (by kernel_rfl)) ?_
  refine wk_pure (show opD nR10w10_5 21 = some (some 69, .fieldAddr 54 (.tmp 68) 4, 0, none) from by kernel_rfl) (by kernel_rfl) (.pointer (some ⟨r, 4, none⟩)) (fun _ => x_fieldAddr (b := r) (off := 0) (o := 4) (by kernel_rfl) (by kernel_rfl)) ?_
  refine wk_stab (show opD nR10w10_5 3 = some (some 51, .load 3 (.tmp 50), 3, none) from by kernel_rfl) (by kernel_rfl) (.int .i64 ((place : Nat) : Int)) (fun w'_ g_ => x_load (b := r) (off := 0) (by kernel_rfl) (by kernel_rfl) (Grown.keep g_ (sm_22.keep hb_20)) (by kernel_rfl)) ?_
  refine wk_stab (show opD nR10w10_5 7 = some (some 55, .load 3 (.tmp 54), 3, none) from by kernel_rfl) (by kernel_rfl) (.int .i64 ((n : Nat) : Int)) (fun w'_ g_ => x_load (b := r) (off := 1) (by kernel_rfl) (by kernel_rfl) (Grown.keep g_ (sm_22.keep hb_20)) (by kernel_rfl)) ?_
  refine wk_pure (show opD nR10w10_5 8 = some (some 56, .binOp .add 3 (.tmp 51) (.tmp 55) 3, 3, none) from by kernel_rfl) (by kernel_rfl) (.int .i64 ((place : Int) + (n : Int))) (fun _ => y_add (k := .i64) (a := ((place : Nat) : Int)) (b := ((n : Nat) : Int)) (by kernel_rfl) (by kernel_rfl) (i64_id (by omega))) ?_
  refine wk_pure (show opD nR10w10_5 9 = some (some 57, .binOp .sub 3 (.tmp 56) (.const (.int .i64 1)) 3, 3, none) from by kernel_rfl) (by kernel_rfl) (.int .i64 ((place : Int) + (n : Int) - 1)) (fun _ => y_sub (k := .i64) (a := ((place : Int) + (n : Int))) (b := 1) (by kernel_rfl) (by kernel_rfl) (i64_id (by omega))) ?_
  refine wk_stab (show opD nR10w10_5 13 = some (some 61, .load 3 (.tmp 60), 3, none) from by kernel_rfl) (by kernel_rfl) (.int .i64 ((n : Nat) : Int)) (fun w'_ g_ => x_load (b := r) (off := 1) (by kernel_rfl) (by kernel_rfl) (Grown.keep g_ (sm_22.keep hb_20)) (by kernel_rfl)) ?_
  refine wk_pure (show opD nR10w10_5 14 = some (some 62, .binOp .rem 3 (.tmp 57) (.tmp 61) 3, 3, none) from by kernel_rfl) (by kernel_rfl) (.int .i64 (((place + n - 1) % n : Nat) : Int)) (fun _ => y_rem (k := .i64) (a := ((place : Int) + (n : Int) - 1)) (b := ((n : Nat) : Int)) (by kernel_rfl) (by kernel_rfl) (by omega) (by rw [show ((place : Int) + (n : Int) - 1) = ((place + n - 1 : Nat) : Int) by omega]; exact nat_rem)) ?_
  have hb_24 : w_21.heap[r]? = some (.cells #[.int .i64 ((place : Nat) : Int), .int .i64 ((n : Nat) : Int), .slice la L.length lc, .slice (some ⟨ck, 0, none⟩) ((chk L.length n n).length) kc, .int .i64 ((round : Nat) : Int), .bool told, .bool false] 54 (0, 0)) := (sm_22.keep hb_20)
  refine wk_read (show opD nR10w10_5 18 = some (some 66, .load 3 (.tmp 65), 3, none) from by kernel_rfl) (by kernel_rfl) (.int .i64 ((n : Nat) : Int)) (fun w'_ g_ => x_load (b := r) (off := 1) (by kernel_rfl) (by kernel_rfl) (g_.keep hb_24) (by kernel_rfl)) ?_
  refine wk_read (show opD nR10w10_5 22 = some (some 70, .load 3 (.tmp 69), 3, none) from by kernel_rfl) (by kernel_rfl) (.int .i64 ((round : Nat) : Int)) (fun w'_ g_ => x_load (b := r) (off := 4) (by kernel_rfl) (by kernel_rfl) (g_.keep hb_24) (by kernel_rfl)) ?_
  refine wk_call (show opD nR10w10_5 23 = some (some 71, .call ⟨.value (.func 21), #[.tmp 62, .tmp 66, .tmp 70], #[3, 3, 3]⟩, 61, none) from by kernel_rfl) (by kernel_rfl) 21 #[.int .i64 (((place + n - 1) % n : Nat) : Int), .int .i64 ((n : Nat) : Int), .int .i64 ((round : Nat) : Int)] (x_call Try.func21 (by kernel_rfl) (c := (Try.f21.body).getD .skip) (by kernel_rfl) (by kernel_rfl) (by kernel_rfl)) (sends_n (place := (place + n - 1) % n) (n := n) (round := round) (by omega) (by omega) (by (first | omega | exact Nat.mod_lt _ (by omega))) (by omega) ⟨?_, ?_⟩)
  · exact (Grown.refl _)
  have hsl := sendsN_lt (place := (place + n - 1) % n) (n := n) (round := round) (by omega)
  have hcb := cBounds (len := L.length) hsl
  refine wk_pure (show opD nR10w10_5 24 = some (some 47, .move (.tmp 71), 61, none) from by kernel_rfl) (by kernel_rfl) (.tuple #[.int .i64 ((sendsN ((place + n - 1) % n) n round : Nat) : Int), .bool (addsN n round), .int .i64 0]) (fun _ => y_move (by kernel_rfl)) ?_
  refine wk_pure (show opD nR10w10_5 25 = some (some 72, .extract (.tmp 47) 0, 3, none) from by kernel_rfl) (by kernel_rfl) (.int .i64 ((sendsN ((place + n - 1) % n) n round : Nat) : Int)) (fun _ => x_extract (vs := #[.int .i64 ((sendsN ((place + n - 1) % n) n round : Nat) : Int), .bool (addsN n round), .int .i64 0]) (by kernel_rfl) (by kernel_rfl)) ?_
  refine wk_pure (show opD nR10w10_5 26 = some (some 73, .extract (.tmp 47) 1, 4, none) from by kernel_rfl) (by kernel_rfl) (.bool (addsN n round)) (fun _ => x_extract (vs := #[.int .i64 ((sendsN ((place + n - 1) % n) n round : Nat) : Int), .bool (addsN n round), .int .i64 0]) (by kernel_rfl) (by kernel_rfl)) ?_
  refine wk_pure (show opD nR10w10_5 27 = some (some 74, .extract (.tmp 47) 2, 28, none) from by kernel_rfl) (by kernel_rfl) (.int .i64 0) (fun _ => x_extract (vs := #[.int .i64 ((sendsN ((place + n - 1) % n) n round : Nat) : Int), .bool (addsN n round), .int .i64 0]) (by kernel_rfl) (by kernel_rfl)) ?_
  refine wk_pure (show opD nR10w10_5 28 = some (some 5, .assign (.tmp 72), 3, none) from by kernel_rfl) (by kernel_rfl) (.int .i64 ((sendsN ((place + n - 1) % n) n round : Nat) : Int)) (fun _ => y_assign (by kernel_rfl)) ?_
  refine wk_pure (show opD nR10w10_5 29 = some (some 6, .assign (.tmp 73), 4, none) from by kernel_rfl) (by kernel_rfl) (.bool (addsN n round)) (fun _ => y_assign (by kernel_rfl)) ?_
  refine wk_pure (show opD nR10w10_5 30 = some (some 7, .assign (.tmp 74), 28, none) from by kernel_rfl) (by kernel_rfl) (.int .i64 0) (fun _ => y_assign (by kernel_rfl)) ?_
  refine wk_nil ?_
  refine thn_n ?_
  refine g_seq (x := nN10w10_16) (y := nN10w10_17) (by kernel_rfl) ?_
  refine g_draw (ops := nR10w10_6) (id := 6) (by kernel_rfl) (fun _ _ => True) [(0, .pure), (1, .pure), (2, .pure), (4, .pure), (8, .pure), (9, .pure), (10, .pure), (12, .pure), (3, .read), (5, .pure), (6, .pure), (7, .read), (16, .pure), (11, .read), (13, .pure), (14, .pure), (15, .read), (17, .pure)] (by kernel_rfl) (by kernel_rfl) (fun _ => trivial) (fun w_25 sm_26 => ?_)
  have hsz_27 : w_25.heap.size = w_21.heap.size := by rw [sm_26.heap]
  refine wk_pure (show opD nR10w10_6 0 = some (some 75, .move (.tmp 0), 27, none) from by kernel_rfl) (by kernel_rfl) (.pointer (some ⟨r, 0, none⟩)) (fun _ => y_move (by kernel_rfl)) ?_
  refine wk_pure (show opD nR10w10_6 1 = some (some 76, .nilCheck (.tmp 75), 0, none) from by kernel_rfl) (by kernel_rfl) (.pointer (some ⟨r, 0, none⟩)) (fun _ => x_nilCheck (by kernel_rfl)) ?_
  refine wk_pure (show opD nR10w10_6 2 = some (some 77, .fieldAddr 54 (.tmp 76) 3, 0, none) from by kernel_rfl) (by kernel_rfl) (.pointer (some ⟨r, 3, none⟩)) (fun _ => x_fieldAddr (b := r) (off := 0) (o := 3) (by kernel_rfl) (by kernel_rfl)) ?_
  refine wk_pure (show opD nR10w10_6 4 = some (some 79, .move (.tmp 5), 3, none) from by kernel_rfl) (by kernel_rfl) (.int .i64 ((sendsN ((place + n - 1) % n) n round : Nat) : Int)) (fun _ => y_move (by kernel_rfl)) ?_
  refine wk_pure (show opD nR10w10_6 8 = some (some 83, .move (.tmp 0), 27, none) from by kernel_rfl) (by kernel_rfl) (.pointer (some ⟨r, 0, none⟩)) (fun _ => y_move (by kernel_rfl)) ?_
  refine wk_pure (show opD nR10w10_6 9 = some (some 84, .nilCheck (.tmp 83), 0, none) from by kernel_rfl) (by kernel_rfl) (.pointer (some ⟨r, 0, none⟩)) (fun _ => x_nilCheck (by kernel_rfl)) ?_
  refine wk_pure (show opD nR10w10_6 10 = some (some 85, .fieldAddr 54 (.tmp 84) 3, 0, none) from by kernel_rfl) (by kernel_rfl) (.pointer (some ⟨r, 3, none⟩)) (fun _ => x_fieldAddr (b := r) (off := 0) (o := 3) (by kernel_rfl) (by kernel_rfl)) ?_
  refine wk_pure (show opD nR10w10_6 12 = some (some 87, .move (.tmp 5), 3, none) from by kernel_rfl) (by kernel_rfl) (.int .i64 ((sendsN ((place + n - 1) % n) n round : Nat) : Int)) (fun _ => y_move (by kernel_rfl)) ?_
  have hb_28 : w_25.heap[r]? = some (.cells #[.int .i64 ((place : Nat) : Int), .int .i64 ((n : Nat) : Int), .slice la L.length lc, .slice (some ⟨ck, 0, none⟩) ((chk L.length n n).length) kc, .int .i64 ((round : Nat) : Int), .bool told, .bool false] 54 (0, 0)) := (sm_26.keep hb_24)
  refine wk_read (show opD nR10w10_6 3 = some (some 78, .load 49 (.tmp 77), 49, none) from by kernel_rfl) (by kernel_rfl) (.slice (some ⟨ck, 0, none⟩) ((chk L.length n n).length) kc) (fun w'_ g_ => x_load (b := r) (off := 3) (by kernel_rfl) (by kernel_rfl) (g_.keep hb_28) (by kernel_rfl)) ?_
  have hb_29 : OwnE w_25 63 2 ck kc encP (chk L.length n n) crest := (sm_26.keepOwn (sm_22.keepOwn (sm_17.keepOwn (s_12.keepOwn (sm_8.keepOwn (e_3.keepOwn hcc List.not_mem_nil))))))
  refine wk_pure (show opD nR10w10_6 5 = some (some 80, .indexAddr 49 (.tmp 78) (.tmp 79), 0, none) from by kernel_rfl) (by kernel_rfl) (.pointer (some ⟨ck, 0 + ((sendsN ((place + n - 1) % n) n round) * 2 + 0), none⟩)) (fun _ => y_ptr (x_indexN (a := some ⟨ck, 0, none⟩) (b := ck) (off := 0) (n := ((chk L.length n n).length)) (c := kc) (k := .i64) (i := ((sendsN ((place + n - 1) % n) n round : Nat) : Int)) (e := 63) (sz := 2) (sz' := 2) (by kernel_rfl) hb_29.sl (by kernel_rfl) (by kernel_rfl) rfl (by omega) _) (by omega)) ?_
  refine wk_pure (show opD nR10w10_6 6 = some (some 81, .indexAddr 63 (.tmp 80) (.const (.int .i64 0)), 0, none) from by kernel_rfl) (by kernel_rfl) (.pointer (some ⟨ck, 0 + ((sendsN ((place + n - 1) % n) n round) * 2 + 0), none⟩)) (fun _ => y_ptr (x_indexArr (b := ck) (off := (0 + ((sendsN ((place + n - 1) % n) n round) * 2 + 0))) (k := .i64) (i := 0) (e := 3) (len := 2) (sz := 1) (by kernel_rfl) (by kernel_rfl) (by kernel_rfl) (by decide)) (by omega)) ?_
  refine wk_read (show opD nR10w10_6 7 = some (some 82, .load 3 (.tmp 81), 3, none) from by kernel_rfl) (by kernel_rfl) (.int .i64 ((cFrom L.length n (sendsN ((place + n - 1) % n) n round) : Nat) : Int)) (fun w'_ g_ => x_load_c (b := ck) (off := (0 + ((sendsN ((place + n - 1) % n) n round) * 2 + 0))) (by kernel_rfl) (by kernel_rfl) (SlE.get (g_.keepOwn hb_29).sl encP_len (0, 0) (sendsN ((place + n - 1) % n) n round) 0 (by omega) rfl)) ?_
  refine wk_pure (show opD nR10w10_6 16 = some (some 8, .assign (.tmp 82), 3, none) from by kernel_rfl) (by kernel_rfl) (.int .i64 ((cFrom L.length n (sendsN ((place + n - 1) % n) n round) : Nat) : Int)) (fun _ => y_assign (by kernel_rfl)) ?_
  refine wk_read (show opD nR10w10_6 11 = some (some 86, .load 49 (.tmp 85), 49, none) from by kernel_rfl) (by kernel_rfl) (.slice (some ⟨ck, 0, none⟩) ((chk L.length n n).length) kc) (fun w'_ g_ => x_load (b := r) (off := 3) (by kernel_rfl) (by kernel_rfl) (g_.keep hb_28) (by kernel_rfl)) ?_
  refine wk_pure (show opD nR10w10_6 13 = some (some 88, .indexAddr 49 (.tmp 86) (.tmp 87), 0, none) from by kernel_rfl) (by kernel_rfl) (.pointer (some ⟨ck, 0 + ((sendsN ((place + n - 1) % n) n round) * 2 + 0), none⟩)) (fun _ => y_ptr (x_indexN (a := some ⟨ck, 0, none⟩) (b := ck) (off := 0) (n := ((chk L.length n n).length)) (c := kc) (k := .i64) (i := ((sendsN ((place + n - 1) % n) n round : Nat) : Int)) (e := 63) (sz := 2) (sz' := 2) (by kernel_rfl) hb_29.sl (by kernel_rfl) (by kernel_rfl) rfl (by omega) _) (by omega)) ?_
  refine wk_pure (show opD nR10w10_6 14 = some (some 89, .indexAddr 63 (.tmp 88) (.const (.int .i64 1)), 0, none) from by kernel_rfl) (by kernel_rfl) (.pointer (some ⟨ck, 0 + ((sendsN ((place + n - 1) % n) n round) * 2 + 1), none⟩)) (fun _ => y_ptr (x_indexArr (b := ck) (off := (0 + ((sendsN ((place + n - 1) % n) n round) * 2 + 0))) (k := .i64) (i := 1) (e := 3) (len := 2) (sz := 1) (by kernel_rfl) (by kernel_rfl) (by kernel_rfl) (by decide)) (by omega)) ?_
  refine wk_read (show opD nR10w10_6 15 = some (some 90, .load 3 (.tmp 89), 3, none) from by kernel_rfl) (by kernel_rfl) (.int .i64 ((cTo L.length n (sendsN ((place + n - 1) % n) n round) : Nat) : Int)) (fun w'_ g_ => x_load_c (b := ck) (off := (0 + ((sendsN ((place + n - 1) % n) n round) * 2 + 1))) (by kernel_rfl) (by kernel_rfl) (SlE.get (g_.keepOwn hb_29).sl encP_len (0, 0) (sendsN ((place + n - 1) % n) n round) 1 (by omega) rfl)) ?_
  refine wk_pure (show opD nR10w10_6 17 = some (some 9, .assign (.tmp 90), 3, none) from by kernel_rfl) (by kernel_rfl) (.int .i64 ((cTo L.length n (sendsN ((place + n - 1) % n) n round) : Nat) : Int)) (fun _ => y_assign (by kernel_rfl)) ?_
  refine wk_nil ?_
  refine thn_n ?_
  refine g_seq (x := nN10w10_18) (y := nN10w10_19) (by kernel_rfl) ?_
  refine g_seq (x := nN10w10_20) (y := nN10w10_21) (by kernel_rfl) ?_
  refine g_region (ops := nR10w10_7) (id := 7) (by kernel_rfl) [(0, .pure), (1, .loud), (2, .pure), (3, .pure), (4, .pure), (5, .pure), (6, .loud), (7, .pure), (8, .pure), (9, .pure), (10, .pure), (11, .pure), (12, .pure)] (by kernel_rfl) (by kernel_rfl) ?_
  refine wk_pure (show opD nR10w10_7 0 = some (some 91, .fieldAddr 37 (.tmp 3) 1, 0, none) from by kernel_rfl) (by kernel_rfl) (.pointer (some ⟨b_1, 1, none⟩)) (fun _ => x_fieldAddr (b := b_1) (off := 0) (o := 1) (by kernel_rfl) (by kernel_rfl)) ?_
  have hb_30 : w_25.heap[b_1]? = some (.cells #[.int .i64 ((pr : Nat) : Int), .int .i64 ((pc : Nat) : Int), .slice wa W.length wc] 37 (0, 0)) := (sm_26.keep (sm_22.keep hb_19))
  refine wk_val (show opD nR10w10_7 1 = some (some 92, .load 3 (.tmp 91), 3, none) from by kernel_rfl) (by kernel_rfl) (.int .i64 ((pc : Nat) : Int)) (x_load (b := b_1) (off := 1) (by kernel_rfl) (by kernel_rfl) hb_30 (by kernel_rfl)) trivial ?_
  refine wk_pure (show opD nR10w10_7 2 = some (some 93, .move (.tmp 5), 3, none) from by kernel_rfl) (by kernel_rfl) (.int .i64 ((sendsN ((place + n - 1) % n) n round : Nat) : Int)) (fun _ => y_move (by kernel_rfl)) ?_
  refine wk_pure (show opD nR10w10_7 3 = some (some 94, .binOp .neq 3 (.tmp 92) (.tmp 93) 3, 4, none) from by kernel_rfl) (by kernel_rfl) (.bool false) (fun _ => y_neq (k := .i64) (a := ((pc : Nat) : Int)) (b := ((sendsN ((place + n - 1) % n) n round : Nat) : Int)) (by kernel_rfl) (by kernel_rfl) (decide_eq_false (by omega))) ?_
  refine wk_pure (show opD nR10w10_7 4 = some (some 95, .move (.tmp 94), 4, none) from by kernel_rfl) (by kernel_rfl) (.bool false) (fun _ => y_move (by kernel_rfl)) ?_
  refine wk_pure (show opD nR10w10_7 5 = some (some 96, .fieldAddr 37 (.tmp 3) 2, 0, some (4, false)) from by kernel_rfl) (by kernel_rfl) (.pointer (some ⟨b_1, 2, none⟩)) (fun _ => x_fieldAddr (b := b_1) (off := 0) (o := 2) (by kernel_rfl) (by kernel_rfl)) ?_
  refine wk_val (show opD nR10w10_7 6 = some (some 97, .load 25 (.tmp 96), 25, some (4, false)) from by kernel_rfl) (by kernel_rfl) (.slice wa W.length wc) (x_load (b := b_1) (off := 2) (by kernel_rfl) (by kernel_rfl) hb_30 (by kernel_rfl)) trivial ?_
  refine wk_pure (show opD nR10w10_7 7 = some (some 98, .call ⟨.builtin .len, #[.tmp 97], #[25]⟩, 3, some (4, false)) from by kernel_rfl) (by kernel_rfl) (.int .i64 ((W.length : Nat) : Int)) (fun _ => x_len (a := wa) (n := W.length) (c := wc) (by kernel_rfl) (by kernel_rfl)) ?_
  refine wk_pure (show opD nR10w10_7 8 = some (some 99, .move (.tmp 9), 3, some (4, false)) from by kernel_rfl) (by kernel_rfl) (.int .i64 ((cTo L.length n (sendsN ((place + n - 1) % n) n round) : Nat) : Int)) (fun _ => y_move (by kernel_rfl)) ?_
  refine wk_pure (show opD nR10w10_7 9 = some (some 100, .move (.tmp 8), 3, some (4, false)) from by kernel_rfl) (by kernel_rfl) (.int .i64 ((cFrom L.length n (sendsN ((place + n - 1) % n) n round) : Nat) : Int)) (fun _ => y_move (by kernel_rfl)) ?_
  refine wk_pure (show opD nR10w10_7 10 = some (some 101, .binOp .sub 3 (.tmp 99) (.tmp 100) 3, 3, some (4, false)) from by kernel_rfl) (by kernel_rfl) (.int .i64 (((cTo L.length n (sendsN ((place + n - 1) % n) n round) : Nat) : Int) - ((cFrom L.length n (sendsN ((place + n - 1) % n) n round) : Nat) : Int))) (fun _ => y_sub (k := .i64) (a := ((cTo L.length n (sendsN ((place + n - 1) % n) n round) : Nat) : Int)) (b := ((cFrom L.length n (sendsN ((place + n - 1) % n) n round) : Nat) : Int)) (by kernel_rfl) (by kernel_rfl) (i64_id (by omega))) ?_
  refine wk_pure (show opD nR10w10_7 11 = some (some 102, .binOp .neq 3 (.tmp 98) (.tmp 101) 3, 4, some (4, false)) from by kernel_rfl) (by kernel_rfl) (.bool false) (fun _ => y_neq (k := .i64) (a := ((W.length : Nat) : Int)) (b := (((cTo L.length n (sendsN ((place + n - 1) % n) n round) : Nat) : Int) - ((cFrom L.length n (sendsN ((place + n - 1) % n) n round) : Nat) : Int))) (by kernel_rfl) (by kernel_rfl) (decide_eq_false (by omega))) ?_
  refine wk_pure (show opD nR10w10_7 12 = some (some 103, .pick (.tmp 95) (.const (.bool true)) (.tmp 102), 4, none) from by kernel_rfl) (by kernel_rfl) (.bool false) (fun _ => y_pick_f (by kernel_rfl) (by kernel_rfl)) ?_
  refine wk_nil ?_
  refine thn_n ?_
  refine g_cond_f (o := .tmp 103) (x := nN10w10_22) (y := nN10w10_23) (by kernel_rfl) (by kernel_rfl) ?_
  refine g_skip (by kernel_rfl) ?_
  refine thn_n ?_
  refine g_seq (x := nN10w10_24) (y := nN10w10_25) (by kernel_rfl) ?_
  refine g_seq (x := nN10w10_26) (y := nN10w10_27) (by kernel_rfl) ?_
  refine g_region (ops := nR10w10_9) (id := 9) (by kernel_rfl) [(0, .pure), (1, .loud), (2, .pure), (3, .pure)] (by kernel_rfl) (by kernel_rfl) ?_
  refine wk_pure (show opD nR10w10_9 0 = some (some 104, .fieldAddr 37 (.tmp 3) 2, 0, none) from by kernel_rfl) (by kernel_rfl) (.pointer (some ⟨b_1, 2, none⟩)) (fun _ => x_fieldAddr (b := b_1) (off := 0) (o := 2) (by kernel_rfl) (by kernel_rfl)) ?_
  refine wk_val (show opD nR10w10_9 1 = some (some 105, .load 25 (.tmp 104), 25, none) from by kernel_rfl) (by kernel_rfl) (.slice wa W.length wc) (x_load (b := b_1) (off := 2) (by kernel_rfl) (by kernel_rfl) hb_30 (by kernel_rfl)) trivial ?_
  refine wk_pure (show opD nR10w10_9 2 = some (some 106, .call ⟨.builtin .len, #[.tmp 105], #[25]⟩, 3, none) from by kernel_rfl) (by kernel_rfl) (.int .i64 ((W.length : Nat) : Int)) (fun _ => x_len (a := wa) (n := W.length) (c := wc) (by kernel_rfl) (by kernel_rfl)) ?_
  refine wk_pure (show opD nR10w10_9 3 = some (some 107, .move (.const (.int .i64 0)), 3, none) from by kernel_rfl) (by kernel_rfl) (.int .i64 0) (fun _ => y_move (by kernel_rfl)) ?_
  refine wk_nil ?_
  refine thn_n ?_
  refine g_block (x := nN10w10_28) (id := 1) (by kernel_rfl) ?_
  have hb_31 : OwO w_25 33 2 la g lc encW L rest := (sm_26.keepOwO (sm_22.keepOwO (sm_17.keepOwO (s_12.keepOwO (sm_8.keepOwO (e_3.keepOwP hl (hgr.imp id (fun h_ => List.not_mem_nil))))))))
  refine g_loop (x := nN10w10_29) (by kernel_rfl) (fun m_ ρ_ w_ => ∃ (k : Nat), m_ = 0 ∧ (k = 0) ∧ ρ_ 0 = .pointer (some ⟨r, 0, none⟩) ∧ ρ_ 4 = .int .i64 0 ∧ ρ_ 6 = .bool (addsN n round) ∧ ρ_ 8 = .int .i64 ((cFrom L.length n (sendsN ((place + n - 1) % n) n round) : Nat) : Int) ∧ ρ_ 105 = .slice wa W.length wc ∧ ρ_ 106 = .int .i64 ((W.length : Nat) : Int) ∧ ρ_ 107 = .int .i64 ((k : Nat) : Int) ∧ OwO w_ 33 2 la g lc encW (mixL L W (cFrom L.length n (sendsN ((place + n - 1) % n) n round)) (addsN n round) k) rest ∧ Ext [] w_25 w_) (0) ?_ ?_
  · exact ⟨0, rfl, by omega, (by kernel_rfl), (by kernel_rfl), (by kernel_rfl), (by kernel_rfl), (by kernel_rfl), (by kernel_rfl), (by kernel_rfl), hb_31, Ext.refl _ _⟩
  · intro m_32 ρ_33 w_34 hI
    obtain ⟨k, hm_m_32, hk, f_36, f_37, f_38, f_39, f_40, f_41, f_42, hr_43, hE_35⟩ := hI
    have hs_w_34 := hE_35.size
    have hmx := mixL_len L W (cFrom L.length n (sendsN ((place + n - 1) % n) n round)) (addsN n round) k
    have hgr2 : (mixL L W (cFrom L.length n (sendsN ((place + n - 1) % n) n round)) (addsN n round) k).length = 0 ∨ g ≠ r := by rw [hmx]; exact hgr
    refine g_seq (x := nN10w10_30) (y := nN10w10_31) (by kernel_rfl) ?_
    refine g_region (ops := nR10w10_10) (id := 10) (by kernel_rfl) [(0, .pure)] (by kernel_rfl) (by kernel_rfl) ?_
    refine wk_pure (show opD nR10w10_10 0 = some (some 108, .binOp .lss 3 (.tmp 107) (.tmp 106) 3, 0, none) from by kernel_rfl) (by kernel_rfl) (.bool false) (fun _ => y_lss (k := .i64) (a := ((k : Nat) : Int)) (b := ((W.length : Nat) : Int)) (Eq.trans (by kernel_rfl) f_42) (Eq.trans (by kernel_rfl) f_41) (decide_eq_false (by omega))) ?_
    refine wk_nil ?_
    refine thn_n ?_
    refine g_seq (x := nN10w10_32) (y := nN10w10_33) (by kernel_rfl) ?_
    refine g_cond_f (o := .tmp 108) (x := nN10w10_34) (y := nN10w10_35) (by kernel_rfl) (by kernel_rfl) ?_
    refine g_exit (id := 1) (by kernel_rfl) ?_
    refine thn_e ?_
    refine thn_e ?_
    refine blk_hit ?_
    refine thn_n ?_
    refine g_seq (x := nN10w10_36) (y := nN10w10_37) (by kernel_rfl) ?_
    refine g_region (ops := nR10w10_16) (id := 16) (by kernel_rfl) [(0, .pure), (1, .pure), (2, .pure), (3, .loud)] (by kernel_rfl) (by kernel_rfl) ?_
    refine wk_pure (show opD nR10w10_16 0 = some (some 134, .move (.tmp 0), 27, none) from by kernel_rfl) (by kernel_rfl) (.pointer (some ⟨r, 0, none⟩)) (fun _ => y_move (Eq.trans (by kernel_rfl) f_36)) ?_
    refine wk_pure (show opD nR10w10_16 1 = some (some 135, .nilCheck (.tmp 134), 0, none) from by kernel_rfl) (by kernel_rfl) (.pointer (some ⟨r, 0, none⟩)) (fun _ => x_nilCheck (by kernel_rfl)) ?_
    refine wk_pure (show opD nR10w10_16 2 = some (some 136, .fieldAddr 54 (.tmp 135) 6, 0, none) from by kernel_rfl) (by kernel_rfl) (.pointer (some ⟨r, 6, none⟩)) (fun _ => x_fieldAddr (b := r) (off := 0) (o := 6) (by kernel_rfl) (by kernel_rfl)) ?_
    have hb_44 : w_34.heap[r]? = some (.cells #[.int .i64 ((place : Nat) : Int), .int .i64 ((n : Nat) : Int), .slice la L.length lc, .slice (some ⟨ck, 0, none⟩) ((chk L.length n n).length) kc, .int .i64 ((round : Nat) : Int), .bool told, .bool false] 54 (0, 0)) := (hE_35.keep hb_28 List.not_mem_nil)
    refine wk_store (b := r) (off := 6) (cs' := #[.int .i64 ((place : Nat) : Int), .int .i64 ((n : Nat) : Int), .slice la L.length lc, .slice (some ⟨ck, 0, none⟩) ((chk L.length n n).length) kc, .int .i64 ((round : Nat) : Int), .bool told, .bool true]) (vs := #[.bool true]) (show opD nR10w10_16 3 = some (none, .store 4 (.tmp 136) (.const (.bool true)), 0, none) from by kernel_rfl) (by kernel_rfl) (by kernel_rfl) (by kernel_rfl) (by kernel_rfl) (by kernel_rfl) hb_44 (Nat.le_of_ble_eq_true rfl) (by kernel_rfl) (by kernel_rfl) (fun w_45 e_46 sz_47 hb_48 => ⟨?_, ?_⟩)
    · exact trivial
    refine wk_nil ?_
    refine thn_n ?_
    refine g_seq (x := nN10w10_38) (y := nN10w10_39) (by kernel_rfl) ?_
    refine g_region (ops := nR10w10_17) (id := 17) (by kernel_rfl) [(0, .pure), (1, .loud)] (by kernel_rfl) (by kernel_rfl) ?_
    refine wk_pure (show opD nR10w10_17 0 = some (some 137, .move (.tmp 0), 27, none) from by kernel_rfl) (by kernel_rfl) (.pointer (some ⟨r, 0, none⟩)) (fun _ => y_move (Eq.trans (by kernel_rfl) f_36)) ?_
    refine wk_call (show opD nR10w10_17 1 = some (some 138, .call ⟨.value (.func 22), #[.tmp 137], #[27]⟩, 0, none) from by kernel_rfl) (by kernel_rfl) 22 #[.pointer (some ⟨r, 0, none⟩)] (x_call Try.func22 (by kernel_rfl) (c := (Try.f22.body).getD .skip) (by kernel_rfl) (by kernel_rfl) (by kernel_rfl)) (next_c hb_48 (by omega) (fun w_49 e_50 sz_51 hb_52 => ⟨?_, ?_⟩))
    · exact trivial
    have hsz_53 : w_45.heap.size ≤ w_49.heap.size := e_50.size
    refine wk_nil ?_
    refine thn_n ?_
    refine g_seq (x := nN10w10_40) (y := nN10w10_41) (by kernel_rfl) ?_
    refine g_region (ops := nR10w10_18) (id := 18) (by kernel_rfl) [(0, .pure)] (by kernel_rfl) (by kernel_rfl) ?_
    refine wk_pure (show opD nR10w10_18 0 = some (some 4, .assign (.const (.int .i64 0)), 28, none) from by kernel_rfl) (by kernel_rfl) (.int .i64 0) (fun _ => y_assign (by kernel_rfl)) ?_
    refine wk_nil ?_
    refine thn_n ?_
    refine g_ret (by kernel_rfl) ?_
    refine ends1_r (v := .int .i64 0) rfl (by kernel_rfl) ?_
    have hb_54 : OwO w_49 33 2 la g lc encW (mixL L W (cFrom L.length n (sendsN ((place + n - 1) % n) n round)) (addsN n round) k) rest := (e_50.keepOwP (e_46.keepOwP hr_43 (hgr2.imp id (fun h_ => (by simp only [List.mem_cons, List.not_mem_nil, or_false]; omega)))) (hgr2.imp id (fun h_ => (by simp only [List.mem_cons, List.not_mem_nil, or_false]; omega))))
    have hb_55 : OwnE w_49 63 2 ck kc encP (chk L.length n n) crest := (e_50.keepOwn (e_46.keepOwn (hE_35.keepOwn hb_29 List.not_mem_nil) (by simp only [List.mem_cons, List.not_mem_nil, or_false]; omega)) (by simp only [List.mem_cons, List.not_mem_nil, or_false]; omega))
    obtain rfl : k = W.length := by omega
    have hml := mixL_len L W (cFrom L.length n (sendsN ((place + n - 1) % n) n round)) (addsN n round) W.length
    exact hK _ (Ext.then (Ext.then (Ext.then (Ext.then (Ext.then (Ext.then (Ext.then (Ext.then (Ext.then (Ext.refl [r, g] _) e_3 (fun _ h_ => absurd h_ List.not_mem_nil)) (sm_8.ext []) (fun _ h_ => absurd h_ List.not_mem_nil)) (s_12.ext []) (fun _ h_ => absurd h_ List.not_mem_nil)) (sm_17.ext []) (fun _ h_ => absurd h_ List.not_mem_nil)) (sm_22.ext []) (fun _ h_ => absurd h_ List.not_mem_nil)) (sm_26.ext []) (fun _ h_ => absurd h_ List.not_mem_nil)) hE_35 (fun _ h_ => absurd h_ List.not_mem_nil)) e_46 (by intro x_ hx_ hl_; simp only [List.mem_cons, List.not_mem_nil, or_false] at hx_ ⊢; omega)) e_50 (by intro x_ hx_ hl_; simp only [List.mem_cons, List.not_mem_nil, or_false] at hx_ ⊢; omega)) (ringAt_next (taken := true) (by rw [hml]; exact hb_52) hb_54 (by rw [hml]; exact hb_55) (by rw [hml]; exact hR.nr) hR.kr (by rw [hml]; exact hR.kg) hR.h1 hR.h2 hR.h3 (by rw [hml]; exact hR.h4) (by omega) (mixL_in hi hwi _) (by omega)) (by omega)

noncomputable def nN10w11_0 : Code := (Try.f10.body).getD .skip
noncomputable def nN10w11_1 : Code := s1 nN10w11_0
noncomputable def nN10w11_2 : Code := s2 nN10w11_0
noncomputable def nR10w11_0 : Array Oper := rops nN10w11_1
noncomputable def nN10w11_3 : Code := s1 nN10w11_2
noncomputable def nN10w11_4 : Code := s2 nN10w11_2
noncomputable def nN10w11_5 : Code := s1 nN10w11_3
noncomputable def nN10w11_6 : Code := s1 nN10w11_5
noncomputable def nN10w11_7 : Code := s2 nN10w11_5
noncomputable def nR10w11_1 : Array Oper := rops nN10w11_6
noncomputable def nN10w11_8 : Code := s1 nN10w11_7
noncomputable def nN10w11_9 : Code := s2 nN10w11_7
noncomputable def nN10w11_10 : Code := s1 nN10w11_9
noncomputable def nN10w11_11 : Code := s2 nN10w11_9
noncomputable def nR10w11_3 : Array Oper := rops nN10w11_10
noncomputable def nN10w11_12 : Code := s1 nN10w11_11
noncomputable def nN10w11_13 : Code := s2 nN10w11_11
noncomputable def nN10w11_14 : Code := s1 nN10w11_4
noncomputable def nN10w11_15 : Code := s2 nN10w11_4
noncomputable def nR10w11_5 : Array Oper := rops nN10w11_14
noncomputable def nN10w11_16 : Code := s1 nN10w11_15
noncomputable def nN10w11_17 : Code := s2 nN10w11_15
noncomputable def nR10w11_6 : Array Oper := rops nN10w11_16
noncomputable def nN10w11_18 : Code := s1 nN10w11_17
noncomputable def nN10w11_19 : Code := s2 nN10w11_17
noncomputable def nN10w11_20 : Code := s1 nN10w11_18
noncomputable def nN10w11_21 : Code := s2 nN10w11_18
noncomputable def nR10w11_7 : Array Oper := rops nN10w11_20
noncomputable def nN10w11_22 : Code := s1 nN10w11_21
noncomputable def nN10w11_23 : Code := s2 nN10w11_21
noncomputable def nN10w11_24 : Code := s1 nN10w11_19
noncomputable def nN10w11_25 : Code := s2 nN10w11_19
noncomputable def nN10w11_26 : Code := s1 nN10w11_24
noncomputable def nN10w11_27 : Code := s2 nN10w11_24
noncomputable def nR10w11_9 : Array Oper := rops nN10w11_26
noncomputable def nN10w11_28 : Code := s1 nN10w11_27
noncomputable def nN10w11_29 : Code := s1 nN10w11_28
noncomputable def nN10w11_30 : Code := s1 nN10w11_29
noncomputable def nN10w11_31 : Code := s2 nN10w11_29
noncomputable def nR10w11_10 : Array Oper := rops nN10w11_30
noncomputable def nN10w11_32 : Code := s1 nN10w11_31
noncomputable def nN10w11_33 : Code := s2 nN10w11_31
noncomputable def nN10w11_34 : Code := s1 nN10w11_32
noncomputable def nN10w11_35 : Code := s2 nN10w11_32
noncomputable def nN10w11_36 : Code := s1 nN10w11_33
noncomputable def nN10w11_37 : Code := s2 nN10w11_33
noncomputable def nN10w11_38 : Code := s1 nN10w11_36
noncomputable def nN10w11_39 : Code := s1 nN10w11_38
noncomputable def nN10w11_40 : Code := s2 nN10w11_38
noncomputable def nR10w11_11 : Array Oper := rops nN10w11_39
noncomputable def nN10w11_41 : Code := s1 nN10w11_40
noncomputable def nN10w11_42 : Code := s2 nN10w11_40
noncomputable def nN10w11_43 : Code := s1 nN10w11_41
noncomputable def nN10w11_44 : Code := s2 nN10w11_41
noncomputable def nR10w11_12 : Array Oper := rops nN10w11_43
noncomputable def nN10w11_45 : Code := s1 nN10w11_44
noncomputable def nN10w11_46 : Code := s2 nN10w11_44
noncomputable def nR10w11_13 : Array Oper := rops nN10w11_45
noncomputable def nR10w11_14 : Array Oper := rops nN10w11_42
noncomputable def nR10w11_15 : Array Oper := rops nN10w11_37
noncomputable def nN10w11_47 : Code := s1 nN10w11_25
noncomputable def nN10w11_48 : Code := s2 nN10w11_25
noncomputable def nR10w11_16 : Array Oper := rops nN10w11_47
noncomputable def nN10w11_49 : Code := s1 nN10w11_48
noncomputable def nN10w11_50 : Code := s2 nN10w11_48
noncomputable def nR10w11_17 : Array Oper := rops nN10w11_49
noncomputable def nN10w11_51 : Code := s1 nN10w11_50
noncomputable def nN10w11_52 : Code := s2 nN10w11_50
noncomputable def nR10w11_18 : Array Oper := rops nN10w11_51
theorem get_ok1 {r g ck place n : Nat} {L : List Int} {round : Nat} {told : Bool} {la : Option Addr} {lc kc : Nat} {rest crest : List Value} {w : World} (hR : RingAt w r g ck place n L round told false la lc kc rest crest) {pr pc wc : Nat} {wa : Option Addr} {W : List Int} (hd : round ≤ 2 * n - 3) (hn : 2 ≤ n) (hp : pr = round) {pb offp : Nat} (hc : pc = (sendsN ((place + n - 1) % n) n round)) (hw : W.length + cFrom L.length n (sendsN ((place + n - 1) % n) n round) = cTo L.length n (sendsN ((place + n - 1) % n) n round)) (hs : SlE w 2 wa pb offp encW W) (hpg : W.length = 0 ∨ pb ≠ g) (hwi : ∀ i, InW (W.getD i 0)) (hL : L.length ≠ 0) {K : Value → World → Prop} (hK : ∀ w', Ext [r, g] w w' → RingAt w' r g ck place n (mixL L W (cFrom L.length n (sendsN ((place + n - 1) % n) n round)) (addsN n round) W.length) (if told && true then round + 1 else round) (told && !true) (true && !told) la lc kc rest crest → w.heap.size ≤ w'.heap.size → K (.int .i64 0) w') : CallsV Try.prog 10 #[.pointer (some ⟨r, 0, none⟩), .agg #[.int .i64 ((pr : Nat) : Int), .int .i64 ((pc : Nat) : Int), .slice wa W.length wc]] w K := by
  refine callsV_of (c := nN10w11_0) Try.func10 (by kernel_rfl) (n := 139) (by kernel_rfl) ?_
  have hr := hR.hr
  have hl := hR.hl
  have hcc := hR.hc
  have hgr := hR.nr
  have hkr := hR.kr
  have hkg := hR.kg
  have h1 := hR.h1
  have h2 := hR.h2
  have h3 := hR.h3
  have h4 := hR.h4
  have h5 := hR.h5
  have hi := hR.hi
  have hgl := hR.gl
  have hcl := chk_len L.length n n
  have hll := hl.le
  have hrl := lt_of_block hr
  have hkl := hcc.lt
  have hgr3 := hgr.resolve_left hL
  have hkg3 := hkg.resolve_left hL
  refine g_seq (x := nN10w11_1) (y := nN10w11_2) (by kernel_rfl) ?_
  refine g_region (ops := nR10w11_0) (id := 0) (by kernel_rfl) [(0, .loud), (1, .pure)] (by kernel_rfl) (by kernel_rfl) ?_
  refine wk_box (cs := #[.int .i64 ((pr : Nat) : Int), .int .i64 ((pc : Nat) : Int), .slice wa W.length wc]) (show opD nR10w11_0 0 = some (some 3, .box 37 (.tmp 1), 0, none) from by kernel_rfl) (by kernel_rfl) (by kernel_rfl) (fun w_2 b_1 eq_4 e_3 sz_5 hb_6 => ⟨?_, ?_⟩)
  · exact trivial
  refine wk_pure (show opD nR10w11_0 1 = some (some 4, .assign (.const (.int .i64 0)), 28, none) from by kernel_rfl) (by kernel_rfl) (.int .i64 0) (fun _ => y_assign (by kernel_rfl)) ?_
  refine wk_nil ?_
  refine thn_n ?_
  refine g_seq (x := nN10w11_3) (y := nN10w11_4) (by kernel_rfl) ?_
  refine g_block (x := nN10w11_5) (id := 0) (by kernel_rfl) ?_
  refine g_seq (x := nN10w11_6) (y := nN10w11_7) (by kernel_rfl) ?_
  refine g_draw (ops := nR10w11_1) (id := 1) (by kernel_rfl) (fun _ _ => True) [(0, .pure), (1, .loud), (2, .pure), (3, .pure), (5, .pure), (6, .pure), (7, .pure), (4, .read), (8, .read), (9, .pure), (10, .pure), (11, .pure), (12, .pure), (14, .pure), (15, .pure), (16, .pure), (13, .read), (17, .read), (18, .pure), (19, .pure), (20, .pure), (21, .pure), (22, .pure), (23, .read), (24, .pure), (25, .pure), (26, .pure)] (by kernel_rfl) (by kernel_rfl) (fun _ => trivial) (fun w_7 sm_8 => ?_)
  have hsz_9 : w_7.heap.size = w_2.heap.size := by rw [sm_8.heap]
  refine wk_pure (show opD nR10w11_1 0 = some (some 13, .move (.tmp 0), 27, none) from by kernel_rfl) (by kernel_rfl) (.pointer (some ⟨r, 0, none⟩)) (fun _ => y_move (by kernel_rfl)) ?_
  have hb_10 : w_7.heap[r]? = some (.cells #[.int .i64 ((place : Nat) : Int), .int .i64 ((n : Nat) : Int), .slice la L.length lc, .slice (some ⟨ck, 0, none⟩) ((chk L.length n n).length) kc, .int .i64 ((round : Nat) : Int), .bool told, .bool false] 54 (0, 0)) := (sm_8.keep (e_3.keep hr List.not_mem_nil))
  refine wk_call (show opD nR10w11_1 1 = some (some 14, .call ⟨.value (.func 13), #[.tmp 13], #[27]⟩, 4, none) from by kernel_rfl) (by kernel_rfl) 13 #[.pointer (some ⟨r, 0, none⟩)] (x_call Try.func13 (by kernel_rfl) (c := (Try.f13.body).getD .skip) (by kernel_rfl) (by kernel_rfl) (by kernel_rfl)) (done_d hb_10 (by omega) (decide_eq_false (by omega)) (fun w_11 s_12 => ⟨?_, ?_⟩))
  · exact trivial
  have hsz_13 : w_11.heap.size = w_7.heap.size := by rw [s_12.heap]
  refine wk_pure (show opD nR10w11_1 2 = some (some 15, .move (.tmp 14), 4, none) from by kernel_rfl) (by kernel_rfl) (.bool false) (fun _ => y_move (by kernel_rfl)) ?_
  refine wk_pure (show opD nR10w11_1 3 = some (some 16, .fieldAddr 37 (.tmp 3) 0, 0, some (2, false)) from by kernel_rfl) (by kernel_rfl) (.pointer (some ⟨b_1, 0, none⟩)) (fun _ => x_fieldAddr (b := b_1) (off := 0) (o := 0) (by kernel_rfl) (by kernel_rfl)) ?_
  refine wk_pure (show opD nR10w11_1 5 = some (some 18, .move (.tmp 0), 27, some (2, false)) from by kernel_rfl) (by kernel_rfl) (.pointer (some ⟨r, 0, none⟩)) (fun _ => y_move (by kernel_rfl)) ?_
  refine wk_pure (show opD nR10w11_1 6 = some (some 19, .nilCheck (.tmp 18), 0, some (2, false)) from by kernel_rfl) (by kernel_rfl) (.pointer (some ⟨r, 0, none⟩)) (fun _ => x_nilCheck (by kernel_rfl)) ?_
  refine wk_pure (show opD nR10w11_1 7 = some (some 20, .fieldAddr 54 (.tmp 19) 4, 0, some (2, false)) from by kernel_rfl) (by kernel_rfl) (.pointer (some ⟨r, 4, none⟩)) (fun _ => x_fieldAddr (b := r) (off := 0) (o := 4) (by kernel_rfl) (by kernel_rfl)) ?_
  have hb_14 : w_11.heap[b_1]? = some (.cells #[.int .i64 ((pr : Nat) : Int), .int .i64 ((pc : Nat) : Int), .slice wa W.length wc] 37 (0, 0)) := (s_12.keep (sm_8.keep hb_6))
  refine wk_read (show opD nR10w11_1 4 = some (some 17, .load 3 (.tmp 16), 3, some (2, false)) from by kernel_rfl) (by kernel_rfl) (.int .i64 ((pr : Nat) : Int)) (fun w'_ g_ => x_load (b := b_1) (off := 0) (by kernel_rfl) (by kernel_rfl) (g_.keep hb_14) (by kernel_rfl)) ?_
  have hb_15 : w_11.heap[r]? = some (.cells #[.int .i64 ((place : Nat) : Int), .int .i64 ((n : Nat) : Int), .slice la L.length lc, .slice (some ⟨ck, 0, none⟩) ((chk L.length n n).length) kc, .int .i64 ((round : Nat) : Int), .bool told, .bool false] 54 (0, 0)) := (s_12.keep hb_10)
  refine wk_read (show opD nR10w11_1 8 = some (some 21, .load 3 (.tmp 20), 3, some (2, false)) from by kernel_rfl) (by kernel_rfl) (.int .i64 ((round : Nat) : Int)) (fun w'_ g_ => x_load (b := r) (off := 4) (by kernel_rfl) (by kernel_rfl) (g_.keep hb_15) (by kernel_rfl)) ?_
  refine wk_pure (show opD nR10w11_1 9 = some (some 22, .binOp .lss 3 (.tmp 17) (.tmp 21) 3, 4, some (2, false)) from by kernel_rfl) (by kernel_rfl) (.bool false) (fun _ => y_lss (k := .i64) (a := ((pr : Nat) : Int)) (b := ((round : Nat) : Int)) (by kernel_rfl) (by kernel_rfl) (decide_eq_false (by omega))) ?_
  refine wk_pure (show opD nR10w11_1 10 = some (some 23, .pick (.tmp 15) (.const (.bool true)) (.tmp 22), 4, none) from by kernel_rfl) (by kernel_rfl) (.bool false) (fun _ => y_pick_f (by kernel_rfl) (by kernel_rfl)) ?_
  refine wk_pure (show opD nR10w11_1 11 = some (some 24, .move (.tmp 23), 4, none) from by kernel_rfl) (by kernel_rfl) (.bool false) (fun _ => y_move (by kernel_rfl)) ?_
  refine wk_pure (show opD nR10w11_1 12 = some (some 25, .fieldAddr 37 (.tmp 3) 0, 0, some (11, false)) from by kernel_rfl) (by kernel_rfl) (.pointer (some ⟨b_1, 0, none⟩)) (fun _ => x_fieldAddr (b := b_1) (off := 0) (o := 0) (by kernel_rfl) (by kernel_rfl)) ?_
  refine wk_pure (show opD nR10w11_1 14 = some (some 27, .move (.tmp 0), 27, some (11, false)) from by kernel_rfl) (by kernel_rfl) (.pointer (some ⟨r, 0, none⟩)) (fun _ => y_move (by kernel_rfl)) ?_
  refine wk_pure (show opD nR10w11_1 15 = some (some 28, .nilCheck (.tmp 27), 0, some (11, false)) from by kernel_rfl) (by kernel_rfl) (.pointer (some ⟨r, 0, none⟩)) (fun _ => x_nilCheck (by kernel_rfl)) ?_
  refine wk_pure (show opD nR10w11_1 16 = some (some 29, .fieldAddr 54 (.tmp 28) 4, 0, some (11, false)) from by kernel_rfl) (by kernel_rfl) (.pointer (some ⟨r, 4, none⟩)) (fun _ => x_fieldAddr (b := r) (off := 0) (o := 4) (by kernel_rfl) (by kernel_rfl)) ?_
  refine wk_read (show opD nR10w11_1 13 = some (some 26, .load 3 (.tmp 25), 3, some (11, false)) from by kernel_rfl) (by kernel_rfl) (.int .i64 ((pr : Nat) : Int)) (fun w'_ g_ => x_load (b := b_1) (off := 0) (by kernel_rfl) (by kernel_rfl) (g_.keep hb_14) (by kernel_rfl)) ?_
  refine wk_read (show opD nR10w11_1 17 = some (some 30, .load 3 (.tmp 29), 3, some (11, false)) from by kernel_rfl) (by kernel_rfl) (.int .i64 ((round : Nat) : Int)) (fun w'_ g_ => x_load (b := r) (off := 4) (by kernel_rfl) (by kernel_rfl) (g_.keep hb_15) (by kernel_rfl)) ?_
  refine wk_pure (show opD nR10w11_1 18 = some (some 31, .binOp .eql 3 (.tmp 26) (.tmp 30) 3, 4, some (11, false)) from by kernel_rfl) (by kernel_rfl) (.bool true) (fun _ => y_eql (k := .i64) (a := ((pr : Nat) : Int)) (b := ((round : Nat) : Int)) (by kernel_rfl) (by kernel_rfl) (decide_eq_true (by omega))) ?_
  refine wk_pure (show opD nR10w11_1 19 = some (some 32, .move (.tmp 31), 4, some (11, false)) from by kernel_rfl) (by kernel_rfl) (.bool true) (fun _ => y_move (by kernel_rfl)) ?_
  refine wk_pure (show opD nR10w11_1 20 = some (some 33, .move (.tmp 0), 27, some (19, true)) from by kernel_rfl) (by kernel_rfl) (.pointer (some ⟨r, 0, none⟩)) (fun _ => y_move (by kernel_rfl)) ?_
  refine wk_pure (show opD nR10w11_1 21 = some (some 34, .nilCheck (.tmp 33), 0, some (19, true)) from by kernel_rfl) (by kernel_rfl) (.pointer (some ⟨r, 0, none⟩)) (fun _ => x_nilCheck (by kernel_rfl)) ?_
  refine wk_pure (show opD nR10w11_1 22 = some (some 35, .fieldAddr 54 (.tmp 34) 6, 0, some (19, true)) from by kernel_rfl) (by kernel_rfl) (.pointer (some ⟨r, 6, none⟩)) (fun _ => x_fieldAddr (b := r) (off := 0) (o := 6) (by kernel_rfl) (by kernel_rfl)) ?_
  refine wk_read (show opD nR10w11_1 23 = some (some 36, .load 4 (.tmp 35), 4, some (19, true)) from by kernel_rfl) (by kernel_rfl) (.bool false) (fun w'_ g_ => x_load (b := r) (off := 6) (by kernel_rfl) (by kernel_rfl) (g_.keep hb_15) (by kernel_rfl)) ?_
  refine wk_pure (show opD nR10w11_1 24 = some (some 37, .pick (.tmp 32) (.tmp 36) (.const (.bool false)), 4, some (11, false)) from by kernel_rfl) (by kernel_rfl) (.bool false) (fun _ => y_pick_t (by kernel_rfl) (by kernel_rfl)) ?_
  refine wk_pure (show opD nR10w11_1 25 = some (some 38, .pick (.tmp 24) (.const (.bool true)) (.tmp 37), 4, none) from by kernel_rfl) (by kernel_rfl) (.bool false) (fun _ => y_pick_f (by kernel_rfl) (by kernel_rfl)) ?_
  refine wk_pure (show opD nR10w11_1 26 = some (some 12, .assign (.tmp 38), 4, none) from by kernel_rfl) (by kernel_rfl) (.bool false) (fun _ => y_assign (by kernel_rfl)) ?_
  refine wk_nil ?_
  refine thn_n ?_
  refine g_cond_f (o := .tmp 12) (x := nN10w11_8) (y := nN10w11_9) (by kernel_rfl) (by kernel_rfl) ?_
  refine g_seq (x := nN10w11_10) (y := nN10w11_11) (by kernel_rfl) ?_
  refine g_draw (ops := nR10w11_3) (id := 3) (by kernel_rfl) (fun _ _ => True) [(0, .pure), (2, .pure), (3, .pure), (4, .pure), (1, .read), (5, .read), (6, .pure), (7, .pure)] (by kernel_rfl) (by kernel_rfl) (fun _ => trivial) (fun w_16 sm_17 => ?_)
  have hsz_18 : w_16.heap.size = w_11.heap.size := by rw [sm_17.heap]
  refine wk_pure (show opD nR10w11_3 0 = some (some 40, .fieldAddr 37 (.tmp 3) 0, 0, none) from by kernel_rfl) (by kernel_rfl) (.pointer (some ⟨b_1, 0, none⟩)) (fun _ => x_fieldAddr (b := b_1) (off := 0) (o := 0) (by kernel_rfl) (by kernel_rfl)) ?_
  refine wk_pure (show opD nR10w11_3 2 = some (some 42, .move (.tmp 0), 27, none) from by kernel_rfl) (by kernel_rfl) (.pointer (some ⟨r, 0, none⟩)) (fun _ => y_move (by kernel_rfl)) ?_
  refine wk_pure (show opD nR10w11_3 3 = some (some 43, .nilCheck (.tmp 42), 0, none) from by kernel_rfl) (by kernel_rfl) (.pointer (some ⟨r, 0, none⟩)) (fun _ => x_nilCheck (by kernel_rfl)) ?_
  refine wk_pure (show opD nR10w11_3 4 = some (some 44, .fieldAddr 54 (.tmp 43) 4, 0, none) from by kernel_rfl) (by kernel_rfl) (.pointer (some ⟨r, 4, none⟩)) (fun _ => x_fieldAddr (b := r) (off := 0) (o := 4) (by kernel_rfl) (by kernel_rfl)) ?_
  have hb_19 : w_16.heap[b_1]? = some (.cells #[.int .i64 ((pr : Nat) : Int), .int .i64 ((pc : Nat) : Int), .slice wa W.length wc] 37 (0, 0)) := (sm_17.keep hb_14)
  refine wk_read (show opD nR10w11_3 1 = some (some 41, .load 3 (.tmp 40), 3, none) from by kernel_rfl) (by kernel_rfl) (.int .i64 ((pr : Nat) : Int)) (fun w'_ g_ => x_load (b := b_1) (off := 0) (by kernel_rfl) (by kernel_rfl) (g_.keep hb_19) (by kernel_rfl)) ?_
  have hb_20 : w_16.heap[r]? = some (.cells #[.int .i64 ((place : Nat) : Int), .int .i64 ((n : Nat) : Int), .slice la L.length lc, .slice (some ⟨ck, 0, none⟩) ((chk L.length n n).length) kc, .int .i64 ((round : Nat) : Int), .bool told, .bool false] 54 (0, 0)) := (sm_17.keep hb_15)
  refine wk_read (show opD nR10w11_3 5 = some (some 45, .load 3 (.tmp 44), 3, none) from by kernel_rfl) (by kernel_rfl) (.int .i64 ((round : Nat) : Int)) (fun w'_ g_ => x_load (b := r) (off := 4) (by kernel_rfl) (by kernel_rfl) (g_.keep hb_20) (by kernel_rfl)) ?_
  refine wk_pure (show opD nR10w11_3 6 = some (some 46, .binOp .gtr 3 (.tmp 41) (.tmp 45) 3, 4, none) from by kernel_rfl) (by kernel_rfl) (.bool false) (fun _ => y_gtr (k := .i64) (a := ((pr : Nat) : Int)) (b := ((round : Nat) : Int)) (by kernel_rfl) (by kernel_rfl) (decide_eq_false (by omega))) ?_
  refine wk_pure (show opD nR10w11_3 7 = some (some 39, .assign (.tmp 46), 4, none) from by kernel_rfl) (by kernel_rfl) (.bool false) (fun _ => y_assign (by kernel_rfl)) ?_
  refine wk_nil ?_
  refine thn_n ?_
  refine g_cond_f (o := .tmp 39) (x := nN10w11_12) (y := nN10w11_13) (by kernel_rfl) (by kernel_rfl) ?_
  refine g_skip (by kernel_rfl) ?_
  refine blk_n ?_
  refine thn_n ?_
  refine g_seq (x := nN10w11_14) (y := nN10w11_15) (by kernel_rfl) ?_
  refine g_draw (ops := nR10w11_5) (id := 5) (by kernel_rfl) (fun w w' => Grown w w') [(0, .pure), (1, .pure), (2, .pure), (4, .pure), (5, .pure), (6, .pure), (10, .pure), (11, .pure), (12, .pure), (15, .pure), (16, .pure), (17, .pure), (19, .pure), (20, .pure), (21, .pure), (3, .stab), (7, .stab), (8, .pure), (9, .pure), (13, .stab), (14, .pure), (18, .read), (22, .read), (23, .loud), (24, .pure), (25, .pure), (26, .pure), (27, .pure), (28, .pure), (29, .pure), (30, .pure)] (by kernel_rfl) (by kernel_rfl) (fun _ => Grown.refl _) (fun w_21 sm_22 => ?_)
  have hsz_23 : w_21.heap.size = w_16.heap.size := by rw [sm_22.heap]
  refine wk_pure (show opD nR10w11_5 0 = some (some 48, .move (.tmp 0), 27, none) from by kernel_rfl) (by kernel_rfl) (.pointer (some ⟨r, 0, none⟩)) (fun _ => y_move (by kernel_rfl)) ?_
  refine wk_pure (show opD nR10w11_5 1 = some (some 49, .nilCheck (.tmp 48), 0, none) from by kernel_rfl) (by kernel_rfl) (.pointer (some ⟨r, 0, none⟩)) (fun _ => x_nilCheck (by kernel_rfl)) ?_
  refine wk_pure (show opD nR10w11_5 2 = some (some 50, .fieldAddr 54 (.tmp 49) 0, 0, none) from by kernel_rfl) (by kernel_rfl) (.pointer (some ⟨r, 0, none⟩)) (fun _ => x_fieldAddr (b := r) (off := 0) (o := 0) (by kernel_rfl) (by kernel_rfl)) ?_
  refine wk_pure (show opD nR10w11_5 4 = some (some 52, .move (.tmp 0), 27, none) from by kernel_rfl) (by kernel_rfl) (.pointer (some ⟨r, 0, none⟩)) (fun _ => y_move (by kernel_rfl)) ?_
  refine wk_pure (show opD nR10w11_5 5 = some (some 53, .nilCheck (.tmp 52), 0, none) from by kernel_rfl) (by kernel_rfl) (.pointer (some ⟨r, 0, none⟩)) (fun _ => x_nilCheck (by kernel_rfl)) ?_
  refine wk_pure (show opD nR10w11_5 6 = some (some 54, .fieldAddr 54 (.tmp 53) 1, 0, none) from by kernel_rfl) (by kernel_rfl) (.pointer (some ⟨r, 1, none⟩)) (fun _ => x_fieldAddr (b := r) (off := 0) (o := 1) (by kernel_rfl) (by kernel_rfl)) ?_
  refine wk_pure (show opD nR10w11_5 10 = some (some 58, .move (.tmp 0), 27, none) from by kernel_rfl) (by kernel_rfl) (.pointer (some ⟨r, 0, none⟩)) (fun _ => y_move (by kernel_rfl)) ?_
  refine wk_pure (show opD nR10w11_5 11 = some (some 59, .nilCheck (.tmp 58), 0, none) from by kernel_rfl) (by kernel_rfl) (.pointer (some ⟨r, 0, none⟩)) (fun _ => x_nilCheck (by kernel_rfl)) ?_
  refine wk_pure (show opD nR10w11_5 12 = some (some 60, .fieldAddr 54 (.tmp 59) 1, 0, none) from by kernel_rfl) (by kernel_rfl) (.pointer (some ⟨r, 1, none⟩)) (fun _ => x_fieldAddr (b := r) (off := 0) (o := 1) (by kernel_rfl) (by kernel_rfl)) ?_
  refine wk_pure (show opD nR10w11_5 15 = some (some 63, .move (.tmp 0), 27, none) from by kernel_rfl) (by kernel_rfl) (.pointer (some ⟨r, 0, none⟩)) (fun _ => y_move (by kernel_rfl)) ?_
  refine wk_pure (show opD nR10w11_5 16 = some (some 64, .nilCheck (.tmp 63), 0, none) from by kernel_rfl) (by kernel_rfl) (.pointer (some ⟨r, 0, none⟩)) (fun _ => x_nilCheck (by kernel_rfl)) ?_
  refine wk_pure (show opD nR10w11_5 17 = some (some 65, .fieldAddr 54 (.tmp 64) 1, 0, none) from by kernel_rfl) (by kernel_rfl) (.pointer (some ⟨r, 1, none⟩)) (fun _ => x_fieldAddr (b := r) (off := 0) (o := 1) (by kernel_rfl) (by kernel_rfl)) ?_
  refine wk_pure (show opD nR10w11_5 19 = some (some 67, .move (.tmp 0), 27, none) from by kernel_rfl) (by kernel_rfl) (.pointer (some ⟨r, 0, none⟩)) (fun _ => y_move (by kernel_rfl)) ?_
  refine wk_pure (show opD nR10w11_5 20 = some (some 68, .nilCheck (.tmp 67), 0, none) from by kernel_rfl) (by kernel_rfl) (.pointer (some ⟨r, 0, none⟩)) (fun _ => x_nilCheck (by kernel_rfl)) ?_
  refine wk_pure (show opD nR10w11_5 21 = some (some 69, .fieldAddr 54 (.tmp 68) 4, 0, none) from by kernel_rfl) (by kernel_rfl) (.pointer (some ⟨r, 4, none⟩)) (fun _ => x_fieldAddr (b := r) (off := 0) (o := 4) (by kernel_rfl) (by kernel_rfl)) ?_
  refine wk_stab (show opD nR10w11_5 3 = some (some 51, .load 3 (.tmp 50), 3, none) from by kernel_rfl) (by kernel_rfl) (.int .i64 ((place : Nat) : Int)) (fun w'_ g_ => x_load (b := r) (off := 0) (by kernel_rfl) (by kernel_rfl) (Grown.keep g_ (sm_22.keep hb_20)) (by kernel_rfl)) ?_
  refine wk_stab (show opD nR10w11_5 7 = some (some 55, .load 3 (.tmp 54), 3, none) from by kernel_rfl) (by kernel_rfl) (.int .i64 ((n : Nat) : Int)) (fun w'_ g_ => x_load (b := r) (off := 1) (by kernel_rfl) (by kernel_rfl) (Grown.keep g_ (sm_22.keep hb_20)) (by kernel_rfl)) ?_
  refine wk_pure (show opD nR10w11_5 8 = some (some 56, .binOp .add 3 (.tmp 51) (.tmp 55) 3, 3, none) from by kernel_rfl) (by kernel_rfl) (.int .i64 ((place : Int) + (n : Int))) (fun _ => y_add (k := .i64) (a := ((place : Nat) : Int)) (b := ((n : Nat) : Int)) (by kernel_rfl) (by kernel_rfl) (i64_id (by omega))) ?_
  refine wk_pure (show opD nR10w11_5 9 = some (some 57, .binOp .sub 3 (.tmp 56) (.const (.int .i64 1)) 3, 3, none) from by kernel_rfl) (by kernel_rfl) (.int .i64 ((place : Int) + (n : Int) - 1)) (fun _ => y_sub (k := .i64) (a := ((place : Int) + (n : Int))) (b := 1) (by kernel_rfl) (by kernel_rfl) (i64_id (by omega))) ?_
  refine wk_stab (show opD nR10w11_5 13 = some (some 61, .load 3 (.tmp 60), 3, none) from by kernel_rfl) (by kernel_rfl) (.int .i64 ((n : Nat) : Int)) (fun w'_ g_ => x_load (b := r) (off := 1) (by kernel_rfl) (by kernel_rfl) (Grown.keep g_ (sm_22.keep hb_20)) (by kernel_rfl)) ?_
  refine wk_pure (show opD nR10w11_5 14 = some (some 62, .binOp .rem 3 (.tmp 57) (.tmp 61) 3, 3, none) from by kernel_rfl) (by kernel_rfl) (.int .i64 (((place + n - 1) % n : Nat) : Int)) (fun _ => y_rem (k := .i64) (a := ((place : Int) + (n : Int) - 1)) (b := ((n : Nat) : Int)) (by kernel_rfl) (by kernel_rfl) (by omega) (by rw [show ((place : Int) + (n : Int) - 1) = ((place + n - 1 : Nat) : Int) by omega]; exact nat_rem)) ?_
  have hb_24 : w_21.heap[r]? = some (.cells #[.int .i64 ((place : Nat) : Int), .int .i64 ((n : Nat) : Int), .slice la L.length lc, .slice (some ⟨ck, 0, none⟩) ((chk L.length n n).length) kc, .int .i64 ((round : Nat) : Int), .bool told, .bool false] 54 (0, 0)) := (sm_22.keep hb_20)
  refine wk_read (show opD nR10w11_5 18 = some (some 66, .load 3 (.tmp 65), 3, none) from by kernel_rfl) (by kernel_rfl) (.int .i64 ((n : Nat) : Int)) (fun w'_ g_ => x_load (b := r) (off := 1) (by kernel_rfl) (by kernel_rfl) (g_.keep hb_24) (by kernel_rfl)) ?_
  refine wk_read (show opD nR10w11_5 22 = some (some 70, .load 3 (.tmp 69), 3, none) from by kernel_rfl) (by kernel_rfl) (.int .i64 ((round : Nat) : Int)) (fun w'_ g_ => x_load (b := r) (off := 4) (by kernel_rfl) (by kernel_rfl) (g_.keep hb_24) (by kernel_rfl)) ?_
  refine wk_call (show opD nR10w11_5 23 = some (some 71, .call ⟨.value (.func 21), #[.tmp 62, .tmp 66, .tmp 70], #[3, 3, 3]⟩, 61, none) from by kernel_rfl) (by kernel_rfl) 21 #[.int .i64 (((place + n - 1) % n : Nat) : Int), .int .i64 ((n : Nat) : Int), .int .i64 ((round : Nat) : Int)] (x_call Try.func21 (by kernel_rfl) (c := (Try.f21.body).getD .skip) (by kernel_rfl) (by kernel_rfl) (by kernel_rfl)) (sends_n (place := (place + n - 1) % n) (n := n) (round := round) (by omega) (by omega) (by (first | omega | exact Nat.mod_lt _ (by omega))) (by omega) ⟨?_, ?_⟩)
  · exact (Grown.refl _)
  have hsl := sendsN_lt (place := (place + n - 1) % n) (n := n) (round := round) (by omega)
  have hcb := cBounds (len := L.length) hsl
  refine wk_pure (show opD nR10w11_5 24 = some (some 47, .move (.tmp 71), 61, none) from by kernel_rfl) (by kernel_rfl) (.tuple #[.int .i64 ((sendsN ((place + n - 1) % n) n round : Nat) : Int), .bool (addsN n round), .int .i64 0]) (fun _ => y_move (by kernel_rfl)) ?_
  refine wk_pure (show opD nR10w11_5 25 = some (some 72, .extract (.tmp 47) 0, 3, none) from by kernel_rfl) (by kernel_rfl) (.int .i64 ((sendsN ((place + n - 1) % n) n round : Nat) : Int)) (fun _ => x_extract (vs := #[.int .i64 ((sendsN ((place + n - 1) % n) n round : Nat) : Int), .bool (addsN n round), .int .i64 0]) (by kernel_rfl) (by kernel_rfl)) ?_
  refine wk_pure (show opD nR10w11_5 26 = some (some 73, .extract (.tmp 47) 1, 4, none) from by kernel_rfl) (by kernel_rfl) (.bool (addsN n round)) (fun _ => x_extract (vs := #[.int .i64 ((sendsN ((place + n - 1) % n) n round : Nat) : Int), .bool (addsN n round), .int .i64 0]) (by kernel_rfl) (by kernel_rfl)) ?_
  refine wk_pure (show opD nR10w11_5 27 = some (some 74, .extract (.tmp 47) 2, 28, none) from by kernel_rfl) (by kernel_rfl) (.int .i64 0) (fun _ => x_extract (vs := #[.int .i64 ((sendsN ((place + n - 1) % n) n round : Nat) : Int), .bool (addsN n round), .int .i64 0]) (by kernel_rfl) (by kernel_rfl)) ?_
  refine wk_pure (show opD nR10w11_5 28 = some (some 5, .assign (.tmp 72), 3, none) from by kernel_rfl) (by kernel_rfl) (.int .i64 ((sendsN ((place + n - 1) % n) n round : Nat) : Int)) (fun _ => y_assign (by kernel_rfl)) ?_
  refine wk_pure (show opD nR10w11_5 29 = some (some 6, .assign (.tmp 73), 4, none) from by kernel_rfl) (by kernel_rfl) (.bool (addsN n round)) (fun _ => y_assign (by kernel_rfl)) ?_
  refine wk_pure (show opD nR10w11_5 30 = some (some 7, .assign (.tmp 74), 28, none) from by kernel_rfl) (by kernel_rfl) (.int .i64 0) (fun _ => y_assign (by kernel_rfl)) ?_
  refine wk_nil ?_
  refine thn_n ?_
  refine g_seq (x := nN10w11_16) (y := nN10w11_17) (by kernel_rfl) ?_
  refine g_draw (ops := nR10w11_6) (id := 6) (by kernel_rfl) (fun _ _ => True) [(0, .pure), (1, .pure), (2, .pure), (4, .pure), (8, .pure), (9, .pure), (10, .pure), (12, .pure), (3, .read), (5, .pure), (6, .pure), (7, .read), (16, .pure), (11, .read), (13, .pure), (14, .pure), (15, .read), (17, .pure)] (by kernel_rfl) (by kernel_rfl) (fun _ => trivial) (fun w_25 sm_26 => ?_)
  have hsz_27 : w_25.heap.size = w_21.heap.size := by rw [sm_26.heap]
  refine wk_pure (show opD nR10w11_6 0 = some (some 75, .move (.tmp 0), 27, none) from by kernel_rfl) (by kernel_rfl) (.pointer (some ⟨r, 0, none⟩)) (fun _ => y_move (by kernel_rfl)) ?_
  refine wk_pure (show opD nR10w11_6 1 = some (some 76, .nilCheck (.tmp 75), 0, none) from by kernel_rfl) (by kernel_rfl) (.pointer (some ⟨r, 0, none⟩)) (fun _ => x_nilCheck (by kernel_rfl)) ?_
  refine wk_pure (show opD nR10w11_6 2 = some (some 77, .fieldAddr 54 (.tmp 76) 3, 0, none) from by kernel_rfl) (by kernel_rfl) (.pointer (some ⟨r, 3, none⟩)) (fun _ => x_fieldAddr (b := r) (off := 0) (o := 3) (by kernel_rfl) (by kernel_rfl)) ?_
  refine wk_pure (show opD nR10w11_6 4 = some (some 79, .move (.tmp 5), 3, none) from by kernel_rfl) (by kernel_rfl) (.int .i64 ((sendsN ((place + n - 1) % n) n round : Nat) : Int)) (fun _ => y_move (by kernel_rfl)) ?_
  refine wk_pure (show opD nR10w11_6 8 = some (some 83, .move (.tmp 0), 27, none) from by kernel_rfl) (by kernel_rfl) (.pointer (some ⟨r, 0, none⟩)) (fun _ => y_move (by kernel_rfl)) ?_
  refine wk_pure (show opD nR10w11_6 9 = some (some 84, .nilCheck (.tmp 83), 0, none) from by kernel_rfl) (by kernel_rfl) (.pointer (some ⟨r, 0, none⟩)) (fun _ => x_nilCheck (by kernel_rfl)) ?_
  refine wk_pure (show opD nR10w11_6 10 = some (some 85, .fieldAddr 54 (.tmp 84) 3, 0, none) from by kernel_rfl) (by kernel_rfl) (.pointer (some ⟨r, 3, none⟩)) (fun _ => x_fieldAddr (b := r) (off := 0) (o := 3) (by kernel_rfl) (by kernel_rfl)) ?_
  refine wk_pure (show opD nR10w11_6 12 = some (some 87, .move (.tmp 5), 3, none) from by kernel_rfl) (by kernel_rfl) (.int .i64 ((sendsN ((place + n - 1) % n) n round : Nat) : Int)) (fun _ => y_move (by kernel_rfl)) ?_
  have hb_28 : w_25.heap[r]? = some (.cells #[.int .i64 ((place : Nat) : Int), .int .i64 ((n : Nat) : Int), .slice la L.length lc, .slice (some ⟨ck, 0, none⟩) ((chk L.length n n).length) kc, .int .i64 ((round : Nat) : Int), .bool told, .bool false] 54 (0, 0)) := (sm_26.keep hb_24)
  refine wk_read (show opD nR10w11_6 3 = some (some 78, .load 49 (.tmp 77), 49, none) from by kernel_rfl) (by kernel_rfl) (.slice (some ⟨ck, 0, none⟩) ((chk L.length n n).length) kc) (fun w'_ g_ => x_load (b := r) (off := 3) (by kernel_rfl) (by kernel_rfl) (g_.keep hb_28) (by kernel_rfl)) ?_
  have hb_29 : OwnE w_25 63 2 ck kc encP (chk L.length n n) crest := (sm_26.keepOwn (sm_22.keepOwn (sm_17.keepOwn (s_12.keepOwn (sm_8.keepOwn (e_3.keepOwn hcc List.not_mem_nil))))))
  refine wk_pure (show opD nR10w11_6 5 = some (some 80, .indexAddr 49 (.tmp 78) (.tmp 79), 0, none) from by kernel_rfl) (by kernel_rfl) (.pointer (some ⟨ck, 0 + ((sendsN ((place + n - 1) % n) n round) * 2 + 0), none⟩)) (fun _ => y_ptr (x_indexN (a := some ⟨ck, 0, none⟩) (b := ck) (off := 0) (n := ((chk L.length n n).length)) (c := kc) (k := .i64) (i := ((sendsN ((place + n - 1) % n) n round : Nat) : Int)) (e := 63) (sz := 2) (sz' := 2) (by kernel_rfl) hb_29.sl (by kernel_rfl) (by kernel_rfl) rfl (by omega) _) (by omega)) ?_
  refine wk_pure (show opD nR10w11_6 6 = some (some 81, .indexAddr 63 (.tmp 80) (.const (.int .i64 0)), 0, none) from by kernel_rfl) (by kernel_rfl) (.pointer (some ⟨ck, 0 + ((sendsN ((place + n - 1) % n) n round) * 2 + 0), none⟩)) (fun _ => y_ptr (x_indexArr (b := ck) (off := (0 + ((sendsN ((place + n - 1) % n) n round) * 2 + 0))) (k := .i64) (i := 0) (e := 3) (len := 2) (sz := 1) (by kernel_rfl) (by kernel_rfl) (by kernel_rfl) (by decide)) (by omega)) ?_
  refine wk_read (show opD nR10w11_6 7 = some (some 82, .load 3 (.tmp 81), 3, none) from by kernel_rfl) (by kernel_rfl) (.int .i64 ((cFrom L.length n (sendsN ((place + n - 1) % n) n round) : Nat) : Int)) (fun w'_ g_ => x_load_c (b := ck) (off := (0 + ((sendsN ((place + n - 1) % n) n round) * 2 + 0))) (by kernel_rfl) (by kernel_rfl) (SlE.get (g_.keepOwn hb_29).sl encP_len (0, 0) (sendsN ((place + n - 1) % n) n round) 0 (by omega) rfl)) ?_
  refine wk_pure (show opD nR10w11_6 16 = some (some 8, .assign (.tmp 82), 3, none) from by kernel_rfl) (by kernel_rfl) (.int .i64 ((cFrom L.length n (sendsN ((place + n - 1) % n) n round) : Nat) : Int)) (fun _ => y_assign (by kernel_rfl)) ?_
  refine wk_read (show opD nR10w11_6 11 = some (some 86, .load 49 (.tmp 85), 49, none) from by kernel_rfl) (by kernel_rfl) (.slice (some ⟨ck, 0, none⟩) ((chk L.length n n).length) kc) (fun w'_ g_ => x_load (b := r) (off := 3) (by kernel_rfl) (by kernel_rfl) (g_.keep hb_28) (by kernel_rfl)) ?_
  refine wk_pure (show opD nR10w11_6 13 = some (some 88, .indexAddr 49 (.tmp 86) (.tmp 87), 0, none) from by kernel_rfl) (by kernel_rfl) (.pointer (some ⟨ck, 0 + ((sendsN ((place + n - 1) % n) n round) * 2 + 0), none⟩)) (fun _ => y_ptr (x_indexN (a := some ⟨ck, 0, none⟩) (b := ck) (off := 0) (n := ((chk L.length n n).length)) (c := kc) (k := .i64) (i := ((sendsN ((place + n - 1) % n) n round : Nat) : Int)) (e := 63) (sz := 2) (sz' := 2) (by kernel_rfl) hb_29.sl (by kernel_rfl) (by kernel_rfl) rfl (by omega) _) (by omega)) ?_
  refine wk_pure (show opD nR10w11_6 14 = some (some 89, .indexAddr 63 (.tmp 88) (.const (.int .i64 1)), 0, none) from by kernel_rfl) (by kernel_rfl) (.pointer (some ⟨ck, 0 + ((sendsN ((place + n - 1) % n) n round) * 2 + 1), none⟩)) (fun _ => y_ptr (x_indexArr (b := ck) (off := (0 + ((sendsN ((place + n - 1) % n) n round) * 2 + 0))) (k := .i64) (i := 1) (e := 3) (len := 2) (sz := 1) (by kernel_rfl) (by kernel_rfl) (by kernel_rfl) (by decide)) (by omega)) ?_
  refine wk_read (show opD nR10w11_6 15 = some (some 90, .load 3 (.tmp 89), 3, none) from by kernel_rfl) (by kernel_rfl) (.int .i64 ((cTo L.length n (sendsN ((place + n - 1) % n) n round) : Nat) : Int)) (fun w'_ g_ => x_load_c (b := ck) (off := (0 + ((sendsN ((place + n - 1) % n) n round) * 2 + 1))) (by kernel_rfl) (by kernel_rfl) (SlE.get (g_.keepOwn hb_29).sl encP_len (0, 0) (sendsN ((place + n - 1) % n) n round) 1 (by omega) rfl)) ?_
  refine wk_pure (show opD nR10w11_6 17 = some (some 9, .assign (.tmp 90), 3, none) from by kernel_rfl) (by kernel_rfl) (.int .i64 ((cTo L.length n (sendsN ((place + n - 1) % n) n round) : Nat) : Int)) (fun _ => y_assign (by kernel_rfl)) ?_
  refine wk_nil ?_
  refine thn_n ?_
  refine g_seq (x := nN10w11_18) (y := nN10w11_19) (by kernel_rfl) ?_
  refine g_seq (x := nN10w11_20) (y := nN10w11_21) (by kernel_rfl) ?_
  refine g_region (ops := nR10w11_7) (id := 7) (by kernel_rfl) [(0, .pure), (1, .loud), (2, .pure), (3, .pure), (4, .pure), (5, .pure), (6, .loud), (7, .pure), (8, .pure), (9, .pure), (10, .pure), (11, .pure), (12, .pure)] (by kernel_rfl) (by kernel_rfl) ?_
  refine wk_pure (show opD nR10w11_7 0 = some (some 91, .fieldAddr 37 (.tmp 3) 1, 0, none) from by kernel_rfl) (by kernel_rfl) (.pointer (some ⟨b_1, 1, none⟩)) (fun _ => x_fieldAddr (b := b_1) (off := 0) (o := 1) (by kernel_rfl) (by kernel_rfl)) ?_
  have hb_30 : w_25.heap[b_1]? = some (.cells #[.int .i64 ((pr : Nat) : Int), .int .i64 ((pc : Nat) : Int), .slice wa W.length wc] 37 (0, 0)) := (sm_26.keep (sm_22.keep hb_19))
  refine wk_val (show opD nR10w11_7 1 = some (some 92, .load 3 (.tmp 91), 3, none) from by kernel_rfl) (by kernel_rfl) (.int .i64 ((pc : Nat) : Int)) (x_load (b := b_1) (off := 1) (by kernel_rfl) (by kernel_rfl) hb_30 (by kernel_rfl)) trivial ?_
  refine wk_pure (show opD nR10w11_7 2 = some (some 93, .move (.tmp 5), 3, none) from by kernel_rfl) (by kernel_rfl) (.int .i64 ((sendsN ((place + n - 1) % n) n round : Nat) : Int)) (fun _ => y_move (by kernel_rfl)) ?_
  refine wk_pure (show opD nR10w11_7 3 = some (some 94, .binOp .neq 3 (.tmp 92) (.tmp 93) 3, 4, none) from by kernel_rfl) (by kernel_rfl) (.bool false) (fun _ => y_neq (k := .i64) (a := ((pc : Nat) : Int)) (b := ((sendsN ((place + n - 1) % n) n round : Nat) : Int)) (by kernel_rfl) (by kernel_rfl) (decide_eq_false (by omega))) ?_
  refine wk_pure (show opD nR10w11_7 4 = some (some 95, .move (.tmp 94), 4, none) from by kernel_rfl) (by kernel_rfl) (.bool false) (fun _ => y_move (by kernel_rfl)) ?_
  refine wk_pure (show opD nR10w11_7 5 = some (some 96, .fieldAddr 37 (.tmp 3) 2, 0, some (4, false)) from by kernel_rfl) (by kernel_rfl) (.pointer (some ⟨b_1, 2, none⟩)) (fun _ => x_fieldAddr (b := b_1) (off := 0) (o := 2) (by kernel_rfl) (by kernel_rfl)) ?_
  refine wk_val (show opD nR10w11_7 6 = some (some 97, .load 25 (.tmp 96), 25, some (4, false)) from by kernel_rfl) (by kernel_rfl) (.slice wa W.length wc) (x_load (b := b_1) (off := 2) (by kernel_rfl) (by kernel_rfl) hb_30 (by kernel_rfl)) trivial ?_
  refine wk_pure (show opD nR10w11_7 7 = some (some 98, .call ⟨.builtin .len, #[.tmp 97], #[25]⟩, 3, some (4, false)) from by kernel_rfl) (by kernel_rfl) (.int .i64 ((W.length : Nat) : Int)) (fun _ => x_len (a := wa) (n := W.length) (c := wc) (by kernel_rfl) (by kernel_rfl)) ?_
  refine wk_pure (show opD nR10w11_7 8 = some (some 99, .move (.tmp 9), 3, some (4, false)) from by kernel_rfl) (by kernel_rfl) (.int .i64 ((cTo L.length n (sendsN ((place + n - 1) % n) n round) : Nat) : Int)) (fun _ => y_move (by kernel_rfl)) ?_
  refine wk_pure (show opD nR10w11_7 9 = some (some 100, .move (.tmp 8), 3, some (4, false)) from by kernel_rfl) (by kernel_rfl) (.int .i64 ((cFrom L.length n (sendsN ((place + n - 1) % n) n round) : Nat) : Int)) (fun _ => y_move (by kernel_rfl)) ?_
  refine wk_pure (show opD nR10w11_7 10 = some (some 101, .binOp .sub 3 (.tmp 99) (.tmp 100) 3, 3, some (4, false)) from by kernel_rfl) (by kernel_rfl) (.int .i64 (((cTo L.length n (sendsN ((place + n - 1) % n) n round) : Nat) : Int) - ((cFrom L.length n (sendsN ((place + n - 1) % n) n round) : Nat) : Int))) (fun _ => y_sub (k := .i64) (a := ((cTo L.length n (sendsN ((place + n - 1) % n) n round) : Nat) : Int)) (b := ((cFrom L.length n (sendsN ((place + n - 1) % n) n round) : Nat) : Int)) (by kernel_rfl) (by kernel_rfl) (i64_id (by omega))) ?_
  refine wk_pure (show opD nR10w11_7 11 = some (some 102, .binOp .neq 3 (.tmp 98) (.tmp 101) 3, 4, some (4, false)) from by kernel_rfl) (by kernel_rfl) (.bool false) (fun _ => y_neq (k := .i64) (a := ((W.length : Nat) : Int)) (b := (((cTo L.length n (sendsN ((place + n - 1) % n) n round) : Nat) : Int) - ((cFrom L.length n (sendsN ((place + n - 1) % n) n round) : Nat) : Int))) (by kernel_rfl) (by kernel_rfl) (decide_eq_false (by omega))) ?_
  refine wk_pure (show opD nR10w11_7 12 = some (some 103, .pick (.tmp 95) (.const (.bool true)) (.tmp 102), 4, none) from by kernel_rfl) (by kernel_rfl) (.bool false) (fun _ => y_pick_f (by kernel_rfl) (by kernel_rfl)) ?_
  refine wk_nil ?_
  refine thn_n ?_
  refine g_cond_f (o := .tmp 103) (x := nN10w11_22) (y := nN10w11_23) (by kernel_rfl) (by kernel_rfl) ?_
  refine g_skip (by kernel_rfl) ?_
  refine thn_n ?_
  refine g_seq (x := nN10w11_24) (y := nN10w11_25) (by kernel_rfl) ?_
  refine g_seq (x := nN10w11_26) (y := nN10w11_27) (by kernel_rfl) ?_
  refine g_region (ops := nR10w11_9) (id := 9) (by kernel_rfl) [(0, .pure), (1, .loud), (2, .pure), (3, .pure)] (by kernel_rfl) (by kernel_rfl) ?_
  refine wk_pure (show opD nR10w11_9 0 = some (some 104, .fieldAddr 37 (.tmp 3) 2, 0, none) from by kernel_rfl) (by kernel_rfl) (.pointer (some ⟨b_1, 2, none⟩)) (fun _ => x_fieldAddr (b := b_1) (off := 0) (o := 2) (by kernel_rfl) (by kernel_rfl)) ?_
  refine wk_val (show opD nR10w11_9 1 = some (some 105, .load 25 (.tmp 104), 25, none) from by kernel_rfl) (by kernel_rfl) (.slice wa W.length wc) (x_load (b := b_1) (off := 2) (by kernel_rfl) (by kernel_rfl) hb_30 (by kernel_rfl)) trivial ?_
  refine wk_pure (show opD nR10w11_9 2 = some (some 106, .call ⟨.builtin .len, #[.tmp 105], #[25]⟩, 3, none) from by kernel_rfl) (by kernel_rfl) (.int .i64 ((W.length : Nat) : Int)) (fun _ => x_len (a := wa) (n := W.length) (c := wc) (by kernel_rfl) (by kernel_rfl)) ?_
  refine wk_pure (show opD nR10w11_9 3 = some (some 107, .move (.const (.int .i64 0)), 3, none) from by kernel_rfl) (by kernel_rfl) (.int .i64 0) (fun _ => y_move (by kernel_rfl)) ?_
  refine wk_nil ?_
  refine thn_n ?_
  refine g_block (x := nN10w11_28) (id := 1) (by kernel_rfl) ?_
  have hb_31 : OwO w_25 33 2 la g lc encW L rest := (sm_26.keepOwO (sm_22.keepOwO (sm_17.keepOwO (s_12.keepOwO (sm_8.keepOwO (e_3.keepOwP hl (hgr.imp id (fun h_ => List.not_mem_nil))))))))
  refine g_loop (x := nN10w11_29) (by kernel_rfl) (fun m_ ρ_ w_ => ∃ (k : Nat), m_ = W.length - k ∧ (k ≤ W.length) ∧ ρ_ 0 = .pointer (some ⟨r, 0, none⟩) ∧ ρ_ 4 = .int .i64 0 ∧ ρ_ 6 = .bool (addsN n round) ∧ ρ_ 8 = .int .i64 ((cFrom L.length n (sendsN ((place + n - 1) % n) n round) : Nat) : Int) ∧ ρ_ 105 = .slice wa W.length wc ∧ ρ_ 106 = .int .i64 ((W.length : Nat) : Int) ∧ ρ_ 107 = .int .i64 ((k : Nat) : Int) ∧ OwO w_ 33 2 la g lc encW (mixL L W (cFrom L.length n (sendsN ((place + n - 1) % n) n round)) (addsN n round) k) rest ∧ Ext [g] w_25 w_) (W.length - 0) ?_ ?_
  · exact ⟨0, rfl, by omega, (by kernel_rfl), (by kernel_rfl), (by kernel_rfl), (by kernel_rfl), (by kernel_rfl), (by kernel_rfl), (by kernel_rfl), hb_31, Ext.refl _ _⟩
  · intro m_32 ρ_33 w_34 hI
    obtain ⟨k, hm_m_32, hk, f_36, f_37, f_38, f_39, f_40, f_41, f_42, hr_43, hE_35⟩ := hI
    have hs_w_34 := hE_35.size
    have hmx := mixL_len L W (cFrom L.length n (sendsN ((place + n - 1) % n) n round)) (addsN n round) k
    have hgr2 : (mixL L W (cFrom L.length n (sendsN ((place + n - 1) % n) n round)) (addsN n round) k).length = 0 ∨ g ≠ r := by rw [hmx]; exact hgr
    refine g_seq (x := nN10w11_30) (y := nN10w11_31) (by kernel_rfl) ?_
    refine g_region (ops := nR10w11_10) (id := 10) (by kernel_rfl) [(0, .pure)] (by kernel_rfl) (by kernel_rfl) ?_
    by_cases h_44 : (((k : Nat) : Int) : Int) < ((W.length : Nat) : Int)
    · refine wk_pure (show opD nR10w11_10 0 = some (some 108, .binOp .lss 3 (.tmp 107) (.tmp 106) 3, 0, none) from by kernel_rfl) (by kernel_rfl) (.bool true) (fun _ => y_lss (k := .i64) (a := ((k : Nat) : Int)) (b := ((W.length : Nat) : Int)) (Eq.trans (by kernel_rfl) f_42) (Eq.trans (by kernel_rfl) f_41) (decide_eq_true h_44)) ?_
      refine wk_nil ?_
      refine thn_n ?_
      refine g_seq (x := nN10w11_32) (y := nN10w11_33) (by kernel_rfl) ?_
      refine g_cond_t (o := .tmp 108) (x := nN10w11_34) (y := nN10w11_35) (by kernel_rfl) (by kernel_rfl) ?_
      refine g_skip (by kernel_rfl) ?_
      refine thn_n ?_
      refine g_seq (x := nN10w11_36) (y := nN10w11_37) (by kernel_rfl) ?_
      refine g_block (x := nN10w11_38) (id := 2) (by kernel_rfl) ?_
      refine g_seq (x := nN10w11_39) (y := nN10w11_40) (by kernel_rfl) ?_
      refine g_region (ops := nR10w11_11) (id := 11) (by kernel_rfl) [(0, .pure), (1, .pure), (2, .loud), (3, .loud), (4, .pure), (5, .loud)] (by kernel_rfl) (by kernel_rfl) ?_
      refine wk_pure (show opD nR10w11_11 0 = some (some 109, .move (.tmp 107), 3, none) from by kernel_rfl) (by kernel_rfl) (.int .i64 ((k : Nat) : Int)) (fun _ => y_move (Eq.trans (by kernel_rfl) f_42)) ?_
      have hb_45 : SlE w_34 2 wa pb offp encW W := (hE_35.keepSl (sm_26.keepSl (sm_22.keepSl (sm_17.keepSl (s_12.keepSl (sm_8.keepSl (e_3.keepSl hs List.not_mem_nil)))))) (by simp only [List.mem_cons, List.not_mem_nil, or_false]; omega))
      refine wk_pure (show opD nR10w11_11 1 = some (some 110, .indexAddr 25 (.tmp 105) (.tmp 107), 0, none) from by kernel_rfl) (by kernel_rfl) (.pointer (some ⟨pb, offp + (k * 2 + 0), none⟩)) (fun _ => y_ptr (x_indexN (a := wa) (b := pb) (off := offp) (n := W.length) (c := wc) (k := .i64) (i := ((k : Nat) : Int)) (e := 33) (sz := 2) (sz' := 2) (by kernel_rfl) hb_45 (Eq.trans (by kernel_rfl) f_40) (Eq.trans (by kernel_rfl) f_42) rfl (by omega) _) (by omega)) ?_
      refine wk_val (show opD nR10w11_11 2 = some (some 111, .load 33 (.tmp 110), 33, none) from by kernel_rfl) (by kernel_rfl) (.agg #[.int .i64 (hiOf (W.getD k 0)), .int .u64 (loOf (W.getD k 0))]) (x_load_cs (b := pb) (off := (offp + (k * 2 + 0))) (n := 2) (vs := [.int .i64 (hiOf (W.getD k 0)), .int .u64 (loOf (W.getD k 0))]) (by kernel_rfl) (by kernel_rfl) rfl (SlE.getN hb_45 encW_len 0 k 0 (by omega) rfl)) trivial ?_
      refine wk_alloc (z := #[.int .i64 0, .int .u64 0]) (show opD nR10w11_11 3 = some (some 11, .alloc 33, 0, none) from by kernel_rfl) (by kernel_rfl) (by kernel_rfl) (fun w_47 b_46 eq_49 e_48 sz_50 hb_51 => ⟨?_, ?_⟩)
      · exact trivial
      refine wk_pure (show opD nR10w11_11 4 = some (some 10, .assign (.tmp 109), 3, none) from by kernel_rfl) (by kernel_rfl) (.int .i64 ((k : Nat) : Int)) (fun _ => y_assign (by kernel_rfl)) ?_
      refine wk_store (b := b_46) (off := 0) (cs' := #[.int .i64 (hiOf (W.getD k 0)), .int .u64 (loOf (W.getD k 0))]) (vs := #[.int .i64 (hiOf (W.getD k 0)), .int .u64 (loOf (W.getD k 0))]) (show opD nR10w11_11 5 = some (none, .store 33 (.tmp 11) (.tmp 111), 0, none) from by kernel_rfl) (by kernel_rfl) (by kernel_rfl) (by kernel_rfl) (by kernel_rfl) (by kernel_rfl) hb_51 (Nat.le_of_ble_eq_true rfl) (by kernel_rfl) (by kernel_rfl) (fun w_52 e_53 sz_54 hb_55 => ⟨?_, ?_⟩)
      · exact trivial
      refine wk_nil ?_
      refine thn_n ?_
      refine g_seq (x := nN10w11_41) (y := nN10w11_42) (by kernel_rfl) ?_
      refine g_seq (x := nN10w11_43) (y := nN10w11_44) (by kernel_rfl) ?_
      refine g_region (ops := nR10w11_12) (id := 12) (by kernel_rfl) [(0, .pure)] (by kernel_rfl) (by kernel_rfl) ?_
      refine wk_pure (show opD nR10w11_12 0 = some (some 112, .move (.tmp 6), 4, none) from by kernel_rfl) (by kernel_rfl) (.bool (addsN n round)) (fun _ => y_move (Eq.trans (by kernel_rfl) f_38)) ?_
      refine wk_nil ?_
      refine thn_n ?_
      refine g_cond (o := .tmp 112) (x := nN10w11_45) (y := nN10w11_46) (t := addsN n round) (by kernel_rfl) (by kernel_rfl) (fun hc_56 => ?_) (fun hc_56 => ?_)
      · refine g_draw (ops := nR10w11_13) (id := 13) (by kernel_rfl) (fun _ _ => True) [(0, .pure), (1, .pure), (2, .pure), (4, .pure), (5, .pure), (6, .pure), (9, .read), (3, .loud), (7, .pure), (8, .read), (10, .loud), (11, .loud)] (by kernel_rfl) (by kernel_rfl) (fun _ => trivial) (fun w_57 sm_58 => ?_)
        have hsz_59 : w_57.heap.size = w_52.heap.size := by rw [sm_58.heap]
        refine wk_pure (show opD nR10w11_13 0 = some (some 113, .move (.tmp 0), 27, none) from by kernel_rfl) (by kernel_rfl) (.pointer (some ⟨r, 0, none⟩)) (fun _ => y_move (Eq.trans (by kernel_rfl) f_36)) ?_
        refine wk_pure (show opD nR10w11_13 1 = some (some 114, .nilCheck (.tmp 113), 0, none) from by kernel_rfl) (by kernel_rfl) (.pointer (some ⟨r, 0, none⟩)) (fun _ => x_nilCheck (by kernel_rfl)) ?_
        refine wk_pure (show opD nR10w11_13 2 = some (some 115, .fieldAddr 54 (.tmp 114) 2, 0, none) from by kernel_rfl) (by kernel_rfl) (.pointer (some ⟨r, 2, none⟩)) (fun _ => x_fieldAddr (b := r) (off := 0) (o := 2) (by kernel_rfl) (by kernel_rfl)) ?_
        refine wk_pure (show opD nR10w11_13 4 = some (some 117, .move (.tmp 8), 3, none) from by kernel_rfl) (by kernel_rfl) (.int .i64 ((cFrom L.length n (sendsN ((place + n - 1) % n) n round) : Nat) : Int)) (fun _ => y_move (Eq.trans (by kernel_rfl) f_39)) ?_
        refine wk_pure (show opD nR10w11_13 5 = some (some 118, .move (.tmp 10), 3, none) from by kernel_rfl) (by kernel_rfl) (.int .i64 ((k : Nat) : Int)) (fun _ => y_move (by kernel_rfl)) ?_
        refine wk_pure (show opD nR10w11_13 6 = some (some 119, .binOp .add 3 (.tmp 117) (.tmp 118) 3, 3, none) from by kernel_rfl) (by kernel_rfl) (.int .i64 (((cFrom L.length n (sendsN ((place + n - 1) % n) n round)) + k : Nat) : Int)) (fun _ => y_add (k := .i64) (a := ((cFrom L.length n (sendsN ((place + n - 1) % n) n round) : Nat) : Int)) (b := ((k : Nat) : Int)) (by kernel_rfl) (by kernel_rfl) (i64_to (by omega) (by omega))) ?_
        have hb_60 : w_57.heap[b_46]? = some (.cells #[.int .i64 (hiOf (W.getD k 0)), .int .u64 (loOf (W.getD k 0))] 33 (0, 0)) := (sm_58.keep hb_55)
        refine wk_read (show opD nR10w11_13 9 = some (some 122, .load 33 (.tmp 11), 33, none) from by kernel_rfl) (by kernel_rfl) (.agg #[.int .i64 (hiOf (W.getD k 0)), .int .u64 (loOf (W.getD k 0))]) (fun w'_ g_ => x_load_agg (b := b_46) (off := 0) (n := 2) (by kernel_rfl) (by kernel_rfl) (g_.keep hb_60) (Nat.le_of_ble_eq_true rfl) (by kernel_rfl)) ?_
        have hb_61 : w_57.heap[r]? = some (.cells #[.int .i64 ((place : Nat) : Int), .int .i64 ((n : Nat) : Int), .slice la L.length lc, .slice (some ⟨ck, 0, none⟩) ((chk L.length n n).length) kc, .int .i64 ((round : Nat) : Int), .bool told, .bool false] 54 (0, 0)) := (sm_58.keep (e_53.keep (e_48.keep (hE_35.keep hb_28 (by simp only [List.mem_cons, List.not_mem_nil, or_false]; omega)) List.not_mem_nil) (by simp only [List.mem_cons, List.not_mem_nil, or_false]; omega)))
        refine wk_val (show opD nR10w11_13 3 = some (some 116, .load 25 (.tmp 115), 25, none) from by kernel_rfl) (by kernel_rfl) (.slice la L.length lc) (x_load (b := r) (off := 2) (by kernel_rfl) (by kernel_rfl) hb_61 (by kernel_rfl)) trivial ?_
        have hb_62 : OwO w_57 33 2 la g lc encW (mixL L W (cFrom L.length n (sendsN ((place + n - 1) % n) n round)) (addsN n round) k) rest := (sm_58.keepOwO (e_53.keepOwP (e_48.keepOwP hr_43 (hgr2.imp id (fun h_ => List.not_mem_nil))) (hgr2.imp id (fun h_ => (by simp only [List.mem_cons, List.not_mem_nil, or_false]; omega)))))
        refine wk_pure (show opD nR10w11_13 7 = some (some 120, .indexAddr 25 (.tmp 116) (.tmp 119), 0, none) from by kernel_rfl) (by kernel_rfl) (.pointer (some ⟨g, 0 + (((cFrom L.length n (sendsN ((place + n - 1) % n) n round)) + k) * 2 + 0), none⟩)) (fun _ => y_ptr (x_indexN (a := la) (b := g) (off := 0) (n := L.length) (c := lc) (k := .i64) (i := (((cFrom L.length n (sendsN ((place + n - 1) % n) n round)) + k : Nat) : Int)) (e := 33) (sz := 2) (sz' := 2) (by kernel_rfl) hb_62.sl (by kernel_rfl) (by kernel_rfl) (by omega) (by omega) _) (by omega)) ?_
        refine wk_read (show opD nR10w11_13 8 = some (some 121, .load 33 (.tmp 120), 33, none) from by kernel_rfl) (by kernel_rfl) (.agg #[.int .i64 (hiOf ((mixL L W (cFrom L.length n (sendsN ((place + n - 1) % n) n round)) (addsN n round) k).getD ((cFrom L.length n (sendsN ((place + n - 1) % n) n round)) + k) 0)), .int .u64 (loOf ((mixL L W (cFrom L.length n (sendsN ((place + n - 1) % n) n round)) (addsN n round) k).getD ((cFrom L.length n (sendsN ((place + n - 1) % n) n round)) + k) 0))]) (fun w'_ g_ => x_load_cs (b := g) (off := (0 + (((cFrom L.length n (sendsN ((place + n - 1) % n) n round)) + k) * 2 + 0))) (n := 2) (vs := [.int .i64 (hiOf ((mixL L W (cFrom L.length n (sendsN ((place + n - 1) % n) n round)) (addsN n round) k).getD ((cFrom L.length n (sendsN ((place + n - 1) % n) n round)) + k) 0)), .int .u64 (loOf ((mixL L W (cFrom L.length n (sendsN ((place + n - 1) % n) n round)) (addsN n round) k).getD ((cFrom L.length n (sendsN ((place + n - 1) % n) n round)) + k) 0))]) (by kernel_rfl) (by kernel_rfl) rfl (SlE.getN (g_.keepOwO hb_62).sl encW_len 0 ((cFrom L.length n (sendsN ((place + n - 1) % n) n round)) + k) 0 (by omega) rfl)) ?_
        refine wk_call (show opD nR10w11_13 10 = some (some 123, .call ⟨.value (.func 23), #[.tmp 121, .tmp 122], #[33, 33]⟩, 33, none) from by kernel_rfl) (by kernel_rfl) 23 #[.agg #[.int .i64 (hiOf ((mixL L W (cFrom L.length n (sendsN ((place + n - 1) % n) n round)) (addsN n round) k).getD ((cFrom L.length n (sendsN ((place + n - 1) % n) n round)) + k) 0)), .int .u64 (loOf ((mixL L W (cFrom L.length n (sendsN ((place + n - 1) % n) n round)) (addsN n round) k).getD ((cFrom L.length n (sendsN ((place + n - 1) % n) n round)) + k) 0))], .agg #[.int .i64 (hiOf (W.getD k 0)), .int .u64 (loOf (W.getD k 0))]] (x_call Try.func23 (by kernel_rfl) (c := (Try.f23.body).getD .skip) (by kernel_rfl) (by kernel_rfl) (by kernel_rfl)) (add_c (by exact mixL_in hi hwi k _) (by exact hwi _) (fun w_63 e_64 sz_65 => ⟨?_, ?_⟩))
        · exact trivial
        have hsz_66 : w_57.heap.size ≤ w_63.heap.size := e_64.size
        have hb_67 : w_63.heap[b_46]? = some (.cells #[.int .i64 (hiOf (W.getD k 0)), .int .u64 (loOf (W.getD k 0))] 33 (0, 0)) := (e_64.keep hb_60 List.not_mem_nil)
        refine wk_store (b := b_46) (off := 0) (cs' := #[.int .i64 (hiOf (wrap128 (((mixL L W (cFrom L.length n (sendsN ((place + n - 1) % n) n round)) (addsN n round) k).getD ((cFrom L.length n (sendsN ((place + n - 1) % n) n round)) + k) 0) + (W.getD k 0)))), .int .u64 (loOf (wrap128 (((mixL L W (cFrom L.length n (sendsN ((place + n - 1) % n) n round)) (addsN n round) k).getD ((cFrom L.length n (sendsN ((place + n - 1) % n) n round)) + k) 0) + (W.getD k 0))))]) (vs := #[.int .i64 (hiOf (wrap128 (((mixL L W (cFrom L.length n (sendsN ((place + n - 1) % n) n round)) (addsN n round) k).getD ((cFrom L.length n (sendsN ((place + n - 1) % n) n round)) + k) 0) + (W.getD k 0)))), .int .u64 (loOf (wrap128 (((mixL L W (cFrom L.length n (sendsN ((place + n - 1) % n) n round)) (addsN n round) k).getD ((cFrom L.length n (sendsN ((place + n - 1) % n) n round)) + k) 0) + (W.getD k 0))))]) (show opD nR10w11_13 11 = some (none, .store 33 (.tmp 11) (.tmp 123), 0, none) from by kernel_rfl) (by kernel_rfl) (by kernel_rfl) (by kernel_rfl) (by kernel_rfl) (by kernel_rfl) hb_67 (Nat.le_of_ble_eq_true rfl) (by kernel_rfl) (by kernel_rfl) (fun w_68 e_69 sz_70 hb_71 => ⟨?_, ?_⟩)
        · exact trivial
        refine wk_nil ?_
        refine thn_n ?_
        refine g_draw (ops := nR10w11_14) (id := 14) (by kernel_rfl) (fun _ _ => True) [(0, .pure), (1, .pure), (2, .pure), (4, .pure), (5, .pure), (6, .pure), (3, .read), (7, .read), (8, .pure), (9, .loud)] (by kernel_rfl) (by kernel_rfl) (fun _ => trivial) (fun w_72 sm_73 => ?_)
        have hsz_74 : w_72.heap.size = w_68.heap.size := by rw [sm_73.heap]
        refine wk_pure (show opD nR10w11_14 0 = some (some 124, .move (.tmp 0), 27, none) from by kernel_rfl) (by kernel_rfl) (.pointer (some ⟨r, 0, none⟩)) (fun _ => y_move (Eq.trans (by kernel_rfl) f_36)) ?_
        refine wk_pure (show opD nR10w11_14 1 = some (some 125, .nilCheck (.tmp 124), 0, none) from by kernel_rfl) (by kernel_rfl) (.pointer (some ⟨r, 0, none⟩)) (fun _ => x_nilCheck (by kernel_rfl)) ?_
        refine wk_pure (show opD nR10w11_14 2 = some (some 126, .fieldAddr 54 (.tmp 125) 2, 0, none) from by kernel_rfl) (by kernel_rfl) (.pointer (some ⟨r, 2, none⟩)) (fun _ => x_fieldAddr (b := r) (off := 0) (o := 2) (by kernel_rfl) (by kernel_rfl)) ?_
        refine wk_pure (show opD nR10w11_14 4 = some (some 128, .move (.tmp 8), 3, none) from by kernel_rfl) (by kernel_rfl) (.int .i64 ((cFrom L.length n (sendsN ((place + n - 1) % n) n round) : Nat) : Int)) (fun _ => y_move (Eq.trans (by kernel_rfl) f_39)) ?_
        refine wk_pure (show opD nR10w11_14 5 = some (some 129, .move (.tmp 10), 3, none) from by kernel_rfl) (by kernel_rfl) (.int .i64 ((k : Nat) : Int)) (fun _ => y_move (by kernel_rfl)) ?_
        refine wk_pure (show opD nR10w11_14 6 = some (some 130, .binOp .add 3 (.tmp 128) (.tmp 129) 3, 3, none) from by kernel_rfl) (by kernel_rfl) (.int .i64 (((cFrom L.length n (sendsN ((place + n - 1) % n) n round)) + k : Nat) : Int)) (fun _ => y_add (k := .i64) (a := ((cFrom L.length n (sendsN ((place + n - 1) % n) n round) : Nat) : Int)) (b := ((k : Nat) : Int)) (by kernel_rfl) (by kernel_rfl) (i64_to (by omega) (by omega))) ?_
        have hb_75 : w_72.heap[r]? = some (.cells #[.int .i64 ((place : Nat) : Int), .int .i64 ((n : Nat) : Int), .slice la L.length lc, .slice (some ⟨ck, 0, none⟩) ((chk L.length n n).length) kc, .int .i64 ((round : Nat) : Int), .bool told, .bool false] 54 (0, 0)) := (sm_73.keep (e_69.keep (e_64.keep hb_61 List.not_mem_nil) (by simp only [List.mem_cons, List.not_mem_nil, or_false]; omega)))
        refine wk_read (show opD nR10w11_14 3 = some (some 127, .load 25 (.tmp 126), 25, none) from by kernel_rfl) (by kernel_rfl) (.slice la L.length lc) (fun w'_ g_ => x_load (b := r) (off := 2) (by kernel_rfl) (by kernel_rfl) (g_.keep hb_75) (by kernel_rfl)) ?_
        have hb_76 : w_72.heap[b_46]? = some (.cells #[.int .i64 (hiOf (wrap128 (((mixL L W (cFrom L.length n (sendsN ((place + n - 1) % n) n round)) (addsN n round) k).getD ((cFrom L.length n (sendsN ((place + n - 1) % n) n round)) + k) 0) + (W.getD k 0)))), .int .u64 (loOf (wrap128 (((mixL L W (cFrom L.length n (sendsN ((place + n - 1) % n) n round)) (addsN n round) k).getD ((cFrom L.length n (sendsN ((place + n - 1) % n) n round)) + k) 0) + (W.getD k 0))))] 33 (0, 0)) := (sm_73.keep hb_71)
        refine wk_read (show opD nR10w11_14 7 = some (some 131, .load 33 (.tmp 11), 33, none) from by kernel_rfl) (by kernel_rfl) (.agg #[.int .i64 (hiOf (wrap128 (((mixL L W (cFrom L.length n (sendsN ((place + n - 1) % n) n round)) (addsN n round) k).getD ((cFrom L.length n (sendsN ((place + n - 1) % n) n round)) + k) 0) + (W.getD k 0)))), .int .u64 (loOf (wrap128 (((mixL L W (cFrom L.length n (sendsN ((place + n - 1) % n) n round)) (addsN n round) k).getD ((cFrom L.length n (sendsN ((place + n - 1) % n) n round)) + k) 0) + (W.getD k 0))))]) (fun w'_ g_ => x_load_agg (b := b_46) (off := 0) (n := 2) (by kernel_rfl) (by kernel_rfl) (g_.keep hb_76) (Nat.le_of_ble_eq_true rfl) (by kernel_rfl)) ?_
        have hb_77 : OwO w_72 33 2 la g lc encW (mixL L W (cFrom L.length n (sendsN ((place + n - 1) % n) n round)) (addsN n round) k) rest := (sm_73.keepOwO (e_69.keepOwP (e_64.keepOwP hb_62 (hgr2.imp id (fun h_ => List.not_mem_nil))) (hgr2.imp id (fun h_ => (by simp only [List.mem_cons, List.not_mem_nil, or_false]; omega)))))
        refine wk_pure (show opD nR10w11_14 8 = some (some 132, .indexAddr 25 (.tmp 127) (.tmp 130), 0, none) from by kernel_rfl) (by kernel_rfl) (.pointer (some ⟨g, 0 + (((cFrom L.length n (sendsN ((place + n - 1) % n) n round)) + k) * 2 + 0), none⟩)) (fun _ => y_ptr (x_indexN (a := la) (b := g) (off := 0) (n := L.length) (c := lc) (k := .i64) (i := (((cFrom L.length n (sendsN ((place + n - 1) % n) n round)) + k : Nat) : Int)) (e := 33) (sz := 2) (sz' := 2) (by kernel_rfl) hb_77.sl (by kernel_rfl) (by kernel_rfl) (by omega) (by omega) _) (by omega)) ?_
        refine wk_store_owO (b := g) (k := ((cFrom L.length n (sendsN ((place + n - 1) % n) n round)) + k)) (f := 0) (sz := 2) (vs := [.int .i64 (hiOf (wrap128 (((mixL L W (cFrom L.length n (sendsN ((place + n - 1) % n) n round)) (addsN n round) k).getD ((cFrom L.length n (sendsN ((place + n - 1) % n) n round)) + k) 0) + (W.getD k 0)))), .int .u64 (loOf (wrap128 (((mixL L W (cFrom L.length n (sendsN ((place + n - 1) % n) n round)) (addsN n round) k).getD ((cFrom L.length n (sendsN ((place + n - 1) % n) n round)) + k) 0) + (W.getD k 0))))]) ((wrap128 (((mixL L W (cFrom L.length n (sendsN ((place + n - 1) % n) n round)) (addsN n round) k).getD ((cFrom L.length n (sendsN ((place + n - 1) % n) n round)) + k) 0) + (W.getD k 0)))) 0 (show opD nR10w11_14 9 = some (none, .store 33 (.tmp 132) (.tmp 131), 0, none) from by kernel_rfl) (by kernel_rfl) (by kernel_rfl) (by kernel_rfl) (by kernel_rfl) (by kernel_rfl) hb_77 encW_len (by omega) rfl (Nat.le_of_ble_eq_true rfl) (by rfl) (fun w_78 e_79 sz_80 ho_81 => ⟨?_, ?_⟩)
        · exact trivial
        refine wk_nil ?_
        refine blk_n ?_
        refine thn_n ?_
        refine g_region (ops := nR10w11_15) (id := 15) (by kernel_rfl) [(0, .pure), (1, .pure)] (by kernel_rfl) (by kernel_rfl) ?_
        refine wk_pure (show opD nR10w11_15 0 = some (some 133, .binOp .add 3 (.tmp 107) (.const (.int .i64 1)) 3, 3, none) from by kernel_rfl) (by kernel_rfl) (.int .i64 ((k + 1 : Nat) : Int)) (fun _ => y_add (k := .i64) (a := ((k : Nat) : Int)) (b := 1) (Eq.trans (by kernel_rfl) f_42) (by kernel_rfl) (i64_to (by omega) (by omega))) ?_
        refine wk_pure (show opD nR10w11_15 1 = some (some 107, .move (.tmp 133), 3, none) from by kernel_rfl) (by kernel_rfl) (.int .i64 ((k + 1 : Nat) : Int)) (fun _ => y_move (by kernel_rfl)) ?_
        refine wk_nil ?_
        refine thn_n ?_
        exact ⟨_, (by omega), ⟨(k + 1), rfl, by omega, (Eq.trans (by kernel_rfl) f_36), (Eq.trans (by kernel_rfl) f_37), (Eq.trans (by kernel_rfl) f_38), (Eq.trans (by kernel_rfl) f_39), (Eq.trans (by kernel_rfl) f_40), (Eq.trans (by kernel_rfl) f_41), (by kernel_rfl), (by rw [mixL_t hc_56]; exact ho_81), (Ext.then (Ext.then (Ext.then (Ext.then (Ext.then (Ext.then (Ext.then hE_35 e_48 (fun _ h_ => absurd h_ List.not_mem_nil)) e_53 (by intro x_ hx_ hl_; simp only [List.mem_cons, List.not_mem_nil, or_false] at hx_ ⊢; omega)) (sm_58.ext []) (fun _ h_ => absurd h_ List.not_mem_nil)) e_64 (fun _ h_ => absurd h_ List.not_mem_nil)) e_69 (by intro x_ hx_ hl_; simp only [List.mem_cons, List.not_mem_nil, or_false] at hx_ ⊢; omega)) (sm_73.ext []) (fun _ h_ => absurd h_ List.not_mem_nil)) e_79 (by intro x_ hx_ hl_; simp only [List.mem_cons, List.not_mem_nil, or_false] at hx_ ⊢; omega))⟩⟩
      · refine g_skip (by kernel_rfl) ?_
        refine thn_n ?_
        refine g_draw (ops := nR10w11_14) (id := 14) (by kernel_rfl) (fun _ _ => True) [(0, .pure), (1, .pure), (2, .pure), (4, .pure), (5, .pure), (6, .pure), (3, .read), (7, .read), (8, .pure), (9, .loud)] (by kernel_rfl) (by kernel_rfl) (fun _ => trivial) (fun w_82 sm_83 => ?_)
        have hsz_84 : w_82.heap.size = w_52.heap.size := by rw [sm_83.heap]
        refine wk_pure (show opD nR10w11_14 0 = some (some 124, .move (.tmp 0), 27, none) from by kernel_rfl) (by kernel_rfl) (.pointer (some ⟨r, 0, none⟩)) (fun _ => y_move (Eq.trans (by kernel_rfl) f_36)) ?_
        refine wk_pure (show opD nR10w11_14 1 = some (some 125, .nilCheck (.tmp 124), 0, none) from by kernel_rfl) (by kernel_rfl) (.pointer (some ⟨r, 0, none⟩)) (fun _ => x_nilCheck (by kernel_rfl)) ?_
        refine wk_pure (show opD nR10w11_14 2 = some (some 126, .fieldAddr 54 (.tmp 125) 2, 0, none) from by kernel_rfl) (by kernel_rfl) (.pointer (some ⟨r, 2, none⟩)) (fun _ => x_fieldAddr (b := r) (off := 0) (o := 2) (by kernel_rfl) (by kernel_rfl)) ?_
        refine wk_pure (show opD nR10w11_14 4 = some (some 128, .move (.tmp 8), 3, none) from by kernel_rfl) (by kernel_rfl) (.int .i64 ((cFrom L.length n (sendsN ((place + n - 1) % n) n round) : Nat) : Int)) (fun _ => y_move (Eq.trans (by kernel_rfl) f_39)) ?_
        refine wk_pure (show opD nR10w11_14 5 = some (some 129, .move (.tmp 10), 3, none) from by kernel_rfl) (by kernel_rfl) (.int .i64 ((k : Nat) : Int)) (fun _ => y_move (by kernel_rfl)) ?_
        refine wk_pure (show opD nR10w11_14 6 = some (some 130, .binOp .add 3 (.tmp 128) (.tmp 129) 3, 3, none) from by kernel_rfl) (by kernel_rfl) (.int .i64 (((cFrom L.length n (sendsN ((place + n - 1) % n) n round)) + k : Nat) : Int)) (fun _ => y_add (k := .i64) (a := ((cFrom L.length n (sendsN ((place + n - 1) % n) n round) : Nat) : Int)) (b := ((k : Nat) : Int)) (by kernel_rfl) (by kernel_rfl) (i64_to (by omega) (by omega))) ?_
        have hb_85 : w_82.heap[r]? = some (.cells #[.int .i64 ((place : Nat) : Int), .int .i64 ((n : Nat) : Int), .slice la L.length lc, .slice (some ⟨ck, 0, none⟩) ((chk L.length n n).length) kc, .int .i64 ((round : Nat) : Int), .bool told, .bool false] 54 (0, 0)) := (sm_83.keep (e_53.keep (e_48.keep (hE_35.keep hb_28 (by simp only [List.mem_cons, List.not_mem_nil, or_false]; omega)) List.not_mem_nil) (by simp only [List.mem_cons, List.not_mem_nil, or_false]; omega)))
        refine wk_read (show opD nR10w11_14 3 = some (some 127, .load 25 (.tmp 126), 25, none) from by kernel_rfl) (by kernel_rfl) (.slice la L.length lc) (fun w'_ g_ => x_load (b := r) (off := 2) (by kernel_rfl) (by kernel_rfl) (g_.keep hb_85) (by kernel_rfl)) ?_
        have hb_86 : w_82.heap[b_46]? = some (.cells #[.int .i64 (hiOf (W.getD k 0)), .int .u64 (loOf (W.getD k 0))] 33 (0, 0)) := (sm_83.keep hb_55)
        refine wk_read (show opD nR10w11_14 7 = some (some 131, .load 33 (.tmp 11), 33, none) from by kernel_rfl) (by kernel_rfl) (.agg #[.int .i64 (hiOf (W.getD k 0)), .int .u64 (loOf (W.getD k 0))]) (fun w'_ g_ => x_load_agg (b := b_46) (off := 0) (n := 2) (by kernel_rfl) (by kernel_rfl) (g_.keep hb_86) (Nat.le_of_ble_eq_true rfl) (by kernel_rfl)) ?_
        have hb_87 : OwO w_82 33 2 la g lc encW (mixL L W (cFrom L.length n (sendsN ((place + n - 1) % n) n round)) (addsN n round) k) rest := (sm_83.keepOwO (e_53.keepOwP (e_48.keepOwP hr_43 (hgr2.imp id (fun h_ => List.not_mem_nil))) (hgr2.imp id (fun h_ => (by simp only [List.mem_cons, List.not_mem_nil, or_false]; omega)))))
        refine wk_pure (show opD nR10w11_14 8 = some (some 132, .indexAddr 25 (.tmp 127) (.tmp 130), 0, none) from by kernel_rfl) (by kernel_rfl) (.pointer (some ⟨g, 0 + (((cFrom L.length n (sendsN ((place + n - 1) % n) n round)) + k) * 2 + 0), none⟩)) (fun _ => y_ptr (x_indexN (a := la) (b := g) (off := 0) (n := L.length) (c := lc) (k := .i64) (i := (((cFrom L.length n (sendsN ((place + n - 1) % n) n round)) + k : Nat) : Int)) (e := 33) (sz := 2) (sz' := 2) (by kernel_rfl) hb_87.sl (by kernel_rfl) (by kernel_rfl) (by omega) (by omega) _) (by omega)) ?_
        refine wk_store_owO (b := g) (k := ((cFrom L.length n (sendsN ((place + n - 1) % n) n round)) + k)) (f := 0) (sz := 2) (vs := [.int .i64 (hiOf (W.getD k 0)), .int .u64 (loOf (W.getD k 0))]) ((W.getD k 0)) 0 (show opD nR10w11_14 9 = some (none, .store 33 (.tmp 132) (.tmp 131), 0, none) from by kernel_rfl) (by kernel_rfl) (by kernel_rfl) (by kernel_rfl) (by kernel_rfl) (by kernel_rfl) hb_87 encW_len (by omega) rfl (Nat.le_of_ble_eq_true rfl) (by rfl) (fun w_88 e_89 sz_90 ho_91 => ⟨?_, ?_⟩)
        · exact trivial
        refine wk_nil ?_
        refine blk_n ?_
        refine thn_n ?_
        refine g_region (ops := nR10w11_15) (id := 15) (by kernel_rfl) [(0, .pure), (1, .pure)] (by kernel_rfl) (by kernel_rfl) ?_
        refine wk_pure (show opD nR10w11_15 0 = some (some 133, .binOp .add 3 (.tmp 107) (.const (.int .i64 1)) 3, 3, none) from by kernel_rfl) (by kernel_rfl) (.int .i64 ((k + 1 : Nat) : Int)) (fun _ => y_add (k := .i64) (a := ((k : Nat) : Int)) (b := 1) (Eq.trans (by kernel_rfl) f_42) (by kernel_rfl) (i64_to (by omega) (by omega))) ?_
        refine wk_pure (show opD nR10w11_15 1 = some (some 107, .move (.tmp 133), 3, none) from by kernel_rfl) (by kernel_rfl) (.int .i64 ((k + 1 : Nat) : Int)) (fun _ => y_move (by kernel_rfl)) ?_
        refine wk_nil ?_
        refine thn_n ?_
        exact ⟨_, (by omega), ⟨(k + 1), rfl, by omega, (Eq.trans (by kernel_rfl) f_36), (Eq.trans (by kernel_rfl) f_37), (Eq.trans (by kernel_rfl) f_38), (Eq.trans (by kernel_rfl) f_39), (Eq.trans (by kernel_rfl) f_40), (Eq.trans (by kernel_rfl) f_41), (by kernel_rfl), (by rw [mixL_f hc_56]; exact ho_91), (Ext.then (Ext.then (Ext.then (Ext.then hE_35 e_48 (fun _ h_ => absurd h_ List.not_mem_nil)) e_53 (by intro x_ hx_ hl_; simp only [List.mem_cons, List.not_mem_nil, or_false] at hx_ ⊢; omega)) (sm_83.ext []) (fun _ h_ => absurd h_ List.not_mem_nil)) e_89 (by intro x_ hx_ hl_; simp only [List.mem_cons, List.not_mem_nil, or_false] at hx_ ⊢; omega))⟩⟩
    · refine wk_pure (show opD nR10w11_10 0 = some (some 108, .binOp .lss 3 (.tmp 107) (.tmp 106) 3, 0, none) from by kernel_rfl) (by kernel_rfl) (.bool false) (fun _ => y_lss (k := .i64) (a := ((k : Nat) : Int)) (b := ((W.length : Nat) : Int)) (Eq.trans (by kernel_rfl) f_42) (Eq.trans (by kernel_rfl) f_41) (decide_eq_false h_44)) ?_
      refine wk_nil ?_
      refine thn_n ?_
      refine g_seq (x := nN10w11_32) (y := nN10w11_33) (by kernel_rfl) ?_
      refine g_cond_f (o := .tmp 108) (x := nN10w11_34) (y := nN10w11_35) (by kernel_rfl) (by kernel_rfl) ?_
      refine g_exit (id := 1) (by kernel_rfl) ?_
      refine thn_e ?_
      refine thn_e ?_
      refine blk_hit ?_
      refine thn_n ?_
      refine g_seq (x := nN10w11_47) (y := nN10w11_48) (by kernel_rfl) ?_
      refine g_region (ops := nR10w11_16) (id := 16) (by kernel_rfl) [(0, .pure), (1, .pure), (2, .pure), (3, .loud)] (by kernel_rfl) (by kernel_rfl) ?_
      refine wk_pure (show opD nR10w11_16 0 = some (some 134, .move (.tmp 0), 27, none) from by kernel_rfl) (by kernel_rfl) (.pointer (some ⟨r, 0, none⟩)) (fun _ => y_move (Eq.trans (by kernel_rfl) f_36)) ?_
      refine wk_pure (show opD nR10w11_16 1 = some (some 135, .nilCheck (.tmp 134), 0, none) from by kernel_rfl) (by kernel_rfl) (.pointer (some ⟨r, 0, none⟩)) (fun _ => x_nilCheck (by kernel_rfl)) ?_
      refine wk_pure (show opD nR10w11_16 2 = some (some 136, .fieldAddr 54 (.tmp 135) 6, 0, none) from by kernel_rfl) (by kernel_rfl) (.pointer (some ⟨r, 6, none⟩)) (fun _ => x_fieldAddr (b := r) (off := 0) (o := 6) (by kernel_rfl) (by kernel_rfl)) ?_
      have hb_92 : w_34.heap[r]? = some (.cells #[.int .i64 ((place : Nat) : Int), .int .i64 ((n : Nat) : Int), .slice la L.length lc, .slice (some ⟨ck, 0, none⟩) ((chk L.length n n).length) kc, .int .i64 ((round : Nat) : Int), .bool told, .bool false] 54 (0, 0)) := (hE_35.keep hb_28 (by simp only [List.mem_cons, List.not_mem_nil, or_false]; omega))
      refine wk_store (b := r) (off := 6) (cs' := #[.int .i64 ((place : Nat) : Int), .int .i64 ((n : Nat) : Int), .slice la L.length lc, .slice (some ⟨ck, 0, none⟩) ((chk L.length n n).length) kc, .int .i64 ((round : Nat) : Int), .bool told, .bool true]) (vs := #[.bool true]) (show opD nR10w11_16 3 = some (none, .store 4 (.tmp 136) (.const (.bool true)), 0, none) from by kernel_rfl) (by kernel_rfl) (by kernel_rfl) (by kernel_rfl) (by kernel_rfl) (by kernel_rfl) hb_92 (Nat.le_of_ble_eq_true rfl) (by kernel_rfl) (by kernel_rfl) (fun w_93 e_94 sz_95 hb_96 => ⟨?_, ?_⟩)
      · exact trivial
      refine wk_nil ?_
      refine thn_n ?_
      refine g_seq (x := nN10w11_49) (y := nN10w11_50) (by kernel_rfl) ?_
      refine g_region (ops := nR10w11_17) (id := 17) (by kernel_rfl) [(0, .pure), (1, .loud)] (by kernel_rfl) (by kernel_rfl) ?_
      refine wk_pure (show opD nR10w11_17 0 = some (some 137, .move (.tmp 0), 27, none) from by kernel_rfl) (by kernel_rfl) (.pointer (some ⟨r, 0, none⟩)) (fun _ => y_move (Eq.trans (by kernel_rfl) f_36)) ?_
      refine wk_call (show opD nR10w11_17 1 = some (some 138, .call ⟨.value (.func 22), #[.tmp 137], #[27]⟩, 0, none) from by kernel_rfl) (by kernel_rfl) 22 #[.pointer (some ⟨r, 0, none⟩)] (x_call Try.func22 (by kernel_rfl) (c := (Try.f22.body).getD .skip) (by kernel_rfl) (by kernel_rfl) (by kernel_rfl)) (next_c hb_96 (by omega) (fun w_97 e_98 sz_99 hb_100 => ⟨?_, ?_⟩))
      · exact trivial
      have hsz_101 : w_93.heap.size ≤ w_97.heap.size := e_98.size
      refine wk_nil ?_
      refine thn_n ?_
      refine g_seq (x := nN10w11_51) (y := nN10w11_52) (by kernel_rfl) ?_
      refine g_region (ops := nR10w11_18) (id := 18) (by kernel_rfl) [(0, .pure)] (by kernel_rfl) (by kernel_rfl) ?_
      refine wk_pure (show opD nR10w11_18 0 = some (some 4, .assign (.const (.int .i64 0)), 28, none) from by kernel_rfl) (by kernel_rfl) (.int .i64 0) (fun _ => y_assign (by kernel_rfl)) ?_
      refine wk_nil ?_
      refine thn_n ?_
      refine g_ret (by kernel_rfl) ?_
      refine ends1_r (v := .int .i64 0) rfl (by kernel_rfl) ?_
      have hb_102 : OwO w_97 33 2 la g lc encW (mixL L W (cFrom L.length n (sendsN ((place + n - 1) % n) n round)) (addsN n round) k) rest := (e_98.keepOwP (e_94.keepOwP hr_43 (hgr2.imp id (fun h_ => (by simp only [List.mem_cons, List.not_mem_nil, or_false]; omega)))) (hgr2.imp id (fun h_ => (by simp only [List.mem_cons, List.not_mem_nil, or_false]; omega))))
      have hb_103 : OwnE w_97 63 2 ck kc encP (chk L.length n n) crest := (e_98.keepOwn (e_94.keepOwn (hE_35.keepOwn hb_29 (by simp only [List.mem_cons, List.not_mem_nil, or_false]; omega)) (by simp only [List.mem_cons, List.not_mem_nil, or_false]; omega)) (by simp only [List.mem_cons, List.not_mem_nil, or_false]; omega))
      obtain rfl : k = W.length := by omega
      have hml := mixL_len L W (cFrom L.length n (sendsN ((place + n - 1) % n) n round)) (addsN n round) W.length
      exact hK _ (Ext.then (Ext.then (Ext.then (Ext.then (Ext.then (Ext.then (Ext.then (Ext.then (Ext.then (Ext.refl [r, g] _) e_3 (fun _ h_ => absurd h_ List.not_mem_nil)) (sm_8.ext []) (fun _ h_ => absurd h_ List.not_mem_nil)) (s_12.ext []) (fun _ h_ => absurd h_ List.not_mem_nil)) (sm_17.ext []) (fun _ h_ => absurd h_ List.not_mem_nil)) (sm_22.ext []) (fun _ h_ => absurd h_ List.not_mem_nil)) (sm_26.ext []) (fun _ h_ => absurd h_ List.not_mem_nil)) hE_35 (by intro x_ hx_ hl_; simp only [List.mem_cons, List.not_mem_nil, or_false] at hx_ ⊢; omega)) e_94 (by intro x_ hx_ hl_; simp only [List.mem_cons, List.not_mem_nil, or_false] at hx_ ⊢; omega)) e_98 (by intro x_ hx_ hl_; simp only [List.mem_cons, List.not_mem_nil, or_false] at hx_ ⊢; omega)) (ringAt_next (taken := true) (by rw [hml]; exact hb_100) hb_102 (by rw [hml]; exact hb_103) (by rw [hml]; exact hR.nr) hR.kr (by rw [hml]; exact hR.kg) hR.h1 hR.h2 hR.h3 (by rw [hml]; exact hR.h4) (by omega) (mixL_in hi hwi _) (by omega)) (by omega)

end Go.Proofs.Ytjdlgidacnphpaa
