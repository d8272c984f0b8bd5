/-
  A part of the proofs over the program's package ring: contracts of its functions, step by step.
-/
import Derived.Test.YtjdlgidacnphpaaRFam
import Derived.Test.YtjdlgidacnphpaaRH
import Derived.Test.YtjdlgidacnphpaaRSum
set_option linter.unusedSimpArgs false
set_option linter.unusedVariables false
namespace Go.Proofs.Ytjdlgidacnphpaa
open Go Go.Wk

theorem rep_zero (n i : Nat) : (List.replicate n (0 : Int)).getD i 0 = 0 := by
  simp only [List.getD_eq_getElem?_getD, List.getElem?_replicate]
  split <;> rfl

noncomputable def uN4w1_0 : Code := (Try.f4.body).getD .skip
noncomputable def uN4w1_1 : Code := s1 uN4w1_0
noncomputable def uN4w1_2 : Code := s2 uN4w1_0
noncomputable def uR4w1_0 : Array Oper := rops uN4w1_1
noncomputable def uN4w1_3 : Code := s1 uN4w1_2
noncomputable def uN4w1_4 : Code := s2 uN4w1_2
noncomputable def uN4w1_5 : Code := s1 uN4w1_3
noncomputable def uN4w1_6 : Code := s2 uN4w1_3
noncomputable def uR4w1_1 : Array Oper := rops uN4w1_5
noncomputable def uN4w1_7 : Code := s1 uN4w1_6
noncomputable def uN4w1_8 : Code := s2 uN4w1_6
noncomputable def uN4w1_9 : Code := s1 uN4w1_4
noncomputable def uN4w1_10 : Code := s2 uN4w1_4
noncomputable def uN4w1_11 : Code := s1 uN4w1_9
noncomputable def uN4w1_12 : Code := s2 uN4w1_9
noncomputable def uR4w1_3 : Array Oper := rops uN4w1_11
noncomputable def uN4w1_13 : Code := s1 uN4w1_12
noncomputable def uN4w1_14 : Code := s2 uN4w1_12
noncomputable def uN4w1_15 : Code := s1 uN4w1_13
noncomputable def uN4w1_16 : Code := s2 uN4w1_13
noncomputable def uR4w1_4 : Array Oper := rops uN4w1_15
noncomputable def uN4w1_17 : Code := s1 uN4w1_10
noncomputable def uN4w1_18 : Code := s2 uN4w1_10
noncomputable def uR4w1_5 : Array Oper := rops uN4w1_17
noncomputable def uN4w1_19 : Code := s1 uN4w1_18
noncomputable def uN4w1_20 : Code := s2 uN4w1_18
noncomputable def uN4w1_21 : Code := s1 uN4w1_19
noncomputable def uN4w1_22 : Code := s2 uN4w1_19
noncomputable def uR4w1_6 : Array Oper := rops uN4w1_21
noncomputable def uN4w1_23 : Code := s1 uN4w1_22
theorem ringRows_out {n who : Int} {row : List Int} {a : Option Addr} {c : Nat} {w : World} (hbad : ¬ (1 ≤ n ∧ n ≤ 8 ∧ 0 ≤ who ∧ who < n ∧ row.length ≤ 60)) {K : Value → World → Prop} (hK : ∀ w', Ext [] w w' → K (.bool true) w') : CallsV Try.prog 4 #[.int .i64 n, .int .i64 who, .slice a row.length c] w K := by
  refine callsV_of (c := uN4w1_0) Try.func4 (by kernel_rfl) (n := 160) (by kernel_rfl) ?_
  refine g_seq (x := uN4w1_1) (y := uN4w1_2) (by kernel_rfl) ?_
  refine g_region (ops := uR4w1_0) (id := 0) (by kernel_rfl) [(0, .pure)] (by kernel_rfl) (by kernel_rfl) ?_
  refine wk_pure (show opD uR4w1_0 0 = some (some 6, .assign (.const (.bool false)), 4, none) from by kernel_rfl) (by kernel_rfl) (.bool false) (fun _ => y_assign (by kernel_rfl)) ?_
  refine wk_nil ?_
  refine thn_n ?_
  refine g_seq (x := uN4w1_3) (y := uN4w1_4) (by kernel_rfl) ?_
  refine g_seq (x := uN4w1_5) (y := uN4w1_6) (by kernel_rfl) ?_
  refine g_region (ops := uR4w1_1) (id := 1) (by kernel_rfl) [(0, .loud), (1, .pure)] (by kernel_rfl) (by kernel_rfl) ?_
  refine wk_call (show opD uR4w1_1 0 = some (some 23, .call ⟨.value (.func 6), #[], #[]⟩, 4, none) from by kernel_rfl) (by kernel_rfl) 6 #[] (x_call Try.func6 (by kernel_rfl) (c := (Try.f6.body).getD .skip) (by kernel_rfl) (by kernel_rfl) (by kernel_rfl)) (awake_c (fun w_1 e_2 => ⟨?_, ?_⟩))
  · exact trivial
  have hsz_3 : w.heap.size ≤ w_1.heap.size := e_2.size
  refine wk_pure (show opD uR4w1_1 1 = some (some 24, .unOp .not 4 (.tmp 23), 4, none) from by kernel_rfl) (by kernel_rfl) (.bool false) (fun _ => y_not (p := true) (by kernel_rfl) rfl) ?_
  refine wk_nil ?_
  refine thn_n ?_
  refine g_cond_f (o := .tmp 24) (x := uN4w1_7) (y := uN4w1_8) (by kernel_rfl) (by kernel_rfl) ?_
  refine g_skip (by kernel_rfl) ?_
  refine thn_n ?_
  refine g_seq (x := uN4w1_9) (y := uN4w1_10) (by kernel_rfl) ?_
  refine g_seq (x := uN4w1_11) (y := uN4w1_12) (by kernel_rfl) ?_
  refine g_region (ops := uR4w1_3) (id := 3) (by kernel_rfl) [(0, .pure), (1, .pure), (2, .pure), (3, .pure), (4, .pure), (5, .pure), (6, .pure), (7, .pure), (8, .pure), (9, .pure), (10, .pure), (11, .pure), (12, .pure), (13, .pure), (14, .pure), (15, .pure), (16, .pure), (17, .pure), (18, .pure), (19, .pure)] (by kernel_rfl) (by kernel_rfl) ?_
  refine wk_pure (show opD uR4w1_3 0 = some (some 25, .move (.tmp 0), 3, none) from by kernel_rfl) (by kernel_rfl) (.int .i64 n) (fun _ => y_move (by kernel_rfl)) ?_
  by_cases h_4 : (n : Int) < 1
  · refine wk_pure (show opD uR4w1_3 1 = some (some 26, .binOp .lss 3 (.tmp 25) (.const (.int .i64 1)) 3, 4, none) from by kernel_rfl) (by kernel_rfl) (.bool true) (fun _ => y_lss (k := .i64) (a := n) (b := 1) (by kernel_rfl) (by kernel_rfl) (decide_eq_true h_4)) ?_
    refine wk_pure (show opD uR4w1_3 2 = some (some 27, .move (.tmp 26), 4, none) from by kernel_rfl) (by kernel_rfl) (.bool true) (fun _ => y_move (by kernel_rfl)) ?_
    refine wk_skip (show opD uR4w1_3 3 = some (some 28, .move (.tmp 0), 3, some (2, false)) from by kernel_rfl) (by kernel_rfl) ?_
    refine wk_skip (show opD uR4w1_3 4 = some (some 29, .binOp .gtr 3 (.tmp 28) (.const (.int .i64 8)) 3, 4, some (2, false)) from by kernel_rfl) (by kernel_rfl) ?_
    refine wk_pure (show opD uR4w1_3 5 = some (some 30, .pick (.tmp 27) (.const (.bool true)) (.tmp 29), 4, none) from by kernel_rfl) (by kernel_rfl) (.bool true) (fun _ => y_pick_t (by kernel_rfl) (by kernel_rfl)) ?_
    refine wk_pure (show opD uR4w1_3 6 = some (some 31, .move (.tmp 30), 4, none) from by kernel_rfl) (by kernel_rfl) (.bool true) (fun _ => y_move (by kernel_rfl)) ?_
    refine wk_skip (show opD uR4w1_3 7 = some (some 32, .move (.tmp 1), 3, some (6, false)) from by kernel_rfl) (by kernel_rfl) ?_
    refine wk_skip (show opD uR4w1_3 8 = some (some 33, .binOp .lss 3 (.tmp 32) (.const (.int .i64 0)) 3, 4, some (6, false)) from by kernel_rfl) (by kernel_rfl) ?_
    refine wk_pure (show opD uR4w1_3 9 = some (some 34, .pick (.tmp 31) (.const (.bool true)) (.tmp 33), 4, none) from by kernel_rfl) (by kernel_rfl) (.bool true) (fun _ => y_pick_t (by kernel_rfl) (by kernel_rfl)) ?_
    refine wk_pure (show opD uR4w1_3 10 = some (some 35, .move (.tmp 34), 4, none) from by kernel_rfl) (by kernel_rfl) (.bool true) (fun _ => y_move (by kernel_rfl)) ?_
    refine wk_skip (show opD uR4w1_3 11 = some (some 36, .move (.tmp 1), 3, some (10, false)) from by kernel_rfl) (by kernel_rfl) ?_
    refine wk_skip (show opD uR4w1_3 12 = some (some 37, .move (.tmp 0), 3, some (10, false)) from by kernel_rfl) (by kernel_rfl) ?_
    refine wk_skip (show opD uR4w1_3 13 = some (some 38, .binOp .geq 3 (.tmp 36) (.tmp 37) 3, 4, some (10, false)) from by kernel_rfl) (by kernel_rfl) ?_
    refine wk_pure (show opD uR4w1_3 14 = some (some 39, .pick (.tmp 35) (.const (.bool true)) (.tmp 38), 4, none) from by kernel_rfl) (by kernel_rfl) (.bool true) (fun _ => y_pick_t (by kernel_rfl) (by kernel_rfl)) ?_
    refine wk_pure (show opD uR4w1_3 15 = some (some 40, .move (.tmp 39), 4, none) from by kernel_rfl) (by kernel_rfl) (.bool true) (fun _ => y_move (by kernel_rfl)) ?_
    refine wk_skip (show opD uR4w1_3 16 = some (some 41, .move (.tmp 2), 25, some (15, false)) from by kernel_rfl) (by kernel_rfl) ?_
    refine wk_skip (show opD uR4w1_3 17 = some (some 42, .call ⟨.builtin .len, #[.tmp 41], #[25]⟩, 3, some (15, false)) from by kernel_rfl) (by kernel_rfl) ?_
    refine wk_skip (show opD uR4w1_3 18 = some (some 43, .binOp .gtr 3 (.tmp 42) (.const (.int .i64 60)) 3, 4, some (15, false)) from by kernel_rfl) (by kernel_rfl) ?_
    refine wk_pure (show opD uR4w1_3 19 = some (some 44, .pick (.tmp 40) (.const (.bool true)) (.tmp 43), 4, none) from by kernel_rfl) (by kernel_rfl) (.bool true) (fun _ => y_pick_t (by kernel_rfl) (by kernel_rfl)) ?_
    refine wk_nil ?_
    refine thn_n ?_
    refine g_cond_t (o := .tmp 44) (x := uN4w1_13) (y := uN4w1_14) (by kernel_rfl) (by kernel_rfl) ?_
    refine g_seq (x := uN4w1_15) (y := uN4w1_16) (by kernel_rfl) ?_
    refine g_region (ops := uR4w1_4) (id := 4) (by kernel_rfl) [(0, .pure)] (by kernel_rfl) (by kernel_rfl) ?_
    refine wk_pure (show opD uR4w1_4 0 = some (some 6, .assign (.const (.bool true)), 4, none) from by kernel_rfl) (by kernel_rfl) (.bool true) (fun _ => y_assign (by kernel_rfl)) ?_
    refine wk_nil ?_
    refine thn_n ?_
    refine g_ret (by kernel_rfl) ?_
    refine thn_r ?_
    refine ends1_r (v := .bool true) rfl (by kernel_rfl) ?_
    exact hK _ (Ext.then (Ext.refl [] _) e_2 (fun _ h_ => absurd h_ List.not_mem_nil))
  · refine wk_pure (show opD uR4w1_3 1 = some (some 26, .binOp .lss 3 (.tmp 25) (.const (.int .i64 1)) 3, 4, none) from by kernel_rfl) (by kernel_rfl) (.bool false) (fun _ => y_lss (k := .i64) (a := n) (b := 1) (by kernel_rfl) (by kernel_rfl) (decide_eq_false h_4)) ?_
    refine wk_pure (show opD uR4w1_3 2 = some (some 27, .move (.tmp 26), 4, none) from by kernel_rfl) (by kernel_rfl) (.bool false) (fun _ => y_move (by kernel_rfl)) ?_
    refine wk_pure (show opD uR4w1_3 3 = some (some 28, .move (.tmp 0), 3, some (2, false)) from by kernel_rfl) (by kernel_rfl) (.int .i64 n) (fun _ => y_move (by kernel_rfl)) ?_
    by_cases h_5 : (8 : Int) < n
    · refine wk_pure (show opD uR4w1_3 4 = some (some 29, .binOp .gtr 3 (.tmp 28) (.const (.int .i64 8)) 3, 4, some (2, false)) from by kernel_rfl) (by kernel_rfl) (.bool true) (fun _ => y_gtr (k := .i64) (a := n) (b := 8) (by kernel_rfl) (by kernel_rfl) (decide_eq_true h_5)) ?_
      refine wk_pure (show opD uR4w1_3 5 = some (some 30, .pick (.tmp 27) (.const (.bool true)) (.tmp 29), 4, none) from by kernel_rfl) (by kernel_rfl) (.bool true) (fun _ => y_pick_f (by kernel_rfl) (by kernel_rfl)) ?_
      refine wk_pure (show opD uR4w1_3 6 = some (some 31, .move (.tmp 30), 4, none) from by kernel_rfl) (by kernel_rfl) (.bool true) (fun _ => y_move (by kernel_rfl)) ?_
      refine wk_skip (show opD uR4w1_3 7 = some (some 32, .move (.tmp 1), 3, some (6, false)) from by kernel_rfl) (by kernel_rfl) ?_
      refine wk_skip (show opD uR4w1_3 8 = some (some 33, .binOp .lss 3 (.tmp 32) (.const (.int .i64 0)) 3, 4, some (6, false)) from by kernel_rfl) (by kernel_rfl) ?_
      refine wk_pure (show opD uR4w1_3 9 = some (some 34, .pick (.tmp 31) (.const (.bool true)) (.tmp 33), 4, none) from by kernel_rfl) (by kernel_rfl) (.bool true) (fun _ => y_pick_t (by kernel_rfl) (by kernel_rfl)) ?_
      refine wk_pure (show opD uR4w1_3 10 = some (some 35, .move (.tmp 34), 4, none) from by kernel_rfl) (by kernel_rfl) (.bool true) (fun _ => y_move (by kernel_rfl)) ?_
      refine wk_skip (show opD uR4w1_3 11 = some (some 36, .move (.tmp 1), 3, some (10, false)) from by kernel_rfl) (by kernel_rfl) ?_
      refine wk_skip (show opD uR4w1_3 12 = some (some 37, .move (.tmp 0), 3, some (10, false)) from by kernel_rfl) (by kernel_rfl) ?_
      refine wk_skip (show opD uR4w1_3 13 = some (some 38, .binOp .geq 3 (.tmp 36) (.tmp 37) 3, 4, some (10, false)) from by kernel_rfl) (by kernel_rfl) ?_
      refine wk_pure (show opD uR4w1_3 14 = some (some 39, .pick (.tmp 35) (.const (.bool true)) (.tmp 38), 4, none) from by kernel_rfl) (by kernel_rfl) (.bool true) (fun _ => y_pick_t (by kernel_rfl) (by kernel_rfl)) ?_
      refine wk_pure (show opD uR4w1_3 15 = some (some 40, .move (.tmp 39), 4, none) from by kernel_rfl) (by kernel_rfl) (.bool true) (fun _ => y_move (by kernel_rfl)) ?_
      refine wk_skip (show opD uR4w1_3 16 = some (some 41, .move (.tmp 2), 25, some (15, false)) from by kernel_rfl) (by kernel_rfl) ?_
      refine wk_skip (show opD uR4w1_3 17 = some (some 42, .call ⟨.builtin .len, #[.tmp 41], #[25]⟩, 3, some (15, false)) from by kernel_rfl) (by kernel_rfl) ?_
      refine wk_skip (show opD uR4w1_3 18 = some (some 43, .binOp .gtr 3 (.tmp 42) (.const (.int .i64 60)) 3, 4, some (15, false)) from by kernel_rfl) (by kernel_rfl) ?_
      refine wk_pure (show opD uR4w1_3 19 = some (some 44, .pick (.tmp 40) (.const (.bool true)) (.tmp 43), 4, none) from by kernel_rfl) (by kernel_rfl) (.bool true) (fun _ => y_pick_t (by kernel_rfl) (by kernel_rfl)) ?_
      refine wk_nil ?_
      refine thn_n ?_
      refine g_cond_t (o := .tmp 44) (x := uN4w1_13) (y := uN4w1_14) (by kernel_rfl) (by kernel_rfl) ?_
      refine g_seq (x := uN4w1_15) (y := uN4w1_16) (by kernel_rfl) ?_
      refine g_region (ops := uR4w1_4) (id := 4) (by kernel_rfl) [(0, .pure)] (by kernel_rfl) (by kernel_rfl) ?_
      refine wk_pure (show opD uR4w1_4 0 = some (some 6, .assign (.const (.bool true)), 4, none) from by kernel_rfl) (by kernel_rfl) (.bool true) (fun _ => y_assign (by kernel_rfl)) ?_
      refine wk_nil ?_
      refine thn_n ?_
      refine g_ret (by kernel_rfl) ?_
      refine thn_r ?_
      refine ends1_r (v := .bool true) rfl (by kernel_rfl) ?_
      exact hK _ (Ext.then (Ext.refl [] _) e_2 (fun _ h_ => absurd h_ List.not_mem_nil))
    · refine wk_pure (show opD uR4w1_3 4 = some (some 29, .binOp .gtr 3 (.tmp 28) (.const (.int .i64 8)) 3, 4, some (2, false)) from by kernel_rfl) (by kernel_rfl) (.bool false) (fun _ => y_gtr (k := .i64) (a := n) (b := 8) (by kernel_rfl) (by kernel_rfl) (decide_eq_false h_5)) ?_
      refine wk_pure (show opD uR4w1_3 5 = some (some 30, .pick (.tmp 27) (.const (.bool true)) (.tmp 29), 4, none) from by kernel_rfl) (by kernel_rfl) (.bool false) (fun _ => y_pick_f (by kernel_rfl) (by kernel_rfl)) ?_
      refine wk_pure (show opD uR4w1_3 6 = some (some 31, .move (.tmp 30), 4, none) from by kernel_rfl) (by kernel_rfl) (.bool false) (fun _ => y_move (by kernel_rfl)) ?_
      refine wk_pure (show opD uR4w1_3 7 = some (some 32, .move (.tmp 1), 3, some (6, false)) from by kernel_rfl) (by kernel_rfl) (.int .i64 who) (fun _ => y_move (by kernel_rfl)) ?_
      by_cases h_6 : (who : Int) < 0
      · refine wk_pure (show opD uR4w1_3 8 = some (some 33, .binOp .lss 3 (.tmp 32) (.const (.int .i64 0)) 3, 4, some (6, false)) from by kernel_rfl) (by kernel_rfl) (.bool true) (fun _ => y_lss (k := .i64) (a := who) (b := 0) (by kernel_rfl) (by kernel_rfl) (decide_eq_true h_6)) ?_
        refine wk_pure (show opD uR4w1_3 9 = some (some 34, .pick (.tmp 31) (.const (.bool true)) (.tmp 33), 4, none) from by kernel_rfl) (by kernel_rfl) (.bool true) (fun _ => y_pick_f (by kernel_rfl) (by kernel_rfl)) ?_
        refine wk_pure (show opD uR4w1_3 10 = some (some 35, .move (.tmp 34), 4, none) from by kernel_rfl) (by kernel_rfl) (.bool true) (fun _ => y_move (by kernel_rfl)) ?_
        refine wk_skip (show opD uR4w1_3 11 = some (some 36, .move (.tmp 1), 3, some (10, false)) from by kernel_rfl) (by kernel_rfl) ?_
        refine wk_skip (show opD uR4w1_3 12 = some (some 37, .move (.tmp 0), 3, some (10, false)) from by kernel_rfl) (by kernel_rfl) ?_
        refine wk_skip (show opD uR4w1_3 13 = some (some 38, .binOp .geq 3 (.tmp 36) (.tmp 37) 3, 4, some (10, false)) from by kernel_rfl) (by kernel_rfl) ?_
        refine wk_pure (show opD uR4w1_3 14 = some (some 39, .pick (.tmp 35) (.const (.bool true)) (.tmp 38), 4, none) from by kernel_rfl) (by kernel_rfl) (.bool true) (fun _ => y_pick_t (by kernel_rfl) (by kernel_rfl)) ?_
        refine wk_pure (show opD uR4w1_3 15 = some (some 40, .move (.tmp 39), 4, none) from by kernel_rfl) (by kernel_rfl) (.bool true) (fun _ => y_move (by kernel_rfl)) ?_
        refine wk_skip (show opD uR4w1_3 16 = some (some 41, .move (.tmp 2), 25, some (15, false)) from by kernel_rfl) (by kernel_rfl) ?_
        refine wk_skip (show opD uR4w1_3 17 = some (some 42, .call ⟨.builtin .len, #[.tmp 41], #[25]⟩, 3, some (15, false)) from by kernel_rfl) (by kernel_rfl) ?_
        refine wk_skip (show opD uR4w1_3 18 = some (some 43, .binOp .gtr 3 (.tmp 42) (.const (.int .i64 60)) 3, 4, some (15, false)) from by kernel_rfl) (by kernel_rfl) ?_
        refine wk_pure (show opD uR4w1_3 19 = some (some 44, .pick (.tmp 40) (.const (.bool true)) (.tmp 43), 4, none) from by kernel_rfl) (by kernel_rfl) (.bool true) (fun _ => y_pick_t (by kernel_rfl) (by kernel_rfl)) ?_
        refine wk_nil ?_
        refine thn_n ?_
        refine g_cond_t (o := .tmp 44) (x := uN4w1_13) (y := uN4w1_14) (by kernel_rfl) (by kernel_rfl) ?_
        refine g_seq (x := uN4w1_15) (y := uN4w1_16) (by kernel_rfl) ?_
        refine g_region (ops := uR4w1_4) (id := 4) (by kernel_rfl) [(0, .pure)] (by kernel_rfl) (by kernel_rfl) ?_
        refine wk_pure (show opD uR4w1_4 0 = some (some 6, .assign (.const (.bool true)), 4, none) from by kernel_rfl) (by kernel_rfl) (.bool true) (fun _ => y_assign (by kernel_rfl)) ?_
        refine wk_nil ?_
        refine thn_n ?_
        refine g_ret (by kernel_rfl) ?_
        refine thn_r ?_
        refine ends1_r (v := .bool true) rfl (by kernel_rfl) ?_
        exact hK _ (Ext.then (Ext.refl [] _) e_2 (fun _ h_ => absurd h_ List.not_mem_nil))
      · refine wk_pure (show opD uR4w1_3 8 = some (some 33, .binOp .lss 3 (.tmp 32) (.const (.int .i64 0)) 3, 4, some (6, false)) from by kernel_rfl) (by kernel_rfl) (.bool false) (fun _ => y_lss (k := .i64) (a := who) (b := 0) (by kernel_rfl) (by kernel_rfl) (decide_eq_false h_6)) ?_
        refine wk_pure (show opD uR4w1_3 9 = some (some 34, .pick (.tmp 31) (.const (.bool true)) (.tmp 33), 4, none) from by kernel_rfl) (by kernel_rfl) (.bool false) (fun _ => y_pick_f (by kernel_rfl) (by kernel_rfl)) ?_
        refine wk_pure (show opD uR4w1_3 10 = some (some 35, .move (.tmp 34), 4, none) from by kernel_rfl) (by kernel_rfl) (.bool false) (fun _ => y_move (by kernel_rfl)) ?_
        refine wk_pure (show opD uR4w1_3 11 = some (some 36, .move (.tmp 1), 3, some (10, false)) from by kernel_rfl) (by kernel_rfl) (.int .i64 who) (fun _ => y_move (by kernel_rfl)) ?_
        refine wk_pure (show opD uR4w1_3 12 = some (some 37, .move (.tmp 0), 3, some (10, false)) from by kernel_rfl) (by kernel_rfl) (.int .i64 n) (fun _ => y_move (by kernel_rfl)) ?_
        by_cases h_7 : (n : Int) ≤ who
        · refine wk_pure (show opD uR4w1_3 13 = some (some 38, .binOp .geq 3 (.tmp 36) (.tmp 37) 3, 4, some (10, false)) from by kernel_rfl) (by kernel_rfl) (.bool true) (fun _ => y_geq (k := .i64) (a := who) (b := n) (by kernel_rfl) (by kernel_rfl) (decide_eq_true h_7)) ?_
          refine wk_pure (show opD uR4w1_3 14 = some (some 39, .pick (.tmp 35) (.const (.bool true)) (.tmp 38), 4, none) from by kernel_rfl) (by kernel_rfl) (.bool true) (fun _ => y_pick_f (by kernel_rfl) (by kernel_rfl)) ?_
          refine wk_pure (show opD uR4w1_3 15 = some (some 40, .move (.tmp 39), 4, none) from by kernel_rfl) (by kernel_rfl) (.bool true) (fun _ => y_move (by kernel_rfl)) ?_
          refine wk_skip (show opD uR4w1_3 16 = some (some 41, .move (.tmp 2), 25, some (15, false)) from by kernel_rfl) (by kernel_rfl) ?_
          refine wk_skip (show opD uR4w1_3 17 = some (some 42, .call ⟨.builtin .len, #[.tmp 41], #[25]⟩, 3, some (15, false)) from by kernel_rfl) (by kernel_rfl) ?_
          refine wk_skip (show opD uR4w1_3 18 = some (some 43, .binOp .gtr 3 (.tmp 42) (.const (.int .i64 60)) 3, 4, some (15, false)) from by kernel_rfl) (by kernel_rfl) ?_
          refine wk_pure (show opD uR4w1_3 19 = some (some 44, .pick (.tmp 40) (.const (.bool true)) (.tmp 43), 4, none) from by kernel_rfl) (by kernel_rfl) (.bool true) (fun _ => y_pick_t (by kernel_rfl) (by kernel_rfl)) ?_
          refine wk_nil ?_
          refine thn_n ?_
          refine g_cond_t (o := .tmp 44) (x := uN4w1_13) (y := uN4w1_14) (by kernel_rfl) (by kernel_rfl) ?_
          refine g_seq (x := uN4w1_15) (y := uN4w1_16) (by kernel_rfl) ?_
          refine g_region (ops := uR4w1_4) (id := 4) (by kernel_rfl) [(0, .pure)] (by kernel_rfl) (by kernel_rfl) ?_
          refine wk_pure (show opD uR4w1_4 0 = some (some 6, .assign (.const (.bool true)), 4, none) from by kernel_rfl) (by kernel_rfl) (.bool true) (fun _ => y_assign (by kernel_rfl)) ?_
          refine wk_nil ?_
          refine thn_n ?_
          refine g_ret (by kernel_rfl) ?_
          refine thn_r ?_
          refine ends1_r (v := .bool true) rfl (by kernel_rfl) ?_
          exact hK _ (Ext.then (Ext.refl [] _) e_2 (fun _ h_ => absurd h_ List.not_mem_nil))
        · refine wk_pure (show opD uR4w1_3 13 = some (some 38, .binOp .geq 3 (.tmp 36) (.tmp 37) 3, 4, some (10, false)) from by kernel_rfl) (by kernel_rfl) (.bool false) (fun _ => y_geq (k := .i64) (a := who) (b := n) (by kernel_rfl) (by kernel_rfl) (decide_eq_false h_7)) ?_
          refine wk_pure (show opD uR4w1_3 14 = some (some 39, .pick (.tmp 35) (.const (.bool true)) (.tmp 38), 4, none) from by kernel_rfl) (by kernel_rfl) (.bool false) (fun _ => y_pick_f (by kernel_rfl) (by kernel_rfl)) ?_
          refine wk_pure (show opD uR4w1_3 15 = some (some 40, .move (.tmp 39), 4, none) from by kernel_rfl) (by kernel_rfl) (.bool false) (fun _ => y_move (by kernel_rfl)) ?_
          refine wk_pure (show opD uR4w1_3 16 = some (some 41, .move (.tmp 2), 25, some (15, false)) from by kernel_rfl) (by kernel_rfl) (.slice a row.length c) (fun _ => y_move (by kernel_rfl)) ?_
          refine wk_pure (show opD uR4w1_3 17 = some (some 42, .call ⟨.builtin .len, #[.tmp 41], #[25]⟩, 3, some (15, false)) from by kernel_rfl) (by kernel_rfl) (.int .i64 ((row.length : Nat) : Int)) (fun _ => x_len (a := a) (n := row.length) (c := c) (by kernel_rfl) (by kernel_rfl)) ?_
          by_cases h_8 : (60 : Int) < ((row.length : Nat) : Int)
          · refine wk_pure (show opD uR4w1_3 18 = some (some 43, .binOp .gtr 3 (.tmp 42) (.const (.int .i64 60)) 3, 4, some (15, false)) from by kernel_rfl) (by kernel_rfl) (.bool true) (fun _ => y_gtr (k := .i64) (a := ((row.length : Nat) : Int)) (b := 60) (by kernel_rfl) (by kernel_rfl) (decide_eq_true h_8)) ?_
            refine wk_pure (show opD uR4w1_3 19 = some (some 44, .pick (.tmp 40) (.const (.bool true)) (.tmp 43), 4, none) from by kernel_rfl) (by kernel_rfl) (.bool true) (fun _ => y_pick_f (by kernel_rfl) (by kernel_rfl)) ?_
            refine wk_nil ?_
            refine thn_n ?_
            refine g_cond_t (o := .tmp 44) (x := uN4w1_13) (y := uN4w1_14) (by kernel_rfl) (by kernel_rfl) ?_
            refine g_seq (x := uN4w1_15) (y := uN4w1_16) (by kernel_rfl) ?_
            refine g_region (ops := uR4w1_4) (id := 4) (by kernel_rfl) [(0, .pure)] (by kernel_rfl) (by kernel_rfl) ?_
            refine wk_pure (show opD uR4w1_4 0 = some (some 6, .assign (.const (.bool true)), 4, none) from by kernel_rfl) (by kernel_rfl) (.bool true) (fun _ => y_assign (by kernel_rfl)) ?_
            refine wk_nil ?_
            refine thn_n ?_
            refine g_ret (by kernel_rfl) ?_
            refine thn_r ?_
            refine ends1_r (v := .bool true) rfl (by kernel_rfl) ?_
            exact hK _ (Ext.then (Ext.refl [] _) e_2 (fun _ h_ => absurd h_ List.not_mem_nil))
          · refine wk_pure (show opD uR4w1_3 18 = some (some 43, .binOp .gtr 3 (.tmp 42) (.const (.int .i64 60)) 3, 4, some (15, false)) from by kernel_rfl) (by kernel_rfl) (.bool false) (fun _ => y_gtr (k := .i64) (a := ((row.length : Nat) : Int)) (b := 60) (by kernel_rfl) (by kernel_rfl) (decide_eq_false h_8)) ?_
            refine wk_pure (show opD uR4w1_3 19 = some (some 44, .pick (.tmp 40) (.const (.bool true)) (.tmp 43), 4, none) from by kernel_rfl) (by kernel_rfl) (.bool false) (fun _ => y_pick_f (by kernel_rfl) (by kernel_rfl)) ?_
            refine wk_nil ?_
            refine thn_n ?_
            refine g_cond_f (o := .tmp 44) (x := uN4w1_13) (y := uN4w1_14) (by kernel_rfl) (by kernel_rfl) ?_
            refine g_skip (by kernel_rfl) ?_
            refine thn_n ?_
            refine g_seq (x := uN4w1_17) (y := uN4w1_18) (by kernel_rfl) ?_
            refine g_region (ops := uR4w1_5) (id := 5) (by kernel_rfl) [(0, .pure)] (by kernel_rfl) (by kernel_rfl) ?_
            refine wk_pure (show opD uR4w1_5 0 = some (some 7, .assign (.const (.slice none 0 0)), 26, none) from by kernel_rfl) (by kernel_rfl) (.slice none 0 0) (fun _ => y_assign (by kernel_rfl)) ?_
            refine wk_nil ?_
            refine thn_n ?_
            refine g_seq (x := uN4w1_19) (y := uN4w1_20) (by kernel_rfl) ?_
            refine g_seq (x := uN4w1_21) (y := uN4w1_22) (by kernel_rfl) ?_
            refine g_region (ops := uR4w1_6) (id := 6) (by kernel_rfl) [(0, .pure)] (by kernel_rfl) (by kernel_rfl) ?_
            refine wk_pure (show opD uR4w1_6 0 = some (some 8, .assign (.const (.int .i64 0)), 3, none) from by kernel_rfl) (by kernel_rfl) (.int .i64 0) (fun _ => y_assign (by kernel_rfl)) ?_
            refine wk_nil ?_
            refine thn_n ?_
            refine g_block (x := uN4w1_23) (id := 0) (by kernel_rfl) ?_
            exfalso; omega

noncomputable def uN4w2_0 : Code := (Try.f4.body).getD .skip
noncomputable def uN4w2_1 : Code := s1 uN4w2_0
noncomputable def uN4w2_2 : Code := s2 uN4w2_0
noncomputable def uR4w2_0 : Array Oper := rops uN4w2_1
noncomputable def uN4w2_3 : Code := s1 uN4w2_2
noncomputable def uN4w2_4 : Code := s2 uN4w2_2
noncomputable def uN4w2_5 : Code := s1 uN4w2_3
noncomputable def uN4w2_6 : Code := s2 uN4w2_3
noncomputable def uR4w2_1 : Array Oper := rops uN4w2_5
noncomputable def uN4w2_7 : Code := s1 uN4w2_6
noncomputable def uN4w2_8 : Code := s2 uN4w2_6
noncomputable def uN4w2_9 : Code := s1 uN4w2_4
noncomputable def uN4w2_10 : Code := s2 uN4w2_4
noncomputable def uN4w2_11 : Code := s1 uN4w2_9
noncomputable def uN4w2_12 : Code := s2 uN4w2_9
noncomputable def uR4w2_3 : Array Oper := rops uN4w2_11
noncomputable def uN4w2_13 : Code := s1 uN4w2_12
noncomputable def uN4w2_14 : Code := s2 uN4w2_12
noncomputable def uN4w2_15 : Code := s1 uN4w2_10
noncomputable def uN4w2_16 : Code := s2 uN4w2_10
noncomputable def uR4w2_5 : Array Oper := rops uN4w2_15
noncomputable def uN4w2_17 : Code := s1 uN4w2_16
noncomputable def uN4w2_18 : Code := s2 uN4w2_16
noncomputable def uN4w2_19 : Code := s1 uN4w2_17
noncomputable def uN4w2_20 : Code := s2 uN4w2_17
noncomputable def uR4w2_6 : Array Oper := rops uN4w2_19
noncomputable def uN4w2_21 : Code := s1 uN4w2_20
noncomputable def uN4w2_22 : Code := s1 uN4w2_21
noncomputable def uN4w2_23 : Code := s1 uN4w2_22
noncomputable def uN4w2_24 : Code := s2 uN4w2_22
noncomputable def uN4w2_25 : Code := s1 uN4w2_23
noncomputable def uN4w2_26 : Code := s2 uN4w2_23
noncomputable def uR4w2_7 : Array Oper := rops uN4w2_25
noncomputable def uN4w2_27 : Code := s1 uN4w2_26
noncomputable def uN4w2_28 : Code := s2 uN4w2_26
noncomputable def uN4w2_29 : Code := s1 uN4w2_24
noncomputable def uN4w2_30 : Code := s2 uN4w2_24
noncomputable def uN4w2_31 : Code := s1 uN4w2_29
noncomputable def uN4w2_32 : Code := s1 uN4w2_31
noncomputable def uN4w2_33 : Code := s2 uN4w2_31
noncomputable def uR4w2_9 : Array Oper := rops uN4w2_32
noncomputable def uN4w2_34 : Code := s1 uN4w2_33
noncomputable def uN4w2_35 : Code := s2 uN4w2_33
noncomputable def uN4w2_36 : Code := s1 uN4w2_34
noncomputable def uN4w2_37 : Code := s2 uN4w2_34
noncomputable def uR4w2_10 : Array Oper := rops uN4w2_36
noncomputable def uN4w2_38 : Code := s1 uN4w2_37
noncomputable def uN4w2_39 : Code := s2 uN4w2_37
noncomputable def uR4w2_11 : Array Oper := rops uN4w2_38
noncomputable def uN4w2_40 : Code := s1 uN4w2_35
noncomputable def uN4w2_41 : Code := s2 uN4w2_35
noncomputable def uR4w2_12 : Array Oper := rops uN4w2_40
noncomputable def uN4w2_42 : Code := s1 uN4w2_41
noncomputable def uN4w2_43 : Code := s2 uN4w2_41
noncomputable def uN4w2_44 : Code := s1 uN4w2_42
noncomputable def uN4w2_45 : Code := s2 uN4w2_42
noncomputable def uR4w2_13 : Array Oper := rops uN4w2_44
noncomputable def uN4w2_46 : Code := s1 uN4w2_45
noncomputable def uN4w2_47 : Code := s2 uN4w2_45
noncomputable def uR4w2_15 : Array Oper := rops uN4w2_43
noncomputable def uR4w2_8 : Array Oper := rops uN4w2_30
noncomputable def uN4w2_48 : Code := s1 uN4w2_18
noncomputable def uN4w2_49 : Code := s2 uN4w2_18
noncomputable def uN4w2_50 : Code := s1 uN4w2_48
noncomputable def uN4w2_51 : Code := s2 uN4w2_48
noncomputable def uR4w2_16 : Array Oper := rops uN4w2_50
noncomputable def uN4w2_52 : Code := s1 uN4w2_51
noncomputable def uN4w2_53 : Code := s1 uN4w2_52
noncomputable def uN4w2_54 : Code := s1 uN4w2_53
noncomputable def uN4w2_55 : Code := s2 uN4w2_53
noncomputable def uN4w2_56 : Code := s1 uN4w2_54
noncomputable def uN4w2_57 : Code := s2 uN4w2_54
noncomputable def uR4w2_17 : Array Oper := rops uN4w2_56
noncomputable def uN4w2_58 : Code := s1 uN4w2_57
noncomputable def uN4w2_59 : Code := s2 uN4w2_57
noncomputable def uN4w2_60 : Code := s1 uN4w2_55
noncomputable def uN4w2_61 : Code := s2 uN4w2_55
noncomputable def uN4w2_62 : Code := s1 uN4w2_60
noncomputable def uN4w2_63 : Code := s1 uN4w2_62
noncomputable def uN4w2_64 : Code := s2 uN4w2_62
noncomputable def uR4w2_19 : Array Oper := rops uN4w2_63
noncomputable def uN4w2_65 : Code := s1 uN4w2_64
noncomputable def uN4w2_66 : Code := s2 uN4w2_64
noncomputable def uN4w2_67 : Code := s1 uN4w2_65
noncomputable def uN4w2_68 : Code := s2 uN4w2_65
noncomputable def uR4w2_20 : Array Oper := rops uN4w2_67
noncomputable def uN4w2_69 : Code := s1 uN4w2_68
noncomputable def uN4w2_70 : Code := s1 uN4w2_69
noncomputable def uN4w2_71 : Code := s1 uN4w2_70
noncomputable def uN4w2_72 : Code := s2 uN4w2_70
noncomputable def uN4w2_73 : Code := s1 uN4w2_71
noncomputable def uN4w2_74 : Code := s2 uN4w2_71
noncomputable def uR4w2_21 : Array Oper := rops uN4w2_73
noncomputable def uN4w2_75 : Code := s1 uN4w2_74
noncomputable def uN4w2_76 : Code := s2 uN4w2_74
noncomputable def uN4w2_77 : Code := s1 uN4w2_72
noncomputable def uN4w2_78 : Code := s2 uN4w2_72
noncomputable def uN4w2_79 : Code := s1 uN4w2_77
noncomputable def uN4w2_80 : Code := s1 uN4w2_79
noncomputable def uN4w2_81 : Code := s2 uN4w2_79
noncomputable def uR4w2_23 : Array Oper := rops uN4w2_80
noncomputable def uN4w2_82 : Code := s1 uN4w2_81
noncomputable def uN4w2_83 : Code := s2 uN4w2_81
noncomputable def uN4w2_84 : Code := s1 uN4w2_82
noncomputable def uN4w2_85 : Code := s2 uN4w2_82
noncomputable def uR4w2_24 : Array Oper := rops uN4w2_84
noncomputable def uN4w2_86 : Code := s1 uN4w2_85
noncomputable def uN4w2_87 : Code := s2 uN4w2_85
noncomputable def uR4w2_26 : Array Oper := rops uN4w2_83
noncomputable def uR4w2_22 : Array Oper := rops uN4w2_78
noncomputable def uN4w2_88 : Code := s1 uN4w2_66
noncomputable def uN4w2_89 : Code := s2 uN4w2_66
noncomputable def uR4w2_27 : Array Oper := rops uN4w2_88
noncomputable def uN4w2_90 : Code := s1 uN4w2_89
noncomputable def uN4w2_91 : Code := s1 uN4w2_90
noncomputable def uN4w2_92 : Code := s1 uN4w2_91
noncomputable def uN4w2_93 : Code := s2 uN4w2_91
noncomputable def uN4w2_94 : Code := s1 uN4w2_92
noncomputable def uN4w2_95 : Code := s2 uN4w2_92
noncomputable def uR4w2_28 : Array Oper := rops uN4w2_94
noncomputable def uN4w2_96 : Code := s1 uN4w2_95
noncomputable def uN4w2_97 : Code := s2 uN4w2_95
noncomputable def uN4w2_98 : Code := s1 uN4w2_93
noncomputable def uN4w2_99 : Code := s2 uN4w2_93
noncomputable def uN4w2_100 : Code := s1 uN4w2_98
noncomputable def uN4w2_101 : Code := s1 uN4w2_100
noncomputable def uN4w2_102 : Code := s2 uN4w2_100
noncomputable def uR4w2_30 : Array Oper := rops uN4w2_101
noncomputable def uN4w2_103 : Code := s1 uN4w2_102
noncomputable def uN4w2_104 : Code := s2 uN4w2_102
noncomputable def uR4w2_29 : Array Oper := rops uN4w2_99
noncomputable def uR4w2_18 : Array Oper := rops uN4w2_61
noncomputable def uN4w2_105 : Code := s1 uN4w2_49
noncomputable def uN4w2_106 : Code := s2 uN4w2_49
noncomputable def uN4w2_107 : Code := s1 uN4w2_105
noncomputable def uN4w2_108 : Code := s2 uN4w2_105
noncomputable def uR4w2_32 : Array Oper := rops uN4w2_107
noncomputable def uN4w2_109 : Code := s1 uN4w2_108
noncomputable def uN4w2_110 : Code := s1 uN4w2_109
noncomputable def uN4w2_111 : Code := s1 uN4w2_110
noncomputable def uN4w2_112 : Code := s2 uN4w2_110
noncomputable def uN4w2_113 : Code := s1 uN4w2_111
noncomputable def uN4w2_114 : Code := s2 uN4w2_111
noncomputable def uR4w2_33 : Array Oper := rops uN4w2_113
noncomputable def uN4w2_115 : Code := s1 uN4w2_114
noncomputable def uN4w2_116 : Code := s2 uN4w2_114
noncomputable def uN4w2_117 : Code := s1 uN4w2_112
noncomputable def uN4w2_118 : Code := s2 uN4w2_112
noncomputable def uN4w2_119 : Code := s1 uN4w2_117
noncomputable def uN4w2_120 : Code := s1 uN4w2_119
noncomputable def uN4w2_121 : Code := s2 uN4w2_119
noncomputable def uR4w2_35 : Array Oper := rops uN4w2_120
noncomputable def uN4w2_122 : Code := s1 uN4w2_121
noncomputable def uN4w2_123 : Code := s2 uN4w2_121
noncomputable def uR4w2_36 : Array Oper := rops uN4w2_122
noncomputable def uN4w2_124 : Code := s1 uN4w2_123
noncomputable def uN4w2_125 : Code := s2 uN4w2_123
noncomputable def uR4w2_37 : Array Oper := rops uN4w2_124
noncomputable def uN4w2_126 : Code := s1 uN4w2_125
noncomputable def uN4w2_127 : Code := s2 uN4w2_125
noncomputable def uR4w2_34 : Array Oper := rops uN4w2_118
noncomputable def uN4w2_128 : Code := s1 uN4w2_106
noncomputable def uN4w2_129 : Code := s2 uN4w2_106
noncomputable def uR4w2_39 : Array Oper := rops uN4w2_128
theorem ringRows_in {n who : Nat} {row : List Int} {a : Option Addr} {b0 off c : Nat} {w : World} (hs : SlE w 2 a b0 off encW row) (hb0 : row.length = 0 ∨ b0 < w.heap.size) (h1 : 1 ≤ n) (h2 : n ≤ 8) (h3 : who < n) (h4 : row.length ≤ 60) (hin : ∀ i, InW (row.getD i 0)) {K : Value → World → Prop} (hK : ∀ w', Ext [] w w' → K (.bool true) w') : CallsV Try.prog 4 #[.int .i64 ((n : Nat) : Int), .int .i64 ((who : Nat) : Int), .slice a row.length c] w K := by
  refine callsV_of (c := uN4w2_0) Try.func4 (by kernel_rfl) (n := 160) (by kernel_rfl) ?_
  refine g_seq (x := uN4w2_1) (y := uN4w2_2) (by kernel_rfl) ?_
  refine g_region (ops := uR4w2_0) (id := 0) (by kernel_rfl) [(0, .pure)] (by kernel_rfl) (by kernel_rfl) ?_
  refine wk_pure (show opD uR4w2_0 0 = some (some 6, .assign (.const (.bool false)), 4, none) from by kernel_rfl) (by kernel_rfl) (.bool false) (fun _ => y_assign (by kernel_rfl)) ?_
  refine wk_nil ?_
  refine thn_n ?_
  refine g_seq (x := uN4w2_3) (y := uN4w2_4) (by kernel_rfl) ?_
  refine g_seq (x := uN4w2_5) (y := uN4w2_6) (by kernel_rfl) ?_
  refine g_region (ops := uR4w2_1) (id := 1) (by kernel_rfl) [(0, .loud), (1, .pure)] (by kernel_rfl) (by kernel_rfl) ?_
  refine wk_call (show opD uR4w2_1 0 = some (some 23, .call ⟨.value (.func 6), #[], #[]⟩, 4, none) from by kernel_rfl) (by kernel_rfl) 6 #[] (x_call Try.func6 (by kernel_rfl) (c := (Try.f6.body).getD .skip) (by kernel_rfl) (by kernel_rfl) (by kernel_rfl)) (awake_c (fun w_1 e_2 => ⟨?_, ?_⟩))
  · exact trivial
  have hsz_3 : w.heap.size ≤ w_1.heap.size := e_2.size
  refine wk_pure (show opD uR4w2_1 1 = some (some 24, .unOp .not 4 (.tmp 23), 4, none) from by kernel_rfl) (by kernel_rfl) (.bool false) (fun _ => y_not (p := true) (by kernel_rfl) rfl) ?_
  refine wk_nil ?_
  refine thn_n ?_
  refine g_cond_f (o := .tmp 24) (x := uN4w2_7) (y := uN4w2_8) (by kernel_rfl) (by kernel_rfl) ?_
  refine g_skip (by kernel_rfl) ?_
  refine thn_n ?_
  refine g_seq (x := uN4w2_9) (y := uN4w2_10) (by kernel_rfl) ?_
  refine g_seq (x := uN4w2_11) (y := uN4w2_12) (by kernel_rfl) ?_
  refine g_region (ops := uR4w2_3) (id := 3) (by kernel_rfl) [(0, .pure), (1, .pure), (2, .pure), (3, .pure), (4, .pure), (5, .pure), (6, .pure), (7, .pure), (8, .pure), (9, .pure), (10, .pure), (11, .pure), (12, .pure), (13, .pure), (14, .pure), (15, .pure), (16, .pure), (17, .pure), (18, .pure), (19, .pure)] (by kernel_rfl) (by kernel_rfl) ?_
  refine wk_pure (show opD uR4w2_3 0 = some (some 25, .move (.tmp 0), 3, none) from by kernel_rfl) (by kernel_rfl) (.int .i64 ((n : Nat) : Int)) (fun _ => y_move (by kernel_rfl)) ?_
  refine wk_pure (show opD uR4w2_3 1 = some (some 26, .binOp .lss 3 (.tmp 25) (.const (.int .i64 1)) 3, 4, none) from by kernel_rfl) (by kernel_rfl) (.bool false) (fun _ => y_lss (k := .i64) (a := ((n : Nat) : Int)) (b := 1) (by kernel_rfl) (by kernel_rfl) (decide_eq_false (by omega))) ?_
  refine wk_pure (show opD uR4w2_3 2 = some (some 27, .move (.tmp 26), 4, none) from by kernel_rfl) (by kernel_rfl) (.bool false) (fun _ => y_move (by kernel_rfl)) ?_
  refine wk_pure (show opD uR4w2_3 3 = some (some 28, .move (.tmp 0), 3, some (2, false)) from by kernel_rfl) (by kernel_rfl) (.int .i64 ((n : Nat) : Int)) (fun _ => y_move (by kernel_rfl)) ?_
  refine wk_pure (show opD uR4w2_3 4 = some (some 29, .binOp .gtr 3 (.tmp 28) (.const (.int .i64 8)) 3, 4, some (2, false)) from by kernel_rfl) (by kernel_rfl) (.bool false) (fun _ => y_gtr (k := .i64) (a := ((n : Nat) : Int)) (b := 8) (by kernel_rfl) (by kernel_rfl) (decide_eq_false (by omega))) ?_
  refine wk_pure (show opD uR4w2_3 5 = some (some 30, .pick (.tmp 27) (.const (.bool true)) (.tmp 29), 4, none) from by kernel_rfl) (by kernel_rfl) (.bool false) (fun _ => y_pick_f (by kernel_rfl) (by kernel_rfl)) ?_
  refine wk_pure (show opD uR4w2_3 6 = some (some 31, .move (.tmp 30), 4, none) from by kernel_rfl) (by kernel_rfl) (.bool false) (fun _ => y_move (by kernel_rfl)) ?_
  refine wk_pure (show opD uR4w2_3 7 = some (some 32, .move (.tmp 1), 3, some (6, false)) from by kernel_rfl) (by kernel_rfl) (.int .i64 ((who : Nat) : Int)) (fun _ => y_move (by kernel_rfl)) ?_
  refine wk_pure (show opD uR4w2_3 8 = some (some 33, .binOp .lss 3 (.tmp 32) (.const (.int .i64 0)) 3, 4, some (6, false)) from by kernel_rfl) (by kernel_rfl) (.bool false) (fun _ => y_lss (k := .i64) (a := ((who : Nat) : Int)) (b := 0) (by kernel_rfl) (by kernel_rfl) (decide_eq_false (by omega))) ?_
  refine wk_pure (show opD uR4w2_3 9 = some (some 34, .pick (.tmp 31) (.const (.bool true)) (.tmp 33), 4, none) from by kernel_rfl) (by kernel_rfl) (.bool false) (fun _ => y_pick_f (by kernel_rfl) (by kernel_rfl)) ?_
  refine wk_pure (show opD uR4w2_3 10 = some (some 35, .move (.tmp 34), 4, none) from by kernel_rfl) (by kernel_rfl) (.bool false) (fun _ => y_move (by kernel_rfl)) ?_
  refine wk_pure (show opD uR4w2_3 11 = some (some 36, .move (.tmp 1), 3, some (10, false)) from by kernel_rfl) (by kernel_rfl) (.int .i64 ((who : Nat) : Int)) (fun _ => y_move (by kernel_rfl)) ?_
  refine wk_pure (show opD uR4w2_3 12 = some (some 37, .move (.tmp 0), 3, some (10, false)) from by kernel_rfl) (by kernel_rfl) (.int .i64 ((n : Nat) : Int)) (fun _ => y_move (by kernel_rfl)) ?_
  refine wk_pure (show opD uR4w2_3 13 = some (some 38, .binOp .geq 3 (.tmp 36) (.tmp 37) 3, 4, some (10, false)) from by kernel_rfl) (by kernel_rfl) (.bool false) (fun _ => y_geq (k := .i64) (a := ((who : Nat) : Int)) (b := ((n : Nat) : Int)) (by kernel_rfl) (by kernel_rfl) (decide_eq_false (by omega))) ?_
  refine wk_pure (show opD uR4w2_3 14 = some (some 39, .pick (.tmp 35) (.const (.bool true)) (.tmp 38), 4, none) from by kernel_rfl) (by kernel_rfl) (.bool false) (fun _ => y_pick_f (by kernel_rfl) (by kernel_rfl)) ?_
  refine wk_pure (show opD uR4w2_3 15 = some (some 40, .move (.tmp 39), 4, none) from by kernel_rfl) (by kernel_rfl) (.bool false) (fun _ => y_move (by kernel_rfl)) ?_
  refine wk_pure (show opD uR4w2_3 16 = some (some 41, .move (.tmp 2), 25, some (15, false)) from by kernel_rfl) (by kernel_rfl) (.slice a row.length c) (fun _ => y_move (by kernel_rfl)) ?_
  refine wk_pure (show opD uR4w2_3 17 = some (some 42, .call ⟨.builtin .len, #[.tmp 41], #[25]⟩, 3, some (15, false)) from by kernel_rfl) (by kernel_rfl) (.int .i64 ((row.length : Nat) : Int)) (fun _ => x_len (a := a) (n := row.length) (c := c) (by kernel_rfl) (by kernel_rfl)) ?_
  refine wk_pure (show opD uR4w2_3 18 = some (some 43, .binOp .gtr 3 (.tmp 42) (.const (.int .i64 60)) 3, 4, some (15, false)) from by kernel_rfl) (by kernel_rfl) (.bool false) (fun _ => y_gtr (k := .i64) (a := ((row.length : Nat) : Int)) (b := 60) (by kernel_rfl) (by kernel_rfl) (decide_eq_false (by omega))) ?_
  refine wk_pure (show opD uR4w2_3 19 = some (some 44, .pick (.tmp 40) (.const (.bool true)) (.tmp 43), 4, none) from by kernel_rfl) (by kernel_rfl) (.bool false) (fun _ => y_pick_f (by kernel_rfl) (by kernel_rfl)) ?_
  refine wk_nil ?_
  refine thn_n ?_
  refine g_cond_f (o := .tmp 44) (x := uN4w2_13) (y := uN4w2_14) (by kernel_rfl) (by kernel_rfl) ?_
  refine g_skip (by kernel_rfl) ?_
  refine thn_n ?_
  refine g_seq (x := uN4w2_15) (y := uN4w2_16) (by kernel_rfl) ?_
  refine g_region (ops := uR4w2_5) (id := 5) (by kernel_rfl) [(0, .pure)] (by kernel_rfl) (by kernel_rfl) ?_
  refine wk_pure (show opD uR4w2_5 0 = some (some 7, .assign (.const (.slice none 0 0)), 26, none) from by kernel_rfl) (by kernel_rfl) (.slice none 0 0) (fun _ => y_assign (by kernel_rfl)) ?_
  refine wk_nil ?_
  refine thn_n ?_
  refine g_seq (x := uN4w2_17) (y := uN4w2_18) (by kernel_rfl) ?_
  refine g_seq (x := uN4w2_19) (y := uN4w2_20) (by kernel_rfl) ?_
  refine g_region (ops := uR4w2_6) (id := 6) (by kernel_rfl) [(0, .pure)] (by kernel_rfl) (by kernel_rfl) ?_
  refine wk_pure (show opD uR4w2_6 0 = some (some 8, .assign (.const (.int .i64 0)), 3, none) from by kernel_rfl) (by kernel_rfl) (.int .i64 0) (fun _ => y_assign (by kernel_rfl)) ?_
  refine wk_nil ?_
  refine thn_n ?_
  refine g_block (x := uN4w2_21) (id := 0) (by kernel_rfl) ?_
  refine g_loop (x := uN4w2_22) (by kernel_rfl) (fun m_ ρ_ w_ => ∃ (k : Nat) (ms : List RM) (ra : Option Addr) (gr : Nat) (rc : Nat) (rrest : List Value), m_ = n - k ∧ (k ≤ n) ∧ (ms.length = k) ∧ ρ_ 0 = .int .i64 ((n : Nat) : Int) ∧ ρ_ 1 = .int .i64 ((who : Nat) : Int) ∧ ρ_ 2 = .slice a row.length c ∧ ρ_ 8 = .int .i64 ((k : Nat) : Int) ∧ ρ_ 7 = .slice ra ms.length rc ∧ OwN w_ 27 1 ra gr rc encR ms rrest ∧ Rings (ownR row who) row.length n w_ w.heap.size ms (fun _ => 0) (fun _ => 0) ∧ (ra = none ∨ (w.heap.size ≤ gr ∧ gr < w_.heap.size ∧ Apart ms gr)) ∧ Ext [] w w_) (n - 0) ?_ ?_
  · exact ⟨0, [], none, 0, 0, [], rfl, by omega, by rfl, (by kernel_rfl), (by kernel_rfl), (by kernel_rfl), (by kernel_rfl), (by kernel_rfl), OwN.nil _ _ _ _ _ _, Rings.nil, (.inl rfl), (Ext.then (Ext.refl [] _) e_2 (fun _ h_ => absurd h_ List.not_mem_nil))⟩
  · intro m_4 ρ_5 w_6 hI
    obtain ⟨k, ms, ra, gr, rc, rrest, hm_m_4, hk, hms, f_8, f_9, f_10, f_11, f_12, hr_13, hr_14, hg, hE_7⟩ := hI
    have hs_w_6 := hE_7.size
    refine g_seq (x := uN4w2_23) (y := uN4w2_24) (by kernel_rfl) ?_
    refine g_seq (x := uN4w2_25) (y := uN4w2_26) (by kernel_rfl) ?_
    refine g_region (ops := uR4w2_7) (id := 7) (by kernel_rfl) [(0, .pure), (1, .pure), (2, .pure)] (by kernel_rfl) (by kernel_rfl) ?_
    refine wk_pure (show opD uR4w2_7 0 = some (some 45, .move (.tmp 8), 3, none) from by kernel_rfl) (by kernel_rfl) (.int .i64 ((k : Nat) : Int)) (fun _ => y_move (Eq.trans (by kernel_rfl) f_11)) ?_
    refine wk_pure (show opD uR4w2_7 1 = some (some 46, .move (.tmp 0), 3, none) from by kernel_rfl) (by kernel_rfl) (.int .i64 ((n : Nat) : Int)) (fun _ => y_move (Eq.trans (by kernel_rfl) f_8)) ?_
    by_cases h_15 : (((k : Nat) : Int) : Int) < ((n : Nat) : Int)
    · refine wk_pure (show opD uR4w2_7 2 = some (some 47, .binOp .lss 3 (.tmp 45) (.tmp 46) 3, 4, none) from by kernel_rfl) (by kernel_rfl) (.bool true) (fun _ => y_lss (k := .i64) (a := ((k : Nat) : Int)) (b := ((n : Nat) : Int)) (by kernel_rfl) (by kernel_rfl) (decide_eq_true h_15)) ?_
      refine wk_nil ?_
      refine thn_n ?_
      refine g_cond_t (o := .tmp 47) (x := uN4w2_27) (y := uN4w2_28) (by kernel_rfl) (by kernel_rfl) ?_
      refine g_skip (by kernel_rfl) ?_
      refine thn_n ?_
      refine g_seq (x := uN4w2_29) (y := uN4w2_30) (by kernel_rfl) ?_
      refine g_block (x := uN4w2_31) (id := 1) (by kernel_rfl) ?_
      refine g_seq (x := uN4w2_32) (y := uN4w2_33) (by kernel_rfl) ?_
      refine g_region (ops := uR4w2_9) (id := 9) (by kernel_rfl) [(0, .pure), (1, .pure), (2, .loud), (3, .pure)] (by kernel_rfl) (by kernel_rfl) ?_
      refine wk_pure (show opD uR4w2_9 0 = some (some 50, .move (.tmp 2), 25, none) from by kernel_rfl) (by kernel_rfl) (.slice a row.length c) (fun _ => y_move (Eq.trans (by kernel_rfl) f_10)) ?_
      refine wk_pure (show opD uR4w2_9 1 = some (some 51, .call ⟨.builtin .len, #[.tmp 50], #[25]⟩, 3, none) from by kernel_rfl) (by kernel_rfl) (.int .i64 ((row.length : Nat) : Int)) (fun _ => x_len (a := a) (n := row.length) (c := c) (by kernel_rfl) (by kernel_rfl)) ?_
      refine wk_makeR (enc := encW) (n := row.length) (a := ((row.length : Nat) : Int)) (b := ((row.length : Nat) : Int)) (k := .i64) (q := .i64) (e := 33) (sz := 2) (by_ := 16) (0 : Int) (show opD uR4w2_9 2 = some (some 52, .makeSlice 25 (.tmp 51) (.tmp 51), 25, none) from by kernel_rfl) (by kernel_rfl) (by kernel_rfl) (by kernel_rfl) (by kernel_rfl) (by omega) (by omega) (by first | (constructor <;> omega) | (simp only [List.length_singleton]; constructor <;> omega)) encW_len (by kernel_rfl) (fun w_16 b_17 eq_18 e_19 sz_20 ho_21 => ⟨?_, ?_⟩)
      · exact trivial
      refine wk_pure (show opD uR4w2_9 3 = some (some 9, .assign (.tmp 52), 25, none) from by kernel_rfl) (by kernel_rfl) (.slice (some ⟨b_17, 0, none⟩) ((List.replicate row.length (0 : Int)).length) row.length) (fun _ => y_assign (by kernel_rfl)) ?_
      refine wk_nil ?_
      refine thn_n ?_
      refine g_seq (x := uN4w2_34) (y := uN4w2_35) (by kernel_rfl) ?_
      refine g_seq (x := uN4w2_36) (y := uN4w2_37) (by kernel_rfl) ?_
      refine g_region (ops := uR4w2_10) (id := 10) (by kernel_rfl) [(0, .pure), (1, .pure), (2, .pure)] (by kernel_rfl) (by kernel_rfl) ?_
      refine wk_pure (show opD uR4w2_10 0 = some (some 53, .move (.tmp 8), 3, none) from by kernel_rfl) (by kernel_rfl) (.int .i64 ((k : Nat) : Int)) (fun _ => y_move (Eq.trans (by kernel_rfl) f_11)) ?_
      refine wk_pure (show opD uR4w2_10 1 = some (some 54, .move (.tmp 1), 3, none) from by kernel_rfl) (by kernel_rfl) (.int .i64 ((who : Nat) : Int)) (fun _ => y_move (Eq.trans (by kernel_rfl) f_9)) ?_
      by_cases h_22 : (((k : Nat) : Int) : Int) = ((who : Nat) : Int)
      · refine wk_pure (show opD uR4w2_10 2 = some (some 55, .binOp .eql 3 (.tmp 53) (.tmp 54) 3, 4, none) from by kernel_rfl) (by kernel_rfl) (.bool true) (fun _ => y_eql (k := .i64) (a := ((k : Nat) : Int)) (b := ((who : Nat) : Int)) (by kernel_rfl) (by kernel_rfl) (decide_eq_true h_22)) ?_
        refine wk_nil ?_
        refine thn_n ?_
        refine g_cond_t (o := .tmp 55) (x := uN4w2_38) (y := uN4w2_39) (by kernel_rfl) (by kernel_rfl) ?_
        refine g_region (ops := uR4w2_11) (id := 11) (by kernel_rfl) [(0, .pure), (1, .pure)] (by kernel_rfl) (by kernel_rfl) ?_
        refine wk_pure (show opD uR4w2_11 0 = some (some 56, .move (.tmp 2), 25, none) from by kernel_rfl) (by kernel_rfl) (.slice a row.length c) (fun _ => y_move (Eq.trans (by kernel_rfl) f_10)) ?_
        refine wk_pure (show opD uR4w2_11 1 = some (some 9, .assign (.tmp 56), 25, none) from by kernel_rfl) (by kernel_rfl) (.slice a row.length c) (fun _ => y_assign (by kernel_rfl)) ?_
        refine wk_nil ?_
        refine thn_n ?_
        refine g_seq (x := uN4w2_40) (y := uN4w2_41) (by kernel_rfl) ?_
        refine g_region (ops := uR4w2_12) (id := 12) (by kernel_rfl) [(0, .pure), (1, .pure), (2, .pure), (3, .loud), (4, .pure), (5, .pure), (6, .pure), (7, .pure), (8, .pure)] (by kernel_rfl) (by kernel_rfl) ?_
        refine wk_pure (show opD uR4w2_12 0 = some (some 58, .move (.tmp 8), 3, none) from by kernel_rfl) (by kernel_rfl) (.int .i64 ((k : Nat) : Int)) (fun _ => y_move (Eq.trans (by kernel_rfl) f_11)) ?_
        refine wk_pure (show opD uR4w2_12 1 = some (some 59, .move (.tmp 0), 3, none) from by kernel_rfl) (by kernel_rfl) (.int .i64 ((n : Nat) : Int)) (fun _ => y_move (Eq.trans (by kernel_rfl) f_8)) ?_
        refine wk_pure (show opD uR4w2_12 2 = some (some 60, .move (.tmp 9), 25, none) from by kernel_rfl) (by kernel_rfl) (.slice a row.length c) (fun _ => y_move (by kernel_rfl)) ?_
        have hb_23 : SlE w_16 2 a b0 off encW row := (e_19.keepSlP (hE_7.keepSlP hs (hb0.imp id (fun h_ => List.not_mem_nil))) (hb0.imp id (fun h_ => List.not_mem_nil)))
        have hb_24 : Rings (ownR row who) row.length n w_16 w.heap.size ms (fun _ => 0) (fun _ => 0) := (Rings.keep hr_14 e_19 (fun x_ hx_ => absurd hx_ List.not_mem_nil))
        have hb_25 : OwN w_16 27 1 ra gr rc encR ms rrest := (e_19.keepOwN hr_13 (hg.imp id (fun h_ => List.not_mem_nil)))
        refine wk_call (show opD uR4w2_12 3 = some (some 61, .call ⟨.value (.func 7), #[.tmp 58, .tmp 59, .tmp 60], #[3, 3, 25]⟩, 29, none) from by kernel_rfl) (by kernel_rfl) 7 #[.int .i64 ((k : Nat) : Int), .int .i64 ((n : Nat) : Int), .slice a row.length c] (x_call Try.func7 (by kernel_rfl) (c := (Try.f7.body).getD .skip) (by kernel_rfl) (by kernel_rfl) (by kernel_rfl)) (new_s (own := (ownR row who)) (len := row.length) (p := k) (n := n) (L := row) hb_23 (by first | omega | (simp only [List.length_replicate]; omega)) (by omega) (by omega) (by omega) (hin) (by intro i_ _; unfold ownR; rw [if_pos (by omega)]) (by first | rfl | simp only [List.length_replicate]) (fun w_26 m_27 e_28 hS_29 lr_30 lg_31 lk_32 => ⟨?_, ?_⟩))
        · exact trivial
        have hsz_33 : w_16.heap.size ≤ w_26.heap.size := e_28.size
        have hRS_34 : Rings (ownR row who) row.length n w_26 w.heap.size (ms ++ [m_27]) (fun _ => 0) (fun _ => 0) := Rings.add hb_24 e_28 (by omega) lr_30 lg_31 lk_32 (by rw [hms]; exact hS_29)
        have hg_35 : ra = none ∨ (w.heap.size ≤ gr ∧ gr < w_26.heap.size ∧ Apart (ms ++ [m_27]) gr) := by have hlt_ := OwN.lt hb_25; exact hg.elim .inl (fun h_ => hlt_.elim .inl (fun hl_ => .inr ⟨h_.1, by omega, Apart.add h_.2.2 (by omega)⟩))
        refine wk_pure (show opD uR4w2_12 4 = some (some 57, .move (.tmp 61), 29, none) from by kernel_rfl) (by kernel_rfl) (.tuple #[.pointer (some ⟨m_27.r, 0, none⟩), .int .i64 0]) (fun _ => y_move (by kernel_rfl)) ?_
        refine wk_pure (show opD uR4w2_12 5 = some (some 62, .extract (.tmp 57) 0, 27, none) from by kernel_rfl) (by kernel_rfl) (.pointer (some ⟨m_27.r, 0, none⟩)) (fun _ => x_extract (vs := #[.pointer (some ⟨m_27.r, 0, none⟩), .int .i64 0]) (by kernel_rfl) (by kernel_rfl)) ?_
        refine wk_pure (show opD uR4w2_12 6 = some (some 63, .extract (.tmp 57) 1, 28, none) from by kernel_rfl) (by kernel_rfl) (.int .i64 0) (fun _ => x_extract (vs := #[.pointer (some ⟨m_27.r, 0, none⟩), .int .i64 0]) (by kernel_rfl) (by kernel_rfl)) ?_
        refine wk_pure (show opD uR4w2_12 7 = some (some 10, .assign (.tmp 62), 27, none) from by kernel_rfl) (by kernel_rfl) (.pointer (some ⟨m_27.r, 0, none⟩)) (fun _ => y_assign (by kernel_rfl)) ?_
        refine wk_pure (show opD uR4w2_12 8 = some (some 11, .assign (.tmp 63), 28, none) from by kernel_rfl) (by kernel_rfl) (.int .i64 0) (fun _ => y_assign (by kernel_rfl)) ?_
        refine wk_nil ?_
        refine thn_n ?_
        refine g_seq (x := uN4w2_42) (y := uN4w2_43) (by kernel_rfl) ?_
        refine g_seq (x := uN4w2_44) (y := uN4w2_45) (by kernel_rfl) ?_
        refine g_region (ops := uR4w2_13) (id := 13) (by kernel_rfl) [(0, .pure), (1, .pure)] (by kernel_rfl) (by kernel_rfl) ?_
        refine wk_pure (show opD uR4w2_13 0 = some (some 64, .move (.tmp 11), 28, none) from by kernel_rfl) (by kernel_rfl) (.int .i64 0) (fun _ => y_move (by kernel_rfl)) ?_
        refine wk_pure (show opD uR4w2_13 1 = some (some 65, .binOp .neq 28 (.tmp 64) (.const (.int .i64 0)) 28, 4, none) from by kernel_rfl) (by kernel_rfl) (.bool false) (fun _ => y_neq (k := .i64) (a := 0) (b := 0) (by kernel_rfl) (by kernel_rfl) (by decide)) ?_
        refine wk_nil ?_
        refine thn_n ?_
        refine g_cond_f (o := .tmp 65) (x := uN4w2_46) (y := uN4w2_47) (by kernel_rfl) (by kernel_rfl) ?_
        refine g_skip (by kernel_rfl) ?_
        refine thn_n ?_
        refine g_region (ops := uR4w2_15) (id := 15) (by kernel_rfl) [(0, .pure), (1, .pure), (2, .loud), (3, .loud), (4, .pure)] (by kernel_rfl) (by kernel_rfl) ?_
        refine wk_pure (show opD uR4w2_15 0 = some (some 66, .move (.tmp 7), 26, none) from by kernel_rfl) (by kernel_rfl) (.slice ra ms.length rc) (fun _ => y_move (Eq.trans (by kernel_rfl) f_12)) ?_
        refine wk_pure (show opD uR4w2_15 1 = some (some 67, .move (.tmp 10), 27, none) from by kernel_rfl) (by kernel_rfl) (.pointer (some ⟨m_27.r, 0, none⟩)) (fun _ => y_move (by kernel_rfl)) ?_
        refine wk_buildSlice (e := 27) (cs := #[.pointer (some ⟨m_27.r, 0, none⟩)]) (show opD uR4w2_15 2 = some (some 68, .buildSlice 26 1 #[(0, .tmp 67)], 26, none) from by kernel_rfl) (by kernel_rfl) (by kernel_rfl) (fun w_36 b_37 eq_38 e_39 sz_40 hb_41 => ⟨?_, ?_⟩)
        · exact trivial
        have ap_42 : Apart (ms ++ [m_27]) b_37 := Rings.apart_new hRS_34 (by omega)
        have hb_43 : Rings (ownR row who) row.length n w_36 w.heap.size (ms ++ [m_27]) (fun _ => 0) (fun _ => 0) := (Rings.keep hRS_34 e_39 (fun x_ hx_ => absurd hx_ List.not_mem_nil))
        have hs_44 : SlE w_36 1 (some ⟨b_37, 0, none⟩) b_37 0 encR [m_27] := SlE.of_cells hb_41 encR_len (by rfl)
        have hb_54 : OwN w_36 27 1 ra gr rc encR ms rrest := (e_39.keepOwN (e_28.keepOwN hb_25 (hg_35.imp id (fun h_ => List.not_mem_nil))) (hg_35.imp id (fun h_ => List.not_mem_nil)))
        refine wk_append (M := ([m_27])) (L := ms) (a := ra) (g := gr) (c := rc) (ax := (some ⟨b_37, 0, none⟩)) (bx := b_37) (offx := 0) (cx := 1) (e := 27) (sz := 1) (by_ := 8) (show opD uR4w2_15 3 = some (some 69, .call ⟨.builtin .append, #[.tmp 66, .tmp 68], #[26, 26]⟩, 26, none) from by kernel_rfl) (by kernel_rfl) (by kernel_rfl) (by kernel_rfl) encR_len (by kernel_rfl) hb_54 (by kernel_rfl) hs_44 (by simp) encR_one (by first | (constructor <;> omega) | (simp only [List.length_singleton]; constructor <;> omega)) (fun w_45 b_46 cap_47 rest_48 hb_49 e_50 sz_51 lt_52 ho_53 => ⟨?_, ?_⟩)
        · exact trivial
        have hsz_55 : w_36.heap.size ≤ w_45.heap.size := e_50.size
        refine wk_pure (show opD uR4w2_15 4 = some (some 7, .assign (.tmp 69), 26, none) from by kernel_rfl) (by kernel_rfl) (.slice (some ⟨b_46, 0, none⟩) ((ms ++ ([m_27])).length) cap_47) (fun _ => y_assign (by kernel_rfl)) ?_
        refine wk_nil ?_
        refine blk_n ?_
        refine thn_n ?_
        refine g_region (ops := uR4w2_8) (id := 8) (by kernel_rfl) [(0, .pure), (1, .pure), (2, .pure)] (by kernel_rfl) (by kernel_rfl) ?_
        refine wk_pure (show opD uR4w2_8 0 = some (some 48, .move (.tmp 8), 3, none) from by kernel_rfl) (by kernel_rfl) (.int .i64 ((k : Nat) : Int)) (fun _ => y_move (Eq.trans (by kernel_rfl) f_11)) ?_
        refine wk_pure (show opD uR4w2_8 1 = some (some 49, .binOp .add 3 (.tmp 48) (.const (.int .i64 1)) 3, 3, none) from by kernel_rfl) (by kernel_rfl) (.int .i64 ((k + 1 : Nat) : Int)) (fun _ => y_add (k := .i64) (a := ((k : Nat) : Int)) (b := 1) (by kernel_rfl) (by kernel_rfl) (i64_to (by omega) (by omega))) ?_
        refine wk_pure (show opD uR4w2_8 2 = some (some 8, .assign (.tmp 49), 3, none) from by kernel_rfl) (by kernel_rfl) (.int .i64 ((k + 1 : Nat) : Int)) (fun _ => y_assign (by kernel_rfl)) ?_
        refine wk_nil ?_
        refine thn_n ?_
        have hb_56 : Rings (ownR row who) row.length n w_45 w.heap.size (ms ++ [m_27]) (fun _ => 0) (fun _ => 0) := (Rings.keep hb_43 e_50 (OwN.all hb_54 (hg_35.imp id (fun h_ => h_.2.2))))
        exact ⟨_, (by omega), ⟨(k + 1), (ms ++ [m_27]), _, b_46, cap_47, rest_48, rfl, by omega, by rw [List.length_append, List.length_singleton]; omega, (Eq.trans (by kernel_rfl) f_8), (Eq.trans (by kernel_rfl) f_9), (Eq.trans (by kernel_rfl) f_10), (by kernel_rfl), (by kernel_rfl), (.inr ⟨rfl, ho_53⟩), hb_56, (.inr (by rcases hb_49 with ⟨_, h_⟩ | ⟨h0_, h_ | h_⟩; {exact ⟨by omega, by omega, Rings.apart_new hb_43 (by omega)⟩}; {have := hg_35.resolve_left h0_; rw [h_]; exact ⟨this.1, by omega, this.2.2⟩}; {exact ⟨by omega, by omega, Rings.apart_new hb_43 (by omega)⟩})), (Ext.then (Ext.then (Ext.then (Ext.then (Ext.then (Ext.refl [] _) hE_7 (fun _ h_ => absurd h_ List.not_mem_nil)) e_19 (fun _ h_ => absurd h_ List.not_mem_nil)) e_28 (fun _ h_ => absurd h_ List.not_mem_nil)) e_39 (fun _ h_ => absurd h_ List.not_mem_nil)) e_50 (ownL_new' hb_54 (hg_35.imp id (fun h_ => by omega))))⟩⟩
      · refine wk_pure (show opD uR4w2_10 2 = some (some 55, .binOp .eql 3 (.tmp 53) (.tmp 54) 3, 4, none) from by kernel_rfl) (by kernel_rfl) (.bool false) (fun _ => y_eql (k := .i64) (a := ((k : Nat) : Int)) (b := ((who : Nat) : Int)) (by kernel_rfl) (by kernel_rfl) (decide_eq_false h_22)) ?_
        refine wk_nil ?_
        refine thn_n ?_
        refine g_cond_f (o := .tmp 55) (x := uN4w2_38) (y := uN4w2_39) (by kernel_rfl) (by kernel_rfl) ?_
        refine g_skip (by kernel_rfl) ?_
        refine thn_n ?_
        refine g_seq (x := uN4w2_40) (y := uN4w2_41) (by kernel_rfl) ?_
        refine g_region (ops := uR4w2_12) (id := 12) (by kernel_rfl) [(0, .pure), (1, .pure), (2, .pure), (3, .loud), (4, .pure), (5, .pure), (6, .pure), (7, .pure), (8, .pure)] (by kernel_rfl) (by kernel_rfl) ?_
        refine wk_pure (show opD uR4w2_12 0 = some (some 58, .move (.tmp 8), 3, none) from by kernel_rfl) (by kernel_rfl) (.int .i64 ((k : Nat) : Int)) (fun _ => y_move (Eq.trans (by kernel_rfl) f_11)) ?_
        refine wk_pure (show opD uR4w2_12 1 = some (some 59, .move (.tmp 0), 3, none) from by kernel_rfl) (by kernel_rfl) (.int .i64 ((n : Nat) : Int)) (fun _ => y_move (Eq.trans (by kernel_rfl) f_8)) ?_
        refine wk_pure (show opD uR4w2_12 2 = some (some 60, .move (.tmp 9), 25, none) from by kernel_rfl) (by kernel_rfl) (.slice (some ⟨b_17, 0, none⟩) ((List.replicate row.length (0 : Int)).length) row.length) (fun _ => y_move (by kernel_rfl)) ?_
        have hb_57 : Rings (ownR row who) row.length n w_16 w.heap.size ms (fun _ => 0) (fun _ => 0) := (Rings.keep hr_14 e_19 (fun x_ hx_ => absurd hx_ List.not_mem_nil))
        have hb_58 : OwN w_16 27 1 ra gr rc encR ms rrest := (e_19.keepOwN hr_13 (hg.imp id (fun h_ => List.not_mem_nil)))
        refine wk_call (show opD uR4w2_12 3 = some (some 61, .call ⟨.value (.func 7), #[.tmp 58, .tmp 59, .tmp 60], #[3, 3, 25]⟩, 29, none) from by kernel_rfl) (by kernel_rfl) 7 #[.int .i64 ((k : Nat) : Int), .int .i64 ((n : Nat) : Int), .slice (some ⟨b_17, 0, none⟩) ((List.replicate row.length (0 : Int)).length) row.length] (x_call Try.func7 (by kernel_rfl) (c := (Try.f7.body).getD .skip) (by kernel_rfl) (by kernel_rfl) (by kernel_rfl)) (new_s (own := (ownR row who)) (len := row.length) (p := k) (n := n) (L := (List.replicate row.length (0 : Int))) ho_21.sl (by first | omega | (simp only [List.length_replicate]; omega)) (by omega) (by omega) (by omega) (inW_rep _) (by intro i_ _; unfold ownR; rw [if_neg (by omega), rep_zero]) (by first | rfl | simp only [List.length_replicate]) (fun w_59 m_60 e_61 hS_62 lr_63 lg_64 lk_65 => ⟨?_, ?_⟩))
        · exact trivial
        have hsz_66 : w_16.heap.size ≤ w_59.heap.size := e_61.size
        have hRS_67 : Rings (ownR row who) row.length n w_59 w.heap.size (ms ++ [m_60]) (fun _ => 0) (fun _ => 0) := Rings.add hb_57 e_61 (by omega) lr_63 lg_64 lk_65 (by rw [hms]; exact hS_62)
        have hg_68 : ra = none ∨ (w.heap.size ≤ gr ∧ gr < w_59.heap.size ∧ Apart (ms ++ [m_60]) gr) := by have hlt_ := OwN.lt hb_58; exact hg.elim .inl (fun h_ => hlt_.elim .inl (fun hl_ => .inr ⟨h_.1, by omega, Apart.add h_.2.2 (by omega)⟩))
        refine wk_pure (show opD uR4w2_12 4 = some (some 57, .move (.tmp 61), 29, none) from by kernel_rfl) (by kernel_rfl) (.tuple #[.pointer (some ⟨m_60.r, 0, none⟩), .int .i64 0]) (fun _ => y_move (by kernel_rfl)) ?_
        refine wk_pure (show opD uR4w2_12 5 = some (some 62, .extract (.tmp 57) 0, 27, none) from by kernel_rfl) (by kernel_rfl) (.pointer (some ⟨m_60.r, 0, none⟩)) (fun _ => x_extract (vs := #[.pointer (some ⟨m_60.r, 0, none⟩), .int .i64 0]) (by kernel_rfl) (by kernel_rfl)) ?_
        refine wk_pure (show opD uR4w2_12 6 = some (some 63, .extract (.tmp 57) 1, 28, none) from by kernel_rfl) (by kernel_rfl) (.int .i64 0) (fun _ => x_extract (vs := #[.pointer (some ⟨m_60.r, 0, none⟩), .int .i64 0]) (by kernel_rfl) (by kernel_rfl)) ?_
        refine wk_pure (show opD uR4w2_12 7 = some (some 10, .assign (.tmp 62), 27, none) from by kernel_rfl) (by kernel_rfl) (.pointer (some ⟨m_60.r, 0, none⟩)) (fun _ => y_assign (by kernel_rfl)) ?_
        refine wk_pure (show opD uR4w2_12 8 = some (some 11, .assign (.tmp 63), 28, none) from by kernel_rfl) (by kernel_rfl) (.int .i64 0) (fun _ => y_assign (by kernel_rfl)) ?_
        refine wk_nil ?_
        refine thn_n ?_
        refine g_seq (x := uN4w2_42) (y := uN4w2_43) (by kernel_rfl) ?_
        refine g_seq (x := uN4w2_44) (y := uN4w2_45) (by kernel_rfl) ?_
        refine g_region (ops := uR4w2_13) (id := 13) (by kernel_rfl) [(0, .pure), (1, .pure)] (by kernel_rfl) (by kernel_rfl) ?_
        refine wk_pure (show opD uR4w2_13 0 = some (some 64, .move (.tmp 11), 28, none) from by kernel_rfl) (by kernel_rfl) (.int .i64 0) (fun _ => y_move (by kernel_rfl)) ?_
        refine wk_pure (show opD uR4w2_13 1 = some (some 65, .binOp .neq 28 (.tmp 64) (.const (.int .i64 0)) 28, 4, none) from by kernel_rfl) (by kernel_rfl) (.bool false) (fun _ => y_neq (k := .i64) (a := 0) (b := 0) (by kernel_rfl) (by kernel_rfl) (by decide)) ?_
        refine wk_nil ?_
        refine thn_n ?_
        refine g_cond_f (o := .tmp 65) (x := uN4w2_46) (y := uN4w2_47) (by kernel_rfl) (by kernel_rfl) ?_
        refine g_skip (by kernel_rfl) ?_
        refine thn_n ?_
        refine g_region (ops := uR4w2_15) (id := 15) (by kernel_rfl) [(0, .pure), (1, .pure), (2, .loud), (3, .loud), (4, .pure)] (by kernel_rfl) (by kernel_rfl) ?_
        refine wk_pure (show opD uR4w2_15 0 = some (some 66, .move (.tmp 7), 26, none) from by kernel_rfl) (by kernel_rfl) (.slice ra ms.length rc) (fun _ => y_move (Eq.trans (by kernel_rfl) f_12)) ?_
        refine wk_pure (show opD uR4w2_15 1 = some (some 67, .move (.tmp 10), 27, none) from by kernel_rfl) (by kernel_rfl) (.pointer (some ⟨m_60.r, 0, none⟩)) (fun _ => y_move (by kernel_rfl)) ?_
        refine wk_buildSlice (e := 27) (cs := #[.pointer (some ⟨m_60.r, 0, none⟩)]) (show opD uR4w2_15 2 = some (some 68, .buildSlice 26 1 #[(0, .tmp 67)], 26, none) from by kernel_rfl) (by kernel_rfl) (by kernel_rfl) (fun w_69 b_70 eq_71 e_72 sz_73 hb_74 => ⟨?_, ?_⟩)
        · exact trivial
        have ap_75 : Apart (ms ++ [m_60]) b_70 := Rings.apart_new hRS_67 (by omega)
        have hb_76 : Rings (ownR row who) row.length n w_69 w.heap.size (ms ++ [m_60]) (fun _ => 0) (fun _ => 0) := (Rings.keep hRS_67 e_72 (fun x_ hx_ => absurd hx_ List.not_mem_nil))
        have hs_77 : SlE w_69 1 (some ⟨b_70, 0, none⟩) b_70 0 encR [m_60] := SlE.of_cells hb_74 encR_len (by rfl)
        have hb_87 : OwN w_69 27 1 ra gr rc encR ms rrest := (e_72.keepOwN (e_61.keepOwN hb_58 (hg_68.imp id (fun h_ => List.not_mem_nil))) (hg_68.imp id (fun h_ => List.not_mem_nil)))
        refine wk_append (M := ([m_60])) (L := ms) (a := ra) (g := gr) (c := rc) (ax := (some ⟨b_70, 0, none⟩)) (bx := b_70) (offx := 0) (cx := 1) (e := 27) (sz := 1) (by_ := 8) (show opD uR4w2_15 3 = some (some 69, .call ⟨.builtin .append, #[.tmp 66, .tmp 68], #[26, 26]⟩, 26, none) from by kernel_rfl) (by kernel_rfl) (by kernel_rfl) (by kernel_rfl) encR_len (by kernel_rfl) hb_87 (by kernel_rfl) hs_77 (by simp) encR_one (by first | (constructor <;> omega) | (simp only [List.length_singleton]; constructor <;> omega)) (fun w_78 b_79 cap_80 rest_81 hb_82 e_83 sz_84 lt_85 ho_86 => ⟨?_, ?_⟩)
        · exact trivial
        have hsz_88 : w_69.heap.size ≤ w_78.heap.size := e_83.size
        refine wk_pure (show opD uR4w2_15 4 = some (some 7, .assign (.tmp 69), 26, none) from by kernel_rfl) (by kernel_rfl) (.slice (some ⟨b_79, 0, none⟩) ((ms ++ ([m_60])).length) cap_80) (fun _ => y_assign (by kernel_rfl)) ?_
        refine wk_nil ?_
        refine blk_n ?_
        refine thn_n ?_
        refine g_region (ops := uR4w2_8) (id := 8) (by kernel_rfl) [(0, .pure), (1, .pure), (2, .pure)] (by kernel_rfl) (by kernel_rfl) ?_
        refine wk_pure (show opD uR4w2_8 0 = some (some 48, .move (.tmp 8), 3, none) from by kernel_rfl) (by kernel_rfl) (.int .i64 ((k : Nat) : Int)) (fun _ => y_move (Eq.trans (by kernel_rfl) f_11)) ?_
        refine wk_pure (show opD uR4w2_8 1 = some (some 49, .binOp .add 3 (.tmp 48) (.const (.int .i64 1)) 3, 3, none) from by kernel_rfl) (by kernel_rfl) (.int .i64 ((k + 1 : Nat) : Int)) (fun _ => y_add (k := .i64) (a := ((k : Nat) : Int)) (b := 1) (by kernel_rfl) (by kernel_rfl) (i64_to (by omega) (by omega))) ?_
        refine wk_pure (show opD uR4w2_8 2 = some (some 8, .assign (.tmp 49), 3, none) from by kernel_rfl) (by kernel_rfl) (.int .i64 ((k + 1 : Nat) : Int)) (fun _ => y_assign (by kernel_rfl)) ?_
        refine wk_nil ?_
        refine thn_n ?_
        have hb_89 : Rings (ownR row who) row.length n w_78 w.heap.size (ms ++ [m_60]) (fun _ => 0) (fun _ => 0) := (Rings.keep hb_76 e_83 (OwN.all hb_87 (hg_68.imp id (fun h_ => h_.2.2))))
        exact ⟨_, (by omega), ⟨(k + 1), (ms ++ [m_60]), _, b_79, cap_80, rest_81, rfl, by omega, by rw [List.length_append, List.length_singleton]; omega, (Eq.trans (by kernel_rfl) f_8), (Eq.trans (by kernel_rfl) f_9), (Eq.trans (by kernel_rfl) f_10), (by kernel_rfl), (by kernel_rfl), (.inr ⟨rfl, ho_86⟩), hb_89, (.inr (by rcases hb_82 with ⟨_, h_⟩ | ⟨h0_, h_ | h_⟩; {exact ⟨by omega, by omega, Rings.apart_new hb_76 (by omega)⟩}; {have := hg_68.resolve_left h0_; rw [h_]; exact ⟨this.1, by omega, this.2.2⟩}; {exact ⟨by omega, by omega, Rings.apart_new hb_76 (by omega)⟩})), (Ext.then (Ext.then (Ext.then (Ext.then (Ext.then (Ext.refl [] _) hE_7 (fun _ h_ => absurd h_ List.not_mem_nil)) e_19 (fun _ h_ => absurd h_ List.not_mem_nil)) e_61 (fun _ h_ => absurd h_ List.not_mem_nil)) e_72 (fun _ h_ => absurd h_ List.not_mem_nil)) e_83 (ownL_new' hb_87 (hg_68.imp id (fun h_ => by omega))))⟩⟩
    · refine wk_pure (show opD uR4w2_7 2 = some (some 47, .binOp .lss 3 (.tmp 45) (.tmp 46) 3, 4, none) from by kernel_rfl) (by kernel_rfl) (.bool false) (fun _ => y_lss (k := .i64) (a := ((k : Nat) : Int)) (b := ((n : Nat) : Int)) (by kernel_rfl) (by kernel_rfl) (decide_eq_false h_15)) ?_
      refine wk_nil ?_
      refine thn_n ?_
      refine g_cond_f (o := .tmp 47) (x := uN4w2_27) (y := uN4w2_28) (by kernel_rfl) (by kernel_rfl) ?_
      refine g_exit (id := 0) (by kernel_rfl) ?_
      refine thn_e ?_
      refine thn_e ?_
      refine blk_hit ?_
      refine thn_n ?_
      refine g_seq (x := uN4w2_48) (y := uN4w2_49) (by kernel_rfl) ?_
      refine g_seq (x := uN4w2_50) (y := uN4w2_51) (by kernel_rfl) ?_
      refine g_region (ops := uR4w2_16) (id := 16) (by kernel_rfl) [(0, .pure)] (by kernel_rfl) (by kernel_rfl) ?_
      refine wk_pure (show opD uR4w2_16 0 = some (some 12, .assign (.const (.int .i64 0)), 3, none) from by kernel_rfl) (by kernel_rfl) (.int .i64 0) (fun _ => y_assign (by kernel_rfl)) ?_
      refine wk_nil ?_
      refine thn_n ?_
      refine g_block (x := uN4w2_52) (id := 2) (by kernel_rfl) ?_
      have hmn : ms.length = n := by omega
      have hrn : ra ≠ none := by have h_ := (OwN.own hr_13 (by omega)).1; rw [h_]; simp
      have hgr2 := hg.resolve_left hrn
      refine g_loop (x := uN4w2_53) (by kernel_rfl) (fun m_ ρ_ w_ => ∃ (t : Nat), m_ = 2 * n - 2 - t ∧ (t ≤ 2 * n - 2) ∧ ρ_ 0 = .int .i64 ((n : Nat) : Int) ∧ ρ_ 2 = .slice a row.length c ∧ ρ_ 7 = .slice ra ms.length rc ∧ ρ_ 12 = .int .i64 ((t : Nat) : Int) ∧ OwN w_ 27 1 ra gr rc encR ms rrest ∧ Rings (ownR row who) row.length n w_ w.heap.size ms (fun _ => t) (fun _ => t) ∧ (gr < w_.heap.size) ∧ Ext [] w w_) (2 * n - 2 - 0) ?_ ?_
      · exact ⟨0, rfl, by omega, (Eq.trans (by kernel_rfl) f_8), (Eq.trans (by kernel_rfl) f_10), (Eq.trans (by kernel_rfl) f_12), (by kernel_rfl), hr_13, hr_14, (by omega), (Ext.then (Ext.refl [] _) hE_7 (fun _ h_ => absurd h_ List.not_mem_nil))⟩
      · intro m_90 ρ_91 w_92 hI
        obtain ⟨t, hm_m_90, ht, f_94, f_95, f_96, f_97, hr_98, hr_99, hgl, hE_93⟩ := hI
        have hs_w_92 := hE_93.size
        refine g_seq (x := uN4w2_54) (y := uN4w2_55) (by kernel_rfl) ?_
        refine g_seq (x := uN4w2_56) (y := uN4w2_57) (by kernel_rfl) ?_
        refine g_region (ops := uR4w2_17) (id := 17) (by kernel_rfl) [(0, .pure), (1, .pure), (2, .pure), (3, .pure), (4, .pure)] (by kernel_rfl) (by kernel_rfl) ?_
        refine wk_pure (show opD uR4w2_17 0 = some (some 70, .move (.tmp 12), 3, none) from by kernel_rfl) (by kernel_rfl) (.int .i64 ((t : Nat) : Int)) (fun _ => y_move (Eq.trans (by kernel_rfl) f_97)) ?_
        refine wk_pure (show opD uR4w2_17 1 = some (some 71, .move (.tmp 0), 3, none) from by kernel_rfl) (by kernel_rfl) (.int .i64 ((n : Nat) : Int)) (fun _ => y_move (Eq.trans (by kernel_rfl) f_94)) ?_
        refine wk_pure (show opD uR4w2_17 2 = some (some 72, .binOp .mul 3 (.const (.int .i64 2)) (.tmp 71) 3, 3, none) from by kernel_rfl) (by kernel_rfl) (.int .i64 ((2 * n : Nat) : Int)) (fun _ => y_mul (k := .i64) (a := 2) (b := ((n : Nat) : Int)) (by kernel_rfl) (by kernel_rfl) (i64_to (by omega) (by omega))) ?_
        refine wk_pure (show opD uR4w2_17 3 = some (some 73, .binOp .sub 3 (.tmp 72) (.const (.int .i64 2)) 3, 3, none) from by kernel_rfl) (by kernel_rfl) (.int .i64 (((2 * n : Nat) : Int) - 2)) (fun _ => y_sub (k := .i64) (a := ((2 * n : Nat) : Int)) (b := 2) (by kernel_rfl) (by kernel_rfl) (i64_id (by omega))) ?_
        by_cases h_100 : (((t : Nat) : Int) : Int) < (((2 * n : Nat) : Int) - 2)
        · refine wk_pure (show opD uR4w2_17 4 = some (some 74, .binOp .lss 3 (.tmp 70) (.tmp 73) 3, 4, none) from by kernel_rfl) (by kernel_rfl) (.bool true) (fun _ => y_lss (k := .i64) (a := ((t : Nat) : Int)) (b := (((2 * n : Nat) : Int) - 2)) (by kernel_rfl) (by kernel_rfl) (decide_eq_true h_100)) ?_
          refine wk_nil ?_
          refine thn_n ?_
          refine g_cond_t (o := .tmp 74) (x := uN4w2_58) (y := uN4w2_59) (by kernel_rfl) (by kernel_rfl) ?_
          refine g_skip (by kernel_rfl) ?_
          refine thn_n ?_
          refine g_seq (x := uN4w2_60) (y := uN4w2_61) (by kernel_rfl) ?_
          refine g_block (x := uN4w2_62) (id := 3) (by kernel_rfl) ?_
          refine g_seq (x := uN4w2_63) (y := uN4w2_64) (by kernel_rfl) ?_
          refine g_region (ops := uR4w2_19) (id := 19) (by kernel_rfl) [(0, .pure)] (by kernel_rfl) (by kernel_rfl) ?_
          refine wk_pure (show opD uR4w2_19 0 = some (some 13, .assign (.const (.slice none 0 0)), 40, none) from by kernel_rfl) (by kernel_rfl) (.slice none 0 0) (fun _ => y_assign (by kernel_rfl)) ?_
          refine wk_nil ?_
          refine thn_n ?_
          refine g_seq (x := uN4w2_65) (y := uN4w2_66) (by kernel_rfl) ?_
          refine g_seq (x := uN4w2_67) (y := uN4w2_68) (by kernel_rfl) ?_
          refine g_region (ops := uR4w2_20) (id := 20) (by kernel_rfl) [(0, .pure)] (by kernel_rfl) (by kernel_rfl) ?_
          refine wk_pure (show opD uR4w2_20 0 = some (some 14, .assign (.const (.int .i64 0)), 3, none) from by kernel_rfl) (by kernel_rfl) (.int .i64 0) (fun _ => y_assign (by kernel_rfl)) ?_
          refine wk_nil ?_
          refine thn_n ?_
          refine g_block (x := uN4w2_69) (id := 4) (by kernel_rfl) ?_
          refine g_loop (x := uN4w2_70) (by kernel_rfl) (fun m_ ρ_ w_ => ∃ (i : Nat) (ps : List PM) (pa : Option Addr) (gp : Nat) (pc : Nat) (prest : List Value), m_ = n - i ∧ (i ≤ n) ∧ (ps.length = i) ∧ ρ_ 0 = .int .i64 ((n : Nat) : Int) ∧ ρ_ 2 = .slice a row.length c ∧ ρ_ 7 = .slice ra ms.length rc ∧ ρ_ 12 = .int .i64 ((t : Nat) : Int) ∧ ρ_ 70 = .int .i64 ((t : Nat) : Int) ∧ ρ_ 71 = .int .i64 ((n : Nat) : Int) ∧ ρ_ 72 = .int .i64 ((2 * n : Nat) : Int) ∧ ρ_ 73 = .int .i64 (((2 * n : Nat) : Int) - 2) ∧ ρ_ 74 = .bool true ∧ ρ_ 14 = .int .i64 ((i : Nat) : Int) ∧ ρ_ 13 = .slice pa ps.length pc ∧ OwN w_ 27 1 ra gr rc encR ms rrest ∧ Rings (ownR row who) row.length n w_ w.heap.size ms (fun k => if k < i then t + 1 else t) (fun _ => t) ∧ OwN w_ 37 3 pa gp pc encPM ps prest ∧ Parts (ownR row who) row.length n t ms w_ ps pa gp ∧ (gr < w_.heap.size) ∧ (pa = none ∨ (w.heap.size ≤ gp ∧ gp < w_.heap.size ∧ gp ≠ gr ∧ Apart ms gp)) ∧ Ext [] w w_) (n - 0) ?_ ?_
          · exact ⟨0, [], none, 0, 0, [], rfl, by omega, by rfl, (Eq.trans (by kernel_rfl) f_94), (Eq.trans (by kernel_rfl) f_95), (Eq.trans (by kernel_rfl) f_96), (Eq.trans (by kernel_rfl) f_97), (by kernel_rfl), (by kernel_rfl), (by kernel_rfl), (by kernel_rfl), (by kernel_rfl), (by kernel_rfl), (by kernel_rfl), hr_98, (Rings.congr hr_99 (by intro j_ hj_; simp)), OwN.nil _ _ _ _ _ _, Parts.nil, (by omega), (.inl rfl), (Ext.then (Ext.refl [] _) hE_93 (fun _ h_ => absurd h_ List.not_mem_nil))⟩
          · intro m_101 ρ_102 w_103 hI
            obtain ⟨i, ps, pa, gp, pc, prest, hm_m_101, hi, hps, f_105, f_106, f_107, f_108, f_109, f_110, f_111, f_112, f_113, f_114, f_115, hr_116, hr_117, hr_118, hr_119, hgl, hgp, hE_104⟩ := hI
            have hs_w_103 := hE_104.size
            refine g_seq (x := uN4w2_71) (y := uN4w2_72) (by kernel_rfl) ?_
            refine g_seq (x := uN4w2_73) (y := uN4w2_74) (by kernel_rfl) ?_
            refine g_region (ops := uR4w2_21) (id := 21) (by kernel_rfl) [(0, .pure), (1, .pure), (2, .pure)] (by kernel_rfl) (by kernel_rfl) ?_
            refine wk_pure (show opD uR4w2_21 0 = some (some 77, .move (.tmp 14), 3, none) from by kernel_rfl) (by kernel_rfl) (.int .i64 ((i : Nat) : Int)) (fun _ => y_move (Eq.trans (by kernel_rfl) f_114)) ?_
            refine wk_pure (show opD uR4w2_21 1 = some (some 78, .move (.tmp 0), 3, none) from by kernel_rfl) (by kernel_rfl) (.int .i64 ((n : Nat) : Int)) (fun _ => y_move (Eq.trans (by kernel_rfl) f_105)) ?_
            by_cases h_120 : (((i : Nat) : Int) : Int) < ((n : Nat) : Int)
            · refine wk_pure (show opD uR4w2_21 2 = some (some 79, .binOp .lss 3 (.tmp 77) (.tmp 78) 3, 4, none) from by kernel_rfl) (by kernel_rfl) (.bool true) (fun _ => y_lss (k := .i64) (a := ((i : Nat) : Int)) (b := ((n : Nat) : Int)) (by kernel_rfl) (by kernel_rfl) (decide_eq_true h_120)) ?_
              refine wk_nil ?_
              refine thn_n ?_
              refine g_cond_t (o := .tmp 79) (x := uN4w2_75) (y := uN4w2_76) (by kernel_rfl) (by kernel_rfl) ?_
              refine g_skip (by kernel_rfl) ?_
              refine thn_n ?_
              refine g_seq (x := uN4w2_77) (y := uN4w2_78) (by kernel_rfl) ?_
              refine g_block (x := uN4w2_79) (id := 5) (by kernel_rfl) ?_
              refine g_seq (x := uN4w2_80) (y := uN4w2_81) (by kernel_rfl) ?_
              refine g_region (ops := uR4w2_23) (id := 23) (by kernel_rfl) [(0, .pure), (1, .pure), (2, .pure), (3, .loud), (4, .loud), (5, .pure), (6, .pure), (7, .pure), (8, .loud), (9, .loud), (10, .pure)] (by kernel_rfl) (by kernel_rfl) ?_
              refine wk_pure (show opD uR4w2_23 0 = some (some 83, .move (.tmp 7), 26, none) from by kernel_rfl) (by kernel_rfl) (.slice ra ms.length rc) (fun _ => y_move (Eq.trans (by kernel_rfl) f_107)) ?_
              refine wk_pure (show opD uR4w2_23 1 = some (some 84, .move (.tmp 14), 3, none) from by kernel_rfl) (by kernel_rfl) (.int .i64 ((i : Nat) : Int)) (fun _ => y_move (Eq.trans (by kernel_rfl) f_114)) ?_
              refine wk_pure (show opD uR4w2_23 2 = some (some 85, .indexAddr 26 (.tmp 83) (.tmp 84), 0, none) from by kernel_rfl) (by kernel_rfl) (.pointer (some ⟨gr, 0 + (i * 1 + 0), none⟩)) (fun _ => y_ptr (x_indexN (a := ra) (b := gr) (off := 0) (n := ms.length) (c := rc) (k := .i64) (i := ((i : Nat) : Int)) (e := 27) (sz := 1) (sz' := 1) (by kernel_rfl) hr_116.sl (by kernel_rfl) (by kernel_rfl) rfl (by omega) _) (by omega)) ?_
              refine wk_val (show opD uR4w2_23 3 = some (some 86, .load 27 (.tmp 85), 27, none) from by kernel_rfl) (by kernel_rfl) (.pointer (some ⟨(ms.getD i RM0).r, 0, none⟩)) (x_load_c (b := gr) (off := (0 + (i * 1 + 0))) (by kernel_rfl) (by kernel_rfl) (SlE.get hr_116.sl encR_len RM0 i 0 (by omega) rfl)) trivial ?_
              have hst_121 : St (ownR row who) row.length n i t t w_103 (ms.getD i RM0) := by have h_ := Rings.st hr_117 i (by omega); simpa using h_
              refine wk_call (show opD uR4w2_23 4 = some (some 87, .call ⟨.value (.func 9), #[.tmp 86], #[27]⟩, 38, none) from by kernel_rfl) (by kernel_rfl) 9 #[.pointer (some ⟨(ms.getD i RM0).r, 0, none⟩)] (x_call Try.func9 (by kernel_rfl) (c := (Try.f9.body).getD .skip) (by kernel_rfl) (by kernel_rfl) (by kernel_rfl)) (out_s hst_121 (by omega) (by omega) (by omega) (fun w_122 a_123 g_124 c_125 rest_126 W_127 e_128 hS_129 hO_130 hg_131 hw_132 hp_133 hi_134 hl_135 => ⟨?_, ?_⟩))
              · exact trivial
              have hsz_139 : w_103.heap.size ≤ w_122.heap.size := e_128.size
              have hRS_136 : Rings (ownR row who) row.length n w_122 w.heap.size ms (setAt (fun k => if k < i then t + 1 else t) i (t + 1)) (setAt (fun _ => t) i t) := Rings.step hr_117 (by omega) e_128 (by intro x_ hx_; simp only [List.mem_cons, List.not_mem_nil, or_false] at hx_; exact .inl hx_) hS_129
              have hP_137 : Parts (ownR row who) row.length n t ms w_122 ps pa gp := Parts.keep hr_119 e_128 (by intro b_ _ ap_ _ hm_; simp only [List.mem_cons, List.not_mem_nil, or_false] at hm_; have := ap_ i (by omega); omega)
              have hap_138 : W_127.length = 0 ∨ Apart ms g_124 := hg_131.imp id (fun h_ => Rings.apart_new hr_117 h_.1)
              refine wk_pure (show opD uR4w2_23 5 = some (some 82, .move (.tmp 87), 38, none) from by kernel_rfl) (by kernel_rfl) (.tuple #[.agg #[.int .i64 ((t : Nat) : Int), .int .i64 ((sendsN i n t : Nat) : Int), .slice a_123 W_127.length c_125], .bool true]) (fun _ => y_move (by kernel_rfl)) ?_
              refine wk_pure (show opD uR4w2_23 6 = some (some 88, .extract (.tmp 82) 0, 37, none) from by kernel_rfl) (by kernel_rfl) (.agg #[.int .i64 ((t : Nat) : Int), .int .i64 ((sendsN i n t : Nat) : Int), .slice a_123 W_127.length c_125]) (fun _ => x_extract (vs := #[.agg #[.int .i64 ((t : Nat) : Int), .int .i64 ((sendsN i n t : Nat) : Int), .slice a_123 W_127.length c_125], .bool true]) (by kernel_rfl) (by kernel_rfl)) ?_
              refine wk_pure (show opD uR4w2_23 7 = some (some 89, .extract (.tmp 82) 1, 4, none) from by kernel_rfl) (by kernel_rfl) (.bool true) (fun _ => x_extract (vs := #[.agg #[.int .i64 ((t : Nat) : Int), .int .i64 ((sendsN i n t : Nat) : Int), .slice a_123 W_127.length c_125], .bool true]) (by kernel_rfl) (by kernel_rfl)) ?_
              refine wk_alloc (z := #[.int .i64 0, .int .i64 0, .slice none 0 0]) (show opD uR4w2_23 8 = some (some 15, .alloc 37, 0, none) from by kernel_rfl) (by kernel_rfl) (by kernel_rfl) (fun w_141 b_140 eq_143 e_142 sz_144 hb_145 => ⟨?_, ?_⟩)
              · exact trivial
              have ap_146 : Apart ms b_140 := Rings.apart_new hRS_136 (by omega)
              refine wk_store (b := b_140) (off := 0) (cs' := #[.int .i64 ((t : Nat) : Int), .int .i64 ((sendsN i n t : Nat) : Int), .slice a_123 W_127.length c_125]) (vs := #[.int .i64 ((t : Nat) : Int), .int .i64 ((sendsN i n t : Nat) : Int), .slice a_123 W_127.length c_125]) (show opD uR4w2_23 9 = some (none, .store 37 (.tmp 15) (.tmp 88), 0, none) from by kernel_rfl) (by kernel_rfl) (by kernel_rfl) (by kernel_rfl) (by kernel_rfl) (by kernel_rfl) hb_145 (Nat.le_of_ble_eq_true rfl) (by kernel_rfl) (by kernel_rfl) (fun w_147 e_148 sz_149 hb_150 => ⟨?_, ?_⟩)
              · exact trivial
              refine wk_pure (show opD uR4w2_23 10 = some (some 16, .assign (.tmp 89), 4, none) from by kernel_rfl) (by kernel_rfl) (.bool true) (fun _ => y_assign (by kernel_rfl)) ?_
              refine wk_nil ?_
              refine thn_n ?_
              refine g_seq (x := uN4w2_82) (y := uN4w2_83) (by kernel_rfl) ?_
              refine g_seq (x := uN4w2_84) (y := uN4w2_85) (by kernel_rfl) ?_
              refine g_region (ops := uR4w2_24) (id := 24) (by kernel_rfl) [(0, .pure), (1, .pure), (2, .pure), (3, .pure), (4, .loud), (5, .pure), (6, .pure), (7, .pure)] (by kernel_rfl) (by kernel_rfl) ?_
              refine wk_pure (show opD uR4w2_24 0 = some (some 90, .move (.tmp 16), 4, none) from by kernel_rfl) (by kernel_rfl) (.bool true) (fun _ => y_move (by kernel_rfl)) ?_
              refine wk_pure (show opD uR4w2_24 1 = some (some 91, .unOp .not 4 (.tmp 90), 4, none) from by kernel_rfl) (by kernel_rfl) (.bool false) (fun _ => y_not (p := true) (by kernel_rfl) rfl) ?_
              refine wk_pure (show opD uR4w2_24 2 = some (some 92, .move (.tmp 91), 4, none) from by kernel_rfl) (by kernel_rfl) (.bool false) (fun _ => y_move (by kernel_rfl)) ?_
              refine wk_pure (show opD uR4w2_24 3 = some (some 93, .fieldAddr 37 (.tmp 15) 0, 0, some (2, false)) from by kernel_rfl) (by kernel_rfl) (.pointer (some ⟨b_140, 0, none⟩)) (fun _ => x_fieldAddr (b := b_140) (off := 0) (o := 0) (by kernel_rfl) (by kernel_rfl)) ?_
              refine wk_val (show opD uR4w2_24 4 = some (some 94, .load 3 (.tmp 93), 3, some (2, false)) from by kernel_rfl) (by kernel_rfl) (.int .i64 ((t : Nat) : Int)) (x_load (b := b_140) (off := 0) (by kernel_rfl) (by kernel_rfl) hb_150 (by kernel_rfl)) trivial ?_
              refine wk_pure (show opD uR4w2_24 5 = some (some 95, .move (.tmp 12), 3, some (2, false)) from by kernel_rfl) (by kernel_rfl) (.int .i64 ((t : Nat) : Int)) (fun _ => y_move (Eq.trans (by kernel_rfl) f_108)) ?_
              refine wk_pure (show opD uR4w2_24 6 = some (some 96, .binOp .neq 3 (.tmp 94) (.tmp 95) 3, 4, some (2, false)) from by kernel_rfl) (by kernel_rfl) (.bool false) (fun _ => y_neq (k := .i64) (a := ((t : Nat) : Int)) (b := ((t : Nat) : Int)) (by kernel_rfl) (by kernel_rfl) (decide_eq_false (by omega))) ?_
              refine wk_pure (show opD uR4w2_24 7 = some (some 97, .pick (.tmp 92) (.const (.bool true)) (.tmp 96), 4, none) from by kernel_rfl) (by kernel_rfl) (.bool false) (fun _ => y_pick_f (by kernel_rfl) (by kernel_rfl)) ?_
              refine wk_nil ?_
              refine thn_n ?_
              refine g_cond_f (o := .tmp 97) (x := uN4w2_86) (y := uN4w2_87) (by kernel_rfl) (by kernel_rfl) ?_
              refine g_skip (by kernel_rfl) ?_
              refine thn_n ?_
              refine g_region (ops := uR4w2_26) (id := 26) (by kernel_rfl) [(0, .pure), (1, .loud), (2, .loud), (3, .loud), (4, .pure)] (by kernel_rfl) (by kernel_rfl) ?_
              refine wk_pure (show opD uR4w2_26 0 = some (some 98, .move (.tmp 13), 40, none) from by kernel_rfl) (by kernel_rfl) (.slice pa ps.length pc) (fun _ => y_move (Eq.trans (by kernel_rfl) f_115)) ?_
              refine wk_val (show opD uR4w2_26 1 = some (some 99, .load 37 (.tmp 15), 37, none) from by kernel_rfl) (by kernel_rfl) (.agg #[.int .i64 ((t : Nat) : Int), .int .i64 ((sendsN i n t : Nat) : Int), .slice a_123 W_127.length c_125]) (x_load_agg (b := b_140) (off := 0) (n := 3) (by kernel_rfl) (by kernel_rfl) hb_150 (Nat.le_of_ble_eq_true rfl) (by kernel_rfl)) trivial ?_
              refine wk_buildSlice (e := 37) (cs := #[.int .i64 ((t : Nat) : Int), .int .i64 ((sendsN i n t : Nat) : Int), .slice a_123 W_127.length c_125]) (show opD uR4w2_26 2 = some (some 100, .buildSlice 40 1 #[(0, .tmp 99)], 40, none) from by kernel_rfl) (by kernel_rfl) (by kernel_rfl) (fun w_151 b_152 eq_153 e_154 sz_155 hb_156 => ⟨?_, ?_⟩)
              · exact trivial
              have ap_157 : Apart ms b_152 := Rings.apart_new hRS_136 (by omega)
              have hb_158 : Parts (ownR row who) row.length n t ms w_151 ps pa gp := (Parts.keep hP_137 (Ext.then (Ext.then (Ext.then (Ext.refl [] _) e_142 (fun _ h_ => absurd h_ List.not_mem_nil)) e_148 (by intro x_ hx_ hl_; simp only [List.mem_cons, List.not_mem_nil, or_false] at hx_ ⊢; omega)) e_154 (fun _ h_ => absurd h_ List.not_mem_nil)) (fun _ _ _ _ => List.not_mem_nil))
              have hb_159 : OwO w_151 33 2 a_123 g_124 c_125 encW W_127 rest_126 := (e_154.keepOwP (e_148.keepOwP (e_142.keepOwP hO_130 (hg_131.imp id (fun h_ => List.not_mem_nil))) (hg_131.imp id (fun h_ => (by simp only [List.mem_cons, List.not_mem_nil, or_false]; omega)))) (hg_131.imp id (fun h_ => List.not_mem_nil)))
              have hb_160 : OwN w_151 37 3 pa gp pc encPM ps prest := (e_154.keepOwN (e_148.keepOwN (e_142.keepOwN (e_128.keepOwN hr_118 (hgp.imp id (fun h_ => (by intro hm_; simp only [List.mem_cons, List.not_mem_nil, or_false] at hm_; have ap_ := h_.2.2.2 i (by omega); omega)))) (hgp.imp id (fun h_ => List.not_mem_nil))) (hgp.imp id (fun h_ => (by simp only [List.mem_cons, List.not_mem_nil, or_false]; omega)))) (hgp.imp id (fun h_ => List.not_mem_nil)))
              have hb_161 : Rings (ownR row who) row.length n w_151 w.heap.size ms (setAt (fun k => if k < i then t + 1 else t) i (t + 1)) (setAt (fun _ => t) i t) := (Rings.keep (Rings.keep (Rings.keep hRS_136 e_142 (fun x_ hx_ => absurd hx_ List.not_mem_nil)) e_148 (by intro x_ hx_; simp only [List.mem_cons, List.not_mem_nil, or_false] at hx_; subst hx_; exact ap_146)) e_154 (fun x_ hx_ => absurd hx_ List.not_mem_nil))
              have hs_162 : SlE w_151 3 (some ⟨b_152, 0, none⟩) b_152 0 encPM [(⟨t, sendsN i n t, a_123, g_124, c_125, W_127⟩ : PM)] := SlE.of_cells hb_156 encPM_len (by rfl)
              refine wk_append (M := ([(⟨t, sendsN i n t, a_123, g_124, c_125, W_127⟩ : PM)])) (L := ps) (a := pa) (g := gp) (c := pc) (ax := (some ⟨b_152, 0, none⟩)) (bx := b_152) (offx := 0) (cx := 1) (e := 37) (sz := 3) (by_ := 40) (show opD uR4w2_26 3 = some (some 101, .call ⟨.builtin .append, #[.tmp 98, .tmp 100], #[40, 40]⟩, 40, none) from by kernel_rfl) (by kernel_rfl) (by kernel_rfl) (by kernel_rfl) encPM_len (by kernel_rfl) hb_160 (by kernel_rfl) hs_162 (by simp) encPM_one (by first | (constructor <;> omega) | (simp only [List.length_singleton]; constructor <;> omega)) (fun w_163 b_164 cap_165 rest_166 hb_167 e_168 sz_169 lt_170 ho_171 => ⟨?_, ?_⟩)
              · exact trivial
              have hsz_172 : w_151.heap.size ≤ w_163.heap.size := e_168.size
              refine wk_pure (show opD uR4w2_26 4 = some (some 13, .assign (.tmp 101), 40, none) from by kernel_rfl) (by kernel_rfl) (.slice (some ⟨b_164, 0, none⟩) ((ps ++ ([(⟨t, sendsN i n t, a_123, g_124, c_125, W_127⟩ : PM)])).length) cap_165) (fun _ => y_assign (by kernel_rfl)) ?_
              refine wk_nil ?_
              refine blk_n ?_
              refine thn_n ?_
              refine g_region (ops := uR4w2_22) (id := 22) (by kernel_rfl) [(0, .pure), (1, .pure), (2, .pure)] (by kernel_rfl) (by kernel_rfl) ?_
              refine wk_pure (show opD uR4w2_22 0 = some (some 80, .move (.tmp 14), 3, none) from by kernel_rfl) (by kernel_rfl) (.int .i64 ((i : Nat) : Int)) (fun _ => y_move (Eq.trans (by kernel_rfl) f_114)) ?_
              refine wk_pure (show opD uR4w2_22 1 = some (some 81, .binOp .add 3 (.tmp 80) (.const (.int .i64 1)) 3, 3, none) from by kernel_rfl) (by kernel_rfl) (.int .i64 ((i + 1 : Nat) : Int)) (fun _ => y_add (k := .i64) (a := ((i : Nat) : Int)) (b := 1) (by kernel_rfl) (by kernel_rfl) (i64_to (by omega) (by omega))) ?_
              refine wk_pure (show opD uR4w2_22 2 = some (some 14, .assign (.tmp 81), 3, none) from by kernel_rfl) (by kernel_rfl) (.int .i64 ((i + 1 : Nat) : Int)) (fun _ => y_assign (by kernel_rfl)) ?_
              refine wk_nil ?_
              refine thn_n ?_
              have hb_173 : Rings (ownR row who) row.length n w_163 w.heap.size ms (setAt (fun k => if k < i then t + 1 else t) i (t + 1)) (setAt (fun _ => t) i t) := (Rings.keep hb_161 e_168 (OwN.all hb_160 (hgp.imp id (fun h_ => h_.2.2.2))))
              have hb_175 : OwN w_163 27 1 ra gr rc encR ms rrest := (e_168.keepOwN (e_154.keepOwN (e_148.keepOwN (e_142.keepOwN (e_128.keepOwN hr_116 (.inr (by intro hm_; simp only [List.mem_cons, List.not_mem_nil, or_false] at hm_; have ap_ := hgr2.2.2 i (by omega); omega))) (.inr List.not_mem_nil)) (.inr (by simp only [List.mem_cons, List.not_mem_nil, or_false]; omega))) (.inr List.not_mem_nil)) (.inr (OwN.notin hb_160 (hgp.imp id (fun h_ => (by omega : gr ≠ gp))))))
              have hPA_174 : Parts (ownR row who) row.length n t ms w_163 (ps ++ [(⟨t, sendsN i n t, a_123, g_124, c_125, W_127⟩ : PM)]) (some ⟨b_164, 0, none⟩) b_164 := Parts.add hb_158 (by rw [hps]; exact PartOk.of (ExtW.keepSlP e_168.toExtW (OwO.sl hb_159) (hg_131.imp id (fun h_ => OwN.notin hb_160 (hgp.imp id (fun h2_ => by omega))))) (by have h1_ := hg_131; have h2_ := hap_138; exact h1_.elim .inl (fun h1_ => h2_.elim .inl (fun h2_ => .inr ⟨h2_, by omega⟩))) hw_132 hp_133 hi_134) e_168 (fun b_ hb_ _ hx_ => OwN.notin hb_160 hx_) (by intro b_ hb_ hx_; rcases hb_167 with ⟨_, h_⟩ | ⟨h0_, h_ | h_⟩; {omega}; {have := hx_.resolve_left h0_; omega}; {omega}) (by have h1_ := hg_131; refine h1_.imp id (fun h1_ => ?_); rcases hb_167 with ⟨_, h_⟩ | ⟨h0_, h_ | h_⟩; {show g_124 ≠ _; omega}; {have := hgp.resolve_left h0_; show g_124 ≠ _; omega}; {show g_124 ≠ _; omega})
              exact ⟨_, (by omega), ⟨(i + 1), (ps ++ [(⟨t, sendsN i n t, a_123, g_124, c_125, W_127⟩ : PM)]), _, b_164, cap_165, rest_166, rfl, by omega, by rw [List.length_append, List.length_singleton]; omega, (Eq.trans (by kernel_rfl) f_105), (Eq.trans (by kernel_rfl) f_106), (Eq.trans (by kernel_rfl) f_107), (Eq.trans (by kernel_rfl) f_108), (Eq.trans (by kernel_rfl) f_109), (Eq.trans (by kernel_rfl) f_110), (Eq.trans (by kernel_rfl) f_111), (Eq.trans (by kernel_rfl) f_112), (Eq.trans (by kernel_rfl) f_113), (by kernel_rfl), (by kernel_rfl), hb_175, (Rings.congr hb_173 (by intro j_ hj_; constructor <;> simp only [setAt] <;> (repeat' split) <;> first | omega | rfl)), (.inr ⟨rfl, ho_171⟩), hPA_174, (by omega), (.inr (by rcases hb_167 with ⟨_, h_⟩ | ⟨h0_, h_ | h_⟩; {exact ⟨by omega, by omega, by omega, Rings.apart_new hb_161 (by omega)⟩}; {have := hgp.resolve_left h0_; rw [h_]; exact ⟨this.1, by omega, this.2.2.1, this.2.2.2⟩}; {exact ⟨by omega, by omega, by omega, Rings.apart_new hb_161 (by omega)⟩})), (Ext.then (Ext.then (Ext.then (Ext.then (Ext.then (Ext.then (Ext.refl [] _) hE_104 (fun _ h_ => absurd h_ List.not_mem_nil)) e_128 (by intro x_ hx_ hl_; simp only [List.mem_cons, List.not_mem_nil, or_false] at hx_; have lo_ := Rings.lo hr_117 i (by omega); omega)) e_142 (fun _ h_ => absurd h_ List.not_mem_nil)) e_148 (by intro x_ hx_ hl_; simp only [List.mem_cons, List.not_mem_nil, or_false] at hx_ ⊢; omega)) e_154 (fun _ h_ => absurd h_ List.not_mem_nil)) e_168 (ownL_new' hb_160 (hgp.imp id (fun h_ => by omega))))⟩⟩
            · refine wk_pure (show opD uR4w2_21 2 = some (some 79, .binOp .lss 3 (.tmp 77) (.tmp 78) 3, 4, none) from by kernel_rfl) (by kernel_rfl) (.bool false) (fun _ => y_lss (k := .i64) (a := ((i : Nat) : Int)) (b := ((n : Nat) : Int)) (by kernel_rfl) (by kernel_rfl) (decide_eq_false h_120)) ?_
              refine wk_nil ?_
              refine thn_n ?_
              refine g_cond_f (o := .tmp 79) (x := uN4w2_75) (y := uN4w2_76) (by kernel_rfl) (by kernel_rfl) ?_
              refine g_exit (id := 4) (by kernel_rfl) ?_
              refine thn_e ?_
              refine thn_e ?_
              refine blk_hit ?_
              refine thn_n ?_
              refine g_seq (x := uN4w2_88) (y := uN4w2_89) (by kernel_rfl) ?_
              refine g_region (ops := uR4w2_27) (id := 27) (by kernel_rfl) [(0, .pure)] (by kernel_rfl) (by kernel_rfl) ?_
              refine wk_pure (show opD uR4w2_27 0 = some (some 17, .assign (.const (.int .i64 0)), 3, none) from by kernel_rfl) (by kernel_rfl) (.int .i64 0) (fun _ => y_assign (by kernel_rfl)) ?_
              refine wk_nil ?_
              refine thn_n ?_
              refine g_block (x := uN4w2_90) (id := 6) (by kernel_rfl) ?_
              have hpn : ps.length = n := by omega
              refine g_loop (x := uN4w2_91) (by kernel_rfl) (fun m_ ρ_ w_ => ∃ (j : Nat), m_ = n - j ∧ (j ≤ n) ∧ ρ_ 0 = .int .i64 ((n : Nat) : Int) ∧ ρ_ 2 = .slice a row.length c ∧ ρ_ 7 = .slice ra ms.length rc ∧ ρ_ 12 = .int .i64 ((t : Nat) : Int) ∧ ρ_ 13 = .slice pa ps.length pc ∧ ρ_ 14 = .int .i64 ((i : Nat) : Int) ∧ ρ_ 70 = .int .i64 ((t : Nat) : Int) ∧ ρ_ 71 = .int .i64 ((n : Nat) : Int) ∧ ρ_ 72 = .int .i64 ((2 * n : Nat) : Int) ∧ ρ_ 73 = .int .i64 (((2 * n : Nat) : Int) - 2) ∧ ρ_ 74 = .bool true ∧ ρ_ 77 = .int .i64 ((i : Nat) : Int) ∧ ρ_ 78 = .int .i64 ((n : Nat) : Int) ∧ ρ_ 79 = .bool false ∧ ρ_ 17 = .int .i64 ((j : Nat) : Int) ∧ OwN w_ 27 1 ra gr rc encR ms rrest ∧ Rings (ownR row who) row.length n w_ w.heap.size ms (fun _ => t + 1) (fun k => if (k + n - 1) % n < j then t + 1 else t) ∧ OwN w_ 37 3 pa gp pc encPM ps prest ∧ Parts (ownR row who) row.length n t ms w_ ps pa gp ∧ (gr < w_.heap.size) ∧ Ext [] w w_) (n - 0) ?_ ?_
              · exact ⟨0, rfl, by omega, (Eq.trans (by kernel_rfl) f_105), (Eq.trans (by kernel_rfl) f_106), (Eq.trans (by kernel_rfl) f_107), (Eq.trans (by kernel_rfl) f_108), (Eq.trans (by kernel_rfl) f_115), (Eq.trans (by kernel_rfl) f_114), (Eq.trans (by kernel_rfl) f_109), (Eq.trans (by kernel_rfl) f_110), (Eq.trans (by kernel_rfl) f_111), (Eq.trans (by kernel_rfl) f_112), (Eq.trans (by kernel_rfl) f_113), (by kernel_rfl), (by kernel_rfl), (by kernel_rfl), (by kernel_rfl), hr_116, (Rings.congr hr_117 (by intro j_ hj_; constructor <;> simp <;> omega)), hr_118, hr_119, (by omega), (Ext.then (Ext.refl [] _) hE_104 (fun _ h_ => absurd h_ List.not_mem_nil))⟩
              · intro m_176 ρ_177 w_178 hI
                obtain ⟨j, hm_m_176, hj, f_180, f_181, f_182, f_183, f_184, f_185, f_186, f_187, f_188, f_189, f_190, f_191, f_192, f_193, f_194, hr_195, hr_196, hr_197, hr_198, hgl, hE_179⟩ := hI
                have hs_w_178 := hE_179.size
                have hql0 : (j + 1) % n < n := Nat.mod_lt _ (by omega)
                refine g_seq (x := uN4w2_92) (y := uN4w2_93) (by kernel_rfl) ?_
                refine g_seq (x := uN4w2_94) (y := uN4w2_95) (by kernel_rfl) ?_
                refine g_region (ops := uR4w2_28) (id := 28) (by kernel_rfl) [(0, .pure), (1, .pure), (2, .pure)] (by kernel_rfl) (by kernel_rfl) ?_
                refine wk_pure (show opD uR4w2_28 0 = some (some 102, .move (.tmp 17), 3, none) from by kernel_rfl) (by kernel_rfl) (.int .i64 ((j : Nat) : Int)) (fun _ => y_move (Eq.trans (by kernel_rfl) f_194)) ?_
                refine wk_pure (show opD uR4w2_28 1 = some (some 103, .move (.tmp 0), 3, none) from by kernel_rfl) (by kernel_rfl) (.int .i64 ((n : Nat) : Int)) (fun _ => y_move (Eq.trans (by kernel_rfl) f_180)) ?_
                by_cases h_199 : (((j : Nat) : Int) : Int) < ((n : Nat) : Int)
                · refine wk_pure (show opD uR4w2_28 2 = some (some 104, .binOp .lss 3 (.tmp 102) (.tmp 103) 3, 4, none) from by kernel_rfl) (by kernel_rfl) (.bool true) (fun _ => y_lss (k := .i64) (a := ((j : Nat) : Int)) (b := ((n : Nat) : Int)) (by kernel_rfl) (by kernel_rfl) (decide_eq_true h_199)) ?_
                  refine wk_nil ?_
                  refine thn_n ?_
                  refine g_cond_t (o := .tmp 104) (x := uN4w2_96) (y := uN4w2_97) (by kernel_rfl) (by kernel_rfl) ?_
                  refine g_skip (by kernel_rfl) ?_
                  refine thn_n ?_
                  refine g_seq (x := uN4w2_98) (y := uN4w2_99) (by kernel_rfl) ?_
                  refine g_block (x := uN4w2_100) (id := 7) (by kernel_rfl) ?_
                  refine g_seq (x := uN4w2_101) (y := uN4w2_102) (by kernel_rfl) ?_
                  refine g_draw (ops := uR4w2_30) (id := 30) (by kernel_rfl) (fun _ _ => True) [(0, .pure), (1, .pure), (2, .pure), (3, .pure), (4, .pure), (5, .pure), (7, .pure), (8, .pure), (9, .pure), (6, .read), (10, .read), (11, .loud), (12, .pure)] (by kernel_rfl) (by kernel_rfl) (fun _ => trivial) (fun w_200 sm_201 => ?_)
                  have hsz_202 : w_200.heap.size = w_178.heap.size := by rw [sm_201.heap]
                  refine wk_pure (show opD uR4w2_30 0 = some (some 107, .move (.tmp 7), 26, none) from by kernel_rfl) (by kernel_rfl) (.slice ra ms.length rc) (fun _ => y_move (Eq.trans (by kernel_rfl) f_182)) ?_
                  refine wk_pure (show opD uR4w2_30 1 = some (some 108, .move (.tmp 17), 3, none) from by kernel_rfl) (by kernel_rfl) (.int .i64 ((j : Nat) : Int)) (fun _ => y_move (Eq.trans (by kernel_rfl) f_194)) ?_
                  refine wk_pure (show opD uR4w2_30 2 = some (some 109, .binOp .add 3 (.tmp 108) (.const (.int .i64 1)) 3, 3, none) from by kernel_rfl) (by kernel_rfl) (.int .i64 ((j + 1 : Nat) : Int)) (fun _ => y_add (k := .i64) (a := ((j : Nat) : Int)) (b := 1) (by kernel_rfl) (by kernel_rfl) (i64_to (by omega) (by omega))) ?_
                  refine wk_pure (show opD uR4w2_30 3 = some (some 110, .move (.tmp 0), 3, none) from by kernel_rfl) (by kernel_rfl) (.int .i64 ((n : Nat) : Int)) (fun _ => y_move (Eq.trans (by kernel_rfl) f_180)) ?_
                  refine wk_pure (show opD uR4w2_30 4 = some (some 111, .binOp .rem 3 (.tmp 109) (.tmp 110) 3, 3, none) from by kernel_rfl) (by kernel_rfl) (.int .i64 (((j + 1) % n : Nat) : Int)) (fun _ => y_rem (k := .i64) (a := ((j + 1 : Nat) : Int)) (b := ((n : Nat) : Int)) (by kernel_rfl) (by kernel_rfl) (by omega) (nat_rem)) ?_
                  have hb_203 : OwN w_200 27 1 ra gr rc encR ms rrest := (sm_201.keepOwN hr_195)
                  refine wk_pure (show opD uR4w2_30 5 = some (some 112, .indexAddr 26 (.tmp 107) (.tmp 111), 0, none) from by kernel_rfl) (by kernel_rfl) (.pointer (some ⟨gr, 0 + (((j + 1) % n) * 1 + 0), none⟩)) (fun _ => y_ptr (x_indexN (a := ra) (b := gr) (off := 0) (n := ms.length) (c := rc) (k := .i64) (i := (((j + 1) % n : Nat) : Int)) (e := 27) (sz := 1) (sz' := 1) (by kernel_rfl) hb_203.sl (by kernel_rfl) (by kernel_rfl) rfl (by omega) _) (by omega)) ?_
                  refine wk_pure (show opD uR4w2_30 7 = some (some 114, .move (.tmp 13), 40, none) from by kernel_rfl) (by kernel_rfl) (.slice pa ps.length pc) (fun _ => y_move (Eq.trans (by kernel_rfl) f_184)) ?_
                  refine wk_pure (show opD uR4w2_30 8 = some (some 115, .move (.tmp 17), 3, none) from by kernel_rfl) (by kernel_rfl) (.int .i64 ((j : Nat) : Int)) (fun _ => y_move (Eq.trans (by kernel_rfl) f_194)) ?_
                  have hb_204 : OwN w_200 37 3 pa gp pc encPM ps prest := (sm_201.keepOwN hr_197)
                  refine wk_pure (show opD uR4w2_30 9 = some (some 116, .indexAddr 40 (.tmp 114) (.tmp 115), 0, none) from by kernel_rfl) (by kernel_rfl) (.pointer (some ⟨gp, 0 + (j * 3 + 0), none⟩)) (fun _ => y_ptr (x_indexN (a := pa) (b := gp) (off := 0) (n := ps.length) (c := pc) (k := .i64) (i := ((j : Nat) : Int)) (e := 37) (sz := 3) (sz' := 3) (by kernel_rfl) hb_204.sl (by kernel_rfl) (by kernel_rfl) rfl (by omega) _) (by omega)) ?_
                  refine wk_read (show opD uR4w2_30 6 = some (some 113, .load 27 (.tmp 112), 27, none) from by kernel_rfl) (by kernel_rfl) (.pointer (some ⟨(ms.getD ((j + 1) % n) RM0).r, 0, none⟩)) (fun w'_ g_ => x_load_c (b := gr) (off := (0 + (((j + 1) % n) * 1 + 0))) (by kernel_rfl) (by kernel_rfl) (SlE.get (g_.keepOwN hb_203).sl encR_len RM0 ((j + 1) % n) 0 (by omega) rfl)) ?_
                  refine wk_read (show opD uR4w2_30 10 = some (some 117, .load 37 (.tmp 116), 37, none) from by kernel_rfl) (by kernel_rfl) (.agg #[.int .i64 (((ps.getD j PM0).k : Nat) : Int), .int .i64 (((ps.getD j PM0).c : Nat) : Int), .slice ((ps.getD j PM0).a) ((ps.getD j PM0).W.length) ((ps.getD j PM0).cap)]) (fun w'_ g_ => x_load_cs (b := gp) (off := (0 + (j * 3 + 0))) (n := 3) (vs := [.int .i64 (((ps.getD j PM0).k : Nat) : Int), .int .i64 (((ps.getD j PM0).c : Nat) : Int), .slice ((ps.getD j PM0).a) ((ps.getD j PM0).W.length) ((ps.getD j PM0).cap)]) (by kernel_rfl) (by kernel_rfl) rfl (SlE.getN (g_.keepOwN hb_204).sl encPM_len PM0 j 0 (by omega) rfl)) ?_
                  have hb_205 : Rings (ownR row who) row.length n w_200 w.heap.size ms (fun _ => t + 1) (fun k => if (k + n - 1) % n < j then t + 1 else t) := (Rings.keep hr_196 (sm_201.ext []) (fun x_ hx_ => absurd hx_ List.not_mem_nil))
                  have hb_206 : Parts (ownR row who) row.length n t ms w_200 ps pa gp := (Parts.keep hr_198 (Ext.then (Ext.refl [] _) (sm_201.ext []) (fun _ h_ => absurd h_ List.not_mem_nil)) (fun _ _ _ _ => List.not_mem_nil))
                  have hq_209 : (((j + 1) % n) + n - 1) % n = j := by rw [pred_eq (by omega) (Nat.mod_lt _ (by omega)), md (by omega)]; (repeat' split) <;> omega
                  have hql_ : ((j + 1) % n) < n := Nat.mod_lt _ (by omega)
                  have hst_207 : St (ownR row who) row.length n ((j + 1) % n) (t + 1) t w_200 (ms.getD ((j + 1) % n) RM0) := by have h_ := Rings.st hb_205 ((j + 1) % n) (by omega); simpa [hq_209] using h_
                  have hpp_208 := hb_206 j (by omega)
                  refine wk_call (show opD uR4w2_30 11 = some (some 118, .call ⟨.value (.func 10), #[.tmp 113, .tmp 117], #[27, 37]⟩, 28, none) from by kernel_rfl) (by kernel_rfl) 10 #[.pointer (some ⟨(ms.getD ((j + 1) % n) RM0).r, 0, none⟩), .agg #[.int .i64 (((ps.getD j PM0).k : Nat) : Int), .int .i64 (((ps.getD j PM0).c : Nat) : Int), .slice ((ps.getD j PM0).a) ((ps.getD j PM0).W.length) ((ps.getD j PM0).cap)]] (x_call Try.func10 (by kernel_rfl) (c := (Try.f10.body).getD .skip) (by kernel_rfl) (by kernel_rfl) (by kernel_rfl)) (get_p hst_207 (by omega) (by omega) (by omega) hq_209 hpp_208.1 (hpp_208.1.ap.imp id (fun h_ => (h_.1 ((j + 1) % n) (by omega)).2.1)) (fun w_210 e_211 hS_212 => ⟨?_, ?_⟩))
                  · exact trivial
                  have hsz_215 : w_200.heap.size ≤ w_210.heap.size := e_211.size
                  have hRS_213 : Rings (ownR row who) row.length n w_210 w.heap.size ms (setAt (fun _ => t + 1) ((j + 1) % n) (t + 1)) (setAt (fun k => if (k + n - 1) % n < j then t + 1 else t) ((j + 1) % n) (t + 1)) := Rings.step hb_205 (by omega) e_211 (by intro x_ hx_; simpa only [List.mem_cons, List.not_mem_nil, or_false] using hx_) hS_212
                  have hP_214 : Parts (ownR row who) row.length n t ms w_210 ps pa gp := Parts.keep hb_206 e_211 (by intro b_ _ ap_ _ hm_; simp only [List.mem_cons, List.not_mem_nil, or_false] at hm_; have := ap_ ((j + 1) % n) (by omega); omega)
                  refine wk_pure (show opD uR4w2_30 12 = some (some 119, .binOp .neq 28 (.tmp 118) (.const (.int .i64 0)) 28, 4, none) from by kernel_rfl) (by kernel_rfl) (.bool false) (fun _ => y_neq (k := .i64) (a := 0) (b := 0) (by kernel_rfl) (by kernel_rfl) (by decide)) ?_
                  refine wk_nil ?_
                  refine thn_n ?_
                  refine g_cond_f (o := .tmp 119) (x := uN4w2_103) (y := uN4w2_104) (by kernel_rfl) (by kernel_rfl) ?_
                  refine g_skip (by kernel_rfl) ?_
                  refine blk_n ?_
                  refine thn_n ?_
                  refine g_region (ops := uR4w2_29) (id := 29) (by kernel_rfl) [(0, .pure), (1, .pure), (2, .pure)] (by kernel_rfl) (by kernel_rfl) ?_
                  refine wk_pure (show opD uR4w2_29 0 = some (some 105, .move (.tmp 17), 3, none) from by kernel_rfl) (by kernel_rfl) (.int .i64 ((j : Nat) : Int)) (fun _ => y_move (Eq.trans (by kernel_rfl) f_194)) ?_
                  refine wk_pure (show opD uR4w2_29 1 = some (some 106, .binOp .add 3 (.tmp 105) (.const (.int .i64 1)) 3, 3, none) from by kernel_rfl) (by kernel_rfl) (.int .i64 ((j + 1 : Nat) : Int)) (fun _ => y_add (k := .i64) (a := ((j : Nat) : Int)) (b := 1) (by kernel_rfl) (by kernel_rfl) (i64_to (by omega) (by omega))) ?_
                  refine wk_pure (show opD uR4w2_29 2 = some (some 17, .assign (.tmp 106), 3, none) from by kernel_rfl) (by kernel_rfl) (.int .i64 ((j + 1 : Nat) : Int)) (fun _ => y_assign (by kernel_rfl)) ?_
                  refine wk_nil ?_
                  refine thn_n ?_
                  have hb_216 : OwN w_210 27 1 ra gr rc encR ms rrest := (e_211.keepOwN hb_203 (.inr (by intro hm_; simp only [List.mem_cons, List.not_mem_nil, or_false] at hm_; have ap_ := hgr2.2.2 ((j + 1) % n) (by omega); omega)))
                  have hb_217 : OwN w_210 37 3 pa gp pc encPM ps prest := (e_211.keepOwN hb_204 (hgp.imp id (fun h_ => (by intro hm_; simp only [List.mem_cons, List.not_mem_nil, or_false] at hm_; have ap_ := h_.2.2.2 ((j + 1) % n) (by omega); omega))))
                  exact ⟨_, (by omega), ⟨(j + 1), rfl, by omega, (Eq.trans (by kernel_rfl) f_180), (Eq.trans (by kernel_rfl) f_181), (Eq.trans (by kernel_rfl) f_182), (Eq.trans (by kernel_rfl) f_183), (Eq.trans (by kernel_rfl) f_184), (Eq.trans (by kernel_rfl) f_185), (Eq.trans (by kernel_rfl) f_186), (Eq.trans (by kernel_rfl) f_187), (Eq.trans (by kernel_rfl) f_188), (Eq.trans (by kernel_rfl) f_189), (Eq.trans (by kernel_rfl) f_190), (Eq.trans (by kernel_rfl) f_191), (Eq.trans (by kernel_rfl) f_192), (Eq.trans (by kernel_rfl) f_193), (by kernel_rfl), hb_216, (Rings.congr hRS_213 (by intro j_ hj_; refine ⟨?_, took_step (by omega) (by omega) (by omega)⟩; simp only [setAt]; split <;> rfl)), hb_217, hP_214, (by omega), (Ext.then (Ext.then (Ext.then (Ext.refl [] _) hE_179 (fun _ h_ => absurd h_ List.not_mem_nil)) (sm_201.ext []) (fun _ h_ => absurd h_ List.not_mem_nil)) e_211 (by intro x_ hx_ hl_; simp only [List.mem_cons, List.not_mem_nil, or_false] at hx_; have lo_ := Rings.lo hb_205 ((j + 1) % n) (by omega); omega))⟩⟩
                · refine wk_pure (show opD uR4w2_28 2 = some (some 104, .binOp .lss 3 (.tmp 102) (.tmp 103) 3, 4, none) from by kernel_rfl) (by kernel_rfl) (.bool false) (fun _ => y_lss (k := .i64) (a := ((j : Nat) : Int)) (b := ((n : Nat) : Int)) (by kernel_rfl) (by kernel_rfl) (decide_eq_false h_199)) ?_
                  refine wk_nil ?_
                  refine thn_n ?_
                  refine g_cond_f (o := .tmp 104) (x := uN4w2_96) (y := uN4w2_97) (by kernel_rfl) (by kernel_rfl) ?_
                  refine g_exit (id := 6) (by kernel_rfl) ?_
                  refine thn_e ?_
                  refine thn_e ?_
                  refine blk_hit ?_
                  refine blk_n ?_
                  refine thn_n ?_
                  refine g_region (ops := uR4w2_18) (id := 18) (by kernel_rfl) [(0, .pure), (1, .pure), (2, .pure)] (by kernel_rfl) (by kernel_rfl) ?_
                  refine wk_pure (show opD uR4w2_18 0 = some (some 75, .move (.tmp 12), 3, none) from by kernel_rfl) (by kernel_rfl) (.int .i64 ((t : Nat) : Int)) (fun _ => y_move (Eq.trans (by kernel_rfl) f_183)) ?_
                  refine wk_pure (show opD uR4w2_18 1 = some (some 76, .binOp .add 3 (.tmp 75) (.const (.int .i64 1)) 3, 3, none) from by kernel_rfl) (by kernel_rfl) (.int .i64 ((t + 1 : Nat) : Int)) (fun _ => y_add (k := .i64) (a := ((t : Nat) : Int)) (b := 1) (by kernel_rfl) (by kernel_rfl) (i64_to (by omega) (by omega))) ?_
                  refine wk_pure (show opD uR4w2_18 2 = some (some 12, .assign (.tmp 76), 3, none) from by kernel_rfl) (by kernel_rfl) (.int .i64 ((t + 1 : Nat) : Int)) (fun _ => y_assign (by kernel_rfl)) ?_
                  refine wk_nil ?_
                  refine thn_n ?_
                  exact ⟨_, (by omega), ⟨(t + 1), rfl, by omega, (Eq.trans (by kernel_rfl) f_180), (Eq.trans (by kernel_rfl) f_181), (Eq.trans (by kernel_rfl) f_182), (by kernel_rfl), hr_195, (Rings.congr hr_196 (by intro j_ hj_; have := Nat.mod_lt (j_ + n - 1) (show 0 < n by omega); exact ⟨rfl, if_pos (by omega)⟩)), (by omega), (Ext.then (Ext.refl [] _) hE_179 (fun _ h_ => absurd h_ List.not_mem_nil))⟩⟩
        · refine wk_pure (show opD uR4w2_17 4 = some (some 74, .binOp .lss 3 (.tmp 70) (.tmp 73) 3, 4, none) from by kernel_rfl) (by kernel_rfl) (.bool false) (fun _ => y_lss (k := .i64) (a := ((t : Nat) : Int)) (b := (((2 * n : Nat) : Int) - 2)) (by kernel_rfl) (by kernel_rfl) (decide_eq_false h_100)) ?_
          refine wk_nil ?_
          refine thn_n ?_
          refine g_cond_f (o := .tmp 74) (x := uN4w2_58) (y := uN4w2_59) (by kernel_rfl) (by kernel_rfl) ?_
          refine g_exit (id := 2) (by kernel_rfl) ?_
          refine thn_e ?_
          refine thn_e ?_
          refine blk_hit ?_
          refine thn_n ?_
          refine g_seq (x := uN4w2_105) (y := uN4w2_106) (by kernel_rfl) ?_
          refine g_seq (x := uN4w2_107) (y := uN4w2_108) (by kernel_rfl) ?_
          refine g_region (ops := uR4w2_32) (id := 32) (by kernel_rfl) [(0, .pure)] (by kernel_rfl) (by kernel_rfl) ?_
          refine wk_pure (show opD uR4w2_32 0 = some (some 18, .assign (.const (.int .i64 0)), 3, none) from by kernel_rfl) (by kernel_rfl) (.int .i64 0) (fun _ => y_assign (by kernel_rfl)) ?_
          refine wk_nil ?_
          refine thn_n ?_
          refine g_block (x := uN4w2_109) (id := 8) (by kernel_rfl) ?_
          refine g_loop (x := uN4w2_110) (by kernel_rfl) (fun m_ ρ_ w_ => ∃ (q : Nat), m_ = n - q ∧ (q ≤ n) ∧ ρ_ 0 = .int .i64 ((n : Nat) : Int) ∧ ρ_ 2 = .slice a row.length c ∧ ρ_ 7 = .slice ra ms.length rc ∧ ρ_ 18 = .int .i64 ((q : Nat) : Int) ∧ OwN w_ 27 1 ra gr rc encR ms rrest ∧ Rings (ownR row who) row.length n w_ w.heap.size ms (fun _ => 2 * n - 2) (fun _ => 2 * n - 2) ∧ (gr < w_.heap.size) ∧ Ext [] w w_) (n - 0) ?_ ?_
          · exact ⟨0, rfl, by omega, (Eq.trans (by kernel_rfl) f_94), (Eq.trans (by kernel_rfl) f_95), (Eq.trans (by kernel_rfl) f_96), (by kernel_rfl), hr_98, (Rings.congr hr_99 (by intro j_ hj_; constructor <;> omega)), (by omega), (Ext.then (Ext.refl [] _) hE_93 (fun _ h_ => absurd h_ List.not_mem_nil))⟩
          · intro m_218 ρ_219 w_220 hI
            obtain ⟨q, hm_m_218, hq, f_222, f_223, f_224, f_225, hr_226, hr_227, hgl, hE_221⟩ := hI
            have hs_w_220 := hE_221.size
            refine g_seq (x := uN4w2_111) (y := uN4w2_112) (by kernel_rfl) ?_
            refine g_seq (x := uN4w2_113) (y := uN4w2_114) (by kernel_rfl) ?_
            refine g_region (ops := uR4w2_33) (id := 33) (by kernel_rfl) [(0, .pure), (1, .pure), (2, .pure)] (by kernel_rfl) (by kernel_rfl) ?_
            refine wk_pure (show opD uR4w2_33 0 = some (some 120, .move (.tmp 18), 3, none) from by kernel_rfl) (by kernel_rfl) (.int .i64 ((q : Nat) : Int)) (fun _ => y_move (Eq.trans (by kernel_rfl) f_225)) ?_
            refine wk_pure (show opD uR4w2_33 1 = some (some 121, .move (.tmp 0), 3, none) from by kernel_rfl) (by kernel_rfl) (.int .i64 ((n : Nat) : Int)) (fun _ => y_move (Eq.trans (by kernel_rfl) f_222)) ?_
            by_cases h_228 : (((q : Nat) : Int) : Int) < ((n : Nat) : Int)
            · refine wk_pure (show opD uR4w2_33 2 = some (some 122, .binOp .lss 3 (.tmp 120) (.tmp 121) 3, 4, none) from by kernel_rfl) (by kernel_rfl) (.bool true) (fun _ => y_lss (k := .i64) (a := ((q : Nat) : Int)) (b := ((n : Nat) : Int)) (by kernel_rfl) (by kernel_rfl) (decide_eq_true h_228)) ?_
              refine wk_nil ?_
              refine thn_n ?_
              refine g_cond_t (o := .tmp 122) (x := uN4w2_115) (y := uN4w2_116) (by kernel_rfl) (by kernel_rfl) ?_
              refine g_skip (by kernel_rfl) ?_
              refine thn_n ?_
              refine g_seq (x := uN4w2_117) (y := uN4w2_118) (by kernel_rfl) ?_
              refine g_block (x := uN4w2_119) (id := 9) (by kernel_rfl) ?_
              refine g_seq (x := uN4w2_120) (y := uN4w2_121) (by kernel_rfl) ?_
              refine g_region (ops := uR4w2_35) (id := 35) (by kernel_rfl) [(0, .pure), (1, .pure), (2, .pure), (3, .loud), (4, .loud), (5, .pure), (6, .pure), (7, .pure), (8, .pure), (9, .pure)] (by kernel_rfl) (by kernel_rfl) ?_
              refine wk_pure (show opD uR4w2_35 0 = some (some 126, .move (.tmp 7), 26, none) from by kernel_rfl) (by kernel_rfl) (.slice ra ms.length rc) (fun _ => y_move (Eq.trans (by kernel_rfl) f_224)) ?_
              refine wk_pure (show opD uR4w2_35 1 = some (some 127, .move (.tmp 18), 3, none) from by kernel_rfl) (by kernel_rfl) (.int .i64 ((q : Nat) : Int)) (fun _ => y_move (Eq.trans (by kernel_rfl) f_225)) ?_
              refine wk_pure (show opD uR4w2_35 2 = some (some 128, .indexAddr 26 (.tmp 126) (.tmp 127), 0, none) from by kernel_rfl) (by kernel_rfl) (.pointer (some ⟨gr, 0 + (q * 1 + 0), none⟩)) (fun _ => y_ptr (x_indexN (a := ra) (b := gr) (off := 0) (n := ms.length) (c := rc) (k := .i64) (i := ((q : Nat) : Int)) (e := 27) (sz := 1) (sz' := 1) (by kernel_rfl) hr_226.sl (by kernel_rfl) (by kernel_rfl) rfl (by omega) _) (by omega)) ?_
              refine wk_val (show opD uR4w2_35 3 = some (some 129, .load 27 (.tmp 128), 27, none) from by kernel_rfl) (by kernel_rfl) (.pointer (some ⟨(ms.getD q RM0).r, 0, none⟩)) (x_load_c (b := gr) (off := (0 + (q * 1 + 0))) (by kernel_rfl) (by kernel_rfl) (SlE.get hr_226.sl encR_len RM0 q 0 (by omega) rfl)) trivial ?_
              have hst_229 : St (ownR row who) row.length n q (2 * n - 2) (2 * n - 2) w_220 (ms.getD q RM0) := by have h_ := Rings.st hr_227 q (by omega); simpa using h_
              refine wk_call (show opD uR4w2_35 4 = some (some 130, .call ⟨.value (.func 11), #[.tmp 129], #[27]⟩, 42, none) from by kernel_rfl) (by kernel_rfl) 11 #[.pointer (some ⟨(ms.getD q RM0).r, 0, none⟩)] (x_call Try.func11 (by kernel_rfl) (c := (Try.f11.body).getD .skip) (by kernel_rfl) (by kernel_rfl) (by kernel_rfl)) (sum_s hst_229 (fun w_230 a_231 g_232 c_233 rest_234 L_235 e_236 hO_237 hg_238 hl_239 hv_240 => ⟨?_, ?_⟩))
              · exact trivial
              have hsz_241 : w_220.heap.size ≤ w_230.heap.size := e_236.size
              have hL_242 : row = L_235 := rows_sum hv_240 h1 h3 (by omega) hin
              subst hL_242
              refine wk_pure (show opD uR4w2_35 5 = some (some 125, .move (.tmp 130), 42, none) from by kernel_rfl) (by kernel_rfl) (.tuple #[.slice a_231 row.length c_233, .bool true]) (fun _ => y_move (by kernel_rfl)) ?_
              refine wk_pure (show opD uR4w2_35 6 = some (some 131, .extract (.tmp 125) 0, 25, none) from by kernel_rfl) (by kernel_rfl) (.slice a_231 row.length c_233) (fun _ => x_extract (vs := #[.slice a_231 row.length c_233, .bool true]) (by kernel_rfl) (by kernel_rfl)) ?_
              refine wk_pure (show opD uR4w2_35 7 = some (some 132, .extract (.tmp 125) 1, 4, none) from by kernel_rfl) (by kernel_rfl) (.bool true) (fun _ => x_extract (vs := #[.slice a_231 row.length c_233, .bool true]) (by kernel_rfl) (by kernel_rfl)) ?_
              refine wk_pure (show opD uR4w2_35 8 = some (some 19, .assign (.tmp 131), 25, none) from by kernel_rfl) (by kernel_rfl) (.slice a_231 row.length c_233) (fun _ => y_assign (by kernel_rfl)) ?_
              refine wk_pure (show opD uR4w2_35 9 = some (some 20, .assign (.tmp 132), 4, none) from by kernel_rfl) (by kernel_rfl) (.bool true) (fun _ => y_assign (by kernel_rfl)) ?_
              refine wk_nil ?_
              refine thn_n ?_
              refine g_seq (x := uN4w2_122) (y := uN4w2_123) (by kernel_rfl) ?_
              refine g_region (ops := uR4w2_36) (id := 36) (by kernel_rfl) [(0, .pure), (1, .pure), (2, .pure), (3, .loud), (4, .loud), (5, .pure), (6, .pure), (7, .pure), (8, .loud), (9, .loud), (10, .pure)] (by kernel_rfl) (by kernel_rfl) ?_
              refine wk_pure (show opD uR4w2_36 0 = some (some 134, .move (.tmp 7), 26, none) from by kernel_rfl) (by kernel_rfl) (.slice ra ms.length rc) (fun _ => y_move (Eq.trans (by kernel_rfl) f_224)) ?_
              refine wk_pure (show opD uR4w2_36 1 = some (some 135, .move (.tmp 18), 3, none) from by kernel_rfl) (by kernel_rfl) (.int .i64 ((q : Nat) : Int)) (fun _ => y_move (Eq.trans (by kernel_rfl) f_225)) ?_
              have hb_243 : OwN w_230 27 1 ra gr rc encR ms rrest := (e_236.keepOwN hr_226 (.inr List.not_mem_nil))
              refine wk_pure (show opD uR4w2_36 2 = some (some 136, .indexAddr 26 (.tmp 134) (.tmp 135), 0, none) from by kernel_rfl) (by kernel_rfl) (.pointer (some ⟨gr, 0 + (q * 1 + 0), none⟩)) (fun _ => y_ptr (x_indexN (a := ra) (b := gr) (off := 0) (n := ms.length) (c := rc) (k := .i64) (i := ((q : Nat) : Int)) (e := 27) (sz := 1) (sz' := 1) (by kernel_rfl) hb_243.sl (by kernel_rfl) (by kernel_rfl) rfl (by omega) _) (by omega)) ?_
              refine wk_val (show opD uR4w2_36 3 = some (some 137, .load 27 (.tmp 136), 27, none) from by kernel_rfl) (by kernel_rfl) (.pointer (some ⟨(ms.getD q RM0).r, 0, none⟩)) (x_load_c (b := gr) (off := (0 + (q * 1 + 0))) (by kernel_rfl) (by kernel_rfl) (SlE.get hb_243.sl encR_len RM0 q 0 (by omega) rfl)) trivial ?_
              have hb_244 : Rings (ownR row who) row.length n w_230 w.heap.size ms (fun _ => 2 * n - 2) (fun _ => 2 * n - 2) := (Rings.keep hr_227 e_236 (fun x_ hx_ => absurd hx_ List.not_mem_nil))
              have hst_245 : St (ownR row who) row.length n q (2 * n - 2) (2 * n - 2) w_230 (ms.getD q RM0) := by have h_ := Rings.st hb_244 q (by omega); simpa using h_
              refine wk_call (show opD uR4w2_36 4 = some (some 138, .call ⟨.value (.func 9), #[.tmp 137], #[27]⟩, 38, none) from by kernel_rfl) (by kernel_rfl) 9 #[.pointer (some ⟨(ms.getD q RM0).r, 0, none⟩)] (x_call Try.func9 (by kernel_rfl) (c := (Try.f9.body).getD .skip) (by kernel_rfl) (by kernel_rfl) (by kernel_rfl)) (outno_s hst_245 (.inr ⟨rfl, rfl⟩) (fun w_246 e_247 => ⟨?_, ?_⟩))
              · exact trivial
              have hsz_248 : w_230.heap.size ≤ w_246.heap.size := e_247.size
              refine wk_pure (show opD uR4w2_36 5 = some (some 133, .move (.tmp 138), 38, none) from by kernel_rfl) (by kernel_rfl) (.tuple #[.agg #[.int .i64 0, .int .i64 0, .slice none 0 0], .bool false]) (fun _ => y_move (by kernel_rfl)) ?_
              refine wk_pure (show opD uR4w2_36 6 = some (some 139, .extract (.tmp 133) 0, 37, none) from by kernel_rfl) (by kernel_rfl) (.agg #[.int .i64 0, .int .i64 0, .slice none 0 0]) (fun _ => x_extract (vs := #[.agg #[.int .i64 0, .int .i64 0, .slice none 0 0], .bool false]) (by kernel_rfl) (by kernel_rfl)) ?_
              refine wk_pure (show opD uR4w2_36 7 = some (some 140, .extract (.tmp 133) 1, 4, none) from by kernel_rfl) (by kernel_rfl) (.bool false) (fun _ => x_extract (vs := #[.agg #[.int .i64 0, .int .i64 0, .slice none 0 0], .bool false]) (by kernel_rfl) (by kernel_rfl)) ?_
              refine wk_alloc (z := #[.int .i64 0, .int .i64 0, .slice none 0 0]) (show opD uR4w2_36 8 = some (some 21, .alloc 37, 0, none) from by kernel_rfl) (by kernel_rfl) (by kernel_rfl) (fun w_250 b_249 eq_252 e_251 sz_253 hb_254 => ⟨?_, ?_⟩)
              · exact trivial
              have ap_255 : Apart ms b_249 := Rings.apart_new hb_244 (by omega)
              refine wk_store (b := b_249) (off := 0) (cs' := #[.int .i64 0, .int .i64 0, .slice none 0 0]) (vs := #[.int .i64 0, .int .i64 0, .slice none 0 0]) (show opD uR4w2_36 9 = some (none, .store 37 (.tmp 21) (.tmp 139), 0, none) from by kernel_rfl) (by kernel_rfl) (by kernel_rfl) (by kernel_rfl) (by kernel_rfl) (by kernel_rfl) hb_254 (Nat.le_of_ble_eq_true rfl) (by kernel_rfl) (by kernel_rfl) (fun w_256 e_257 sz_258 hb_259 => ⟨?_, ?_⟩)
              · exact trivial
              refine wk_pure (show opD uR4w2_36 10 = some (some 22, .assign (.tmp 140), 4, none) from by kernel_rfl) (by kernel_rfl) (.bool false) (fun _ => y_assign (by kernel_rfl)) ?_
              refine wk_nil ?_
              refine thn_n ?_
              refine g_seq (x := uN4w2_124) (y := uN4w2_125) (by kernel_rfl) ?_
              refine g_region (ops := uR4w2_37) (id := 37) (by kernel_rfl) [(0, .pure), (1, .pure), (2, .pure), (3, .pure), (4, .pure), (5, .pure), (6, .pure), (7, .pure), (8, .pure), (9, .loud), (10, .loud), (11, .pure), (12, .pure), (13, .pure), (14, .pure), (15, .pure), (16, .loud), (17, .pure), (18, .pure)] (by kernel_rfl) (by kernel_rfl) ?_
              refine wk_pure (show opD uR4w2_37 0 = some (some 141, .move (.tmp 20), 4, none) from by kernel_rfl) (by kernel_rfl) (.bool true) (fun _ => y_move (by kernel_rfl)) ?_
              refine wk_pure (show opD uR4w2_37 1 = some (some 142, .unOp .not 4 (.tmp 141), 4, none) from by kernel_rfl) (by kernel_rfl) (.bool false) (fun _ => y_not (p := true) (by kernel_rfl) rfl) ?_
              refine wk_pure (show opD uR4w2_37 2 = some (some 143, .move (.tmp 142), 4, none) from by kernel_rfl) (by kernel_rfl) (.bool false) (fun _ => y_move (by kernel_rfl)) ?_
              refine wk_pure (show opD uR4w2_37 3 = some (some 144, .move (.tmp 22), 4, some (2, false)) from by kernel_rfl) (by kernel_rfl) (.bool false) (fun _ => y_move (by kernel_rfl)) ?_
              refine wk_pure (show opD uR4w2_37 4 = some (some 145, .pick (.tmp 143) (.const (.bool true)) (.tmp 144), 4, none) from by kernel_rfl) (by kernel_rfl) (.bool false) (fun _ => y_pick_f (by kernel_rfl) (by kernel_rfl)) ?_
              refine wk_pure (show opD uR4w2_37 5 = some (some 146, .move (.tmp 145), 4, none) from by kernel_rfl) (by kernel_rfl) (.bool false) (fun _ => y_move (by kernel_rfl)) ?_
              refine wk_pure (show opD uR4w2_37 6 = some (some 147, .move (.tmp 7), 26, some (5, false)) from by kernel_rfl) (by kernel_rfl) (.slice ra ms.length rc) (fun _ => y_move (Eq.trans (by kernel_rfl) f_224)) ?_
              refine wk_pure (show opD uR4w2_37 7 = some (some 148, .move (.tmp 18), 3, some (5, false)) from by kernel_rfl) (by kernel_rfl) (.int .i64 ((q : Nat) : Int)) (fun _ => y_move (Eq.trans (by kernel_rfl) f_225)) ?_
              have hb_260 : OwN w_256 27 1 ra gr rc encR ms rrest := (e_257.keepOwN (e_251.keepOwN (e_247.keepOwN hb_243 (.inr List.not_mem_nil)) (.inr List.not_mem_nil)) (.inr (by simp only [List.mem_cons, List.not_mem_nil, or_false]; omega)))
              refine wk_pure (show opD uR4w2_37 8 = some (some 149, .indexAddr 26 (.tmp 147) (.tmp 148), 0, some (5, false)) from by kernel_rfl) (by kernel_rfl) (.pointer (some ⟨gr, 0 + (q * 1 + 0), none⟩)) (fun _ => y_ptr (x_indexN (a := ra) (b := gr) (off := 0) (n := ms.length) (c := rc) (k := .i64) (i := ((q : Nat) : Int)) (e := 27) (sz := 1) (sz' := 1) (by kernel_rfl) hb_260.sl (by kernel_rfl) (by kernel_rfl) rfl (by omega) _) (by omega)) ?_
              refine wk_val (show opD uR4w2_37 9 = some (some 150, .load 27 (.tmp 149), 27, some (5, false)) from by kernel_rfl) (by kernel_rfl) (.pointer (some ⟨(ms.getD q RM0).r, 0, none⟩)) (x_load_c (b := gr) (off := (0 + (q * 1 + 0))) (by kernel_rfl) (by kernel_rfl) (SlE.get hb_260.sl encR_len RM0 q 0 (by omega) rfl)) trivial ?_
              have hb_261 : Rings (ownR row who) row.length n w_256 w.heap.size ms (fun _ => 2 * n - 2) (fun _ => 2 * n - 2) := (Rings.keep (Rings.keep (Rings.keep hb_244 e_247 (fun x_ hx_ => absurd hx_ List.not_mem_nil)) e_251 (fun x_ hx_ => absurd hx_ List.not_mem_nil)) e_257 (by intro x_ hx_; simp only [List.mem_cons, List.not_mem_nil, or_false] at hx_; subst hx_; exact ap_255))
              have hst_262 : St (ownR row who) row.length n q (2 * n - 2) (2 * n - 2) w_256 (ms.getD q RM0) := by have h_ := Rings.st hb_261 q (by omega); simpa using h_
              refine wk_call (show opD uR4w2_37 10 = some (some 151, .call ⟨.value (.func 13), #[.tmp 150], #[27]⟩, 4, some (5, false)) from by kernel_rfl) (by kernel_rfl) 13 #[.pointer (some ⟨(ms.getD q RM0).r, 0, none⟩)] (x_call Try.func13 (by kernel_rfl) (c := (Try.f13.body).getD .skip) (by kernel_rfl) (by kernel_rfl) (by kernel_rfl)) (done_s hst_262 (fun w_263 e_264 => ⟨?_, ?_⟩))
              · exact trivial
              have hsz_265 : w_263.heap.size = w_256.heap.size := by rw [e_264.heap]
              refine wk_pure (show opD uR4w2_37 11 = some (some 152, .unOp .not 4 (.tmp 151), 4, some (5, false)) from by kernel_rfl) (by kernel_rfl) (.bool false) (fun _ => y_not (p := true) (by kernel_rfl) rfl) ?_
              refine wk_pure (show opD uR4w2_37 12 = some (some 153, .pick (.tmp 146) (.const (.bool true)) (.tmp 152), 4, none) from by kernel_rfl) (by kernel_rfl) (.bool false) (fun _ => y_pick_f (by kernel_rfl) (by kernel_rfl)) ?_
              refine wk_pure (show opD uR4w2_37 13 = some (some 154, .move (.tmp 153), 4, none) from by kernel_rfl) (by kernel_rfl) (.bool false) (fun _ => y_move (by kernel_rfl)) ?_
              refine wk_pure (show opD uR4w2_37 14 = some (some 155, .move (.tmp 19), 25, some (13, false)) from by kernel_rfl) (by kernel_rfl) (.slice a_231 row.length c_233) (fun _ => y_move (by kernel_rfl)) ?_
              refine wk_pure (show opD uR4w2_37 15 = some (some 156, .move (.tmp 2), 25, some (13, false)) from by kernel_rfl) (by kernel_rfl) (.slice a row.length c) (fun _ => y_move (Eq.trans (by kernel_rfl) f_223)) ?_
              have hb_266 : OwO w_263 33 2 a_231 g_232 c_233 encW row rest_234 := (e_264.keepOwO (e_257.keepOwP (e_251.keepOwP (e_247.keepOwP hO_237 (hg_238.imp id (fun h_ => List.not_mem_nil))) (hg_238.imp id (fun h_ => List.not_mem_nil))) (hg_238.imp id (fun h_ => (by simp only [List.mem_cons, List.not_mem_nil, or_false]; omega)))))
              have hb_267 : SlE w_263 2 a b0 off encW row := (e_264.keepSl (e_257.keepSlP (e_251.keepSlP (e_247.keepSlP (e_236.keepSlP (hE_221.keepSlP hs (hb0.imp id (fun h_ => List.not_mem_nil))) (hb0.imp id (fun h_ => List.not_mem_nil))) (hb0.imp id (fun h_ => List.not_mem_nil))) (hb0.imp id (fun h_ => List.not_mem_nil))) (hb0.imp id (fun h_ => (by simp only [List.mem_cons, List.not_mem_nil, or_false]; omega)))))
              refine wk_call (show opD uR4w2_37 16 = some (some 157, .call ⟨.value (.func 12), #[.tmp 155, .tmp 156], #[25, 25]⟩, 4, some (13, false)) from by kernel_rfl) (by kernel_rfl) 12 #[.slice a_231 row.length c_233, .slice a row.length c] (x_call Try.func12 (by kernel_rfl) (c := (Try.f12.body).getD .skip) (by kernel_rfl) (by kernel_rfl) (by kernel_rfl)) (wides_c (L := row) (M := row) hb_266.sl hb_267 (by omega) (fun w_268 t_269 sm_270 ht_271 => ⟨?_, ?_⟩))
              · exact trivial
              have hsz_272 : w_268.heap.size = w_263.heap.size := by rw [sm_270.heap]
              obtain rfl : t_269 = true := ht_271.trans (decide_eq_true rfl)
              refine wk_pure (show opD uR4w2_37 17 = some (some 158, .unOp .not 4 (.tmp 157), 4, some (13, false)) from by kernel_rfl) (by kernel_rfl) (.bool false) (fun _ => y_not (p := true) (by kernel_rfl) rfl) ?_
              refine wk_pure (show opD uR4w2_37 18 = some (some 159, .pick (.tmp 154) (.const (.bool true)) (.tmp 158), 4, none) from by kernel_rfl) (by kernel_rfl) (.bool false) (fun _ => y_pick_f (by kernel_rfl) (by kernel_rfl)) ?_
              refine wk_nil ?_
              refine thn_n ?_
              refine g_cond_f (o := .tmp 159) (x := uN4w2_126) (y := uN4w2_127) (by kernel_rfl) (by kernel_rfl) ?_
              refine g_skip (by kernel_rfl) ?_
              refine blk_n ?_
              refine thn_n ?_
              refine g_region (ops := uR4w2_34) (id := 34) (by kernel_rfl) [(0, .pure), (1, .pure), (2, .pure)] (by kernel_rfl) (by kernel_rfl) ?_
              refine wk_pure (show opD uR4w2_34 0 = some (some 123, .move (.tmp 18), 3, none) from by kernel_rfl) (by kernel_rfl) (.int .i64 ((q : Nat) : Int)) (fun _ => y_move (Eq.trans (by kernel_rfl) f_225)) ?_
              refine wk_pure (show opD uR4w2_34 1 = some (some 124, .binOp .add 3 (.tmp 123) (.const (.int .i64 1)) 3, 3, none) from by kernel_rfl) (by kernel_rfl) (.int .i64 ((q + 1 : Nat) : Int)) (fun _ => y_add (k := .i64) (a := ((q : Nat) : Int)) (b := 1) (by kernel_rfl) (by kernel_rfl) (i64_to (by omega) (by omega))) ?_
              refine wk_pure (show opD uR4w2_34 2 = some (some 18, .assign (.tmp 124), 3, none) from by kernel_rfl) (by kernel_rfl) (.int .i64 ((q + 1 : Nat) : Int)) (fun _ => y_assign (by kernel_rfl)) ?_
              refine wk_nil ?_
              refine thn_n ?_
              have hb_273 : OwN w_268 27 1 ra gr rc encR ms rrest := (sm_270.keepOwN (e_264.keepOwN hb_260))
              have hb_274 : Rings (ownR row who) row.length n w_268 w.heap.size ms (fun _ => 2 * n - 2) (fun _ => 2 * n - 2) := (Rings.keep (Rings.keep hb_261 (e_264.ext []) (fun x_ hx_ => absurd hx_ List.not_mem_nil)) (sm_270.ext []) (fun x_ hx_ => absurd hx_ List.not_mem_nil))
              exact ⟨_, (by omega), ⟨(q + 1), rfl, by omega, (Eq.trans (by kernel_rfl) f_222), (Eq.trans (by kernel_rfl) f_223), (Eq.trans (by kernel_rfl) f_224), (by kernel_rfl), hb_273, hb_274, (by omega), (Ext.then (Ext.then (Ext.then (Ext.then (Ext.then (Ext.then (Ext.then (Ext.refl [] _) hE_221 (fun _ h_ => absurd h_ List.not_mem_nil)) e_236 (fun _ h_ => absurd h_ List.not_mem_nil)) e_247 (fun _ h_ => absurd h_ List.not_mem_nil)) e_251 (fun _ h_ => absurd h_ List.not_mem_nil)) e_257 (by intro x_ hx_ hl_; simp only [List.mem_cons, List.not_mem_nil, or_false] at hx_ ⊢; omega)) (e_264.ext []) (fun _ h_ => absurd h_ List.not_mem_nil)) (sm_270.ext []) (fun _ h_ => absurd h_ List.not_mem_nil))⟩⟩
            · refine wk_pure (show opD uR4w2_33 2 = some (some 122, .binOp .lss 3 (.tmp 120) (.tmp 121) 3, 4, none) from by kernel_rfl) (by kernel_rfl) (.bool false) (fun _ => y_lss (k := .i64) (a := ((q : Nat) : Int)) (b := ((n : Nat) : Int)) (by kernel_rfl) (by kernel_rfl) (decide_eq_false h_228)) ?_
              refine wk_nil ?_
              refine thn_n ?_
              refine g_cond_f (o := .tmp 122) (x := uN4w2_115) (y := uN4w2_116) (by kernel_rfl) (by kernel_rfl) ?_
              refine g_exit (id := 8) (by kernel_rfl) ?_
              refine thn_e ?_
              refine thn_e ?_
              refine blk_hit ?_
              refine thn_n ?_
              refine g_seq (x := uN4w2_128) (y := uN4w2_129) (by kernel_rfl) ?_
              refine g_region (ops := uR4w2_39) (id := 39) (by kernel_rfl) [(0, .pure)] (by kernel_rfl) (by kernel_rfl) ?_
              refine wk_pure (show opD uR4w2_39 0 = some (some 6, .assign (.const (.bool true)), 4, none) from by kernel_rfl) (by kernel_rfl) (.bool true) (fun _ => y_assign (by kernel_rfl)) ?_
              refine wk_nil ?_
              refine thn_n ?_
              refine g_ret (by kernel_rfl) ?_
              refine ends1_r (v := .bool true) rfl (by kernel_rfl) ?_
              exact hK _ (Ext.then (Ext.refl [] _) hE_221 (fun _ h_ => absurd h_ List.not_mem_nil))

end Go.Proofs.Ytjdlgidacnphpaa
