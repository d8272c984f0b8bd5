/-
  Links: contracts of functions, step by step (K).
-/
import Derived.Test.YtpcdldakilkldaaLT
set_option linter.unusedSimpArgs false
set_option linter.unusedVariables false
namespace Go.Proofs.Ytpcdldakilkldaa
open Go Go.Wk

noncomputable def lKN3w1_0 : Code := (Try.f3.body).getD .skip
noncomputable def lKN3w1_1 : Code := s1 lKN3w1_0
noncomputable def lKN3w1_2 : Code := s2 lKN3w1_0
noncomputable def lKR3w1_0 : Array Oper := rops lKN3w1_1
noncomputable def lKN3w1_3 : Code := s1 lKN3w1_2
noncomputable def lKN3w1_4 : Code := s2 lKN3w1_2
noncomputable def lKN3w1_5 : Code := s1 lKN3w1_3
noncomputable def lKN3w1_6 : Code := s2 lKN3w1_3
noncomputable def lKR3w1_1 : Array Oper := rops lKN3w1_5
noncomputable def lKN3w1_7 : Code := s1 lKN3w1_6
noncomputable def lKN3w1_8 : Code := s2 lKN3w1_6
noncomputable def lKN3w1_9 : Code := s1 lKN3w1_4
noncomputable def lKN3w1_10 : Code := s2 lKN3w1_4
noncomputable def lKN3w1_11 : Code := s1 lKN3w1_9
noncomputable def lKN3w1_12 : Code := s2 lKN3w1_9
noncomputable def lKR3w1_3 : Array Oper := rops lKN3w1_11
noncomputable def lKN3w1_13 : Code := s1 lKN3w1_12
noncomputable def lKN3w1_14 : Code := s2 lKN3w1_12
noncomputable def lKN3w1_15 : Code := s1 lKN3w1_13
noncomputable def lKN3w1_16 : Code := s2 lKN3w1_13
noncomputable def lKR3w1_4 : Array Oper := rops lKN3w1_15
noncomputable def lKN3w1_17 : Code := s1 lKN3w1_10
noncomputable def lKN3w1_18 : Code := s2 lKN3w1_10
noncomputable def lKR3w1_5 : Array Oper := rops lKN3w1_17
noncomputable def lKN3w1_19 : Code := s1 lKN3w1_18
noncomputable def lKN3w1_20 : Code := s2 lKN3w1_18
noncomputable def lKN3w1_21 : Code := s1 lKN3w1_19
noncomputable def lKN3w1_22 : Code := s2 lKN3w1_19
noncomputable def lKR3w1_6 : Array Oper := rops lKN3w1_21
noncomputable def lKN3w1_23 : Code := s1 lKN3w1_22
set_option maxHeartbeats 1000000 in
theorem linkAgain_out {n u v : Int} {w : World} (hbad : ¬ (1 ≤ n ∧ n ≤ 32 ∧ 0 ≤ u ∧ u ≤ 100 ∧ 0 ≤ v ∧ v ≤ 100)) {K : Value → World → Prop} (hK : ∀ w', Ext [] w w' → K (.bool true) w') : CallsV Try.prog 3 #[.int .i64 n, .int .i64 u, .int .i64 v] w K := by
  refine callsV_of (c := lKN3w1_0) Try.func3 (by kernel_rfl) (n := 126) (by kernel_rfl) ?_
  refine g_seq (x := lKN3w1_1) (y := lKN3w1_2) (by kernel_rfl) ?_
  refine g_region (ops := lKR3w1_0) (id := 0) (by kernel_rfl) [(0, .pure)] (by kernel_rfl) (by kernel_rfl) ?_
  refine wk_pure (show opD lKR3w1_0 0 = some (some 6, .assign (.const (.bool false)), 4, none) from by kernel_rfl) (by kernel_rfl) (.bool false) (fun _ => y_assign (by kernel_rfl)) ?_
  refine wk_nil ?_
  refine thn_n ?_
  refine g_seq (x := lKN3w1_3) (y := lKN3w1_4) (by kernel_rfl) ?_
  refine g_seq (x := lKN3w1_5) (y := lKN3w1_6) (by kernel_rfl) ?_
  refine g_region (ops := lKR3w1_1) (id := 1) (by kernel_rfl) [(0, .loud), (1, .pure)] (by kernel_rfl) (by kernel_rfl) ?_
  refine wk_call (show opD lKR3w1_1 0 = some (some 14, .call ⟨.value (.func 7), #[], #[]⟩, 4, none) from by kernel_rfl) (by kernel_rfl) 7 #[] (x_call Try.func7 (by kernel_rfl) (c := (Try.f7.body).getD .skip) (by kernel_rfl) (by kernel_rfl) (by kernel_rfl)) (awake_c (fun w_1 e_2 => ⟨?_, ?_⟩))
  · exact trivial
  obtain ⟨γ_3, hg_4, hn_5⟩ := cls_new (fun _ => 0) w.heap.size 10301
  have gx_6 : GX [] w (fun _ => 0) w_1 γ_3 := GX.ext0 [] e_2 hg_4
  have hsz_7 : w.heap.size ≤ w_1.heap.size := e_2.size
  refine wk_pure (show opD lKR3w1_1 1 = some (some 15, .unOp .not 4 (.tmp 14), 4, none) from by kernel_rfl) (by kernel_rfl) (.bool false) (fun _ => y_not (p := true) (by kernel_rfl) rfl) ?_
  refine wk_nil ?_
  refine thn_n ?_
  refine g_cond_f (o := .tmp 15) (x := lKN3w1_7) (y := lKN3w1_8) (by kernel_rfl) (by kernel_rfl) ?_
  refine g_skip (by kernel_rfl) ?_
  refine thn_n ?_
  refine g_seq (x := lKN3w1_9) (y := lKN3w1_10) (by kernel_rfl) ?_
  refine g_seq (x := lKN3w1_11) (y := lKN3w1_12) (by kernel_rfl) ?_
  refine g_region (ops := lKR3w1_3) (id := 3) (by kernel_rfl) [(0, .pure), (1, .pure), (2, .pure), (3, .pure), (4, .pure), (5, .pure), (6, .pure), (7, .pure), (8, .pure), (9, .pure), (10, .pure), (11, .pure), (12, .pure), (13, .pure), (14, .pure), (15, .pure), (16, .pure), (17, .pure), (18, .pure), (19, .pure), (20, .pure), (21, .pure)] (by kernel_rfl) (by kernel_rfl) ?_
  refine wk_pure (show opD lKR3w1_3 0 = some (some 16, .move (.tmp 0), 3, none) from by kernel_rfl) (by kernel_rfl) (.int .i64 n) (fun _ => y_move (by kernel_rfl)) ?_
  by_cases h_8 : (n : Int) < 1
  · refine wk_pure (show opD lKR3w1_3 1 = some (some 17, .binOp .lss 3 (.tmp 16) (.const (.int .i64 1)) 3, 4, none) from by kernel_rfl) (by kernel_rfl) (.bool true) (fun _ => y_lss (k := .i64) (a := n) (b := 1) (by kernel_rfl) (by kernel_rfl) (decide_eq_true h_8)) ?_
    refine wk_pure (show opD lKR3w1_3 2 = some (some 18, .move (.tmp 17), 4, none) from by kernel_rfl) (by kernel_rfl) (.bool true) (fun _ => y_move (by kernel_rfl)) ?_
    refine wk_skip (show opD lKR3w1_3 3 = some (some 19, .move (.tmp 0), 3, some (2, false)) from by kernel_rfl) (by kernel_rfl) ?_
    refine wk_skip (show opD lKR3w1_3 4 = some (some 20, .binOp .gtr 3 (.tmp 19) (.const (.int .i64 32)) 3, 4, some (2, false)) from by kernel_rfl) (by kernel_rfl) ?_
    refine wk_pure (show opD lKR3w1_3 5 = some (some 21, .pick (.tmp 18) (.const (.bool true)) (.tmp 20), 4, none) from by kernel_rfl) (by kernel_rfl) (.bool true) (fun _ => y_pick_t (by kernel_rfl) (by kernel_rfl)) ?_
    refine wk_pure (show opD lKR3w1_3 6 = some (some 22, .move (.tmp 21), 4, none) from by kernel_rfl) (by kernel_rfl) (.bool true) (fun _ => y_move (by kernel_rfl)) ?_
    refine wk_skip (show opD lKR3w1_3 7 = some (some 23, .move (.tmp 1), 3, some (6, false)) from by kernel_rfl) (by kernel_rfl) ?_
    refine wk_skip (show opD lKR3w1_3 8 = some (some 24, .binOp .lss 3 (.tmp 23) (.const (.int .i64 0)) 3, 4, some (6, false)) from by kernel_rfl) (by kernel_rfl) ?_
    refine wk_pure (show opD lKR3w1_3 9 = some (some 25, .pick (.tmp 22) (.const (.bool true)) (.tmp 24), 4, none) from by kernel_rfl) (by kernel_rfl) (.bool true) (fun _ => y_pick_t (by kernel_rfl) (by kernel_rfl)) ?_
    refine wk_pure (show opD lKR3w1_3 10 = some (some 26, .move (.tmp 25), 4, none) from by kernel_rfl) (by kernel_rfl) (.bool true) (fun _ => y_move (by kernel_rfl)) ?_
    refine wk_skip (show opD lKR3w1_3 11 = some (some 27, .move (.tmp 1), 3, some (10, false)) from by kernel_rfl) (by kernel_rfl) ?_
    refine wk_skip (show opD lKR3w1_3 12 = some (some 28, .binOp .gtr 3 (.tmp 27) (.const (.int .i64 100)) 3, 4, some (10, false)) from by kernel_rfl) (by kernel_rfl) ?_
    refine wk_pure (show opD lKR3w1_3 13 = some (some 29, .pick (.tmp 26) (.const (.bool true)) (.tmp 28), 4, none) from by kernel_rfl) (by kernel_rfl) (.bool true) (fun _ => y_pick_t (by kernel_rfl) (by kernel_rfl)) ?_
    refine wk_pure (show opD lKR3w1_3 14 = some (some 30, .move (.tmp 29), 4, none) from by kernel_rfl) (by kernel_rfl) (.bool true) (fun _ => y_move (by kernel_rfl)) ?_
    refine wk_skip (show opD lKR3w1_3 15 = some (some 31, .move (.tmp 2), 3, some (14, false)) from by kernel_rfl) (by kernel_rfl) ?_
    refine wk_skip (show opD lKR3w1_3 16 = some (some 32, .binOp .lss 3 (.tmp 31) (.const (.int .i64 0)) 3, 4, some (14, false)) from by kernel_rfl) (by kernel_rfl) ?_
    refine wk_pure (show opD lKR3w1_3 17 = some (some 33, .pick (.tmp 30) (.const (.bool true)) (.tmp 32), 4, none) from by kernel_rfl) (by kernel_rfl) (.bool true) (fun _ => y_pick_t (by kernel_rfl) (by kernel_rfl)) ?_
    refine wk_pure (show opD lKR3w1_3 18 = some (some 34, .move (.tmp 33), 4, none) from by kernel_rfl) (by kernel_rfl) (.bool true) (fun _ => y_move (by kernel_rfl)) ?_
    refine wk_skip (show opD lKR3w1_3 19 = some (some 35, .move (.tmp 2), 3, some (18, false)) from by kernel_rfl) (by kernel_rfl) ?_
    refine wk_skip (show opD lKR3w1_3 20 = some (some 36, .binOp .gtr 3 (.tmp 35) (.const (.int .i64 100)) 3, 4, some (18, false)) from by kernel_rfl) (by kernel_rfl) ?_
    refine wk_pure (show opD lKR3w1_3 21 = some (some 37, .pick (.tmp 34) (.const (.bool true)) (.tmp 36), 4, none) from by kernel_rfl) (by kernel_rfl) (.bool true) (fun _ => y_pick_t (by kernel_rfl) (by kernel_rfl)) ?_
    refine wk_nil ?_
    refine thn_n ?_
    refine g_cond_t (o := .tmp 37) (x := lKN3w1_13) (y := lKN3w1_14) (by kernel_rfl) (by kernel_rfl) ?_
    refine g_seq (x := lKN3w1_15) (y := lKN3w1_16) (by kernel_rfl) ?_
    refine g_region (ops := lKR3w1_4) (id := 4) (by kernel_rfl) [(0, .pure)] (by kernel_rfl) (by kernel_rfl) ?_
    refine wk_pure (show opD lKR3w1_4 0 = some (some 6, .assign (.const (.bool true)), 4, none) from by kernel_rfl) (by kernel_rfl) (.bool true) (fun _ => y_assign (by kernel_rfl)) ?_
    refine wk_nil ?_
    refine thn_n ?_
    refine g_ret (by kernel_rfl) ?_
    refine thn_r ?_
    refine ends1_r (v := .bool true) rfl (by kernel_rfl) ?_
    exact hK _ (GX.ext (GX.then0 (GX.refl [10, 11, 12] _ _) e_2 hg_4) (fun _ _ => by show 0 ∉ [10, 11, 12]; decide))
  · refine wk_pure (show opD lKR3w1_3 1 = some (some 17, .binOp .lss 3 (.tmp 16) (.const (.int .i64 1)) 3, 4, none) from by kernel_rfl) (by kernel_rfl) (.bool false) (fun _ => y_lss (k := .i64) (a := n) (b := 1) (by kernel_rfl) (by kernel_rfl) (decide_eq_false h_8)) ?_
    refine wk_pure (show opD lKR3w1_3 2 = some (some 18, .move (.tmp 17), 4, none) from by kernel_rfl) (by kernel_rfl) (.bool false) (fun _ => y_move (by kernel_rfl)) ?_
    refine wk_pure (show opD lKR3w1_3 3 = some (some 19, .move (.tmp 0), 3, some (2, false)) from by kernel_rfl) (by kernel_rfl) (.int .i64 n) (fun _ => y_move (by kernel_rfl)) ?_
    by_cases h_9 : (32 : Int) < n
    · refine wk_pure (show opD lKR3w1_3 4 = some (some 20, .binOp .gtr 3 (.tmp 19) (.const (.int .i64 32)) 3, 4, some (2, false)) from by kernel_rfl) (by kernel_rfl) (.bool true) (fun _ => y_gtr (k := .i64) (a := n) (b := 32) (by kernel_rfl) (by kernel_rfl) (decide_eq_true h_9)) ?_
      refine wk_pure (show opD lKR3w1_3 5 = some (some 21, .pick (.tmp 18) (.const (.bool true)) (.tmp 20), 4, none) from by kernel_rfl) (by kernel_rfl) (.bool true) (fun _ => y_pick_f (by kernel_rfl) (by kernel_rfl)) ?_
      refine wk_pure (show opD lKR3w1_3 6 = some (some 22, .move (.tmp 21), 4, none) from by kernel_rfl) (by kernel_rfl) (.bool true) (fun _ => y_move (by kernel_rfl)) ?_
      refine wk_skip (show opD lKR3w1_3 7 = some (some 23, .move (.tmp 1), 3, some (6, false)) from by kernel_rfl) (by kernel_rfl) ?_
      refine wk_skip (show opD lKR3w1_3 8 = some (some 24, .binOp .lss 3 (.tmp 23) (.const (.int .i64 0)) 3, 4, some (6, false)) from by kernel_rfl) (by kernel_rfl) ?_
      refine wk_pure (show opD lKR3w1_3 9 = some (some 25, .pick (.tmp 22) (.const (.bool true)) (.tmp 24), 4, none) from by kernel_rfl) (by kernel_rfl) (.bool true) (fun _ => y_pick_t (by kernel_rfl) (by kernel_rfl)) ?_
      refine wk_pure (show opD lKR3w1_3 10 = some (some 26, .move (.tmp 25), 4, none) from by kernel_rfl) (by kernel_rfl) (.bool true) (fun _ => y_move (by kernel_rfl)) ?_
      refine wk_skip (show opD lKR3w1_3 11 = some (some 27, .move (.tmp 1), 3, some (10, false)) from by kernel_rfl) (by kernel_rfl) ?_
      refine wk_skip (show opD lKR3w1_3 12 = some (some 28, .binOp .gtr 3 (.tmp 27) (.const (.int .i64 100)) 3, 4, some (10, false)) from by kernel_rfl) (by kernel_rfl) ?_
      refine wk_pure (show opD lKR3w1_3 13 = some (some 29, .pick (.tmp 26) (.const (.bool true)) (.tmp 28), 4, none) from by kernel_rfl) (by kernel_rfl) (.bool true) (fun _ => y_pick_t (by kernel_rfl) (by kernel_rfl)) ?_
      refine wk_pure (show opD lKR3w1_3 14 = some (some 30, .move (.tmp 29), 4, none) from by kernel_rfl) (by kernel_rfl) (.bool true) (fun _ => y_move (by kernel_rfl)) ?_
      refine wk_skip (show opD lKR3w1_3 15 = some (some 31, .move (.tmp 2), 3, some (14, false)) from by kernel_rfl) (by kernel_rfl) ?_
      refine wk_skip (show opD lKR3w1_3 16 = some (some 32, .binOp .lss 3 (.tmp 31) (.const (.int .i64 0)) 3, 4, some (14, false)) from by kernel_rfl) (by kernel_rfl) ?_
      refine wk_pure (show opD lKR3w1_3 17 = some (some 33, .pick (.tmp 30) (.const (.bool true)) (.tmp 32), 4, none) from by kernel_rfl) (by kernel_rfl) (.bool true) (fun _ => y_pick_t (by kernel_rfl) (by kernel_rfl)) ?_
      refine wk_pure (show opD lKR3w1_3 18 = some (some 34, .move (.tmp 33), 4, none) from by kernel_rfl) (by kernel_rfl) (.bool true) (fun _ => y_move (by kernel_rfl)) ?_
      refine wk_skip (show opD lKR3w1_3 19 = some (some 35, .move (.tmp 2), 3, some (18, false)) from by kernel_rfl) (by kernel_rfl) ?_
      refine wk_skip (show opD lKR3w1_3 20 = some (some 36, .binOp .gtr 3 (.tmp 35) (.const (.int .i64 100)) 3, 4, some (18, false)) from by kernel_rfl) (by kernel_rfl) ?_
      refine wk_pure (show opD lKR3w1_3 21 = some (some 37, .pick (.tmp 34) (.const (.bool true)) (.tmp 36), 4, none) from by kernel_rfl) (by kernel_rfl) (.bool true) (fun _ => y_pick_t (by kernel_rfl) (by kernel_rfl)) ?_
      refine wk_nil ?_
      refine thn_n ?_
      refine g_cond_t (o := .tmp 37) (x := lKN3w1_13) (y := lKN3w1_14) (by kernel_rfl) (by kernel_rfl) ?_
      refine g_seq (x := lKN3w1_15) (y := lKN3w1_16) (by kernel_rfl) ?_
      refine g_region (ops := lKR3w1_4) (id := 4) (by kernel_rfl) [(0, .pure)] (by kernel_rfl) (by kernel_rfl) ?_
      refine wk_pure (show opD lKR3w1_4 0 = some (some 6, .assign (.const (.bool true)), 4, none) from by kernel_rfl) (by kernel_rfl) (.bool true) (fun _ => y_assign (by kernel_rfl)) ?_
      refine wk_nil ?_
      refine thn_n ?_
      refine g_ret (by kernel_rfl) ?_
      refine thn_r ?_
      refine ends1_r (v := .bool true) rfl (by kernel_rfl) ?_
      exact hK _ (GX.ext (GX.then0 (GX.refl [10, 11, 12] _ _) e_2 hg_4) (fun _ _ => by show 0 ∉ [10, 11, 12]; decide))
    · refine wk_pure (show opD lKR3w1_3 4 = some (some 20, .binOp .gtr 3 (.tmp 19) (.const (.int .i64 32)) 3, 4, some (2, false)) from by kernel_rfl) (by kernel_rfl) (.bool false) (fun _ => y_gtr (k := .i64) (a := n) (b := 32) (by kernel_rfl) (by kernel_rfl) (decide_eq_false h_9)) ?_
      refine wk_pure (show opD lKR3w1_3 5 = some (some 21, .pick (.tmp 18) (.const (.bool true)) (.tmp 20), 4, none) from by kernel_rfl) (by kernel_rfl) (.bool false) (fun _ => y_pick_f (by kernel_rfl) (by kernel_rfl)) ?_
      refine wk_pure (show opD lKR3w1_3 6 = some (some 22, .move (.tmp 21), 4, none) from by kernel_rfl) (by kernel_rfl) (.bool false) (fun _ => y_move (by kernel_rfl)) ?_
      refine wk_pure (show opD lKR3w1_3 7 = some (some 23, .move (.tmp 1), 3, some (6, false)) from by kernel_rfl) (by kernel_rfl) (.int .i64 u) (fun _ => y_move (by kernel_rfl)) ?_
      by_cases h_10 : (u : Int) < 0
      · refine wk_pure (show opD lKR3w1_3 8 = some (some 24, .binOp .lss 3 (.tmp 23) (.const (.int .i64 0)) 3, 4, some (6, false)) from by kernel_rfl) (by kernel_rfl) (.bool true) (fun _ => y_lss (k := .i64) (a := u) (b := 0) (by kernel_rfl) (by kernel_rfl) (decide_eq_true h_10)) ?_
        refine wk_pure (show opD lKR3w1_3 9 = some (some 25, .pick (.tmp 22) (.const (.bool true)) (.tmp 24), 4, none) from by kernel_rfl) (by kernel_rfl) (.bool true) (fun _ => y_pick_f (by kernel_rfl) (by kernel_rfl)) ?_
        refine wk_pure (show opD lKR3w1_3 10 = some (some 26, .move (.tmp 25), 4, none) from by kernel_rfl) (by kernel_rfl) (.bool true) (fun _ => y_move (by kernel_rfl)) ?_
        refine wk_skip (show opD lKR3w1_3 11 = some (some 27, .move (.tmp 1), 3, some (10, false)) from by kernel_rfl) (by kernel_rfl) ?_
        refine wk_skip (show opD lKR3w1_3 12 = some (some 28, .binOp .gtr 3 (.tmp 27) (.const (.int .i64 100)) 3, 4, some (10, false)) from by kernel_rfl) (by kernel_rfl) ?_
        refine wk_pure (show opD lKR3w1_3 13 = some (some 29, .pick (.tmp 26) (.const (.bool true)) (.tmp 28), 4, none) from by kernel_rfl) (by kernel_rfl) (.bool true) (fun _ => y_pick_t (by kernel_rfl) (by kernel_rfl)) ?_
        refine wk_pure (show opD lKR3w1_3 14 = some (some 30, .move (.tmp 29), 4, none) from by kernel_rfl) (by kernel_rfl) (.bool true) (fun _ => y_move (by kernel_rfl)) ?_
        refine wk_skip (show opD lKR3w1_3 15 = some (some 31, .move (.tmp 2), 3, some (14, false)) from by kernel_rfl) (by kernel_rfl) ?_
        refine wk_skip (show opD lKR3w1_3 16 = some (some 32, .binOp .lss 3 (.tmp 31) (.const (.int .i64 0)) 3, 4, some (14, false)) from by kernel_rfl) (by kernel_rfl) ?_
        refine wk_pure (show opD lKR3w1_3 17 = some (some 33, .pick (.tmp 30) (.const (.bool true)) (.tmp 32), 4, none) from by kernel_rfl) (by kernel_rfl) (.bool true) (fun _ => y_pick_t (by kernel_rfl) (by kernel_rfl)) ?_
        refine wk_pure (show opD lKR3w1_3 18 = some (some 34, .move (.tmp 33), 4, none) from by kernel_rfl) (by kernel_rfl) (.bool true) (fun _ => y_move (by kernel_rfl)) ?_
        refine wk_skip (show opD lKR3w1_3 19 = some (some 35, .move (.tmp 2), 3, some (18, false)) from by kernel_rfl) (by kernel_rfl) ?_
        refine wk_skip (show opD lKR3w1_3 20 = some (some 36, .binOp .gtr 3 (.tmp 35) (.const (.int .i64 100)) 3, 4, some (18, false)) from by kernel_rfl) (by kernel_rfl) ?_
        refine wk_pure (show opD lKR3w1_3 21 = some (some 37, .pick (.tmp 34) (.const (.bool true)) (.tmp 36), 4, none) from by kernel_rfl) (by kernel_rfl) (.bool true) (fun _ => y_pick_t (by kernel_rfl) (by kernel_rfl)) ?_
        refine wk_nil ?_
        refine thn_n ?_
        refine g_cond_t (o := .tmp 37) (x := lKN3w1_13) (y := lKN3w1_14) (by kernel_rfl) (by kernel_rfl) ?_
        refine g_seq (x := lKN3w1_15) (y := lKN3w1_16) (by kernel_rfl) ?_
        refine g_region (ops := lKR3w1_4) (id := 4) (by kernel_rfl) [(0, .pure)] (by kernel_rfl) (by kernel_rfl) ?_
        refine wk_pure (show opD lKR3w1_4 0 = some (some 6, .assign (.const (.bool true)), 4, none) from by kernel_rfl) (by kernel_rfl) (.bool true) (fun _ => y_assign (by kernel_rfl)) ?_
        refine wk_nil ?_
        refine thn_n ?_
        refine g_ret (by kernel_rfl) ?_
        refine thn_r ?_
        refine ends1_r (v := .bool true) rfl (by kernel_rfl) ?_
        exact hK _ (GX.ext (GX.then0 (GX.refl [10, 11, 12] _ _) e_2 hg_4) (fun _ _ => by show 0 ∉ [10, 11, 12]; decide))
      · refine wk_pure (show opD lKR3w1_3 8 = some (some 24, .binOp .lss 3 (.tmp 23) (.const (.int .i64 0)) 3, 4, some (6, false)) from by kernel_rfl) (by kernel_rfl) (.bool false) (fun _ => y_lss (k := .i64) (a := u) (b := 0) (by kernel_rfl) (by kernel_rfl) (decide_eq_false h_10)) ?_
        refine wk_pure (show opD lKR3w1_3 9 = some (some 25, .pick (.tmp 22) (.const (.bool true)) (.tmp 24), 4, none) from by kernel_rfl) (by kernel_rfl) (.bool false) (fun _ => y_pick_f (by kernel_rfl) (by kernel_rfl)) ?_
        refine wk_pure (show opD lKR3w1_3 10 = some (some 26, .move (.tmp 25), 4, none) from by kernel_rfl) (by kernel_rfl) (.bool false) (fun _ => y_move (by kernel_rfl)) ?_
        refine wk_pure (show opD lKR3w1_3 11 = some (some 27, .move (.tmp 1), 3, some (10, false)) from by kernel_rfl) (by kernel_rfl) (.int .i64 u) (fun _ => y_move (by kernel_rfl)) ?_
        by_cases h_11 : (100 : Int) < u
        · refine wk_pure (show opD lKR3w1_3 12 = some (some 28, .binOp .gtr 3 (.tmp 27) (.const (.int .i64 100)) 3, 4, some (10, false)) from by kernel_rfl) (by kernel_rfl) (.bool true) (fun _ => y_gtr (k := .i64) (a := u) (b := 100) (by kernel_rfl) (by kernel_rfl) (decide_eq_true h_11)) ?_
          refine wk_pure (show opD lKR3w1_3 13 = some (some 29, .pick (.tmp 26) (.const (.bool true)) (.tmp 28), 4, none) from by kernel_rfl) (by kernel_rfl) (.bool true) (fun _ => y_pick_f (by kernel_rfl) (by kernel_rfl)) ?_
          refine wk_pure (show opD lKR3w1_3 14 = some (some 30, .move (.tmp 29), 4, none) from by kernel_rfl) (by kernel_rfl) (.bool true) (fun _ => y_move (by kernel_rfl)) ?_
          refine wk_skip (show opD lKR3w1_3 15 = some (some 31, .move (.tmp 2), 3, some (14, false)) from by kernel_rfl) (by kernel_rfl) ?_
          refine wk_skip (show opD lKR3w1_3 16 = some (some 32, .binOp .lss 3 (.tmp 31) (.const (.int .i64 0)) 3, 4, some (14, false)) from by kernel_rfl) (by kernel_rfl) ?_
          refine wk_pure (show opD lKR3w1_3 17 = some (some 33, .pick (.tmp 30) (.const (.bool true)) (.tmp 32), 4, none) from by kernel_rfl) (by kernel_rfl) (.bool true) (fun _ => y_pick_t (by kernel_rfl) (by kernel_rfl)) ?_
          refine wk_pure (show opD lKR3w1_3 18 = some (some 34, .move (.tmp 33), 4, none) from by kernel_rfl) (by kernel_rfl) (.bool true) (fun _ => y_move (by kernel_rfl)) ?_
          refine wk_skip (show opD lKR3w1_3 19 = some (some 35, .move (.tmp 2), 3, some (18, false)) from by kernel_rfl) (by kernel_rfl) ?_
          refine wk_skip (show opD lKR3w1_3 20 = some (some 36, .binOp .gtr 3 (.tmp 35) (.const (.int .i64 100)) 3, 4, some (18, false)) from by kernel_rfl) (by kernel_rfl) ?_
          refine wk_pure (show opD lKR3w1_3 21 = some (some 37, .pick (.tmp 34) (.const (.bool true)) (.tmp 36), 4, none) from by kernel_rfl) (by kernel_rfl) (.bool true) (fun _ => y_pick_t (by kernel_rfl) (by kernel_rfl)) ?_
          refine wk_nil ?_
          refine thn_n ?_
          refine g_cond_t (o := .tmp 37) (x := lKN3w1_13) (y := lKN3w1_14) (by kernel_rfl) (by kernel_rfl) ?_
          refine g_seq (x := lKN3w1_15) (y := lKN3w1_16) (by kernel_rfl) ?_
          refine g_region (ops := lKR3w1_4) (id := 4) (by kernel_rfl) [(0, .pure)] (by kernel_rfl) (by kernel_rfl) ?_
          refine wk_pure (show opD lKR3w1_4 0 = some (some 6, .assign (.const (.bool true)), 4, none) from by kernel_rfl) (by kernel_rfl) (.bool true) (fun _ => y_assign (by kernel_rfl)) ?_
          refine wk_nil ?_
          refine thn_n ?_
          refine g_ret (by kernel_rfl) ?_
          refine thn_r ?_
          refine ends1_r (v := .bool true) rfl (by kernel_rfl) ?_
          exact hK _ (GX.ext (GX.then0 (GX.refl [10, 11, 12] _ _) e_2 hg_4) (fun _ _ => by show 0 ∉ [10, 11, 12]; decide))
        · refine wk_pure (show opD lKR3w1_3 12 = some (some 28, .binOp .gtr 3 (.tmp 27) (.const (.int .i64 100)) 3, 4, some (10, false)) from by kernel_rfl) (by kernel_rfl) (.bool false) (fun _ => y_gtr (k := .i64) (a := u) (b := 100) (by kernel_rfl) (by kernel_rfl) (decide_eq_false h_11)) ?_
          refine wk_pure (show opD lKR3w1_3 13 = some (some 29, .pick (.tmp 26) (.const (.bool true)) (.tmp 28), 4, none) from by kernel_rfl) (by kernel_rfl) (.bool false) (fun _ => y_pick_f (by kernel_rfl) (by kernel_rfl)) ?_
          refine wk_pure (show opD lKR3w1_3 14 = some (some 30, .move (.tmp 29), 4, none) from by kernel_rfl) (by kernel_rfl) (.bool false) (fun _ => y_move (by kernel_rfl)) ?_
          refine wk_pure (show opD lKR3w1_3 15 = some (some 31, .move (.tmp 2), 3, some (14, false)) from by kernel_rfl) (by kernel_rfl) (.int .i64 v) (fun _ => y_move (by kernel_rfl)) ?_
          by_cases h_12 : (v : Int) < 0
          · refine wk_pure (show opD lKR3w1_3 16 = some (some 32, .binOp .lss 3 (.tmp 31) (.const (.int .i64 0)) 3, 4, some (14, false)) from by kernel_rfl) (by kernel_rfl) (.bool true) (fun _ => y_lss (k := .i64) (a := v) (b := 0) (by kernel_rfl) (by kernel_rfl) (decide_eq_true h_12)) ?_
            refine wk_pure (show opD lKR3w1_3 17 = some (some 33, .pick (.tmp 30) (.const (.bool true)) (.tmp 32), 4, none) from by kernel_rfl) (by kernel_rfl) (.bool true) (fun _ => y_pick_f (by kernel_rfl) (by kernel_rfl)) ?_
            refine wk_pure (show opD lKR3w1_3 18 = some (some 34, .move (.tmp 33), 4, none) from by kernel_rfl) (by kernel_rfl) (.bool true) (fun _ => y_move (by kernel_rfl)) ?_
            refine wk_skip (show opD lKR3w1_3 19 = some (some 35, .move (.tmp 2), 3, some (18, false)) from by kernel_rfl) (by kernel_rfl) ?_
            refine wk_skip (show opD lKR3w1_3 20 = some (some 36, .binOp .gtr 3 (.tmp 35) (.const (.int .i64 100)) 3, 4, some (18, false)) from by kernel_rfl) (by kernel_rfl) ?_
            refine wk_pure (show opD lKR3w1_3 21 = some (some 37, .pick (.tmp 34) (.const (.bool true)) (.tmp 36), 4, none) from by kernel_rfl) (by kernel_rfl) (.bool true) (fun _ => y_pick_t (by kernel_rfl) (by kernel_rfl)) ?_
            refine wk_nil ?_
            refine thn_n ?_
            refine g_cond_t (o := .tmp 37) (x := lKN3w1_13) (y := lKN3w1_14) (by kernel_rfl) (by kernel_rfl) ?_
            refine g_seq (x := lKN3w1_15) (y := lKN3w1_16) (by kernel_rfl) ?_
            refine g_region (ops := lKR3w1_4) (id := 4) (by kernel_rfl) [(0, .pure)] (by kernel_rfl) (by kernel_rfl) ?_
            refine wk_pure (show opD lKR3w1_4 0 = some (some 6, .assign (.const (.bool true)), 4, none) from by kernel_rfl) (by kernel_rfl) (.bool true) (fun _ => y_assign (by kernel_rfl)) ?_
            refine wk_nil ?_
            refine thn_n ?_
            refine g_ret (by kernel_rfl) ?_
            refine thn_r ?_
            refine ends1_r (v := .bool true) rfl (by kernel_rfl) ?_
            exact hK _ (GX.ext (GX.then0 (GX.refl [10, 11, 12] _ _) e_2 hg_4) (fun _ _ => by show 0 ∉ [10, 11, 12]; decide))
          · refine wk_pure (show opD lKR3w1_3 16 = some (some 32, .binOp .lss 3 (.tmp 31) (.const (.int .i64 0)) 3, 4, some (14, false)) from by kernel_rfl) (by kernel_rfl) (.bool false) (fun _ => y_lss (k := .i64) (a := v) (b := 0) (by kernel_rfl) (by kernel_rfl) (decide_eq_false h_12)) ?_
            refine wk_pure (show opD lKR3w1_3 17 = some (some 33, .pick (.tmp 30) (.const (.bool true)) (.tmp 32), 4, none) from by kernel_rfl) (by kernel_rfl) (.bool false) (fun _ => y_pick_f (by kernel_rfl) (by kernel_rfl)) ?_
            refine wk_pure (show opD lKR3w1_3 18 = some (some 34, .move (.tmp 33), 4, none) from by kernel_rfl) (by kernel_rfl) (.bool false) (fun _ => y_move (by kernel_rfl)) ?_
            refine wk_pure (show opD lKR3w1_3 19 = some (some 35, .move (.tmp 2), 3, some (18, false)) from by kernel_rfl) (by kernel_rfl) (.int .i64 v) (fun _ => y_move (by kernel_rfl)) ?_
            by_cases h_13 : (100 : Int) < v
            · refine wk_pure (show opD lKR3w1_3 20 = some (some 36, .binOp .gtr 3 (.tmp 35) (.const (.int .i64 100)) 3, 4, some (18, false)) from by kernel_rfl) (by kernel_rfl) (.bool true) (fun _ => y_gtr (k := .i64) (a := v) (b := 100) (by kernel_rfl) (by kernel_rfl) (decide_eq_true h_13)) ?_
              refine wk_pure (show opD lKR3w1_3 21 = some (some 37, .pick (.tmp 34) (.const (.bool true)) (.tmp 36), 4, none) from by kernel_rfl) (by kernel_rfl) (.bool true) (fun _ => y_pick_f (by kernel_rfl) (by kernel_rfl)) ?_
              refine wk_nil ?_
              refine thn_n ?_
              refine g_cond_t (o := .tmp 37) (x := lKN3w1_13) (y := lKN3w1_14) (by kernel_rfl) (by kernel_rfl) ?_
              refine g_seq (x := lKN3w1_15) (y := lKN3w1_16) (by kernel_rfl) ?_
              refine g_region (ops := lKR3w1_4) (id := 4) (by kernel_rfl) [(0, .pure)] (by kernel_rfl) (by kernel_rfl) ?_
              refine wk_pure (show opD lKR3w1_4 0 = some (some 6, .assign (.const (.bool true)), 4, none) from by kernel_rfl) (by kernel_rfl) (.bool true) (fun _ => y_assign (by kernel_rfl)) ?_
              refine wk_nil ?_
              refine thn_n ?_
              refine g_ret (by kernel_rfl) ?_
              refine thn_r ?_
              refine ends1_r (v := .bool true) rfl (by kernel_rfl) ?_
              exact hK _ (GX.ext (GX.then0 (GX.refl [10, 11, 12] _ _) e_2 hg_4) (fun _ _ => by show 0 ∉ [10, 11, 12]; decide))
            · refine wk_pure (show opD lKR3w1_3 20 = some (some 36, .binOp .gtr 3 (.tmp 35) (.const (.int .i64 100)) 3, 4, some (18, false)) from by kernel_rfl) (by kernel_rfl) (.bool false) (fun _ => y_gtr (k := .i64) (a := v) (b := 100) (by kernel_rfl) (by kernel_rfl) (decide_eq_false h_13)) ?_
              refine wk_pure (show opD lKR3w1_3 21 = some (some 37, .pick (.tmp 34) (.const (.bool true)) (.tmp 36), 4, none) from by kernel_rfl) (by kernel_rfl) (.bool false) (fun _ => y_pick_f (by kernel_rfl) (by kernel_rfl)) ?_
              refine wk_nil ?_
              refine thn_n ?_
              refine g_cond_f (o := .tmp 37) (x := lKN3w1_13) (y := lKN3w1_14) (by kernel_rfl) (by kernel_rfl) ?_
              refine g_skip (by kernel_rfl) ?_
              refine thn_n ?_
              refine g_seq (x := lKN3w1_17) (y := lKN3w1_18) (by kernel_rfl) ?_
              refine g_region (ops := lKR3w1_5) (id := 5) (by kernel_rfl) [(0, .loud), (1, .pure), (2, .pure), (3, .pure), (4, .pure), (5, .pure)] (by kernel_rfl) (by kernel_rfl) ?_
              refine wk_call (show opD lKR3w1_5 0 = some (some 39, .call ⟨.value (.func 8), #[.const (.int .i64 0), .const (.int .i64 1), .const (.int .u32 7)], #[3, 3, 27]⟩, 25, none) from by kernel_rfl) (by kernel_rfl) 8 #[.int .i64 0, .int .i64 1, .int .u32 7] (x_call Try.func8 (by kernel_rfl) (c := (Try.f8.body).getD .skip) (by kernel_rfl) (by kernel_rfl) (by kernel_rfl)) (newL_p (γ := γ_3) (own := 0) (peer := 1) (view := 7) 10 (by omega) (by omega) (by omega) (by omega) (fun w_14 γ_15 p_16 gx_17 hL_18 lo_19 => ⟨?_, ?_⟩))
              · exact trivial
              have hsz_20 : w_1.heap.size ≤ w_14.heap.size := gx_17.size
              have hL_21 : LkAt γ_15 w_14 10 p_16 (newL 0 1 7) := hL_18
              refine wk_pure (show opD lKR3w1_5 1 = some (some 38, .move (.tmp 39), 25, none) from by kernel_rfl) (by kernel_rfl) (.tuple #[.pointer (some ⟨p_16, 0, none⟩), .int .i64 0]) (fun _ => y_move (by kernel_rfl)) ?_
              refine wk_pure (show opD lKR3w1_5 2 = some (some 40, .extract (.tmp 38) 0, 23, none) from by kernel_rfl) (by kernel_rfl) (.pointer (some ⟨p_16, 0, none⟩)) (fun _ => x_extract (vs := #[.pointer (some ⟨p_16, 0, none⟩), .int .i64 0]) (by kernel_rfl) (by kernel_rfl)) ?_
              refine wk_pure (show opD lKR3w1_5 3 = some (some 41, .extract (.tmp 38) 1, 24, none) from by kernel_rfl) (by kernel_rfl) (.int .i64 0) (fun _ => x_extract (vs := #[.pointer (some ⟨p_16, 0, none⟩), .int .i64 0]) (by kernel_rfl) (by kernel_rfl)) ?_
              refine wk_pure (show opD lKR3w1_5 4 = some (some 7, .assign (.tmp 40), 23, none) from by kernel_rfl) (by kernel_rfl) (.pointer (some ⟨p_16, 0, none⟩)) (fun _ => y_assign (by kernel_rfl)) ?_
              refine wk_pure (show opD lKR3w1_5 5 = some (some 8, .assign (.tmp 41), 24, none) from by kernel_rfl) (by kernel_rfl) (.int .i64 0) (fun _ => y_assign (by kernel_rfl)) ?_
              refine wk_nil ?_
              refine thn_n ?_
              refine g_seq (x := lKN3w1_19) (y := lKN3w1_20) (by kernel_rfl) ?_
              refine g_seq (x := lKN3w1_21) (y := lKN3w1_22) (by kernel_rfl) ?_
              refine g_region (ops := lKR3w1_6) (id := 6) (by kernel_rfl) [(0, .pure)] (by kernel_rfl) (by kernel_rfl) ?_
              refine wk_pure (show opD lKR3w1_6 0 = some (some 9, .assign (.const (.int .i64 0)), 3, none) from by kernel_rfl) (by kernel_rfl) (.int .i64 0) (fun _ => y_assign (by kernel_rfl)) ?_
              refine wk_nil ?_
              refine thn_n ?_
              refine g_block (x := lKN3w1_23) (id := 0) (by kernel_rfl) ?_
              exfalso; omega

noncomputable def lKN3w2_0 : Code := (Try.f3.body).getD .skip
noncomputable def lKN3w2_1 : Code := s1 lKN3w2_0
noncomputable def lKN3w2_2 : Code := s2 lKN3w2_0
noncomputable def lKR3w2_0 : Array Oper := rops lKN3w2_1
noncomputable def lKN3w2_3 : Code := s1 lKN3w2_2
noncomputable def lKN3w2_4 : Code := s2 lKN3w2_2
noncomputable def lKN3w2_5 : Code := s1 lKN3w2_3
noncomputable def lKN3w2_6 : Code := s2 lKN3w2_3
noncomputable def lKR3w2_1 : Array Oper := rops lKN3w2_5
noncomputable def lKN3w2_7 : Code := s1 lKN3w2_6
noncomputable def lKN3w2_8 : Code := s2 lKN3w2_6
noncomputable def lKN3w2_9 : Code := s1 lKN3w2_4
noncomputable def lKN3w2_10 : Code := s2 lKN3w2_4
noncomputable def lKN3w2_11 : Code := s1 lKN3w2_9
noncomputable def lKN3w2_12 : Code := s2 lKN3w2_9
noncomputable def lKR3w2_3 : Array Oper := rops lKN3w2_11
noncomputable def lKN3w2_13 : Code := s1 lKN3w2_12
noncomputable def lKN3w2_14 : Code := s2 lKN3w2_12
noncomputable def lKN3w2_15 : Code := s1 lKN3w2_10
noncomputable def lKN3w2_16 : Code := s2 lKN3w2_10
noncomputable def lKR3w2_5 : Array Oper := rops lKN3w2_15
noncomputable def lKN3w2_17 : Code := s1 lKN3w2_16
noncomputable def lKN3w2_18 : Code := s2 lKN3w2_16
noncomputable def lKN3w2_19 : Code := s1 lKN3w2_17
noncomputable def lKN3w2_20 : Code := s2 lKN3w2_17
noncomputable def lKR3w2_6 : Array Oper := rops lKN3w2_19
noncomputable def lKN3w2_21 : Code := s1 lKN3w2_20
noncomputable def lKN3w2_22 : Code := s1 lKN3w2_21
noncomputable def lKN3w2_23 : Code := s1 lKN3w2_22
noncomputable def lKN3w2_24 : Code := s2 lKN3w2_22
noncomputable def lKN3w2_25 : Code := s1 lKN3w2_23
noncomputable def lKN3w2_26 : Code := s2 lKN3w2_23
noncomputable def lKR3w2_7 : Array Oper := rops lKN3w2_25
noncomputable def lKN3w2_27 : Code := s1 lKN3w2_26
noncomputable def lKN3w2_28 : Code := s2 lKN3w2_26
noncomputable def lKN3w2_29 : Code := s1 lKN3w2_24
noncomputable def lKN3w2_30 : Code := s2 lKN3w2_24
noncomputable def lKN3w2_31 : Code := s1 lKN3w2_29
noncomputable def lKR3w2_9 : Array Oper := rops lKN3w2_31
noncomputable def lKR3w2_8 : Array Oper := rops lKN3w2_30
noncomputable def lKN3w2_32 : Code := s1 lKN3w2_18
noncomputable def lKN3w2_33 : Code := s2 lKN3w2_18
noncomputable def lKN3w2_34 : Code := s1 lKN3w2_32
noncomputable def lKN3w2_35 : Code := s2 lKN3w2_32
noncomputable def lKR3w2_10 : Array Oper := rops lKN3w2_34
noncomputable def lKN3w2_36 : Code := s1 lKN3w2_35
noncomputable def lKN3w2_37 : Code := s1 lKN3w2_36
noncomputable def lKN3w2_38 : Code := s1 lKN3w2_37
noncomputable def lKN3w2_39 : Code := s2 lKN3w2_37
noncomputable def lKN3w2_40 : Code := s1 lKN3w2_38
noncomputable def lKN3w2_41 : Code := s2 lKN3w2_38
noncomputable def lKR3w2_11 : Array Oper := rops lKN3w2_40
noncomputable def lKN3w2_42 : Code := s1 lKN3w2_41
noncomputable def lKN3w2_43 : Code := s2 lKN3w2_41
noncomputable def lKN3w2_44 : Code := s1 lKN3w2_39
noncomputable def lKN3w2_45 : Code := s2 lKN3w2_39
noncomputable def lKN3w2_46 : Code := s1 lKN3w2_44
noncomputable def lKN3w2_47 : Code := s1 lKN3w2_46
noncomputable def lKN3w2_48 : Code := s2 lKN3w2_46
noncomputable def lKR3w2_13 : Array Oper := rops lKN3w2_47
noncomputable def lKN3w2_49 : Code := s1 lKN3w2_48
noncomputable def lKN3w2_50 : Code := s2 lKN3w2_48
noncomputable def lKR3w2_14 : Array Oper := rops lKN3w2_49
noncomputable def lKN3w2_51 : Code := s1 lKN3w2_50
noncomputable def lKN3w2_52 : Code := s2 lKN3w2_50
noncomputable def lKN3w2_53 : Code := s1 lKN3w2_51
noncomputable def lKN3w2_54 : Code := s2 lKN3w2_51
noncomputable def lKR3w2_15 : Array Oper := rops lKN3w2_53
noncomputable def lKN3w2_55 : Code := s1 lKN3w2_54
noncomputable def lKN3w2_56 : Code := s2 lKN3w2_54
noncomputable def lKR3w2_16 : Array Oper := rops lKN3w2_55
noncomputable def lKN3w2_57 : Code := s1 lKN3w2_52
noncomputable def lKN3w2_58 : Code := s2 lKN3w2_52
noncomputable def lKN3w2_59 : Code := s1 lKN3w2_57
noncomputable def lKN3w2_60 : Code := s2 lKN3w2_57
noncomputable def lKR3w2_17 : Array Oper := rops lKN3w2_59
noncomputable def lKN3w2_61 : Code := s1 lKN3w2_60
noncomputable def lKN3w2_62 : Code := s2 lKN3w2_60
noncomputable def lKN3w2_63 : Code := s1 lKN3w2_58
noncomputable def lKN3w2_64 : Code := s2 lKN3w2_58
noncomputable def lKN3w2_65 : Code := s1 lKN3w2_63
noncomputable def lKN3w2_66 : Code := s2 lKN3w2_63
noncomputable def lKR3w2_19 : Array Oper := rops lKN3w2_65
noncomputable def lKN3w2_67 : Code := s1 lKN3w2_66
noncomputable def lKN3w2_68 : Code := s1 lKN3w2_67
noncomputable def lKN3w2_69 : Code := s1 lKN3w2_68
noncomputable def lKN3w2_70 : Code := s2 lKN3w2_68
noncomputable def lKN3w2_71 : Code := s1 lKN3w2_69
noncomputable def lKN3w2_72 : Code := s2 lKN3w2_69
noncomputable def lKR3w2_20 : Array Oper := rops lKN3w2_71
noncomputable def lKN3w2_73 : Code := s1 lKN3w2_72
noncomputable def lKN3w2_74 : Code := s2 lKN3w2_72
noncomputable def lKN3w2_75 : Code := s1 lKN3w2_70
noncomputable def lKN3w2_76 : Code := s2 lKN3w2_70
noncomputable def lKN3w2_77 : Code := s1 lKN3w2_75
noncomputable def lKN3w2_78 : Code := s1 lKN3w2_77
noncomputable def lKN3w2_79 : Code := s2 lKN3w2_77
noncomputable def lKR3w2_22 : Array Oper := rops lKN3w2_78
noncomputable def lKN3w2_80 : Code := s1 lKN3w2_79
noncomputable def lKN3w2_81 : Code := s2 lKN3w2_79
noncomputable def lKR3w2_21 : Array Oper := rops lKN3w2_76
noncomputable def lKN3w2_82 : Code := s1 lKN3w2_64
noncomputable def lKN3w2_83 : Code := s2 lKN3w2_64
noncomputable def lKR3w2_24 : Array Oper := rops lKN3w2_82
noncomputable def lKN3w2_84 : Code := s1 lKN3w2_83
noncomputable def lKN3w2_85 : Code := s2 lKN3w2_83
noncomputable def lKR3w2_25 : Array Oper := rops lKN3w2_84
noncomputable def lKR3w2_12 : Array Oper := rops lKN3w2_45
noncomputable def lKN3w2_86 : Code := s1 lKN3w2_33
noncomputable def lKN3w2_87 : Code := s2 lKN3w2_33
noncomputable def lKR3w2_26 : Array Oper := rops lKN3w2_86
set_option maxHeartbeats 1000000 in
theorem linkAgain_in {n u v : Nat} {w : World} (h1 : 1 ≤ n) (h2 : n ≤ 32) (h3 : u ≤ 100) (h4 : v ≤ 100) {K : Value → World → Prop} (hK : ∀ w', Ext [] w w' → K (.bool true) w') : CallsV Try.prog 3 #[.int .i64 ((n : Nat) : Int), .int .i64 ((u : Nat) : Int), .int .i64 ((v : Nat) : Int)] w K := by
  refine callsV_of (c := lKN3w2_0) Try.func3 (by kernel_rfl) (n := 126) (by kernel_rfl) ?_
  refine g_seq (x := lKN3w2_1) (y := lKN3w2_2) (by kernel_rfl) ?_
  refine g_region (ops := lKR3w2_0) (id := 0) (by kernel_rfl) [(0, .pure)] (by kernel_rfl) (by kernel_rfl) ?_
  refine wk_pure (show opD lKR3w2_0 0 = some (some 6, .assign (.const (.bool false)), 4, none) from by kernel_rfl) (by kernel_rfl) (.bool false) (fun _ => y_assign (by kernel_rfl)) ?_
  refine wk_nil ?_
  refine thn_n ?_
  refine g_seq (x := lKN3w2_3) (y := lKN3w2_4) (by kernel_rfl) ?_
  refine g_seq (x := lKN3w2_5) (y := lKN3w2_6) (by kernel_rfl) ?_
  refine g_region (ops := lKR3w2_1) (id := 1) (by kernel_rfl) [(0, .loud), (1, .pure)] (by kernel_rfl) (by kernel_rfl) ?_
  refine wk_call (show opD lKR3w2_1 0 = some (some 14, .call ⟨.value (.func 7), #[], #[]⟩, 4, none) from by kernel_rfl) (by kernel_rfl) 7 #[] (x_call Try.func7 (by kernel_rfl) (c := (Try.f7.body).getD .skip) (by kernel_rfl) (by kernel_rfl) (by kernel_rfl)) (awake_c (fun w_1 e_2 => ⟨?_, ?_⟩))
  · exact trivial
  obtain ⟨γ_3, hg_4, hn_5⟩ := cls_new (fun _ => 0) w.heap.size 10301
  have gx_6 : GX [] w (fun _ => 0) w_1 γ_3 := GX.ext0 [] e_2 hg_4
  have hsz_7 : w.heap.size ≤ w_1.heap.size := e_2.size
  refine wk_pure (show opD lKR3w2_1 1 = some (some 15, .unOp .not 4 (.tmp 14), 4, none) from by kernel_rfl) (by kernel_rfl) (.bool false) (fun _ => y_not (p := true) (by kernel_rfl) rfl) ?_
  refine wk_nil ?_
  refine thn_n ?_
  refine g_cond_f (o := .tmp 15) (x := lKN3w2_7) (y := lKN3w2_8) (by kernel_rfl) (by kernel_rfl) ?_
  refine g_skip (by kernel_rfl) ?_
  refine thn_n ?_
  refine g_seq (x := lKN3w2_9) (y := lKN3w2_10) (by kernel_rfl) ?_
  refine g_seq (x := lKN3w2_11) (y := lKN3w2_12) (by kernel_rfl) ?_
  refine g_region (ops := lKR3w2_3) (id := 3) (by kernel_rfl) [(0, .pure), (1, .pure), (2, .pure), (3, .pure), (4, .pure), (5, .pure), (6, .pure), (7, .pure), (8, .pure), (9, .pure), (10, .pure), (11, .pure), (12, .pure), (13, .pure), (14, .pure), (15, .pure), (16, .pure), (17, .pure), (18, .pure), (19, .pure), (20, .pure), (21, .pure)] (by kernel_rfl) (by kernel_rfl) ?_
  refine wk_pure (show opD lKR3w2_3 0 = some (some 16, .move (.tmp 0), 3, none) from by kernel_rfl) (by kernel_rfl) (.int .i64 ((n : Nat) : Int)) (fun _ => y_move (by kernel_rfl)) ?_
  refine wk_pure (show opD lKR3w2_3 1 = some (some 17, .binOp .lss 3 (.tmp 16) (.const (.int .i64 1)) 3, 4, none) from by kernel_rfl) (by kernel_rfl) (.bool false) (fun _ => y_lss (k := .i64) (a := ((n : Nat) : Int)) (b := 1) (by kernel_rfl) (by kernel_rfl) (decide_eq_false (by omega))) ?_
  refine wk_pure (show opD lKR3w2_3 2 = some (some 18, .move (.tmp 17), 4, none) from by kernel_rfl) (by kernel_rfl) (.bool false) (fun _ => y_move (by kernel_rfl)) ?_
  refine wk_pure (show opD lKR3w2_3 3 = some (some 19, .move (.tmp 0), 3, some (2, false)) from by kernel_rfl) (by kernel_rfl) (.int .i64 ((n : Nat) : Int)) (fun _ => y_move (by kernel_rfl)) ?_
  refine wk_pure (show opD lKR3w2_3 4 = some (some 20, .binOp .gtr 3 (.tmp 19) (.const (.int .i64 32)) 3, 4, some (2, false)) from by kernel_rfl) (by kernel_rfl) (.bool false) (fun _ => y_gtr (k := .i64) (a := ((n : Nat) : Int)) (b := 32) (by kernel_rfl) (by kernel_rfl) (decide_eq_false (by omega))) ?_
  refine wk_pure (show opD lKR3w2_3 5 = some (some 21, .pick (.tmp 18) (.const (.bool true)) (.tmp 20), 4, none) from by kernel_rfl) (by kernel_rfl) (.bool false) (fun _ => y_pick_f (by kernel_rfl) (by kernel_rfl)) ?_
  refine wk_pure (show opD lKR3w2_3 6 = some (some 22, .move (.tmp 21), 4, none) from by kernel_rfl) (by kernel_rfl) (.bool false) (fun _ => y_move (by kernel_rfl)) ?_
  refine wk_pure (show opD lKR3w2_3 7 = some (some 23, .move (.tmp 1), 3, some (6, false)) from by kernel_rfl) (by kernel_rfl) (.int .i64 ((u : Nat) : Int)) (fun _ => y_move (by kernel_rfl)) ?_
  refine wk_pure (show opD lKR3w2_3 8 = some (some 24, .binOp .lss 3 (.tmp 23) (.const (.int .i64 0)) 3, 4, some (6, false)) from by kernel_rfl) (by kernel_rfl) (.bool false) (fun _ => y_lss (k := .i64) (a := ((u : Nat) : Int)) (b := 0) (by kernel_rfl) (by kernel_rfl) (decide_eq_false (by omega))) ?_
  refine wk_pure (show opD lKR3w2_3 9 = some (some 25, .pick (.tmp 22) (.const (.bool true)) (.tmp 24), 4, none) from by kernel_rfl) (by kernel_rfl) (.bool false) (fun _ => y_pick_f (by kernel_rfl) (by kernel_rfl)) ?_
  refine wk_pure (show opD lKR3w2_3 10 = some (some 26, .move (.tmp 25), 4, none) from by kernel_rfl) (by kernel_rfl) (.bool false) (fun _ => y_move (by kernel_rfl)) ?_
  refine wk_pure (show opD lKR3w2_3 11 = some (some 27, .move (.tmp 1), 3, some (10, false)) from by kernel_rfl) (by kernel_rfl) (.int .i64 ((u : Nat) : Int)) (fun _ => y_move (by kernel_rfl)) ?_
  refine wk_pure (show opD lKR3w2_3 12 = some (some 28, .binOp .gtr 3 (.tmp 27) (.const (.int .i64 100)) 3, 4, some (10, false)) from by kernel_rfl) (by kernel_rfl) (.bool false) (fun _ => y_gtr (k := .i64) (a := ((u : Nat) : Int)) (b := 100) (by kernel_rfl) (by kernel_rfl) (decide_eq_false (by omega))) ?_
  refine wk_pure (show opD lKR3w2_3 13 = some (some 29, .pick (.tmp 26) (.const (.bool true)) (.tmp 28), 4, none) from by kernel_rfl) (by kernel_rfl) (.bool false) (fun _ => y_pick_f (by kernel_rfl) (by kernel_rfl)) ?_
  refine wk_pure (show opD lKR3w2_3 14 = some (some 30, .move (.tmp 29), 4, none) from by kernel_rfl) (by kernel_rfl) (.bool false) (fun _ => y_move (by kernel_rfl)) ?_
  refine wk_pure (show opD lKR3w2_3 15 = some (some 31, .move (.tmp 2), 3, some (14, false)) from by kernel_rfl) (by kernel_rfl) (.int .i64 ((v : Nat) : Int)) (fun _ => y_move (by kernel_rfl)) ?_
  refine wk_pure (show opD lKR3w2_3 16 = some (some 32, .binOp .lss 3 (.tmp 31) (.const (.int .i64 0)) 3, 4, some (14, false)) from by kernel_rfl) (by kernel_rfl) (.bool false) (fun _ => y_lss (k := .i64) (a := ((v : Nat) : Int)) (b := 0) (by kernel_rfl) (by kernel_rfl) (decide_eq_false (by omega))) ?_
  refine wk_pure (show opD lKR3w2_3 17 = some (some 33, .pick (.tmp 30) (.const (.bool true)) (.tmp 32), 4, none) from by kernel_rfl) (by kernel_rfl) (.bool false) (fun _ => y_pick_f (by kernel_rfl) (by kernel_rfl)) ?_
  refine wk_pure (show opD lKR3w2_3 18 = some (some 34, .move (.tmp 33), 4, none) from by kernel_rfl) (by kernel_rfl) (.bool false) (fun _ => y_move (by kernel_rfl)) ?_
  refine wk_pure (show opD lKR3w2_3 19 = some (some 35, .move (.tmp 2), 3, some (18, false)) from by kernel_rfl) (by kernel_rfl) (.int .i64 ((v : Nat) : Int)) (fun _ => y_move (by kernel_rfl)) ?_
  refine wk_pure (show opD lKR3w2_3 20 = some (some 36, .binOp .gtr 3 (.tmp 35) (.const (.int .i64 100)) 3, 4, some (18, false)) from by kernel_rfl) (by kernel_rfl) (.bool false) (fun _ => y_gtr (k := .i64) (a := ((v : Nat) : Int)) (b := 100) (by kernel_rfl) (by kernel_rfl) (decide_eq_false (by omega))) ?_
  refine wk_pure (show opD lKR3w2_3 21 = some (some 37, .pick (.tmp 34) (.const (.bool true)) (.tmp 36), 4, none) from by kernel_rfl) (by kernel_rfl) (.bool false) (fun _ => y_pick_f (by kernel_rfl) (by kernel_rfl)) ?_
  refine wk_nil ?_
  refine thn_n ?_
  refine g_cond_f (o := .tmp 37) (x := lKN3w2_13) (y := lKN3w2_14) (by kernel_rfl) (by kernel_rfl) ?_
  refine g_skip (by kernel_rfl) ?_
  refine thn_n ?_
  refine g_seq (x := lKN3w2_15) (y := lKN3w2_16) (by kernel_rfl) ?_
  refine g_region (ops := lKR3w2_5) (id := 5) (by kernel_rfl) [(0, .loud), (1, .pure), (2, .pure), (3, .pure), (4, .pure), (5, .pure)] (by kernel_rfl) (by kernel_rfl) ?_
  refine wk_call (show opD lKR3w2_5 0 = some (some 39, .call ⟨.value (.func 8), #[.const (.int .i64 0), .const (.int .i64 1), .const (.int .u32 7)], #[3, 3, 27]⟩, 25, none) from by kernel_rfl) (by kernel_rfl) 8 #[.int .i64 0, .int .i64 1, .int .u32 7] (x_call Try.func8 (by kernel_rfl) (c := (Try.f8.body).getD .skip) (by kernel_rfl) (by kernel_rfl) (by kernel_rfl)) (newL_p (γ := γ_3) (own := 0) (peer := 1) (view := 7) 10 (by omega) (by omega) (by omega) (by omega) (fun w_8 γ_9 p_10 gx_11 hL_12 lo_13 => ⟨?_, ?_⟩))
  · exact trivial
  have hsz_14 : w_1.heap.size ≤ w_8.heap.size := gx_11.size
  have hL_15 : LkAt γ_9 w_8 10 p_10 (newL 0 1 7) := hL_12
  refine wk_pure (show opD lKR3w2_5 1 = some (some 38, .move (.tmp 39), 25, none) from by kernel_rfl) (by kernel_rfl) (.tuple #[.pointer (some ⟨p_10, 0, none⟩), .int .i64 0]) (fun _ => y_move (by kernel_rfl)) ?_
  refine wk_pure (show opD lKR3w2_5 2 = some (some 40, .extract (.tmp 38) 0, 23, none) from by kernel_rfl) (by kernel_rfl) (.pointer (some ⟨p_10, 0, none⟩)) (fun _ => x_extract (vs := #[.pointer (some ⟨p_10, 0, none⟩), .int .i64 0]) (by kernel_rfl) (by kernel_rfl)) ?_
  refine wk_pure (show opD lKR3w2_5 3 = some (some 41, .extract (.tmp 38) 1, 24, none) from by kernel_rfl) (by kernel_rfl) (.int .i64 0) (fun _ => x_extract (vs := #[.pointer (some ⟨p_10, 0, none⟩), .int .i64 0]) (by kernel_rfl) (by kernel_rfl)) ?_
  refine wk_pure (show opD lKR3w2_5 4 = some (some 7, .assign (.tmp 40), 23, none) from by kernel_rfl) (by kernel_rfl) (.pointer (some ⟨p_10, 0, none⟩)) (fun _ => y_assign (by kernel_rfl)) ?_
  refine wk_pure (show opD lKR3w2_5 5 = some (some 8, .assign (.tmp 41), 24, none) from by kernel_rfl) (by kernel_rfl) (.int .i64 0) (fun _ => y_assign (by kernel_rfl)) ?_
  refine wk_nil ?_
  refine thn_n ?_
  refine g_seq (x := lKN3w2_17) (y := lKN3w2_18) (by kernel_rfl) ?_
  refine g_seq (x := lKN3w2_19) (y := lKN3w2_20) (by kernel_rfl) ?_
  refine g_region (ops := lKR3w2_6) (id := 6) (by kernel_rfl) [(0, .pure)] (by kernel_rfl) (by kernel_rfl) ?_
  refine wk_pure (show opD lKR3w2_6 0 = some (some 9, .assign (.const (.int .i64 0)), 3, none) from by kernel_rfl) (by kernel_rfl) (.int .i64 0) (fun _ => y_assign (by kernel_rfl)) ?_
  refine wk_nil ?_
  refine thn_n ?_
  refine g_block (x := lKN3w2_21) (id := 0) (by kernel_rfl) ?_
  refine g_loop (x := lKN3w2_22) (by kernel_rfl) (fun m_ ρ_ w_ => ∃ (i : Nat) (s : Lk) (γ_ : Nat → Nat), m_ = n - i ∧ (i ≤ n) ∧ (s = againA i) ∧ ρ_ 0 = .int .i64 ((n : Nat) : Int) ∧ ρ_ 1 = .int .i64 ((u : Nat) : Int) ∧ ρ_ 2 = .int .i64 ((v : Nat) : Int) ∧ ρ_ 6 = .bool false ∧ ρ_ 7 = .pointer (some ⟨p_10, 0, none⟩) ∧ ρ_ 9 = .int .i64 ((i : Nat) : Int) ∧ LkAt γ_ w_ 10 p_10 s ∧ GX [10, 11, 12] w (fun _ => 0) w_ γ_) (n - 0) ?_ ?_
  · exact ⟨0, (newL 0 1 7), _, rfl, by omega, by rfl, (by kernel_rfl), (by kernel_rfl), (by kernel_rfl), (by kernel_rfl), (by kernel_rfl), (by kernel_rfl), hL_15, (GX.trans (GX.then0 (GX.refl [10, 11, 12] _ _) e_2 hg_4) gx_11 (fun _ h_ => absurd h_ List.not_mem_nil))⟩
  · intro m_16 ρ_17 w_18 hI
    obtain ⟨i, s, γ_20, hm_m_16, hi, hs, f_21, f_22, f_23, f_24, f_25, f_26, hr_27, hE_19⟩ := hI
    have hs_w_18 := hE_19.size
    refine g_seq (x := lKN3w2_23) (y := lKN3w2_24) (by kernel_rfl) ?_
    refine g_seq (x := lKN3w2_25) (y := lKN3w2_26) (by kernel_rfl) ?_
    refine g_region (ops := lKR3w2_7) (id := 7) (by kernel_rfl) [(0, .pure), (1, .pure), (2, .pure)] (by kernel_rfl) (by kernel_rfl) ?_
    refine wk_pure (show opD lKR3w2_7 0 = some (some 42, .move (.tmp 9), 3, none) from by kernel_rfl) (by kernel_rfl) (.int .i64 ((i : Nat) : Int)) (fun _ => y_move (Eq.trans (by kernel_rfl) f_26)) ?_
    refine wk_pure (show opD lKR3w2_7 1 = some (some 43, .move (.tmp 0), 3, none) from by kernel_rfl) (by kernel_rfl) (.int .i64 ((n : Nat) : Int)) (fun _ => y_move (Eq.trans (by kernel_rfl) f_21)) ?_
    by_cases h_28 : (((i : Nat) : Int) : Int) < ((n : Nat) : Int)
    · refine wk_pure (show opD lKR3w2_7 2 = some (some 44, .binOp .lss 3 (.tmp 42) (.tmp 43) 3, 4, none) from by kernel_rfl) (by kernel_rfl) (.bool true) (fun _ => y_lss (k := .i64) (a := ((i : Nat) : Int)) (b := ((n : Nat) : Int)) (by kernel_rfl) (by kernel_rfl) (decide_eq_true h_28)) ?_
      refine wk_nil ?_
      refine thn_n ?_
      refine g_cond_t (o := .tmp 44) (x := lKN3w2_27) (y := lKN3w2_28) (by kernel_rfl) (by kernel_rfl) ?_
      refine g_skip (by kernel_rfl) ?_
      refine thn_n ?_
      refine g_seq (x := lKN3w2_29) (y := lKN3w2_30) (by kernel_rfl) ?_
      refine g_block (x := lKN3w2_31) (id := 1) (by kernel_rfl) ?_
      refine g_region (ops := lKR3w2_9) (id := 9) (by kernel_rfl) [(0, .pure), (1, .pure), (2, .loud), (3, .pure), (4, .loud)] (by kernel_rfl) (by kernel_rfl) ?_
      refine wk_pure (show opD lKR3w2_9 0 = some (some 47, .move (.tmp 7), 23, none) from by kernel_rfl) (by kernel_rfl) (.pointer (some ⟨p_10, 0, none⟩)) (fun _ => y_move (Eq.trans (by kernel_rfl) f_25)) ?_
      refine wk_pure (show opD lKR3w2_9 1 = some (some 48, .move (.tmp 9), 3, none) from by kernel_rfl) (by kernel_rfl) (.int .i64 ((i : Nat) : Int)) (fun _ => y_move (Eq.trans (by kernel_rfl) f_26)) ?_
      refine wk_buildSlice (e := 2) (cs := #[.int .i64 ((i : Nat) : Int)]) (show opD lKR3w2_9 2 = some (some 49, .buildSlice 29 1 #[(0, .tmp 48)], 29, none) from by kernel_rfl) (by kernel_rfl) (by kernel_rfl) (fun w_29 b_30 eq_31 e_32 sz_33 hb_34 => ⟨?_, ?_⟩)
      · exact trivial
      obtain ⟨γ_35, hg_36, hn_37⟩ := cls_new γ_20 w_18.heap.size 0
      have gx_38 : GX [] w_18 γ_20 w_29 γ_35 := GX.ext0 [] e_32 hg_36
      have hk_39 : Bk γ_35 w_29 b_30 0 (.cells #[.int .i64 ((i : Nat) : Int)] 2 (0, 0)) := ⟨hb_34, hn_37 _ (by omega)⟩
      refine wk_pure (show opD lKR3w2_9 3 = some (some 50, .build 32 #[(0, .const (.int .i64 5)), (5, .tmp 49)], 32, none) from by kernel_rfl) (by kernel_rfl) (.agg #[.int .i64 5, .int .i64 0, .int .i64 0, .int .u32 0, .int .u32 0, .slice (some ⟨b_30, 0, none⟩) 1 1, .slice none 0 0]) (fun _ => x_build (by kernel_rfl)) ?_
      have hm_40 : MOk γ_35 w_29 (⟨5, 0, 0, 0, 0, (some ⟨b_30, 0, none⟩), b_30, 0, 1, [((i : Nat) : Int)], none, 0, 0, 0, []⟩ : MsgR) := ⟨⟨SlE.of_cells hk_39.1 encI_len (by kernel_rfl), .inr ⟨Bk.lt hk_39, hk_39.2⟩⟩, SlG.nil _ _ _ _ _ _ _ _, (by show (0 : Int) ≤ 0 ∧ (0 : Int) < 4294967296; omega), (by show (0 : Int) ≤ 0 ∧ (0 : Int) < 4294967296; omega), (nr_one (by omega)), (by simp), (by simp)⟩
      have hq_41 : pushP s (⟨5, 0, 0, 0, 0, [((i : Nat) : Int)], []⟩ : Msg) = ((againA (i + 1)), 0) := (by rw [hs]; exact againA_push (by omega))
      have hb_42 : LkAt γ_35 w_29 10 p_10 s := (LkAt.keep hr_27 gx_38 List.not_mem_nil List.not_mem_nil List.not_mem_nil List.not_mem_nil)
      refine wk_call (show opD lKR3w2_9 4 = some (some 51, .call ⟨.value (.func 9), #[.tmp 47, .tmp 50], #[23, 32]⟩, 24, none) from by kernel_rfl) (by kernel_rfl) 9 #[.pointer (some ⟨p_10, 0, none⟩), .agg #[.int .i64 5, .int .i64 0, .int .i64 0, .int .u32 0, .int .u32 0, .slice (some ⟨b_30, 0, none⟩) 1 1, .slice none 0 0]] (x_call Try.func9 (by kernel_rfl) (c := (Try.f9.body).getD .skip) (by kernel_rfl) (by kernel_rfl) (by kernel_rfl)) (push_q (m := (⟨5, 0, 0, 0, 0, (some ⟨b_30, 0, none⟩), b_30, 0, 1, [((i : Nat) : Int)], none, 0, 0, 0, []⟩ : MsgR)) hq_41 rfl hb_42 (by omega) hm_40 (fun w_43 γ_44 gx_45 hL_46 => ⟨?_, ?_⟩))
      · exact trivial
      have hsz_47 : w_29.heap.size ≤ w_43.heap.size := gx_45.size
      have hL_48 : LkAt γ_44 w_43 10 p_10 (againA (i + 1)) := hL_46
      refine wk_nil ?_
      refine blk_n ?_
      refine thn_n ?_
      refine g_region (ops := lKR3w2_8) (id := 8) (by kernel_rfl) [(0, .pure), (1, .pure), (2, .pure)] (by kernel_rfl) (by kernel_rfl) ?_
      refine wk_pure (show opD lKR3w2_8 0 = some (some 45, .move (.tmp 9), 3, none) from by kernel_rfl) (by kernel_rfl) (.int .i64 ((i : Nat) : Int)) (fun _ => y_move (Eq.trans (by kernel_rfl) f_26)) ?_
      refine wk_pure (show opD lKR3w2_8 1 = some (some 46, .binOp .add 3 (.tmp 45) (.const (.int .i64 1)) 3, 3, none) from by kernel_rfl) (by kernel_rfl) (.int .i64 ((i + 1 : Nat) : Int)) (fun _ => y_add (k := .i64) (a := ((i : Nat) : Int)) (b := 1) (by kernel_rfl) (by kernel_rfl) (i64_to (by omega) (by omega))) ?_
      refine wk_pure (show opD lKR3w2_8 2 = some (some 9, .assign (.tmp 46), 3, none) from by kernel_rfl) (by kernel_rfl) (.int .i64 ((i + 1 : Nat) : Int)) (fun _ => y_assign (by kernel_rfl)) ?_
      refine wk_nil ?_
      refine thn_n ?_
      exact ⟨_, (by omega), ⟨(i + 1), (againA (i + 1)), _, rfl, by omega, by rfl, (Eq.trans (by kernel_rfl) f_21), (Eq.trans (by kernel_rfl) f_22), (Eq.trans (by kernel_rfl) f_23), (Eq.trans (by kernel_rfl) f_24), (Eq.trans (by kernel_rfl) f_25), (by kernel_rfl), hL_48, (GX.trans (GX.then0 hE_19 e_32 hg_36) gx_45 (by intro c_ hc_; simp only [List.mem_cons, List.not_mem_nil, or_false] at hc_ ⊢; omega))⟩⟩
    · refine wk_pure (show opD lKR3w2_7 2 = some (some 44, .binOp .lss 3 (.tmp 42) (.tmp 43) 3, 4, none) from by kernel_rfl) (by kernel_rfl) (.bool false) (fun _ => y_lss (k := .i64) (a := ((i : Nat) : Int)) (b := ((n : Nat) : Int)) (by kernel_rfl) (by kernel_rfl) (decide_eq_false h_28)) ?_
      refine wk_nil ?_
      refine thn_n ?_
      refine g_cond_f (o := .tmp 44) (x := lKN3w2_27) (y := lKN3w2_28) (by kernel_rfl) (by kernel_rfl) ?_
      refine g_exit (id := 0) (by kernel_rfl) ?_
      refine thn_e ?_
      refine thn_e ?_
      refine blk_hit ?_
      refine thn_n ?_
      refine g_seq (x := lKN3w2_32) (y := lKN3w2_33) (by kernel_rfl) ?_
      refine g_seq (x := lKN3w2_34) (y := lKN3w2_35) (by kernel_rfl) ?_
      refine g_region (ops := lKR3w2_10) (id := 10) (by kernel_rfl) [(0, .pure)] (by kernel_rfl) (by kernel_rfl) ?_
      refine wk_pure (show opD lKR3w2_10 0 = some (some 10, .assign (.const (.int .i64 0)), 3, none) from by kernel_rfl) (by kernel_rfl) (.int .i64 0) (fun _ => y_assign (by kernel_rfl)) ?_
      refine wk_nil ?_
      refine thn_n ?_
      refine g_block (x := lKN3w2_36) (id := 2) (by kernel_rfl) ?_
      refine g_loop (x := lKN3w2_37) (by kernel_rfl) (fun m_ ρ_ w_ => ∃ (t : Nat) (s : Lk) (γ_ : Nat → Nat), m_ = u + 1 - t ∧ (t ≤ u + 1) ∧ (s = againS n v t) ∧ ρ_ 0 = .int .i64 ((n : Nat) : Int) ∧ ρ_ 1 = .int .i64 ((u : Nat) : Int) ∧ ρ_ 2 = .int .i64 ((v : Nat) : Int) ∧ ρ_ 7 = .pointer (some ⟨p_10, 0, none⟩) ∧ ρ_ 10 = .int .i64 ((t : Nat) : Int) ∧ LkAt γ_ w_ 10 p_10 s ∧ GX [10, 11, 12] w (fun _ => 0) w_ γ_) (u + 1 - 0) ?_ ?_
      · exact ⟨0, s, _, rfl, by omega, by rw [hs, show i = n by omega]; rfl, (Eq.trans (by kernel_rfl) f_21), (Eq.trans (by kernel_rfl) f_22), (Eq.trans (by kernel_rfl) f_23), (Eq.trans (by kernel_rfl) f_25), (by kernel_rfl), hr_27, hE_19⟩
      · intro m_49 ρ_50 w_51 hI
        obtain ⟨t, s, γ_53, hm_m_49, ht, hs, f_54, f_55, f_56, f_57, f_58, hr_59, hE_52⟩ := hI
        have hs_w_51 := hE_52.size
        refine g_seq (x := lKN3w2_38) (y := lKN3w2_39) (by kernel_rfl) ?_
        refine g_seq (x := lKN3w2_40) (y := lKN3w2_41) (by kernel_rfl) ?_
        refine g_region (ops := lKR3w2_11) (id := 11) (by kernel_rfl) [(0, .pure), (1, .pure), (2, .pure)] (by kernel_rfl) (by kernel_rfl) ?_
        refine wk_pure (show opD lKR3w2_11 0 = some (some 52, .move (.tmp 10), 3, none) from by kernel_rfl) (by kernel_rfl) (.int .i64 ((t : Nat) : Int)) (fun _ => y_move (Eq.trans (by kernel_rfl) f_58)) ?_
        refine wk_pure (show opD lKR3w2_11 1 = some (some 53, .move (.tmp 1), 3, none) from by kernel_rfl) (by kernel_rfl) (.int .i64 ((u : Nat) : Int)) (fun _ => y_move (Eq.trans (by kernel_rfl) f_55)) ?_
        by_cases h_60 : (((t : Nat) : Int) : Int) ≤ ((u : Nat) : Int)
        · refine wk_pure (show opD lKR3w2_11 2 = some (some 54, .binOp .leq 3 (.tmp 52) (.tmp 53) 3, 4, none) from by kernel_rfl) (by kernel_rfl) (.bool true) (fun _ => y_leq (k := .i64) (a := ((t : Nat) : Int)) (b := ((u : Nat) : Int)) (by kernel_rfl) (by kernel_rfl) (decide_eq_true h_60)) ?_
          refine wk_nil ?_
          refine thn_n ?_
          refine g_cond_t (o := .tmp 54) (x := lKN3w2_42) (y := lKN3w2_43) (by kernel_rfl) (by kernel_rfl) ?_
          refine g_skip (by kernel_rfl) ?_
          refine thn_n ?_
          refine g_seq (x := lKN3w2_44) (y := lKN3w2_45) (by kernel_rfl) ?_
          refine g_block (x := lKN3w2_46) (id := 3) (by kernel_rfl) ?_
          refine g_seq (x := lKN3w2_47) (y := lKN3w2_48) (by kernel_rfl) ?_
          refine g_region (ops := lKR3w2_13) (id := 13) (by kernel_rfl) [(0, .pure), (1, .pure), (2, .loud), (3, .pure)] (by kernel_rfl) (by kernel_rfl) ?_
          refine wk_pure (show opD lKR3w2_13 0 = some (some 57, .move (.tmp 7), 23, none) from by kernel_rfl) (by kernel_rfl) (.pointer (some ⟨p_10, 0, none⟩)) (fun _ => y_move (Eq.trans (by kernel_rfl) f_57)) ?_
          refine wk_pure (show opD lKR3w2_13 1 = some (some 58, .move (.tmp 10), 3, none) from by kernel_rfl) (by kernel_rfl) (.int .i64 ((t : Nat) : Int)) (fun _ => y_move (Eq.trans (by kernel_rfl) f_58)) ?_
          have hmax_x_61 : (againO n v t).length ≤ 32 := by rw [again_len]; split <;> omega
          have hq_62 : tickP s ((t : Nat) : Int) = ((againT n v t), (againO n v t)) := (by rw [hs]; exact again_tick ⟨by omega, by omega⟩)
          refine wk_call (show opD lKR3w2_13 2 = some (some 59, .call ⟨.value (.func 10), #[.tmp 57, .tmp 58], #[23, 2]⟩, 33, none) from by kernel_rfl) (by kernel_rfl) 10 #[.pointer (some ⟨p_10, 0, none⟩), .int .i64 ((t : Nat) : Int)] (x_call Try.func10 (by kernel_rfl) (c := (Try.f10.body).getD .skip) (by kernel_rfl) (by kernel_rfl) (by kernel_rfl)) (tick_q (now := ((t : Nat) : Int)) hq_62 hr_59 (by omega) (by omega) (fun w_63 γ_64 v_65 outs_66 gx_67 hM_68 hL_69 ho_70 => ⟨?_, ?_⟩))
          · exact trivial
          have hsz_71 : w_51.heap.size ≤ w_63.heap.size := gx_67.size
          have hL_72 : LkAt γ_64 w_63 10 p_10 (againT n v t) := hL_69
          obtain ⟨a_73, b_74, off_75, c_76, ev_79, hs_77, hall_78⟩ := hM_68
          subst ev_79
          have hlen_outs_66 : outs_66.length = (againO n v t).length := by rw [← ho_70, List.length_map]
          refine wk_pure (show opD lKR3w2_13 3 = some (some 11, .assign (.tmp 59), 33, none) from by kernel_rfl) (by kernel_rfl) (.slice a_73 outs_66.length c_76) (fun _ => y_assign (by kernel_rfl)) ?_
          refine wk_nil ?_
          refine thn_n ?_
          refine g_seq (x := lKN3w2_49) (y := lKN3w2_50) (by kernel_rfl) ?_
          refine g_region (ops := lKR3w2_14) (id := 14) (by kernel_rfl) [(0, .pure)] (by kernel_rfl) (by kernel_rfl) ?_
          refine wk_pure (show opD lKR3w2_14 0 = some (some 12, .assign (.const (.int .i64 0)), 3, none) from by kernel_rfl) (by kernel_rfl) (.int .i64 0) (fun _ => y_assign (by kernel_rfl)) ?_
          refine wk_nil ?_
          refine thn_n ?_
          refine g_seq (x := lKN3w2_51) (y := lKN3w2_52) (by kernel_rfl) ?_
          refine g_seq (x := lKN3w2_53) (y := lKN3w2_54) (by kernel_rfl) ?_
          refine g_region (ops := lKR3w2_15) (id := 15) (by kernel_rfl) [(0, .pure), (1, .pure), (2, .pure), (3, .pure), (4, .pure), (5, .pure), (6, .pure), (7, .pure)] (by kernel_rfl) (by kernel_rfl) ?_
          refine wk_pure (show opD lKR3w2_15 0 = some (some 60, .move (.tmp 10), 3, none) from by kernel_rfl) (by kernel_rfl) (.int .i64 ((t : Nat) : Int)) (fun _ => y_move (Eq.trans (by kernel_rfl) f_58)) ?_
          refine wk_pure (show opD lKR3w2_15 1 = some (some 61, .binOp .and 3 (.tmp 60) (.const (.int .i64 7)) 3, 3, none) from by kernel_rfl) (by kernel_rfl) (.int .i64 ((t % 8 : Nat) : Int)) (fun _ => y_and7 (n := t) (by kernel_rfl) (by kernel_rfl) (by omega)) ?_
          by_cases h_80 : (((t % 8 : Nat) : Int) : Int) = 0
          · refine wk_pure (show opD lKR3w2_15 2 = some (some 62, .binOp .eql 3 (.tmp 61) (.const (.int .i64 0)) 3, 4, none) from by kernel_rfl) (by kernel_rfl) (.bool true) (fun _ => y_eql (k := .i64) (a := ((t % 8 : Nat) : Int)) (b := 0) (by kernel_rfl) (by kernel_rfl) (decide_eq_true h_80)) ?_
            refine wk_pure (show opD lKR3w2_15 3 = some (some 63, .move (.tmp 62), 4, none) from by kernel_rfl) (by kernel_rfl) (.bool true) (fun _ => y_move (by kernel_rfl)) ?_
            refine wk_pure (show opD lKR3w2_15 4 = some (some 64, .move (.tmp 10), 3, some (3, true)) from by kernel_rfl) (by kernel_rfl) (.int .i64 ((t : Nat) : Int)) (fun _ => y_move (Eq.trans (by kernel_rfl) f_58)) ?_
            refine wk_pure (show opD lKR3w2_15 5 = some (some 65, .move (.tmp 2), 3, some (3, true)) from by kernel_rfl) (by kernel_rfl) (.int .i64 ((v : Nat) : Int)) (fun _ => y_move (Eq.trans (by kernel_rfl) f_56)) ?_
            by_cases h_81 : (((t : Nat) : Int) : Int) ≤ ((v : Nat) : Int)
            · refine wk_pure (show opD lKR3w2_15 6 = some (some 66, .binOp .leq 3 (.tmp 64) (.tmp 65) 3, 4, some (3, true)) from by kernel_rfl) (by kernel_rfl) (.bool true) (fun _ => y_leq (k := .i64) (a := ((t : Nat) : Int)) (b := ((v : Nat) : Int)) (by kernel_rfl) (by kernel_rfl) (decide_eq_true h_81)) ?_
              refine wk_pure (show opD lKR3w2_15 7 = some (some 67, .pick (.tmp 63) (.tmp 66) (.const (.bool false)), 4, none) from by kernel_rfl) (by kernel_rfl) (.bool true) (fun _ => y_pick_t (by kernel_rfl) (by kernel_rfl)) ?_
              refine wk_nil ?_
              refine thn_n ?_
              refine g_cond_t (o := .tmp 67) (x := lKN3w2_55) (y := lKN3w2_56) (by kernel_rfl) (by kernel_rfl) ?_
              refine g_region (ops := lKR3w2_16) (id := 16) (by kernel_rfl) [(0, .pure), (1, .pure)] (by kernel_rfl) (by kernel_rfl) ?_
              refine wk_pure (show opD lKR3w2_16 0 = some (some 68, .move (.tmp 0), 3, none) from by kernel_rfl) (by kernel_rfl) (.int .i64 ((n : Nat) : Int)) (fun _ => y_move (Eq.trans (by kernel_rfl) f_54)) ?_
              refine wk_pure (show opD lKR3w2_16 1 = some (some 12, .assign (.tmp 68), 3, none) from by kernel_rfl) (by kernel_rfl) (.int .i64 ((n : Nat) : Int)) (fun _ => y_assign (by kernel_rfl)) ?_
              refine wk_nil ?_
              refine thn_n ?_
              refine g_seq (x := lKN3w2_57) (y := lKN3w2_58) (by kernel_rfl) ?_
              refine g_seq (x := lKN3w2_59) (y := lKN3w2_60) (by kernel_rfl) ?_
              refine g_region (ops := lKR3w2_17) (id := 17) (by kernel_rfl) [(0, .pure), (1, .pure), (2, .pure), (3, .pure)] (by kernel_rfl) (by kernel_rfl) ?_
              refine wk_pure (show opD lKR3w2_17 0 = some (some 69, .move (.tmp 11), 33, none) from by kernel_rfl) (by kernel_rfl) (.slice a_73 outs_66.length c_76) (fun _ => y_move (by kernel_rfl)) ?_
              refine wk_pure (show opD lKR3w2_17 1 = some (some 70, .call ⟨.builtin .len, #[.tmp 69], #[33]⟩, 3, none) from by kernel_rfl) (by kernel_rfl) (.int .i64 ((outs_66.length : Nat) : Int)) (fun _ => x_len (a := a_73) (n := outs_66.length) (c := c_76) (by kernel_rfl) (by kernel_rfl)) ?_
              refine wk_pure (show opD lKR3w2_17 2 = some (some 71, .move (.tmp 12), 3, none) from by kernel_rfl) (by kernel_rfl) (.int .i64 ((n : Nat) : Int)) (fun _ => y_move (by kernel_rfl)) ?_
              refine wk_pure (show opD lKR3w2_17 3 = some (some 72, .binOp .neq 3 (.tmp 70) (.tmp 71) 3, 4, none) from by kernel_rfl) (by kernel_rfl) (.bool false) (fun _ => y_neq (k := .i64) (a := ((outs_66.length : Nat) : Int)) (b := ((n : Nat) : Int)) (by kernel_rfl) (by kernel_rfl) (decide_eq_false (by rw [hlen_outs_66, again_len]; split <;> omega))) ?_
              refine wk_nil ?_
              refine thn_n ?_
              refine g_cond_f (o := .tmp 72) (x := lKN3w2_61) (y := lKN3w2_62) (by kernel_rfl) (by kernel_rfl) ?_
              refine g_skip (by kernel_rfl) ?_
              refine thn_n ?_
              refine g_seq (x := lKN3w2_63) (y := lKN3w2_64) (by kernel_rfl) ?_
              refine g_seq (x := lKN3w2_65) (y := lKN3w2_66) (by kernel_rfl) ?_
              refine g_region (ops := lKR3w2_19) (id := 19) (by kernel_rfl) [(0, .pure)] (by kernel_rfl) (by kernel_rfl) ?_
              refine wk_pure (show opD lKR3w2_19 0 = some (some 13, .assign (.const (.int .i64 0)), 3, none) from by kernel_rfl) (by kernel_rfl) (.int .i64 0) (fun _ => y_assign (by kernel_rfl)) ?_
              refine wk_nil ?_
              refine thn_n ?_
              refine g_block (x := lKN3w2_67) (id := 4) (by kernel_rfl) ?_
              refine g_loop (x := lKN3w2_68) (by kernel_rfl) (fun m_ ρ_ w_ => ∃ (j : Nat) (γ_ : Nat → Nat), m_ = outs_66.length - j ∧ (j ≤ outs_66.length) ∧ ρ_ 0 = .int .i64 ((n : Nat) : Int) ∧ ρ_ 1 = .int .i64 ((u : Nat) : Int) ∧ ρ_ 2 = .int .i64 ((v : Nat) : Int) ∧ ρ_ 7 = .pointer (some ⟨p_10, 0, none⟩) ∧ ρ_ 10 = .int .i64 ((t : Nat) : Int) ∧ ρ_ 11 = .slice a_73 outs_66.length c_76 ∧ ρ_ 12 = .int .i64 ((n : Nat) : Int) ∧ ρ_ 52 = .int .i64 ((t : Nat) : Int) ∧ ρ_ 53 = .int .i64 ((u : Nat) : Int) ∧ ρ_ 54 = .bool true ∧ ρ_ 57 = .pointer (some ⟨p_10, 0, none⟩) ∧ ρ_ 58 = .int .i64 ((t : Nat) : Int) ∧ ρ_ 59 = .slice a_73 outs_66.length c_76 ∧ ρ_ 60 = .int .i64 ((t : Nat) : Int) ∧ ρ_ 61 = .int .i64 ((t % 8 : Nat) : Int) ∧ ρ_ 62 = .bool true ∧ ρ_ 63 = .bool true ∧ ρ_ 64 = .int .i64 ((t : Nat) : Int) ∧ ρ_ 65 = .int .i64 ((v : Nat) : Int) ∧ ρ_ 66 = .bool true ∧ ρ_ 67 = .bool true ∧ ρ_ 68 = .int .i64 ((n : Nat) : Int) ∧ ρ_ 69 = .slice a_73 outs_66.length c_76 ∧ ρ_ 70 = .int .i64 ((outs_66.length : Nat) : Int) ∧ ρ_ 71 = .int .i64 ((n : Nat) : Int) ∧ ρ_ 72 = .bool false ∧ ρ_ 13 = .int .i64 ((j : Nat) : Int) ∧ LkAt γ_ w_ 10 p_10 (againT n v t) ∧ SlG γ_ w_ 0 7 a_73 b_74 off_75 encM outs_66 ∧ AllOk γ_ w_ outs_66 ∧ GX [10, 11, 12] w (fun _ => 0) w_ γ_) (outs_66.length - 0) ?_ ?_
              · exact ⟨0, _, rfl, by omega, (Eq.trans (by kernel_rfl) f_54), (Eq.trans (by kernel_rfl) f_55), (Eq.trans (by kernel_rfl) f_56), (Eq.trans (by kernel_rfl) f_57), (Eq.trans (by kernel_rfl) f_58), (by kernel_rfl), (by kernel_rfl), (by kernel_rfl), (by kernel_rfl), (by kernel_rfl), (by kernel_rfl), (by kernel_rfl), (by kernel_rfl), (by kernel_rfl), (by kernel_rfl), (by kernel_rfl), (by kernel_rfl), (by kernel_rfl), (by kernel_rfl), (by kernel_rfl), (by kernel_rfl), (by kernel_rfl), (by kernel_rfl), (by kernel_rfl), (by kernel_rfl), (by kernel_rfl), (by kernel_rfl), hL_72, hs_77, hall_78, (GX.trans hE_52 gx_67 (by intro c_ hc_; simp only [List.mem_cons, List.not_mem_nil, or_false] at hc_ ⊢; omega))⟩
              · intro m_82 ρ_83 w_84 hI
                obtain ⟨j, γ_86, hm_m_82, hj, f_87, f_88, f_89, f_90, f_91, f_92, f_93, f_94, f_95, f_96, f_97, f_98, f_99, f_100, f_101, f_102, f_103, f_104, f_105, f_106, f_107, f_108, f_109, f_110, f_111, f_112, f_113, hr_114, hr_115, hr_116, hE_85⟩ := hI
                have hs_w_84 := hE_85.size
                refine g_seq (x := lKN3w2_69) (y := lKN3w2_70) (by kernel_rfl) ?_
                refine g_seq (x := lKN3w2_71) (y := lKN3w2_72) (by kernel_rfl) ?_
                refine g_region (ops := lKR3w2_20) (id := 20) (by kernel_rfl) [(0, .pure), (1, .pure), (2, .pure), (3, .pure)] (by kernel_rfl) (by kernel_rfl) ?_
                refine wk_pure (show opD lKR3w2_20 0 = some (some 73, .move (.tmp 13), 3, none) from by kernel_rfl) (by kernel_rfl) (.int .i64 ((j : Nat) : Int)) (fun _ => y_move (Eq.trans (by kernel_rfl) f_113)) ?_
                refine wk_pure (show opD lKR3w2_20 1 = some (some 74, .move (.tmp 11), 33, none) from by kernel_rfl) (by kernel_rfl) (.slice a_73 outs_66.length c_76) (fun _ => y_move (Eq.trans (by kernel_rfl) f_92)) ?_
                refine wk_pure (show opD lKR3w2_20 2 = some (some 75, .call ⟨.builtin .len, #[.tmp 74], #[33]⟩, 3, none) from by kernel_rfl) (by kernel_rfl) (.int .i64 ((outs_66.length : Nat) : Int)) (fun _ => x_len (a := a_73) (n := outs_66.length) (c := c_76) (by kernel_rfl) (by kernel_rfl)) ?_
                by_cases h_117 : (((j : Nat) : Int) : Int) < ((outs_66.length : Nat) : Int)
                · refine wk_pure (show opD lKR3w2_20 3 = some (some 76, .binOp .lss 3 (.tmp 73) (.tmp 75) 3, 4, none) from by kernel_rfl) (by kernel_rfl) (.bool true) (fun _ => y_lss (k := .i64) (a := ((j : Nat) : Int)) (b := ((outs_66.length : Nat) : Int)) (by kernel_rfl) (by kernel_rfl) (decide_eq_true h_117)) ?_
                  refine wk_nil ?_
                  refine thn_n ?_
                  refine g_cond_t (o := .tmp 76) (x := lKN3w2_73) (y := lKN3w2_74) (by kernel_rfl) (by kernel_rfl) ?_
                  refine g_skip (by kernel_rfl) ?_
                  refine thn_n ?_
                  refine g_seq (x := lKN3w2_75) (y := lKN3w2_76) (by kernel_rfl) ?_
                  refine g_block (x := lKN3w2_77) (id := 5) (by kernel_rfl) ?_
                  refine g_seq (x := lKN3w2_78) (y := lKN3w2_79) (by kernel_rfl) ?_
                  refine g_region (ops := lKR3w2_22) (id := 22) (by kernel_rfl) [(0, .pure), (1, .pure), (2, .pure), (3, .pure), (4, .loud), (5, .pure), (6, .pure), (7, .pure), (8, .pure), (9, .pure), (10, .pure), (11, .pure), (12, .pure), (13, .pure), (14, .loud), (15, .pure), (16, .loud), (17, .pure), (18, .pure), (19, .pure)] (by kernel_rfl) (by kernel_rfl) ?_
                  refine wk_pure (show opD lKR3w2_22 0 = some (some 79, .move (.tmp 11), 33, none) from by kernel_rfl) (by kernel_rfl) (.slice a_73 outs_66.length c_76) (fun _ => y_move (Eq.trans (by kernel_rfl) f_92)) ?_
                  refine wk_pure (show opD lKR3w2_22 1 = some (some 80, .move (.tmp 13), 3, none) from by kernel_rfl) (by kernel_rfl) (.int .i64 ((j : Nat) : Int)) (fun _ => y_move (Eq.trans (by kernel_rfl) f_113)) ?_
                  refine wk_pure (show opD lKR3w2_22 2 = some (some 81, .indexAddr 33 (.tmp 79) (.tmp 80), 0, none) from by kernel_rfl) (by kernel_rfl) (.pointer (some ⟨b_74, off_75 + (j * 7 + 0), none⟩)) (fun _ => y_ptr (x_indexN (a := a_73) (b := b_74) (off := off_75) (n := outs_66.length) (c := c_76) (k := .i64) (i := ((j : Nat) : Int)) (e := 32) (sz := 7) (sz' := 7) (by kernel_rfl) hr_115.1 (by kernel_rfl) (by kernel_rfl) rfl (by omega) _) (by omega)) ?_
                  refine wk_pure (show opD lKR3w2_22 3 = some (some 82, .fieldAddr 32 (.tmp 81) 4, 0, none) from by kernel_rfl) (by kernel_rfl) (.pointer (some ⟨b_74, off_75 + (j * 7 + 4), none⟩)) (fun _ => y_ptr (x_fieldAddr (b := b_74) (off := (off_75 + (j * 7 + 0))) (o := 4) (by kernel_rfl) (by kernel_rfl)) (by omega)) ?_
                  refine wk_val (show opD lKR3w2_22 4 = some (some 83, .load 27 (.tmp 82), 27, none) from by kernel_rfl) (by kernel_rfl) (.int .u32 ((outs_66.getD j M0).seq)) (x_load_c (b := b_74) (off := (off_75 + (j * 7 + 4))) (by kernel_rfl) (by kernel_rfl) (SlE.get hr_115.1 encM_len M0 j 4 (by omega) rfl)) trivial ?_
                  refine wk_pure (show opD lKR3w2_22 5 = some (some 84, .move (.tmp 13), 3, none) from by kernel_rfl) (by kernel_rfl) (.int .i64 ((j : Nat) : Int)) (fun _ => y_move (Eq.trans (by kernel_rfl) f_113)) ?_
                  refine wk_pure (show opD lKR3w2_22 6 = some (some 85, .binOp .add 3 (.tmp 84) (.const (.int .i64 1)) 3, 3, none) from by kernel_rfl) (by kernel_rfl) (.int .i64 ((j + 1 : Nat) : Int)) (fun _ => y_add (k := .i64) (a := ((j : Nat) : Int)) (b := 1) (by kernel_rfl) (by kernel_rfl) (i64_to (by omega) (by omega))) ?_
                  refine wk_pure (show opD lKR3w2_22 7 = some (some 86, .convert 3 27 (.tmp 85), 27, none) from by kernel_rfl) (by kernel_rfl) (.int .u32 ((j + 1 : Nat) : Int)) (fun _ => y_conv (q := .i64) (a := ((j + 1 : Nat) : Int)) (by kernel_rfl) (by kernel_rfl) (by kernel_rfl) (u32_id (by omega))) ?_
                  have hq_118 := again_at ho_70 (by omega : j < outs_66.length)
                  have hq_118_n : (outs_66.getD j M0).N.length = 1 := by rw [hq_118.2]; rfl
                  refine wk_pure (show opD lKR3w2_22 8 = some (some 87, .binOp .neq 27 (.tmp 83) (.tmp 86) 27, 4, none) from by kernel_rfl) (by kernel_rfl) (.bool false) (fun _ => y_neq (k := .u32) (a := ((outs_66.getD j M0).seq)) (b := ((j + 1 : Nat) : Int)) (by kernel_rfl) (by kernel_rfl) (decide_eq_false (by rw [hq_118.1]; omega))) ?_
                  refine wk_pure (show opD lKR3w2_22 9 = some (some 88, .move (.tmp 87), 4, none) from by kernel_rfl) (by kernel_rfl) (.bool false) (fun _ => y_move (by kernel_rfl)) ?_
                  refine wk_pure (show opD lKR3w2_22 10 = some (some 89, .move (.tmp 11), 33, some (9, false)) from by kernel_rfl) (by kernel_rfl) (.slice a_73 outs_66.length c_76) (fun _ => y_move (Eq.trans (by kernel_rfl) f_92)) ?_
                  refine wk_pure (show opD lKR3w2_22 11 = some (some 90, .move (.tmp 13), 3, some (9, false)) from by kernel_rfl) (by kernel_rfl) (.int .i64 ((j : Nat) : Int)) (fun _ => y_move (Eq.trans (by kernel_rfl) f_113)) ?_
                  refine wk_pure (show opD lKR3w2_22 12 = some (some 91, .indexAddr 33 (.tmp 89) (.tmp 90), 0, some (9, false)) from by kernel_rfl) (by kernel_rfl) (.pointer (some ⟨b_74, off_75 + (j * 7 + 0), none⟩)) (fun _ => y_ptr (x_indexN (a := a_73) (b := b_74) (off := off_75) (n := outs_66.length) (c := c_76) (k := .i64) (i := ((j : Nat) : Int)) (e := 32) (sz := 7) (sz' := 7) (by kernel_rfl) hr_115.1 (by kernel_rfl) (by kernel_rfl) rfl (by omega) _) (by omega)) ?_
                  refine wk_pure (show opD lKR3w2_22 13 = some (some 92, .fieldAddr 32 (.tmp 91) 5, 0, some (9, false)) from by kernel_rfl) (by kernel_rfl) (.pointer (some ⟨b_74, off_75 + (j * 7 + 5), none⟩)) (fun _ => y_ptr (x_fieldAddr (b := b_74) (off := (off_75 + (j * 7 + 0))) (o := 5) (by kernel_rfl) (by kernel_rfl)) (by omega)) ?_
                  refine wk_val (show opD lKR3w2_22 14 = some (some 93, .load 29 (.tmp 92), 29, some (9, false)) from by kernel_rfl) (by kernel_rfl) (.slice ((outs_66.getD j M0).na) ((outs_66.getD j M0).N.length) ((outs_66.getD j M0).nc)) (x_load_c (b := b_74) (off := (off_75 + (j * 7 + 5))) (by kernel_rfl) (by kernel_rfl) (SlE.get hr_115.1 encM_len M0 j 5 (by omega) rfl)) trivial ?_
                  refine wk_pure (show opD lKR3w2_22 15 = some (some 94, .indexAddr 29 (.tmp 93) (.const (.int .i64 0)), 0, some (9, false)) from by kernel_rfl) (by kernel_rfl) (.pointer (some ⟨(outs_66.getD j M0).nb, ((outs_66.getD j M0).noff) + (0 * 1 + 0), none⟩)) (fun _ => y_ptr (x_indexN (a := (outs_66.getD j M0).na) (b := (outs_66.getD j M0).nb) (off := ((outs_66.getD j M0).noff)) (n := ((outs_66.getD j M0).N.length)) (c := ((outs_66.getD j M0).nc)) (k := .i64) (i := 0) (e := 2) (sz := 1) (sz' := 1) (by kernel_rfl) (AllOk.get hr_116 (by omega : j < outs_66.length)).n.1 (by kernel_rfl) (by kernel_rfl) rfl (by have hq_ := again_at ho_70 (by omega : j < outs_66.length); rw [hq_.2]; exact ⟨Int.le_refl _, Int.zero_lt_one⟩) _) (by omega)) ?_
                  refine wk_val (show opD lKR3w2_22 16 = some (some 95, .load 2 (.tmp 94), 2, some (9, false)) from by kernel_rfl) (by kernel_rfl) (.int .i64 (((outs_66.getD j M0).N).getD 0 0)) (x_load_c (b := (outs_66.getD j M0).nb) (off := (((outs_66.getD j M0).noff) + (0 * 1 + 0))) (by kernel_rfl) (by kernel_rfl) (SlE.get (AllOk.get hr_116 (by omega : j < outs_66.length)).n.1 encI_len 0 0 0 (by omega) rfl)) trivial ?_
                  refine wk_pure (show opD lKR3w2_22 17 = some (some 96, .move (.tmp 13), 3, some (9, false)) from by kernel_rfl) (by kernel_rfl) (.int .i64 ((j : Nat) : Int)) (fun _ => y_move (Eq.trans (by kernel_rfl) f_113)) ?_
                  have hq_119 := again_at ho_70 (by omega : j < outs_66.length)
                  have hq_119_n : (outs_66.getD j M0).N.length = 1 := by rw [hq_119.2]; rfl
                  refine wk_pure (show opD lKR3w2_22 18 = some (some 97, .binOp .neq 2 (.tmp 95) (.tmp 96) 2, 4, some (9, false)) from by kernel_rfl) (by kernel_rfl) (.bool false) (fun _ => y_neq (k := .i64) (a := (((outs_66.getD j M0).N).getD 0 0)) (b := ((j : Nat) : Int)) (by kernel_rfl) (by kernel_rfl) (decide_eq_false (by rw [hq_119.2]; exact fun h_ => h_ rfl))) ?_
                  refine wk_pure (show opD lKR3w2_22 19 = some (some 98, .pick (.tmp 88) (.const (.bool true)) (.tmp 97), 4, none) from by kernel_rfl) (by kernel_rfl) (.bool false) (fun _ => y_pick_f (by kernel_rfl) (by kernel_rfl)) ?_
                  refine wk_nil ?_
                  refine thn_n ?_
                  refine g_cond_f (o := .tmp 98) (x := lKN3w2_80) (y := lKN3w2_81) (by kernel_rfl) (by kernel_rfl) ?_
                  refine g_skip (by kernel_rfl) ?_
                  refine blk_n ?_
                  refine thn_n ?_
                  refine g_region (ops := lKR3w2_21) (id := 21) (by kernel_rfl) [(0, .pure), (1, .pure), (2, .pure)] (by kernel_rfl) (by kernel_rfl) ?_
                  refine wk_pure (show opD lKR3w2_21 0 = some (some 77, .move (.tmp 13), 3, none) from by kernel_rfl) (by kernel_rfl) (.int .i64 ((j : Nat) : Int)) (fun _ => y_move (Eq.trans (by kernel_rfl) f_113)) ?_
                  refine wk_pure (show opD lKR3w2_21 1 = some (some 78, .binOp .add 3 (.tmp 77) (.const (.int .i64 1)) 3, 3, none) from by kernel_rfl) (by kernel_rfl) (.int .i64 ((j + 1 : Nat) : Int)) (fun _ => y_add (k := .i64) (a := ((j : Nat) : Int)) (b := 1) (by kernel_rfl) (by kernel_rfl) (i64_to (by omega) (by omega))) ?_
                  refine wk_pure (show opD lKR3w2_21 2 = some (some 13, .assign (.tmp 78), 3, none) from by kernel_rfl) (by kernel_rfl) (.int .i64 ((j + 1 : Nat) : Int)) (fun _ => y_assign (by kernel_rfl)) ?_
                  refine wk_nil ?_
                  refine thn_n ?_
                  exact ⟨_, (by omega), ⟨(j + 1), _, rfl, by omega, (Eq.trans (by kernel_rfl) f_87), (Eq.trans (by kernel_rfl) f_88), (Eq.trans (by kernel_rfl) f_89), (Eq.trans (by kernel_rfl) f_90), (Eq.trans (by kernel_rfl) f_91), (Eq.trans (by kernel_rfl) f_92), (Eq.trans (by kernel_rfl) f_93), (Eq.trans (by kernel_rfl) f_94), (Eq.trans (by kernel_rfl) f_95), (Eq.trans (by kernel_rfl) f_96), (Eq.trans (by kernel_rfl) f_97), (Eq.trans (by kernel_rfl) f_98), (Eq.trans (by kernel_rfl) f_99), (Eq.trans (by kernel_rfl) f_100), (Eq.trans (by kernel_rfl) f_101), (Eq.trans (by kernel_rfl) f_102), (Eq.trans (by kernel_rfl) f_103), (Eq.trans (by kernel_rfl) f_104), (Eq.trans (by kernel_rfl) f_105), (Eq.trans (by kernel_rfl) f_106), (Eq.trans (by kernel_rfl) f_107), (Eq.trans (by kernel_rfl) f_108), (Eq.trans (by kernel_rfl) f_109), (Eq.trans (by kernel_rfl) f_110), (Eq.trans (by kernel_rfl) f_111), (Eq.trans (by kernel_rfl) f_112), (by kernel_rfl), hr_114, hr_115, hr_116, hE_85⟩⟩
                · refine wk_pure (show opD lKR3w2_20 3 = some (some 76, .binOp .lss 3 (.tmp 73) (.tmp 75) 3, 4, none) from by kernel_rfl) (by kernel_rfl) (.bool false) (fun _ => y_lss (k := .i64) (a := ((j : Nat) : Int)) (b := ((outs_66.length : Nat) : Int)) (by kernel_rfl) (by kernel_rfl) (decide_eq_false h_117)) ?_
                  refine wk_nil ?_
                  refine thn_n ?_
                  refine g_cond_f (o := .tmp 76) (x := lKN3w2_73) (y := lKN3w2_74) (by kernel_rfl) (by kernel_rfl) ?_
                  refine g_exit (id := 4) (by kernel_rfl) ?_
                  refine thn_e ?_
                  refine thn_e ?_
                  refine blk_hit ?_
                  refine thn_n ?_
                  refine g_seq (x := lKN3w2_82) (y := lKN3w2_83) (by kernel_rfl) ?_
                  refine g_region (ops := lKR3w2_24) (id := 24) (by kernel_rfl) [(0, .pure), (1, .pure), (2, .pure)] (by kernel_rfl) (by kernel_rfl) ?_
                  refine wk_pure (show opD lKR3w2_24 0 = some (some 99, .move (.tmp 10), 3, none) from by kernel_rfl) (by kernel_rfl) (.int .i64 ((t : Nat) : Int)) (fun _ => y_move (Eq.trans (by kernel_rfl) f_91)) ?_
                  refine wk_pure (show opD lKR3w2_24 1 = some (some 100, .move (.tmp 2), 3, none) from by kernel_rfl) (by kernel_rfl) (.int .i64 ((v : Nat) : Int)) (fun _ => y_move (Eq.trans (by kernel_rfl) f_89)) ?_
                  by_cases h_120 : (((t : Nat) : Int) : Int) = ((v : Nat) : Int)
                  · refine wk_pure (show opD lKR3w2_24 2 = some (some 101, .binOp .eql 3 (.tmp 99) (.tmp 100) 3, 4, none) from by kernel_rfl) (by kernel_rfl) (.bool true) (fun _ => y_eql (k := .i64) (a := ((t : Nat) : Int)) (b := ((v : Nat) : Int)) (by kernel_rfl) (by kernel_rfl) (decide_eq_true h_120)) ?_
                    refine wk_nil ?_
                    refine thn_n ?_
                    refine g_cond_t (o := .tmp 101) (x := lKN3w2_84) (y := lKN3w2_85) (by kernel_rfl) (by kernel_rfl) ?_
                    refine g_region (ops := lKR3w2_25) (id := 25) (by kernel_rfl) [(0, .pure), (1, .pure), (2, .loud), (3, .pure), (4, .loud)] (by kernel_rfl) (by kernel_rfl) ?_
                    refine wk_pure (show opD lKR3w2_25 0 = some (some 102, .move (.tmp 7), 23, none) from by kernel_rfl) (by kernel_rfl) (.pointer (some ⟨p_10, 0, none⟩)) (fun _ => y_move (Eq.trans (by kernel_rfl) f_90)) ?_
                    refine wk_pure (show opD lKR3w2_25 1 = some (some 103, .move (.tmp 0), 3, none) from by kernel_rfl) (by kernel_rfl) (.int .i64 ((n : Nat) : Int)) (fun _ => y_move (Eq.trans (by kernel_rfl) f_87)) ?_
                    refine wk_buildSlice (e := 2) (cs := #[.int .i64 ((n : Nat) : Int)]) (show opD lKR3w2_25 2 = some (some 104, .buildSlice 29 1 #[(0, .tmp 103)], 29, none) from by kernel_rfl) (by kernel_rfl) (by kernel_rfl) (fun w_121 b_122 eq_123 e_124 sz_125 hb_126 => ⟨?_, ?_⟩)
                    · exact trivial
                    obtain ⟨γ_127, hg_128, hn_129⟩ := cls_new γ_86 w_84.heap.size 0
                    have gx_130 : GX [] w_84 γ_86 w_121 γ_127 := GX.ext0 [] e_124 hg_128
                    have hk_131 : Bk γ_127 w_121 b_122 0 (.cells #[.int .i64 ((n : Nat) : Int)] 2 (0, 0)) := ⟨hb_126, hn_129 _ (by omega)⟩
                    refine wk_pure (show opD lKR3w2_25 3 = some (some 105, .build 32 #[(0, .const (.int .i64 1)), (1, .const (.int .i64 1)), (2, .const (.int .i64 0)), (3, .const (.int .u32 7)), (5, .tmp 104)], 32, none) from by kernel_rfl) (by kernel_rfl) (.agg #[.int .i64 1, .int .i64 1, .int .i64 0, .int .u32 7, .int .u32 0, .slice (some ⟨b_122, 0, none⟩) 1 1, .slice none 0 0]) (fun _ => x_build (by kernel_rfl)) ?_
                    have hm_132 : MOk γ_127 w_121 (⟨1, 1, 0, 7, 0, (some ⟨b_122, 0, none⟩), b_122, 0, 1, [((n : Nat) : Int)], none, 0, 0, 0, []⟩ : MsgR) := ⟨⟨SlE.of_cells hk_131.1 encI_len (by kernel_rfl), .inr ⟨Bk.lt hk_131, hk_131.2⟩⟩, SlG.nil _ _ _ _ _ _ _ _, (by show (0 : Int) ≤ 7 ∧ (7 : Int) < 4294967296; omega), (by show (0 : Int) ≤ 0 ∧ (0 : Int) < 4294967296; omega), (nr_one (by omega)), (by simp), (by simp)⟩
                    have hheld_ : (againT n v t).held.length = 0 := by unfold againT; split <;> rfl
                    have hb_133 : LkAt γ_127 w_121 10 p_10 (againT n v t) := (LkAt.keep hr_114 gx_130 List.not_mem_nil List.not_mem_nil List.not_mem_nil List.not_mem_nil)
                    refine wk_call (show opD lKR3w2_25 4 = some (some 106, .call ⟨.value (.func 11), #[.tmp 102, .tmp 105], #[23, 32]⟩, 35, none) from by kernel_rfl) (by kernel_rfl) 11 #[.pointer (some ⟨p_10, 0, none⟩), .agg #[.int .i64 1, .int .i64 1, .int .i64 0, .int .u32 7, .int .u32 0, .slice (some ⟨b_122, 0, none⟩) 1 1, .slice none 0 0]] (x_call Try.func11 (by kernel_rfl) (c := (Try.f11.body).getD .skip) (by kernel_rfl) (by kernel_rfl) (by kernel_rfl)) (get_q (m := (⟨1, 1, 0, 7, 0, (some ⟨b_122, 0, none⟩), b_122, 0, 1, [((n : Nat) : Int)], none, 0, 0, 0, []⟩ : MsgR)) (again_get (by omega)) rfl hb_133 (by omega) hm_132 (by omega) (fun w_134 γ_135 v_136 v_137 outs_138 outs_139 gx_140 hM_141 hM_142 hL_143 ho_144 ho_145 => ⟨?_, ?_⟩))
                    · exact trivial
                    have hsz_146 : w_121.heap.size ≤ w_134.heap.size := gx_140.size
                    have hL_147 : LkAt γ_135 w_134 10 p_10 (againS n v (t + 1)) := hL_143
                    obtain ⟨a_148, b_149, off_150, c_151, ev_154, hs_152, hall_153⟩ := hM_141
                    subst ev_154
                    have hlen_outs_138 : outs_138.length = ([] : List Msg).length := by rw [← ho_144, List.length_map]
                    obtain ⟨a_155, b_156, off_157, c_158, ev_161, hs_159, hall_160⟩ := hM_142
                    subst ev_161
                    have hlen_outs_139 : outs_139.length = ([] : List Msg).length := by rw [← ho_145, List.length_map]
                    refine wk_nil ?_
                    refine blk_n ?_
                    refine thn_n ?_
                    refine g_region (ops := lKR3w2_12) (id := 12) (by kernel_rfl) [(0, .pure), (1, .pure), (2, .pure)] (by kernel_rfl) (by kernel_rfl) ?_
                    refine wk_pure (show opD lKR3w2_12 0 = some (some 55, .move (.tmp 10), 3, none) from by kernel_rfl) (by kernel_rfl) (.int .i64 ((t : Nat) : Int)) (fun _ => y_move (Eq.trans (by kernel_rfl) f_91)) ?_
                    refine wk_pure (show opD lKR3w2_12 1 = some (some 56, .binOp .add 3 (.tmp 55) (.const (.int .i64 1)) 3, 3, none) from by kernel_rfl) (by kernel_rfl) (.int .i64 ((t + 1 : Nat) : Int)) (fun _ => y_add (k := .i64) (a := ((t : Nat) : Int)) (b := 1) (by kernel_rfl) (by kernel_rfl) (i64_to (by omega) (by omega))) ?_
                    refine wk_pure (show opD lKR3w2_12 2 = some (some 10, .assign (.tmp 56), 3, none) from by kernel_rfl) (by kernel_rfl) (.int .i64 ((t + 1 : Nat) : Int)) (fun _ => y_assign (by kernel_rfl)) ?_
                    refine wk_nil ?_
                    refine thn_n ?_
                    exact ⟨_, (by omega), ⟨(t + 1), (againS n v (t + 1)), _, rfl, by omega, by first | rfl | exact again_next (by omega), (Eq.trans (by kernel_rfl) f_87), (Eq.trans (by kernel_rfl) f_88), (Eq.trans (by kernel_rfl) f_89), (Eq.trans (by kernel_rfl) f_90), (by kernel_rfl), hL_147, (GX.trans (GX.then0 hE_85 e_124 hg_128) gx_140 (fun _ h_ => h_))⟩⟩
                  · refine wk_pure (show opD lKR3w2_24 2 = some (some 101, .binOp .eql 3 (.tmp 99) (.tmp 100) 3, 4, none) from by kernel_rfl) (by kernel_rfl) (.bool false) (fun _ => y_eql (k := .i64) (a := ((t : Nat) : Int)) (b := ((v : Nat) : Int)) (by kernel_rfl) (by kernel_rfl) (decide_eq_false h_120)) ?_
                    refine wk_nil ?_
                    refine thn_n ?_
                    refine g_cond_f (o := .tmp 101) (x := lKN3w2_84) (y := lKN3w2_85) (by kernel_rfl) (by kernel_rfl) ?_
                    refine g_skip (by kernel_rfl) ?_
                    refine blk_n ?_
                    refine thn_n ?_
                    refine g_region (ops := lKR3w2_12) (id := 12) (by kernel_rfl) [(0, .pure), (1, .pure), (2, .pure)] (by kernel_rfl) (by kernel_rfl) ?_
                    refine wk_pure (show opD lKR3w2_12 0 = some (some 55, .move (.tmp 10), 3, none) from by kernel_rfl) (by kernel_rfl) (.int .i64 ((t : Nat) : Int)) (fun _ => y_move (Eq.trans (by kernel_rfl) f_91)) ?_
                    refine wk_pure (show opD lKR3w2_12 1 = some (some 56, .binOp .add 3 (.tmp 55) (.const (.int .i64 1)) 3, 3, none) from by kernel_rfl) (by kernel_rfl) (.int .i64 ((t + 1 : Nat) : Int)) (fun _ => y_add (k := .i64) (a := ((t : Nat) : Int)) (b := 1) (by kernel_rfl) (by kernel_rfl) (i64_to (by omega) (by omega))) ?_
                    refine wk_pure (show opD lKR3w2_12 2 = some (some 10, .assign (.tmp 56), 3, none) from by kernel_rfl) (by kernel_rfl) (.int .i64 ((t + 1 : Nat) : Int)) (fun _ => y_assign (by kernel_rfl)) ?_
                    refine wk_nil ?_
                    refine thn_n ?_
                    exact ⟨_, (by omega), ⟨(t + 1), (againT n v t), _, rfl, by omega, by first | rfl | exact again_next (by omega), (Eq.trans (by kernel_rfl) f_87), (Eq.trans (by kernel_rfl) f_88), (Eq.trans (by kernel_rfl) f_89), (Eq.trans (by kernel_rfl) f_90), (by kernel_rfl), hr_114, hE_85⟩⟩
            · refine wk_pure (show opD lKR3w2_15 6 = some (some 66, .binOp .leq 3 (.tmp 64) (.tmp 65) 3, 4, some (3, true)) from by kernel_rfl) (by kernel_rfl) (.bool false) (fun _ => y_leq (k := .i64) (a := ((t : Nat) : Int)) (b := ((v : Nat) : Int)) (by kernel_rfl) (by kernel_rfl) (decide_eq_false h_81)) ?_
              refine wk_pure (show opD lKR3w2_15 7 = some (some 67, .pick (.tmp 63) (.tmp 66) (.const (.bool false)), 4, none) from by kernel_rfl) (by kernel_rfl) (.bool false) (fun _ => y_pick_t (by kernel_rfl) (by kernel_rfl)) ?_
              refine wk_nil ?_
              refine thn_n ?_
              refine g_cond_f (o := .tmp 67) (x := lKN3w2_55) (y := lKN3w2_56) (by kernel_rfl) (by kernel_rfl) ?_
              refine g_skip (by kernel_rfl) ?_
              refine thn_n ?_
              refine g_seq (x := lKN3w2_57) (y := lKN3w2_58) (by kernel_rfl) ?_
              refine g_seq (x := lKN3w2_59) (y := lKN3w2_60) (by kernel_rfl) ?_
              refine g_region (ops := lKR3w2_17) (id := 17) (by kernel_rfl) [(0, .pure), (1, .pure), (2, .pure), (3, .pure)] (by kernel_rfl) (by kernel_rfl) ?_
              refine wk_pure (show opD lKR3w2_17 0 = some (some 69, .move (.tmp 11), 33, none) from by kernel_rfl) (by kernel_rfl) (.slice a_73 outs_66.length c_76) (fun _ => y_move (by kernel_rfl)) ?_
              refine wk_pure (show opD lKR3w2_17 1 = some (some 70, .call ⟨.builtin .len, #[.tmp 69], #[33]⟩, 3, none) from by kernel_rfl) (by kernel_rfl) (.int .i64 ((outs_66.length : Nat) : Int)) (fun _ => x_len (a := a_73) (n := outs_66.length) (c := c_76) (by kernel_rfl) (by kernel_rfl)) ?_
              refine wk_pure (show opD lKR3w2_17 2 = some (some 71, .move (.tmp 12), 3, none) from by kernel_rfl) (by kernel_rfl) (.int .i64 0) (fun _ => y_move (by kernel_rfl)) ?_
              refine wk_pure (show opD lKR3w2_17 3 = some (some 72, .binOp .neq 3 (.tmp 70) (.tmp 71) 3, 4, none) from by kernel_rfl) (by kernel_rfl) (.bool false) (fun _ => y_neq (k := .i64) (a := ((outs_66.length : Nat) : Int)) (b := 0) (by kernel_rfl) (by kernel_rfl) (decide_eq_false (by rw [hlen_outs_66, again_len]; split <;> omega))) ?_
              refine wk_nil ?_
              refine thn_n ?_
              refine g_cond_f (o := .tmp 72) (x := lKN3w2_61) (y := lKN3w2_62) (by kernel_rfl) (by kernel_rfl) ?_
              refine g_skip (by kernel_rfl) ?_
              refine thn_n ?_
              refine g_seq (x := lKN3w2_63) (y := lKN3w2_64) (by kernel_rfl) ?_
              refine g_seq (x := lKN3w2_65) (y := lKN3w2_66) (by kernel_rfl) ?_
              refine g_region (ops := lKR3w2_19) (id := 19) (by kernel_rfl) [(0, .pure)] (by kernel_rfl) (by kernel_rfl) ?_
              refine wk_pure (show opD lKR3w2_19 0 = some (some 13, .assign (.const (.int .i64 0)), 3, none) from by kernel_rfl) (by kernel_rfl) (.int .i64 0) (fun _ => y_assign (by kernel_rfl)) ?_
              refine wk_nil ?_
              refine thn_n ?_
              refine g_block (x := lKN3w2_67) (id := 4) (by kernel_rfl) ?_
              refine g_loop (x := lKN3w2_68) (by kernel_rfl) (fun m_ ρ_ w_ => ∃ (j : Nat) (γ_ : Nat → Nat), m_ = outs_66.length - j ∧ (j ≤ outs_66.length) ∧ ρ_ 0 = .int .i64 ((n : Nat) : Int) ∧ ρ_ 1 = .int .i64 ((u : Nat) : Int) ∧ ρ_ 2 = .int .i64 ((v : Nat) : Int) ∧ ρ_ 7 = .pointer (some ⟨p_10, 0, none⟩) ∧ ρ_ 10 = .int .i64 ((t : Nat) : Int) ∧ ρ_ 11 = .slice a_73 outs_66.length c_76 ∧ ρ_ 12 = .int .i64 0 ∧ ρ_ 52 = .int .i64 ((t : Nat) : Int) ∧ ρ_ 53 = .int .i64 ((u : Nat) : Int) ∧ ρ_ 54 = .bool true ∧ ρ_ 57 = .pointer (some ⟨p_10, 0, none⟩) ∧ ρ_ 58 = .int .i64 ((t : Nat) : Int) ∧ ρ_ 59 = .slice a_73 outs_66.length c_76 ∧ ρ_ 60 = .int .i64 ((t : Nat) : Int) ∧ ρ_ 61 = .int .i64 ((t % 8 : Nat) : Int) ∧ ρ_ 62 = .bool true ∧ ρ_ 63 = .bool true ∧ ρ_ 64 = .int .i64 ((t : Nat) : Int) ∧ ρ_ 65 = .int .i64 ((v : Nat) : Int) ∧ ρ_ 66 = .bool false ∧ ρ_ 67 = .bool false ∧ ρ_ 69 = .slice a_73 outs_66.length c_76 ∧ ρ_ 70 = .int .i64 ((outs_66.length : Nat) : Int) ∧ ρ_ 71 = .int .i64 0 ∧ ρ_ 72 = .bool false ∧ ρ_ 13 = .int .i64 ((j : Nat) : Int) ∧ LkAt γ_ w_ 10 p_10 (againT n v t) ∧ SlG γ_ w_ 0 7 a_73 b_74 off_75 encM outs_66 ∧ AllOk γ_ w_ outs_66 ∧ GX [10, 11, 12] w (fun _ => 0) w_ γ_) (outs_66.length - 0) ?_ ?_
              · exact ⟨0, _, rfl, by omega, (Eq.trans (by kernel_rfl) f_54), (Eq.trans (by kernel_rfl) f_55), (Eq.trans (by kernel_rfl) f_56), (Eq.trans (by kernel_rfl) f_57), (Eq.trans (by kernel_rfl) f_58), (by kernel_rfl), (by kernel_rfl), (by kernel_rfl), (by kernel_rfl), (by kernel_rfl), (by kernel_rfl), (by kernel_rfl), (by kernel_rfl), (by kernel_rfl), (by kernel_rfl), (by kernel_rfl), (by kernel_rfl), (by kernel_rfl), (by kernel_rfl), (by kernel_rfl), (by kernel_rfl), (by kernel_rfl), (by kernel_rfl), (by kernel_rfl), (by kernel_rfl), (by kernel_rfl), hL_72, hs_77, hall_78, (GX.trans hE_52 gx_67 (by intro c_ hc_; simp only [List.mem_cons, List.not_mem_nil, or_false] at hc_ ⊢; omega))⟩
              · intro m_162 ρ_163 w_164 hI
                obtain ⟨j, γ_166, hm_m_162, hj, f_167, f_168, f_169, f_170, f_171, f_172, f_173, f_174, f_175, f_176, f_177, f_178, f_179, f_180, f_181, f_182, f_183, f_184, f_185, f_186, f_187, f_188, f_189, f_190, f_191, f_192, hr_193, hr_194, hr_195, hE_165⟩ := hI
                have hs_w_164 := hE_165.size
                refine g_seq (x := lKN3w2_69) (y := lKN3w2_70) (by kernel_rfl) ?_
                refine g_seq (x := lKN3w2_71) (y := lKN3w2_72) (by kernel_rfl) ?_
                refine g_region (ops := lKR3w2_20) (id := 20) (by kernel_rfl) [(0, .pure), (1, .pure), (2, .pure), (3, .pure)] (by kernel_rfl) (by kernel_rfl) ?_
                refine wk_pure (show opD lKR3w2_20 0 = some (some 73, .move (.tmp 13), 3, none) from by kernel_rfl) (by kernel_rfl) (.int .i64 ((j : Nat) : Int)) (fun _ => y_move (Eq.trans (by kernel_rfl) f_192)) ?_
                refine wk_pure (show opD lKR3w2_20 1 = some (some 74, .move (.tmp 11), 33, none) from by kernel_rfl) (by kernel_rfl) (.slice a_73 outs_66.length c_76) (fun _ => y_move (Eq.trans (by kernel_rfl) f_172)) ?_
                refine wk_pure (show opD lKR3w2_20 2 = some (some 75, .call ⟨.builtin .len, #[.tmp 74], #[33]⟩, 3, none) from by kernel_rfl) (by kernel_rfl) (.int .i64 ((outs_66.length : Nat) : Int)) (fun _ => x_len (a := a_73) (n := outs_66.length) (c := c_76) (by kernel_rfl) (by kernel_rfl)) ?_
                by_cases h_196 : (((j : Nat) : Int) : Int) < ((outs_66.length : Nat) : Int)
                · refine wk_pure (show opD lKR3w2_20 3 = some (some 76, .binOp .lss 3 (.tmp 73) (.tmp 75) 3, 4, none) from by kernel_rfl) (by kernel_rfl) (.bool true) (fun _ => y_lss (k := .i64) (a := ((j : Nat) : Int)) (b := ((outs_66.length : Nat) : Int)) (by kernel_rfl) (by kernel_rfl) (decide_eq_true h_196)) ?_
                  refine wk_nil ?_
                  refine thn_n ?_
                  refine g_cond_t (o := .tmp 76) (x := lKN3w2_73) (y := lKN3w2_74) (by kernel_rfl) (by kernel_rfl) ?_
                  refine g_skip (by kernel_rfl) ?_
                  refine thn_n ?_
                  refine g_seq (x := lKN3w2_75) (y := lKN3w2_76) (by kernel_rfl) ?_
                  refine g_block (x := lKN3w2_77) (id := 5) (by kernel_rfl) ?_
                  refine g_seq (x := lKN3w2_78) (y := lKN3w2_79) (by kernel_rfl) ?_
                  refine g_region (ops := lKR3w2_22) (id := 22) (by kernel_rfl) [(0, .pure), (1, .pure), (2, .pure), (3, .pure), (4, .loud), (5, .pure), (6, .pure), (7, .pure), (8, .pure), (9, .pure), (10, .pure), (11, .pure), (12, .pure), (13, .pure), (14, .loud), (15, .pure), (16, .loud), (17, .pure), (18, .pure), (19, .pure)] (by kernel_rfl) (by kernel_rfl) ?_
                  refine wk_pure (show opD lKR3w2_22 0 = some (some 79, .move (.tmp 11), 33, none) from by kernel_rfl) (by kernel_rfl) (.slice a_73 outs_66.length c_76) (fun _ => y_move (Eq.trans (by kernel_rfl) f_172)) ?_
                  refine wk_pure (show opD lKR3w2_22 1 = some (some 80, .move (.tmp 13), 3, none) from by kernel_rfl) (by kernel_rfl) (.int .i64 ((j : Nat) : Int)) (fun _ => y_move (Eq.trans (by kernel_rfl) f_192)) ?_
                  refine wk_pure (show opD lKR3w2_22 2 = some (some 81, .indexAddr 33 (.tmp 79) (.tmp 80), 0, none) from by kernel_rfl) (by kernel_rfl) (.pointer (some ⟨b_74, off_75 + (j * 7 + 0), none⟩)) (fun _ => y_ptr (x_indexN (a := a_73) (b := b_74) (off := off_75) (n := outs_66.length) (c := c_76) (k := .i64) (i := ((j : Nat) : Int)) (e := 32) (sz := 7) (sz' := 7) (by kernel_rfl) hr_194.1 (by kernel_rfl) (by kernel_rfl) rfl (by omega) _) (by omega)) ?_
                  refine wk_pure (show opD lKR3w2_22 3 = some (some 82, .fieldAddr 32 (.tmp 81) 4, 0, none) from by kernel_rfl) (by kernel_rfl) (.pointer (some ⟨b_74, off_75 + (j * 7 + 4), none⟩)) (fun _ => y_ptr (x_fieldAddr (b := b_74) (off := (off_75 + (j * 7 + 0))) (o := 4) (by kernel_rfl) (by kernel_rfl)) (by omega)) ?_
                  refine wk_val (show opD lKR3w2_22 4 = some (some 83, .load 27 (.tmp 82), 27, none) from by kernel_rfl) (by kernel_rfl) (.int .u32 ((outs_66.getD j M0).seq)) (x_load_c (b := b_74) (off := (off_75 + (j * 7 + 4))) (by kernel_rfl) (by kernel_rfl) (SlE.get hr_194.1 encM_len M0 j 4 (by omega) rfl)) trivial ?_
                  refine wk_pure (show opD lKR3w2_22 5 = some (some 84, .move (.tmp 13), 3, none) from by kernel_rfl) (by kernel_rfl) (.int .i64 ((j : Nat) : Int)) (fun _ => y_move (Eq.trans (by kernel_rfl) f_192)) ?_
                  refine wk_pure (show opD lKR3w2_22 6 = some (some 85, .binOp .add 3 (.tmp 84) (.const (.int .i64 1)) 3, 3, none) from by kernel_rfl) (by kernel_rfl) (.int .i64 ((j + 1 : Nat) : Int)) (fun _ => y_add (k := .i64) (a := ((j : Nat) : Int)) (b := 1) (by kernel_rfl) (by kernel_rfl) (i64_to (by omega) (by omega))) ?_
                  refine wk_pure (show opD lKR3w2_22 7 = some (some 86, .convert 3 27 (.tmp 85), 27, none) from by kernel_rfl) (by kernel_rfl) (.int .u32 ((j + 1 : Nat) : Int)) (fun _ => y_conv (q := .i64) (a := ((j + 1 : Nat) : Int)) (by kernel_rfl) (by kernel_rfl) (by kernel_rfl) (u32_id (by omega))) ?_
                  have hq_197 := again_at ho_70 (by omega : j < outs_66.length)
                  have hq_197_n : (outs_66.getD j M0).N.length = 1 := by rw [hq_197.2]; rfl
                  refine wk_pure (show opD lKR3w2_22 8 = some (some 87, .binOp .neq 27 (.tmp 83) (.tmp 86) 27, 4, none) from by kernel_rfl) (by kernel_rfl) (.bool false) (fun _ => y_neq (k := .u32) (a := ((outs_66.getD j M0).seq)) (b := ((j + 1 : Nat) : Int)) (by kernel_rfl) (by kernel_rfl) (decide_eq_false (by rw [hq_197.1]; omega))) ?_
                  refine wk_pure (show opD lKR3w2_22 9 = some (some 88, .move (.tmp 87), 4, none) from by kernel_rfl) (by kernel_rfl) (.bool false) (fun _ => y_move (by kernel_rfl)) ?_
                  refine wk_pure (show opD lKR3w2_22 10 = some (some 89, .move (.tmp 11), 33, some (9, false)) from by kernel_rfl) (by kernel_rfl) (.slice a_73 outs_66.length c_76) (fun _ => y_move (Eq.trans (by kernel_rfl) f_172)) ?_
                  refine wk_pure (show opD lKR3w2_22 11 = some (some 90, .move (.tmp 13), 3, some (9, false)) from by kernel_rfl) (by kernel_rfl) (.int .i64 ((j : Nat) : Int)) (fun _ => y_move (Eq.trans (by kernel_rfl) f_192)) ?_
                  refine wk_pure (show opD lKR3w2_22 12 = some (some 91, .indexAddr 33 (.tmp 89) (.tmp 90), 0, some (9, false)) from by kernel_rfl) (by kernel_rfl) (.pointer (some ⟨b_74, off_75 + (j * 7 + 0), none⟩)) (fun _ => y_ptr (x_indexN (a := a_73) (b := b_74) (off := off_75) (n := outs_66.length) (c := c_76) (k := .i64) (i := ((j : Nat) : Int)) (e := 32) (sz := 7) (sz' := 7) (by kernel_rfl) hr_194.1 (by kernel_rfl) (by kernel_rfl) rfl (by omega) _) (by omega)) ?_
                  refine wk_pure (show opD lKR3w2_22 13 = some (some 92, .fieldAddr 32 (.tmp 91) 5, 0, some (9, false)) from by kernel_rfl) (by kernel_rfl) (.pointer (some ⟨b_74, off_75 + (j * 7 + 5), none⟩)) (fun _ => y_ptr (x_fieldAddr (b := b_74) (off := (off_75 + (j * 7 + 0))) (o := 5) (by kernel_rfl) (by kernel_rfl)) (by omega)) ?_
                  refine wk_val (show opD lKR3w2_22 14 = some (some 93, .load 29 (.tmp 92), 29, some (9, false)) from by kernel_rfl) (by kernel_rfl) (.slice ((outs_66.getD j M0).na) ((outs_66.getD j M0).N.length) ((outs_66.getD j M0).nc)) (x_load_c (b := b_74) (off := (off_75 + (j * 7 + 5))) (by kernel_rfl) (by kernel_rfl) (SlE.get hr_194.1 encM_len M0 j 5 (by omega) rfl)) trivial ?_
                  refine wk_pure (show opD lKR3w2_22 15 = some (some 94, .indexAddr 29 (.tmp 93) (.const (.int .i64 0)), 0, some (9, false)) from by kernel_rfl) (by kernel_rfl) (.pointer (some ⟨(outs_66.getD j M0).nb, ((outs_66.getD j M0).noff) + (0 * 1 + 0), none⟩)) (fun _ => y_ptr (x_indexN (a := (outs_66.getD j M0).na) (b := (outs_66.getD j M0).nb) (off := ((outs_66.getD j M0).noff)) (n := ((outs_66.getD j M0).N.length)) (c := ((outs_66.getD j M0).nc)) (k := .i64) (i := 0) (e := 2) (sz := 1) (sz' := 1) (by kernel_rfl) (AllOk.get hr_195 (by omega : j < outs_66.length)).n.1 (by kernel_rfl) (by kernel_rfl) rfl (by have hq_ := again_at ho_70 (by omega : j < outs_66.length); rw [hq_.2]; exact ⟨Int.le_refl _, Int.zero_lt_one⟩) _) (by omega)) ?_
                  refine wk_val (show opD lKR3w2_22 16 = some (some 95, .load 2 (.tmp 94), 2, some (9, false)) from by kernel_rfl) (by kernel_rfl) (.int .i64 (((outs_66.getD j M0).N).getD 0 0)) (x_load_c (b := (outs_66.getD j M0).nb) (off := (((outs_66.getD j M0).noff) + (0 * 1 + 0))) (by kernel_rfl) (by kernel_rfl) (SlE.get (AllOk.get hr_195 (by omega : j < outs_66.length)).n.1 encI_len 0 0 0 (by omega) rfl)) trivial ?_
                  refine wk_pure (show opD lKR3w2_22 17 = some (some 96, .move (.tmp 13), 3, some (9, false)) from by kernel_rfl) (by kernel_rfl) (.int .i64 ((j : Nat) : Int)) (fun _ => y_move (Eq.trans (by kernel_rfl) f_192)) ?_
                  have hq_198 := again_at ho_70 (by omega : j < outs_66.length)
                  have hq_198_n : (outs_66.getD j M0).N.length = 1 := by rw [hq_198.2]; rfl
                  refine wk_pure (show opD lKR3w2_22 18 = some (some 97, .binOp .neq 2 (.tmp 95) (.tmp 96) 2, 4, some (9, false)) from by kernel_rfl) (by kernel_rfl) (.bool false) (fun _ => y_neq (k := .i64) (a := (((outs_66.getD j M0).N).getD 0 0)) (b := ((j : Nat) : Int)) (by kernel_rfl) (by kernel_rfl) (decide_eq_false (by rw [hq_198.2]; exact fun h_ => h_ rfl))) ?_
                  refine wk_pure (show opD lKR3w2_22 19 = some (some 98, .pick (.tmp 88) (.const (.bool true)) (.tmp 97), 4, none) from by kernel_rfl) (by kernel_rfl) (.bool false) (fun _ => y_pick_f (by kernel_rfl) (by kernel_rfl)) ?_
                  refine wk_nil ?_
                  refine thn_n ?_
                  refine g_cond_f (o := .tmp 98) (x := lKN3w2_80) (y := lKN3w2_81) (by kernel_rfl) (by kernel_rfl) ?_
                  refine g_skip (by kernel_rfl) ?_
                  refine blk_n ?_
                  refine thn_n ?_
                  refine g_region (ops := lKR3w2_21) (id := 21) (by kernel_rfl) [(0, .pure), (1, .pure), (2, .pure)] (by kernel_rfl) (by kernel_rfl) ?_
                  refine wk_pure (show opD lKR3w2_21 0 = some (some 77, .move (.tmp 13), 3, none) from by kernel_rfl) (by kernel_rfl) (.int .i64 ((j : Nat) : Int)) (fun _ => y_move (Eq.trans (by kernel_rfl) f_192)) ?_
                  refine wk_pure (show opD lKR3w2_21 1 = some (some 78, .binOp .add 3 (.tmp 77) (.const (.int .i64 1)) 3, 3, none) from by kernel_rfl) (by kernel_rfl) (.int .i64 ((j + 1 : Nat) : Int)) (fun _ => y_add (k := .i64) (a := ((j : Nat) : Int)) (b := 1) (by kernel_rfl) (by kernel_rfl) (i64_to (by omega) (by omega))) ?_
                  refine wk_pure (show opD lKR3w2_21 2 = some (some 13, .assign (.tmp 78), 3, none) from by kernel_rfl) (by kernel_rfl) (.int .i64 ((j + 1 : Nat) : Int)) (fun _ => y_assign (by kernel_rfl)) ?_
                  refine wk_nil ?_
                  refine thn_n ?_
                  exact ⟨_, (by omega), ⟨(j + 1), _, rfl, by omega, (Eq.trans (by kernel_rfl) f_167), (Eq.trans (by kernel_rfl) f_168), (Eq.trans (by kernel_rfl) f_169), (Eq.trans (by kernel_rfl) f_170), (Eq.trans (by kernel_rfl) f_171), (Eq.trans (by kernel_rfl) f_172), (Eq.trans (by kernel_rfl) f_173), (Eq.trans (by kernel_rfl) f_174), (Eq.trans (by kernel_rfl) f_175), (Eq.trans (by kernel_rfl) f_176), (Eq.trans (by kernel_rfl) f_177), (Eq.trans (by kernel_rfl) f_178), (Eq.trans (by kernel_rfl) f_179), (Eq.trans (by kernel_rfl) f_180), (Eq.trans (by kernel_rfl) f_181), (Eq.trans (by kernel_rfl) f_182), (Eq.trans (by kernel_rfl) f_183), (Eq.trans (by kernel_rfl) f_184), (Eq.trans (by kernel_rfl) f_185), (Eq.trans (by kernel_rfl) f_186), (Eq.trans (by kernel_rfl) f_187), (Eq.trans (by kernel_rfl) f_188), (Eq.trans (by kernel_rfl) f_189), (Eq.trans (by kernel_rfl) f_190), (Eq.trans (by kernel_rfl) f_191), (by kernel_rfl), hr_193, hr_194, hr_195, hE_165⟩⟩
                · refine wk_pure (show opD lKR3w2_20 3 = some (some 76, .binOp .lss 3 (.tmp 73) (.tmp 75) 3, 4, none) from by kernel_rfl) (by kernel_rfl) (.bool false) (fun _ => y_lss (k := .i64) (a := ((j : Nat) : Int)) (b := ((outs_66.length : Nat) : Int)) (by kernel_rfl) (by kernel_rfl) (decide_eq_false h_196)) ?_
                  refine wk_nil ?_
                  refine thn_n ?_
                  refine g_cond_f (o := .tmp 76) (x := lKN3w2_73) (y := lKN3w2_74) (by kernel_rfl) (by kernel_rfl) ?_
                  refine g_exit (id := 4) (by kernel_rfl) ?_
                  refine thn_e ?_
                  refine thn_e ?_
                  refine blk_hit ?_
                  refine thn_n ?_
                  refine g_seq (x := lKN3w2_82) (y := lKN3w2_83) (by kernel_rfl) ?_
                  refine g_region (ops := lKR3w2_24) (id := 24) (by kernel_rfl) [(0, .pure), (1, .pure), (2, .pure)] (by kernel_rfl) (by kernel_rfl) ?_
                  refine wk_pure (show opD lKR3w2_24 0 = some (some 99, .move (.tmp 10), 3, none) from by kernel_rfl) (by kernel_rfl) (.int .i64 ((t : Nat) : Int)) (fun _ => y_move (Eq.trans (by kernel_rfl) f_171)) ?_
                  refine wk_pure (show opD lKR3w2_24 1 = some (some 100, .move (.tmp 2), 3, none) from by kernel_rfl) (by kernel_rfl) (.int .i64 ((v : Nat) : Int)) (fun _ => y_move (Eq.trans (by kernel_rfl) f_169)) ?_
                  by_cases h_199 : (((t : Nat) : Int) : Int) = ((v : Nat) : Int)
                  · refine wk_pure (show opD lKR3w2_24 2 = some (some 101, .binOp .eql 3 (.tmp 99) (.tmp 100) 3, 4, none) from by kernel_rfl) (by kernel_rfl) (.bool true) (fun _ => y_eql (k := .i64) (a := ((t : Nat) : Int)) (b := ((v : Nat) : Int)) (by kernel_rfl) (by kernel_rfl) (decide_eq_true h_199)) ?_
                    refine wk_nil ?_
                    refine thn_n ?_
                    refine g_cond_t (o := .tmp 101) (x := lKN3w2_84) (y := lKN3w2_85) (by kernel_rfl) (by kernel_rfl) ?_
                    refine g_region (ops := lKR3w2_25) (id := 25) (by kernel_rfl) [(0, .pure), (1, .pure), (2, .loud), (3, .pure), (4, .loud)] (by kernel_rfl) (by kernel_rfl) ?_
                    refine wk_pure (show opD lKR3w2_25 0 = some (some 102, .move (.tmp 7), 23, none) from by kernel_rfl) (by kernel_rfl) (.pointer (some ⟨p_10, 0, none⟩)) (fun _ => y_move (Eq.trans (by kernel_rfl) f_170)) ?_
                    refine wk_pure (show opD lKR3w2_25 1 = some (some 103, .move (.tmp 0), 3, none) from by kernel_rfl) (by kernel_rfl) (.int .i64 ((n : Nat) : Int)) (fun _ => y_move (Eq.trans (by kernel_rfl) f_167)) ?_
                    refine wk_buildSlice (e := 2) (cs := #[.int .i64 ((n : Nat) : Int)]) (show opD lKR3w2_25 2 = some (some 104, .buildSlice 29 1 #[(0, .tmp 103)], 29, none) from by kernel_rfl) (by kernel_rfl) (by kernel_rfl) (fun w_200 b_201 eq_202 e_203 sz_204 hb_205 => ⟨?_, ?_⟩)
                    · exact trivial
                    obtain ⟨γ_206, hg_207, hn_208⟩ := cls_new γ_166 w_164.heap.size 0
                    have gx_209 : GX [] w_164 γ_166 w_200 γ_206 := GX.ext0 [] e_203 hg_207
                    have hk_210 : Bk γ_206 w_200 b_201 0 (.cells #[.int .i64 ((n : Nat) : Int)] 2 (0, 0)) := ⟨hb_205, hn_208 _ (by omega)⟩
                    refine wk_pure (show opD lKR3w2_25 3 = some (some 105, .build 32 #[(0, .const (.int .i64 1)), (1, .const (.int .i64 1)), (2, .const (.int .i64 0)), (3, .const (.int .u32 7)), (5, .tmp 104)], 32, none) from by kernel_rfl) (by kernel_rfl) (.agg #[.int .i64 1, .int .i64 1, .int .i64 0, .int .u32 7, .int .u32 0, .slice (some ⟨b_201, 0, none⟩) 1 1, .slice none 0 0]) (fun _ => x_build (by kernel_rfl)) ?_
                    have hm_211 : MOk γ_206 w_200 (⟨1, 1, 0, 7, 0, (some ⟨b_201, 0, none⟩), b_201, 0, 1, [((n : Nat) : Int)], none, 0, 0, 0, []⟩ : MsgR) := ⟨⟨SlE.of_cells hk_210.1 encI_len (by kernel_rfl), .inr ⟨Bk.lt hk_210, hk_210.2⟩⟩, SlG.nil _ _ _ _ _ _ _ _, (by show (0 : Int) ≤ 7 ∧ (7 : Int) < 4294967296; omega), (by show (0 : Int) ≤ 0 ∧ (0 : Int) < 4294967296; omega), (nr_one (by omega)), (by simp), (by simp)⟩
                    have hheld_ : (againT n v t).held.length = 0 := by unfold againT; split <;> rfl
                    have hb_212 : LkAt γ_206 w_200 10 p_10 (againT n v t) := (LkAt.keep hr_193 gx_209 List.not_mem_nil List.not_mem_nil List.not_mem_nil List.not_mem_nil)
                    refine wk_call (show opD lKR3w2_25 4 = some (some 106, .call ⟨.value (.func 11), #[.tmp 102, .tmp 105], #[23, 32]⟩, 35, none) from by kernel_rfl) (by kernel_rfl) 11 #[.pointer (some ⟨p_10, 0, none⟩), .agg #[.int .i64 1, .int .i64 1, .int .i64 0, .int .u32 7, .int .u32 0, .slice (some ⟨b_201, 0, none⟩) 1 1, .slice none 0 0]] (x_call Try.func11 (by kernel_rfl) (c := (Try.f11.body).getD .skip) (by kernel_rfl) (by kernel_rfl) (by kernel_rfl)) (get_q (m := (⟨1, 1, 0, 7, 0, (some ⟨b_201, 0, none⟩), b_201, 0, 1, [((n : Nat) : Int)], none, 0, 0, 0, []⟩ : MsgR)) (again_get (by omega)) rfl hb_212 (by omega) hm_211 (by omega) (fun w_213 γ_214 v_215 v_216 outs_217 outs_218 gx_219 hM_220 hM_221 hL_222 ho_223 ho_224 => ⟨?_, ?_⟩))
                    · exact trivial
                    have hsz_225 : w_200.heap.size ≤ w_213.heap.size := gx_219.size
                    have hL_226 : LkAt γ_214 w_213 10 p_10 (againS n v (t + 1)) := hL_222
                    obtain ⟨a_227, b_228, off_229, c_230, ev_233, hs_231, hall_232⟩ := hM_220
                    subst ev_233
                    have hlen_outs_217 : outs_217.length = ([] : List Msg).length := by rw [← ho_223, List.length_map]
                    obtain ⟨a_234, b_235, off_236, c_237, ev_240, hs_238, hall_239⟩ := hM_221
                    subst ev_240
                    have hlen_outs_218 : outs_218.length = ([] : List Msg).length := by rw [← ho_224, List.length_map]
                    refine wk_nil ?_
                    refine blk_n ?_
                    refine thn_n ?_
                    refine g_region (ops := lKR3w2_12) (id := 12) (by kernel_rfl) [(0, .pure), (1, .pure), (2, .pure)] (by kernel_rfl) (by kernel_rfl) ?_
                    refine wk_pure (show opD lKR3w2_12 0 = some (some 55, .move (.tmp 10), 3, none) from by kernel_rfl) (by kernel_rfl) (.int .i64 ((t : Nat) : Int)) (fun _ => y_move (Eq.trans (by kernel_rfl) f_171)) ?_
                    refine wk_pure (show opD lKR3w2_12 1 = some (some 56, .binOp .add 3 (.tmp 55) (.const (.int .i64 1)) 3, 3, none) from by kernel_rfl) (by kernel_rfl) (.int .i64 ((t + 1 : Nat) : Int)) (fun _ => y_add (k := .i64) (a := ((t : Nat) : Int)) (b := 1) (by kernel_rfl) (by kernel_rfl) (i64_to (by omega) (by omega))) ?_
                    refine wk_pure (show opD lKR3w2_12 2 = some (some 10, .assign (.tmp 56), 3, none) from by kernel_rfl) (by kernel_rfl) (.int .i64 ((t + 1 : Nat) : Int)) (fun _ => y_assign (by kernel_rfl)) ?_
                    refine wk_nil ?_
                    refine thn_n ?_
                    exact ⟨_, (by omega), ⟨(t + 1), (againS n v (t + 1)), _, rfl, by omega, by first | rfl | exact again_next (by omega), (Eq.trans (by kernel_rfl) f_167), (Eq.trans (by kernel_rfl) f_168), (Eq.trans (by kernel_rfl) f_169), (Eq.trans (by kernel_rfl) f_170), (by kernel_rfl), hL_226, (GX.trans (GX.then0 hE_165 e_203 hg_207) gx_219 (fun _ h_ => h_))⟩⟩
                  · refine wk_pure (show opD lKR3w2_24 2 = some (some 101, .binOp .eql 3 (.tmp 99) (.tmp 100) 3, 4, none) from by kernel_rfl) (by kernel_rfl) (.bool false) (fun _ => y_eql (k := .i64) (a := ((t : Nat) : Int)) (b := ((v : Nat) : Int)) (by kernel_rfl) (by kernel_rfl) (decide_eq_false h_199)) ?_
                    refine wk_nil ?_
                    refine thn_n ?_
                    refine g_cond_f (o := .tmp 101) (x := lKN3w2_84) (y := lKN3w2_85) (by kernel_rfl) (by kernel_rfl) ?_
                    refine g_skip (by kernel_rfl) ?_
                    refine blk_n ?_
                    refine thn_n ?_
                    refine g_region (ops := lKR3w2_12) (id := 12) (by kernel_rfl) [(0, .pure), (1, .pure), (2, .pure)] (by kernel_rfl) (by kernel_rfl) ?_
                    refine wk_pure (show opD lKR3w2_12 0 = some (some 55, .move (.tmp 10), 3, none) from by kernel_rfl) (by kernel_rfl) (.int .i64 ((t : Nat) : Int)) (fun _ => y_move (Eq.trans (by kernel_rfl) f_171)) ?_
                    refine wk_pure (show opD lKR3w2_12 1 = some (some 56, .binOp .add 3 (.tmp 55) (.const (.int .i64 1)) 3, 3, none) from by kernel_rfl) (by kernel_rfl) (.int .i64 ((t + 1 : Nat) : Int)) (fun _ => y_add (k := .i64) (a := ((t : Nat) : Int)) (b := 1) (by kernel_rfl) (by kernel_rfl) (i64_to (by omega) (by omega))) ?_
                    refine wk_pure (show opD lKR3w2_12 2 = some (some 10, .assign (.tmp 56), 3, none) from by kernel_rfl) (by kernel_rfl) (.int .i64 ((t + 1 : Nat) : Int)) (fun _ => y_assign (by kernel_rfl)) ?_
                    refine wk_nil ?_
                    refine thn_n ?_
                    exact ⟨_, (by omega), ⟨(t + 1), (againT n v t), _, rfl, by omega, by first | rfl | exact again_next (by omega), (Eq.trans (by kernel_rfl) f_167), (Eq.trans (by kernel_rfl) f_168), (Eq.trans (by kernel_rfl) f_169), (Eq.trans (by kernel_rfl) f_170), (by kernel_rfl), hr_193, hE_165⟩⟩
          · refine wk_pure (show opD lKR3w2_15 2 = some (some 62, .binOp .eql 3 (.tmp 61) (.const (.int .i64 0)) 3, 4, none) from by kernel_rfl) (by kernel_rfl) (.bool false) (fun _ => y_eql (k := .i64) (a := ((t % 8 : Nat) : Int)) (b := 0) (by kernel_rfl) (by kernel_rfl) (decide_eq_false h_80)) ?_
            refine wk_pure (show opD lKR3w2_15 3 = some (some 63, .move (.tmp 62), 4, none) from by kernel_rfl) (by kernel_rfl) (.bool false) (fun _ => y_move (by kernel_rfl)) ?_
            refine wk_skip (show opD lKR3w2_15 4 = some (some 64, .move (.tmp 10), 3, some (3, true)) from by kernel_rfl) (by kernel_rfl) ?_
            refine wk_skip (show opD lKR3w2_15 5 = some (some 65, .move (.tmp 2), 3, some (3, true)) from by kernel_rfl) (by kernel_rfl) ?_
            refine wk_skip (show opD lKR3w2_15 6 = some (some 66, .binOp .leq 3 (.tmp 64) (.tmp 65) 3, 4, some (3, true)) from by kernel_rfl) (by kernel_rfl) ?_
            refine wk_pure (show opD lKR3w2_15 7 = some (some 67, .pick (.tmp 63) (.tmp 66) (.const (.bool false)), 4, none) from by kernel_rfl) (by kernel_rfl) (.bool false) (fun _ => y_pick_f (by kernel_rfl) (by kernel_rfl)) ?_
            refine wk_nil ?_
            refine thn_n ?_
            refine g_cond_f (o := .tmp 67) (x := lKN3w2_55) (y := lKN3w2_56) (by kernel_rfl) (by kernel_rfl) ?_
            refine g_skip (by kernel_rfl) ?_
            refine thn_n ?_
            refine g_seq (x := lKN3w2_57) (y := lKN3w2_58) (by kernel_rfl) ?_
            refine g_seq (x := lKN3w2_59) (y := lKN3w2_60) (by kernel_rfl) ?_
            refine g_region (ops := lKR3w2_17) (id := 17) (by kernel_rfl) [(0, .pure), (1, .pure), (2, .pure), (3, .pure)] (by kernel_rfl) (by kernel_rfl) ?_
            refine wk_pure (show opD lKR3w2_17 0 = some (some 69, .move (.tmp 11), 33, none) from by kernel_rfl) (by kernel_rfl) (.slice a_73 outs_66.length c_76) (fun _ => y_move (by kernel_rfl)) ?_
            refine wk_pure (show opD lKR3w2_17 1 = some (some 70, .call ⟨.builtin .len, #[.tmp 69], #[33]⟩, 3, none) from by kernel_rfl) (by kernel_rfl) (.int .i64 ((outs_66.length : Nat) : Int)) (fun _ => x_len (a := a_73) (n := outs_66.length) (c := c_76) (by kernel_rfl) (by kernel_rfl)) ?_
            refine wk_pure (show opD lKR3w2_17 2 = some (some 71, .move (.tmp 12), 3, none) from by kernel_rfl) (by kernel_rfl) (.int .i64 0) (fun _ => y_move (by kernel_rfl)) ?_
            refine wk_pure (show opD lKR3w2_17 3 = some (some 72, .binOp .neq 3 (.tmp 70) (.tmp 71) 3, 4, none) from by kernel_rfl) (by kernel_rfl) (.bool false) (fun _ => y_neq (k := .i64) (a := ((outs_66.length : Nat) : Int)) (b := 0) (by kernel_rfl) (by kernel_rfl) (decide_eq_false (by rw [hlen_outs_66, again_len]; split <;> omega))) ?_
            refine wk_nil ?_
            refine thn_n ?_
            refine g_cond_f (o := .tmp 72) (x := lKN3w2_61) (y := lKN3w2_62) (by kernel_rfl) (by kernel_rfl) ?_
            refine g_skip (by kernel_rfl) ?_
            refine thn_n ?_
            refine g_seq (x := lKN3w2_63) (y := lKN3w2_64) (by kernel_rfl) ?_
            refine g_seq (x := lKN3w2_65) (y := lKN3w2_66) (by kernel_rfl) ?_
            refine g_region (ops := lKR3w2_19) (id := 19) (by kernel_rfl) [(0, .pure)] (by kernel_rfl) (by kernel_rfl) ?_
            refine wk_pure (show opD lKR3w2_19 0 = some (some 13, .assign (.const (.int .i64 0)), 3, none) from by kernel_rfl) (by kernel_rfl) (.int .i64 0) (fun _ => y_assign (by kernel_rfl)) ?_
            refine wk_nil ?_
            refine thn_n ?_
            refine g_block (x := lKN3w2_67) (id := 4) (by kernel_rfl) ?_
            refine g_loop (x := lKN3w2_68) (by kernel_rfl) (fun m_ ρ_ w_ => ∃ (j : Nat) (γ_ : Nat → Nat), m_ = outs_66.length - j ∧ (j ≤ outs_66.length) ∧ ρ_ 0 = .int .i64 ((n : Nat) : Int) ∧ ρ_ 1 = .int .i64 ((u : Nat) : Int) ∧ ρ_ 2 = .int .i64 ((v : Nat) : Int) ∧ ρ_ 7 = .pointer (some ⟨p_10, 0, none⟩) ∧ ρ_ 10 = .int .i64 ((t : Nat) : Int) ∧ ρ_ 11 = .slice a_73 outs_66.length c_76 ∧ ρ_ 12 = .int .i64 0 ∧ ρ_ 52 = .int .i64 ((t : Nat) : Int) ∧ ρ_ 53 = .int .i64 ((u : Nat) : Int) ∧ ρ_ 54 = .bool true ∧ ρ_ 57 = .pointer (some ⟨p_10, 0, none⟩) ∧ ρ_ 58 = .int .i64 ((t : Nat) : Int) ∧ ρ_ 59 = .slice a_73 outs_66.length c_76 ∧ ρ_ 60 = .int .i64 ((t : Nat) : Int) ∧ ρ_ 61 = .int .i64 ((t % 8 : Nat) : Int) ∧ ρ_ 62 = .bool false ∧ ρ_ 63 = .bool false ∧ ρ_ 67 = .bool false ∧ ρ_ 69 = .slice a_73 outs_66.length c_76 ∧ ρ_ 70 = .int .i64 ((outs_66.length : Nat) : Int) ∧ ρ_ 71 = .int .i64 0 ∧ ρ_ 72 = .bool false ∧ ρ_ 13 = .int .i64 ((j : Nat) : Int) ∧ LkAt γ_ w_ 10 p_10 (againT n v t) ∧ SlG γ_ w_ 0 7 a_73 b_74 off_75 encM outs_66 ∧ AllOk γ_ w_ outs_66 ∧ GX [10, 11, 12] w (fun _ => 0) w_ γ_) (outs_66.length - 0) ?_ ?_
            · exact ⟨0, _, rfl, by omega, (Eq.trans (by kernel_rfl) f_54), (Eq.trans (by kernel_rfl) f_55), (Eq.trans (by kernel_rfl) f_56), (Eq.trans (by kernel_rfl) f_57), (Eq.trans (by kernel_rfl) f_58), (by kernel_rfl), (by kernel_rfl), (by kernel_rfl), (by kernel_rfl), (by kernel_rfl), (by kernel_rfl), (by kernel_rfl), (by kernel_rfl), (by kernel_rfl), (by kernel_rfl), (by kernel_rfl), (by kernel_rfl), (by kernel_rfl), (by kernel_rfl), (by kernel_rfl), (by kernel_rfl), (by kernel_rfl), (by kernel_rfl), hL_72, hs_77, hall_78, (GX.trans hE_52 gx_67 (by intro c_ hc_; simp only [List.mem_cons, List.not_mem_nil, or_false] at hc_ ⊢; omega))⟩
            · intro m_241 ρ_242 w_243 hI
              obtain ⟨j, γ_245, hm_m_241, hj, f_246, f_247, f_248, f_249, f_250, f_251, f_252, f_253, f_254, f_255, f_256, f_257, f_258, f_259, f_260, f_261, f_262, f_263, f_264, f_265, f_266, f_267, f_268, hr_269, hr_270, hr_271, hE_244⟩ := hI
              have hs_w_243 := hE_244.size
              refine g_seq (x := lKN3w2_69) (y := lKN3w2_70) (by kernel_rfl) ?_
              refine g_seq (x := lKN3w2_71) (y := lKN3w2_72) (by kernel_rfl) ?_
              refine g_region (ops := lKR3w2_20) (id := 20) (by kernel_rfl) [(0, .pure), (1, .pure), (2, .pure), (3, .pure)] (by kernel_rfl) (by kernel_rfl) ?_
              refine wk_pure (show opD lKR3w2_20 0 = some (some 73, .move (.tmp 13), 3, none) from by kernel_rfl) (by kernel_rfl) (.int .i64 ((j : Nat) : Int)) (fun _ => y_move (Eq.trans (by kernel_rfl) f_268)) ?_
              refine wk_pure (show opD lKR3w2_20 1 = some (some 74, .move (.tmp 11), 33, none) from by kernel_rfl) (by kernel_rfl) (.slice a_73 outs_66.length c_76) (fun _ => y_move (Eq.trans (by kernel_rfl) f_251)) ?_
              refine wk_pure (show opD lKR3w2_20 2 = some (some 75, .call ⟨.builtin .len, #[.tmp 74], #[33]⟩, 3, none) from by kernel_rfl) (by kernel_rfl) (.int .i64 ((outs_66.length : Nat) : Int)) (fun _ => x_len (a := a_73) (n := outs_66.length) (c := c_76) (by kernel_rfl) (by kernel_rfl)) ?_
              by_cases h_272 : (((j : Nat) : Int) : Int) < ((outs_66.length : Nat) : Int)
              · refine wk_pure (show opD lKR3w2_20 3 = some (some 76, .binOp .lss 3 (.tmp 73) (.tmp 75) 3, 4, none) from by kernel_rfl) (by kernel_rfl) (.bool true) (fun _ => y_lss (k := .i64) (a := ((j : Nat) : Int)) (b := ((outs_66.length : Nat) : Int)) (by kernel_rfl) (by kernel_rfl) (decide_eq_true h_272)) ?_
                refine wk_nil ?_
                refine thn_n ?_
                refine g_cond_t (o := .tmp 76) (x := lKN3w2_73) (y := lKN3w2_74) (by kernel_rfl) (by kernel_rfl) ?_
                refine g_skip (by kernel_rfl) ?_
                refine thn_n ?_
                refine g_seq (x := lKN3w2_75) (y := lKN3w2_76) (by kernel_rfl) ?_
                refine g_block (x := lKN3w2_77) (id := 5) (by kernel_rfl) ?_
                refine g_seq (x := lKN3w2_78) (y := lKN3w2_79) (by kernel_rfl) ?_
                refine g_region (ops := lKR3w2_22) (id := 22) (by kernel_rfl) [(0, .pure), (1, .pure), (2, .pure), (3, .pure), (4, .loud), (5, .pure), (6, .pure), (7, .pure), (8, .pure), (9, .pure), (10, .pure), (11, .pure), (12, .pure), (13, .pure), (14, .loud), (15, .pure), (16, .loud), (17, .pure), (18, .pure), (19, .pure)] (by kernel_rfl) (by kernel_rfl) ?_
                refine wk_pure (show opD lKR3w2_22 0 = some (some 79, .move (.tmp 11), 33, none) from by kernel_rfl) (by kernel_rfl) (.slice a_73 outs_66.length c_76) (fun _ => y_move (Eq.trans (by kernel_rfl) f_251)) ?_
                refine wk_pure (show opD lKR3w2_22 1 = some (some 80, .move (.tmp 13), 3, none) from by kernel_rfl) (by kernel_rfl) (.int .i64 ((j : Nat) : Int)) (fun _ => y_move (Eq.trans (by kernel_rfl) f_268)) ?_
                refine wk_pure (show opD lKR3w2_22 2 = some (some 81, .indexAddr 33 (.tmp 79) (.tmp 80), 0, none) from by kernel_rfl) (by kernel_rfl) (.pointer (some ⟨b_74, off_75 + (j * 7 + 0), none⟩)) (fun _ => y_ptr (x_indexN (a := a_73) (b := b_74) (off := off_75) (n := outs_66.length) (c := c_76) (k := .i64) (i := ((j : Nat) : Int)) (e := 32) (sz := 7) (sz' := 7) (by kernel_rfl) hr_270.1 (by kernel_rfl) (by kernel_rfl) rfl (by omega) _) (by omega)) ?_
                refine wk_pure (show opD lKR3w2_22 3 = some (some 82, .fieldAddr 32 (.tmp 81) 4, 0, none) from by kernel_rfl) (by kernel_rfl) (.pointer (some ⟨b_74, off_75 + (j * 7 + 4), none⟩)) (fun _ => y_ptr (x_fieldAddr (b := b_74) (off := (off_75 + (j * 7 + 0))) (o := 4) (by kernel_rfl) (by kernel_rfl)) (by omega)) ?_
                refine wk_val (show opD lKR3w2_22 4 = some (some 83, .load 27 (.tmp 82), 27, none) from by kernel_rfl) (by kernel_rfl) (.int .u32 ((outs_66.getD j M0).seq)) (x_load_c (b := b_74) (off := (off_75 + (j * 7 + 4))) (by kernel_rfl) (by kernel_rfl) (SlE.get hr_270.1 encM_len M0 j 4 (by omega) rfl)) trivial ?_
                refine wk_pure (show opD lKR3w2_22 5 = some (some 84, .move (.tmp 13), 3, none) from by kernel_rfl) (by kernel_rfl) (.int .i64 ((j : Nat) : Int)) (fun _ => y_move (Eq.trans (by kernel_rfl) f_268)) ?_
                refine wk_pure (show opD lKR3w2_22 6 = some (some 85, .binOp .add 3 (.tmp 84) (.const (.int .i64 1)) 3, 3, none) from by kernel_rfl) (by kernel_rfl) (.int .i64 ((j + 1 : Nat) : Int)) (fun _ => y_add (k := .i64) (a := ((j : Nat) : Int)) (b := 1) (by kernel_rfl) (by kernel_rfl) (i64_to (by omega) (by omega))) ?_
                refine wk_pure (show opD lKR3w2_22 7 = some (some 86, .convert 3 27 (.tmp 85), 27, none) from by kernel_rfl) (by kernel_rfl) (.int .u32 ((j + 1 : Nat) : Int)) (fun _ => y_conv (q := .i64) (a := ((j + 1 : Nat) : Int)) (by kernel_rfl) (by kernel_rfl) (by kernel_rfl) (u32_id (by omega))) ?_
                have hq_273 := again_at ho_70 (by omega : j < outs_66.length)
                have hq_273_n : (outs_66.getD j M0).N.length = 1 := by rw [hq_273.2]; rfl
                refine wk_pure (show opD lKR3w2_22 8 = some (some 87, .binOp .neq 27 (.tmp 83) (.tmp 86) 27, 4, none) from by kernel_rfl) (by kernel_rfl) (.bool false) (fun _ => y_neq (k := .u32) (a := ((outs_66.getD j M0).seq)) (b := ((j + 1 : Nat) : Int)) (by kernel_rfl) (by kernel_rfl) (decide_eq_false (by rw [hq_273.1]; omega))) ?_
                refine wk_pure (show opD lKR3w2_22 9 = some (some 88, .move (.tmp 87), 4, none) from by kernel_rfl) (by kernel_rfl) (.bool false) (fun _ => y_move (by kernel_rfl)) ?_
                refine wk_pure (show opD lKR3w2_22 10 = some (some 89, .move (.tmp 11), 33, some (9, false)) from by kernel_rfl) (by kernel_rfl) (.slice a_73 outs_66.length c_76) (fun _ => y_move (Eq.trans (by kernel_rfl) f_251)) ?_
                refine wk_pure (show opD lKR3w2_22 11 = some (some 90, .move (.tmp 13), 3, some (9, false)) from by kernel_rfl) (by kernel_rfl) (.int .i64 ((j : Nat) : Int)) (fun _ => y_move (Eq.trans (by kernel_rfl) f_268)) ?_
                refine wk_pure (show opD lKR3w2_22 12 = some (some 91, .indexAddr 33 (.tmp 89) (.tmp 90), 0, some (9, false)) from by kernel_rfl) (by kernel_rfl) (.pointer (some ⟨b_74, off_75 + (j * 7 + 0), none⟩)) (fun _ => y_ptr (x_indexN (a := a_73) (b := b_74) (off := off_75) (n := outs_66.length) (c := c_76) (k := .i64) (i := ((j : Nat) : Int)) (e := 32) (sz := 7) (sz' := 7) (by kernel_rfl) hr_270.1 (by kernel_rfl) (by kernel_rfl) rfl (by omega) _) (by omega)) ?_
                refine wk_pure (show opD lKR3w2_22 13 = some (some 92, .fieldAddr 32 (.tmp 91) 5, 0, some (9, false)) from by kernel_rfl) (by kernel_rfl) (.pointer (some ⟨b_74, off_75 + (j * 7 + 5), none⟩)) (fun _ => y_ptr (x_fieldAddr (b := b_74) (off := (off_75 + (j * 7 + 0))) (o := 5) (by kernel_rfl) (by kernel_rfl)) (by omega)) ?_
                refine wk_val (show opD lKR3w2_22 14 = some (some 93, .load 29 (.tmp 92), 29, some (9, false)) from by kernel_rfl) (by kernel_rfl) (.slice ((outs_66.getD j M0).na) ((outs_66.getD j M0).N.length) ((outs_66.getD j M0).nc)) (x_load_c (b := b_74) (off := (off_75 + (j * 7 + 5))) (by kernel_rfl) (by kernel_rfl) (SlE.get hr_270.1 encM_len M0 j 5 (by omega) rfl)) trivial ?_
                refine wk_pure (show opD lKR3w2_22 15 = some (some 94, .indexAddr 29 (.tmp 93) (.const (.int .i64 0)), 0, some (9, false)) from by kernel_rfl) (by kernel_rfl) (.pointer (some ⟨(outs_66.getD j M0).nb, ((outs_66.getD j M0).noff) + (0 * 1 + 0), none⟩)) (fun _ => y_ptr (x_indexN (a := (outs_66.getD j M0).na) (b := (outs_66.getD j M0).nb) (off := ((outs_66.getD j M0).noff)) (n := ((outs_66.getD j M0).N.length)) (c := ((outs_66.getD j M0).nc)) (k := .i64) (i := 0) (e := 2) (sz := 1) (sz' := 1) (by kernel_rfl) (AllOk.get hr_271 (by omega : j < outs_66.length)).n.1 (by kernel_rfl) (by kernel_rfl) rfl (by have hq_ := again_at ho_70 (by omega : j < outs_66.length); rw [hq_.2]; exact ⟨Int.le_refl _, Int.zero_lt_one⟩) _) (by omega)) ?_
                refine wk_val (show opD lKR3w2_22 16 = some (some 95, .load 2 (.tmp 94), 2, some (9, false)) from by kernel_rfl) (by kernel_rfl) (.int .i64 (((outs_66.getD j M0).N).getD 0 0)) (x_load_c (b := (outs_66.getD j M0).nb) (off := (((outs_66.getD j M0).noff) + (0 * 1 + 0))) (by kernel_rfl) (by kernel_rfl) (SlE.get (AllOk.get hr_271 (by omega : j < outs_66.length)).n.1 encI_len 0 0 0 (by omega) rfl)) trivial ?_
                refine wk_pure (show opD lKR3w2_22 17 = some (some 96, .move (.tmp 13), 3, some (9, false)) from by kernel_rfl) (by kernel_rfl) (.int .i64 ((j : Nat) : Int)) (fun _ => y_move (Eq.trans (by kernel_rfl) f_268)) ?_
                have hq_274 := again_at ho_70 (by omega : j < outs_66.length)
                have hq_274_n : (outs_66.getD j M0).N.length = 1 := by rw [hq_274.2]; rfl
                refine wk_pure (show opD lKR3w2_22 18 = some (some 97, .binOp .neq 2 (.tmp 95) (.tmp 96) 2, 4, some (9, false)) from by kernel_rfl) (by kernel_rfl) (.bool false) (fun _ => y_neq (k := .i64) (a := (((outs_66.getD j M0).N).getD 0 0)) (b := ((j : Nat) : Int)) (by kernel_rfl) (by kernel_rfl) (decide_eq_false (by rw [hq_274.2]; exact fun h_ => h_ rfl))) ?_
                refine wk_pure (show opD lKR3w2_22 19 = some (some 98, .pick (.tmp 88) (.const (.bool true)) (.tmp 97), 4, none) from by kernel_rfl) (by kernel_rfl) (.bool false) (fun _ => y_pick_f (by kernel_rfl) (by kernel_rfl)) ?_
                refine wk_nil ?_
                refine thn_n ?_
                refine g_cond_f (o := .tmp 98) (x := lKN3w2_80) (y := lKN3w2_81) (by kernel_rfl) (by kernel_rfl) ?_
                refine g_skip (by kernel_rfl) ?_
                refine blk_n ?_
                refine thn_n ?_
                refine g_region (ops := lKR3w2_21) (id := 21) (by kernel_rfl) [(0, .pure), (1, .pure), (2, .pure)] (by kernel_rfl) (by kernel_rfl) ?_
                refine wk_pure (show opD lKR3w2_21 0 = some (some 77, .move (.tmp 13), 3, none) from by kernel_rfl) (by kernel_rfl) (.int .i64 ((j : Nat) : Int)) (fun _ => y_move (Eq.trans (by kernel_rfl) f_268)) ?_
                refine wk_pure (show opD lKR3w2_21 1 = some (some 78, .binOp .add 3 (.tmp 77) (.const (.int .i64 1)) 3, 3, none) from by kernel_rfl) (by kernel_rfl) (.int .i64 ((j + 1 : Nat) : Int)) (fun _ => y_add (k := .i64) (a := ((j : Nat) : Int)) (b := 1) (by kernel_rfl) (by kernel_rfl) (i64_to (by omega) (by omega))) ?_
                refine wk_pure (show opD lKR3w2_21 2 = some (some 13, .assign (.tmp 78), 3, none) from by kernel_rfl) (by kernel_rfl) (.int .i64 ((j + 1 : Nat) : Int)) (fun _ => y_assign (by kernel_rfl)) ?_
                refine wk_nil ?_
                refine thn_n ?_
                exact ⟨_, (by omega), ⟨(j + 1), _, rfl, by omega, (Eq.trans (by kernel_rfl) f_246), (Eq.trans (by kernel_rfl) f_247), (Eq.trans (by kernel_rfl) f_248), (Eq.trans (by kernel_rfl) f_249), (Eq.trans (by kernel_rfl) f_250), (Eq.trans (by kernel_rfl) f_251), (Eq.trans (by kernel_rfl) f_252), (Eq.trans (by kernel_rfl) f_253), (Eq.trans (by kernel_rfl) f_254), (Eq.trans (by kernel_rfl) f_255), (Eq.trans (by kernel_rfl) f_256), (Eq.trans (by kernel_rfl) f_257), (Eq.trans (by kernel_rfl) f_258), (Eq.trans (by kernel_rfl) f_259), (Eq.trans (by kernel_rfl) f_260), (Eq.trans (by kernel_rfl) f_261), (Eq.trans (by kernel_rfl) f_262), (Eq.trans (by kernel_rfl) f_263), (Eq.trans (by kernel_rfl) f_264), (Eq.trans (by kernel_rfl) f_265), (Eq.trans (by kernel_rfl) f_266), (Eq.trans (by kernel_rfl) f_267), (by kernel_rfl), hr_269, hr_270, hr_271, hE_244⟩⟩
              · refine wk_pure (show opD lKR3w2_20 3 = some (some 76, .binOp .lss 3 (.tmp 73) (.tmp 75) 3, 4, none) from by kernel_rfl) (by kernel_rfl) (.bool false) (fun _ => y_lss (k := .i64) (a := ((j : Nat) : Int)) (b := ((outs_66.length : Nat) : Int)) (by kernel_rfl) (by kernel_rfl) (decide_eq_false h_272)) ?_
                refine wk_nil ?_
                refine thn_n ?_
                refine g_cond_f (o := .tmp 76) (x := lKN3w2_73) (y := lKN3w2_74) (by kernel_rfl) (by kernel_rfl) ?_
                refine g_exit (id := 4) (by kernel_rfl) ?_
                refine thn_e ?_
                refine thn_e ?_
                refine blk_hit ?_
                refine thn_n ?_
                refine g_seq (x := lKN3w2_82) (y := lKN3w2_83) (by kernel_rfl) ?_
                refine g_region (ops := lKR3w2_24) (id := 24) (by kernel_rfl) [(0, .pure), (1, .pure), (2, .pure)] (by kernel_rfl) (by kernel_rfl) ?_
                refine wk_pure (show opD lKR3w2_24 0 = some (some 99, .move (.tmp 10), 3, none) from by kernel_rfl) (by kernel_rfl) (.int .i64 ((t : Nat) : Int)) (fun _ => y_move (Eq.trans (by kernel_rfl) f_250)) ?_
                refine wk_pure (show opD lKR3w2_24 1 = some (some 100, .move (.tmp 2), 3, none) from by kernel_rfl) (by kernel_rfl) (.int .i64 ((v : Nat) : Int)) (fun _ => y_move (Eq.trans (by kernel_rfl) f_248)) ?_
                by_cases h_275 : (((t : Nat) : Int) : Int) = ((v : Nat) : Int)
                · refine wk_pure (show opD lKR3w2_24 2 = some (some 101, .binOp .eql 3 (.tmp 99) (.tmp 100) 3, 4, none) from by kernel_rfl) (by kernel_rfl) (.bool true) (fun _ => y_eql (k := .i64) (a := ((t : Nat) : Int)) (b := ((v : Nat) : Int)) (by kernel_rfl) (by kernel_rfl) (decide_eq_true h_275)) ?_
                  refine wk_nil ?_
                  refine thn_n ?_
                  refine g_cond_t (o := .tmp 101) (x := lKN3w2_84) (y := lKN3w2_85) (by kernel_rfl) (by kernel_rfl) ?_
                  refine g_region (ops := lKR3w2_25) (id := 25) (by kernel_rfl) [(0, .pure), (1, .pure), (2, .loud), (3, .pure), (4, .loud)] (by kernel_rfl) (by kernel_rfl) ?_
                  refine wk_pure (show opD lKR3w2_25 0 = some (some 102, .move (.tmp 7), 23, none) from by kernel_rfl) (by kernel_rfl) (.pointer (some ⟨p_10, 0, none⟩)) (fun _ => y_move (Eq.trans (by kernel_rfl) f_249)) ?_
                  refine wk_pure (show opD lKR3w2_25 1 = some (some 103, .move (.tmp 0), 3, none) from by kernel_rfl) (by kernel_rfl) (.int .i64 ((n : Nat) : Int)) (fun _ => y_move (Eq.trans (by kernel_rfl) f_246)) ?_
                  refine wk_buildSlice (e := 2) (cs := #[.int .i64 ((n : Nat) : Int)]) (show opD lKR3w2_25 2 = some (some 104, .buildSlice 29 1 #[(0, .tmp 103)], 29, none) from by kernel_rfl) (by kernel_rfl) (by kernel_rfl) (fun w_276 b_277 eq_278 e_279 sz_280 hb_281 => ⟨?_, ?_⟩)
                  · exact trivial
                  obtain ⟨γ_282, hg_283, hn_284⟩ := cls_new γ_245 w_243.heap.size 0
                  have gx_285 : GX [] w_243 γ_245 w_276 γ_282 := GX.ext0 [] e_279 hg_283
                  have hk_286 : Bk γ_282 w_276 b_277 0 (.cells #[.int .i64 ((n : Nat) : Int)] 2 (0, 0)) := ⟨hb_281, hn_284 _ (by omega)⟩
                  refine wk_pure (show opD lKR3w2_25 3 = some (some 105, .build 32 #[(0, .const (.int .i64 1)), (1, .const (.int .i64 1)), (2, .const (.int .i64 0)), (3, .const (.int .u32 7)), (5, .tmp 104)], 32, none) from by kernel_rfl) (by kernel_rfl) (.agg #[.int .i64 1, .int .i64 1, .int .i64 0, .int .u32 7, .int .u32 0, .slice (some ⟨b_277, 0, none⟩) 1 1, .slice none 0 0]) (fun _ => x_build (by kernel_rfl)) ?_
                  have hm_287 : MOk γ_282 w_276 (⟨1, 1, 0, 7, 0, (some ⟨b_277, 0, none⟩), b_277, 0, 1, [((n : Nat) : Int)], none, 0, 0, 0, []⟩ : MsgR) := ⟨⟨SlE.of_cells hk_286.1 encI_len (by kernel_rfl), .inr ⟨Bk.lt hk_286, hk_286.2⟩⟩, SlG.nil _ _ _ _ _ _ _ _, (by show (0 : Int) ≤ 7 ∧ (7 : Int) < 4294967296; omega), (by show (0 : Int) ≤ 0 ∧ (0 : Int) < 4294967296; omega), (nr_one (by omega)), (by simp), (by simp)⟩
                  have hheld_ : (againT n v t).held.length = 0 := by unfold againT; split <;> rfl
                  have hb_288 : LkAt γ_282 w_276 10 p_10 (againT n v t) := (LkAt.keep hr_269 gx_285 List.not_mem_nil List.not_mem_nil List.not_mem_nil List.not_mem_nil)
                  refine wk_call (show opD lKR3w2_25 4 = some (some 106, .call ⟨.value (.func 11), #[.tmp 102, .tmp 105], #[23, 32]⟩, 35, none) from by kernel_rfl) (by kernel_rfl) 11 #[.pointer (some ⟨p_10, 0, none⟩), .agg #[.int .i64 1, .int .i64 1, .int .i64 0, .int .u32 7, .int .u32 0, .slice (some ⟨b_277, 0, none⟩) 1 1, .slice none 0 0]] (x_call Try.func11 (by kernel_rfl) (c := (Try.f11.body).getD .skip) (by kernel_rfl) (by kernel_rfl) (by kernel_rfl)) (get_q (m := (⟨1, 1, 0, 7, 0, (some ⟨b_277, 0, none⟩), b_277, 0, 1, [((n : Nat) : Int)], none, 0, 0, 0, []⟩ : MsgR)) (again_get (by omega)) rfl hb_288 (by omega) hm_287 (by omega) (fun w_289 γ_290 v_291 v_292 outs_293 outs_294 gx_295 hM_296 hM_297 hL_298 ho_299 ho_300 => ⟨?_, ?_⟩))
                  · exact trivial
                  have hsz_301 : w_276.heap.size ≤ w_289.heap.size := gx_295.size
                  have hL_302 : LkAt γ_290 w_289 10 p_10 (againS n v (t + 1)) := hL_298
                  obtain ⟨a_303, b_304, off_305, c_306, ev_309, hs_307, hall_308⟩ := hM_296
                  subst ev_309
                  have hlen_outs_293 : outs_293.length = ([] : List Msg).length := by rw [← ho_299, List.length_map]
                  obtain ⟨a_310, b_311, off_312, c_313, ev_316, hs_314, hall_315⟩ := hM_297
                  subst ev_316
                  have hlen_outs_294 : outs_294.length = ([] : List Msg).length := by rw [← ho_300, List.length_map]
                  refine wk_nil ?_
                  refine blk_n ?_
                  refine thn_n ?_
                  refine g_region (ops := lKR3w2_12) (id := 12) (by kernel_rfl) [(0, .pure), (1, .pure), (2, .pure)] (by kernel_rfl) (by kernel_rfl) ?_
                  refine wk_pure (show opD lKR3w2_12 0 = some (some 55, .move (.tmp 10), 3, none) from by kernel_rfl) (by kernel_rfl) (.int .i64 ((t : Nat) : Int)) (fun _ => y_move (Eq.trans (by kernel_rfl) f_250)) ?_
                  refine wk_pure (show opD lKR3w2_12 1 = some (some 56, .binOp .add 3 (.tmp 55) (.const (.int .i64 1)) 3, 3, none) from by kernel_rfl) (by kernel_rfl) (.int .i64 ((t + 1 : Nat) : Int)) (fun _ => y_add (k := .i64) (a := ((t : Nat) : Int)) (b := 1) (by kernel_rfl) (by kernel_rfl) (i64_to (by omega) (by omega))) ?_
                  refine wk_pure (show opD lKR3w2_12 2 = some (some 10, .assign (.tmp 56), 3, none) from by kernel_rfl) (by kernel_rfl) (.int .i64 ((t + 1 : Nat) : Int)) (fun _ => y_assign (by kernel_rfl)) ?_
                  refine wk_nil ?_
                  refine thn_n ?_
                  exact ⟨_, (by omega), ⟨(t + 1), (againS n v (t + 1)), _, rfl, by omega, by first | rfl | exact again_next (by omega), (Eq.trans (by kernel_rfl) f_246), (Eq.trans (by kernel_rfl) f_247), (Eq.trans (by kernel_rfl) f_248), (Eq.trans (by kernel_rfl) f_249), (by kernel_rfl), hL_302, (GX.trans (GX.then0 hE_244 e_279 hg_283) gx_295 (fun _ h_ => h_))⟩⟩
                · refine wk_pure (show opD lKR3w2_24 2 = some (some 101, .binOp .eql 3 (.tmp 99) (.tmp 100) 3, 4, none) from by kernel_rfl) (by kernel_rfl) (.bool false) (fun _ => y_eql (k := .i64) (a := ((t : Nat) : Int)) (b := ((v : Nat) : Int)) (by kernel_rfl) (by kernel_rfl) (decide_eq_false h_275)) ?_
                  refine wk_nil ?_
                  refine thn_n ?_
                  refine g_cond_f (o := .tmp 101) (x := lKN3w2_84) (y := lKN3w2_85) (by kernel_rfl) (by kernel_rfl) ?_
                  refine g_skip (by kernel_rfl) ?_
                  refine blk_n ?_
                  refine thn_n ?_
                  refine g_region (ops := lKR3w2_12) (id := 12) (by kernel_rfl) [(0, .pure), (1, .pure), (2, .pure)] (by kernel_rfl) (by kernel_rfl) ?_
                  refine wk_pure (show opD lKR3w2_12 0 = some (some 55, .move (.tmp 10), 3, none) from by kernel_rfl) (by kernel_rfl) (.int .i64 ((t : Nat) : Int)) (fun _ => y_move (Eq.trans (by kernel_rfl) f_250)) ?_
                  refine wk_pure (show opD lKR3w2_12 1 = some (some 56, .binOp .add 3 (.tmp 55) (.const (.int .i64 1)) 3, 3, none) from by kernel_rfl) (by kernel_rfl) (.int .i64 ((t + 1 : Nat) : Int)) (fun _ => y_add (k := .i64) (a := ((t : Nat) : Int)) (b := 1) (by kernel_rfl) (by kernel_rfl) (i64_to (by omega) (by omega))) ?_
                  refine wk_pure (show opD lKR3w2_12 2 = some (some 10, .assign (.tmp 56), 3, none) from by kernel_rfl) (by kernel_rfl) (.int .i64 ((t + 1 : Nat) : Int)) (fun _ => y_assign (by kernel_rfl)) ?_
                  refine wk_nil ?_
                  refine thn_n ?_
                  exact ⟨_, (by omega), ⟨(t + 1), (againT n v t), _, rfl, by omega, by first | rfl | exact again_next (by omega), (Eq.trans (by kernel_rfl) f_246), (Eq.trans (by kernel_rfl) f_247), (Eq.trans (by kernel_rfl) f_248), (Eq.trans (by kernel_rfl) f_249), (by kernel_rfl), hr_269, hE_244⟩⟩
        · refine wk_pure (show opD lKR3w2_11 2 = some (some 54, .binOp .leq 3 (.tmp 52) (.tmp 53) 3, 4, none) from by kernel_rfl) (by kernel_rfl) (.bool false) (fun _ => y_leq (k := .i64) (a := ((t : Nat) : Int)) (b := ((u : Nat) : Int)) (by kernel_rfl) (by kernel_rfl) (decide_eq_false h_60)) ?_
          refine wk_nil ?_
          refine thn_n ?_
          refine g_cond_f (o := .tmp 54) (x := lKN3w2_42) (y := lKN3w2_43) (by kernel_rfl) (by kernel_rfl) ?_
          refine g_exit (id := 2) (by kernel_rfl) ?_
          refine thn_e ?_
          refine thn_e ?_
          refine blk_hit ?_
          refine thn_n ?_
          refine g_seq (x := lKN3w2_86) (y := lKN3w2_87) (by kernel_rfl) ?_
          refine g_region (ops := lKR3w2_26) (id := 26) (by kernel_rfl) [(0, .pure), (1, .pure), (2, .pure), (3, .pure), (4, .pure), (5, .loud), (6, .pure), (7, .pure), (8, .pure), (9, .pure), (10, .pure), (11, .pure), (12, .pure), (13, .pure), (14, .pure), (15, .loud), (16, .pure), (17, .pure), (18, .pure), (19, .pure)] (by kernel_rfl) (by kernel_rfl) ?_
          refine wk_pure (show opD lKR3w2_26 0 = some (some 107, .move (.tmp 1), 3, none) from by kernel_rfl) (by kernel_rfl) (.int .i64 ((u : Nat) : Int)) (fun _ => y_move (Eq.trans (by kernel_rfl) f_55)) ?_
          refine wk_pure (show opD lKR3w2_26 1 = some (some 108, .move (.tmp 2), 3, none) from by kernel_rfl) (by kernel_rfl) (.int .i64 ((v : Nat) : Int)) (fun _ => y_move (Eq.trans (by kernel_rfl) f_56)) ?_
          by_cases h_317 : (((u : Nat) : Int) : Int) < ((v : Nat) : Int)
          · refine wk_pure (show opD lKR3w2_26 2 = some (some 109, .binOp .lss 3 (.tmp 107) (.tmp 108) 3, 4, none) from by kernel_rfl) (by kernel_rfl) (.bool true) (fun _ => y_lss (k := .i64) (a := ((u : Nat) : Int)) (b := ((v : Nat) : Int)) (by kernel_rfl) (by kernel_rfl) (decide_eq_true h_317)) ?_
            refine wk_pure (show opD lKR3w2_26 3 = some (some 110, .move (.tmp 109), 4, none) from by kernel_rfl) (by kernel_rfl) (.bool true) (fun _ => y_move (by kernel_rfl)) ?_
            refine wk_pure (show opD lKR3w2_26 4 = some (some 111, .move (.tmp 7), 23, some (3, true)) from by kernel_rfl) (by kernel_rfl) (.pointer (some ⟨p_10, 0, none⟩)) (fun _ => y_move (Eq.trans (by kernel_rfl) f_57)) ?_
            refine wk_call (show opD lKR3w2_26 5 = some (some 112, .call ⟨.value (.func 12), #[.tmp 111], #[23]⟩, 3, some (3, true)) from by kernel_rfl) (by kernel_rfl) 12 #[.pointer (some ⟨p_10, 0, none⟩)] (x_call Try.func12 (by kernel_rfl) (c := (Try.f12.body).getD .skip) (by kernel_rfl) (by kernel_rfl) (by kernel_rfl)) (waiting_p hr_59 (by omega) (fun w_318 sm_319 => ⟨?_, ?_⟩))
            · exact trivial
            have gx_320 : GX [] w_51 γ_53 w_318 γ_53 := GX.same [] γ_53 sm_319
            have hsz_321 : w_318.heap.size = w_51.heap.size := by rw [sm_319.heap]
            refine wk_pure (show opD lKR3w2_26 6 = some (some 113, .move (.tmp 0), 3, some (3, true)) from by kernel_rfl) (by kernel_rfl) (.int .i64 ((n : Nat) : Int)) (fun _ => y_move (Eq.trans (by kernel_rfl) f_54)) ?_
            refine wk_pure (show opD lKR3w2_26 7 = some (some 114, .binOp .eql 3 (.tmp 112) (.tmp 113) 3, 4, some (3, true)) from by kernel_rfl) (by kernel_rfl) (.bool true) (fun _ => y_eql (k := .i64) (a := ((s.out.length : Nat) : Int)) (b := ((n : Nat) : Int)) (by kernel_rfl) (by kernel_rfl) (decide_eq_true (by rw [hs, again_end]; split <;> omega))) ?_
            refine wk_pure (show opD lKR3w2_26 8 = some (some 115, .pick (.tmp 110) (.tmp 114) (.const (.bool false)), 4, none) from by kernel_rfl) (by kernel_rfl) (.bool true) (fun _ => y_pick_t (by kernel_rfl) (by kernel_rfl)) ?_
            refine wk_pure (show opD lKR3w2_26 9 = some (some 116, .move (.tmp 115), 4, none) from by kernel_rfl) (by kernel_rfl) (.bool true) (fun _ => y_move (by kernel_rfl)) ?_
            refine wk_skip (show opD lKR3w2_26 10 = some (some 117, .move (.tmp 1), 3, some (9, false)) from by kernel_rfl) (by kernel_rfl) ?_
            refine wk_skip (show opD lKR3w2_26 11 = some (some 118, .move (.tmp 2), 3, some (9, false)) from by kernel_rfl) (by kernel_rfl) ?_
            refine wk_skip (show opD lKR3w2_26 12 = some (some 119, .binOp .geq 3 (.tmp 117) (.tmp 118) 3, 4, some (9, false)) from by kernel_rfl) (by kernel_rfl) ?_
            refine wk_skip (show opD lKR3w2_26 13 = some (some 120, .move (.tmp 119), 4, some (9, false)) from by kernel_rfl) (by kernel_rfl) ?_
            refine wk_skip (show opD lKR3w2_26 14 = some (some 121, .move (.tmp 7), 23, some (13, true)) from by kernel_rfl) (by kernel_rfl) ?_
            refine wk_skip (show opD lKR3w2_26 15 = some (some 122, .call ⟨.value (.func 12), #[.tmp 121], #[23]⟩, 3, some (13, true)) from by kernel_rfl) (by kernel_rfl) ?_
            refine wk_skip (show opD lKR3w2_26 16 = some (some 123, .binOp .eql 3 (.tmp 122) (.const (.int .i64 0)) 3, 4, some (13, true)) from by kernel_rfl) (by kernel_rfl) ?_
            refine wk_skip (show opD lKR3w2_26 17 = some (some 124, .pick (.tmp 120) (.tmp 123) (.const (.bool false)), 4, some (9, false)) from by kernel_rfl) (by kernel_rfl) ?_
            refine wk_pure (show opD lKR3w2_26 18 = some (some 125, .pick (.tmp 116) (.const (.bool true)) (.tmp 124), 4, none) from by kernel_rfl) (by kernel_rfl) (.bool true) (fun _ => y_pick_t (by kernel_rfl) (by kernel_rfl)) ?_
            refine wk_pure (show opD lKR3w2_26 19 = some (some 6, .assign (.tmp 125), 4, none) from by kernel_rfl) (by kernel_rfl) (.bool true) (fun _ => y_assign (by kernel_rfl)) ?_
            refine wk_nil ?_
            refine thn_n ?_
            refine g_ret (by kernel_rfl) ?_
            refine ends1_r (v := .bool true) rfl (by kernel_rfl) ?_
            exact hK _ (GX.ext (GX.then_same hE_52 sm_319) (fun _ _ => by show 0 ∉ [10, 11, 12]; decide))
          · refine wk_pure (show opD lKR3w2_26 2 = some (some 109, .binOp .lss 3 (.tmp 107) (.tmp 108) 3, 4, none) from by kernel_rfl) (by kernel_rfl) (.bool false) (fun _ => y_lss (k := .i64) (a := ((u : Nat) : Int)) (b := ((v : Nat) : Int)) (by kernel_rfl) (by kernel_rfl) (decide_eq_false h_317)) ?_
            refine wk_pure (show opD lKR3w2_26 3 = some (some 110, .move (.tmp 109), 4, none) from by kernel_rfl) (by kernel_rfl) (.bool false) (fun _ => y_move (by kernel_rfl)) ?_
            refine wk_skip (show opD lKR3w2_26 4 = some (some 111, .move (.tmp 7), 23, some (3, true)) from by kernel_rfl) (by kernel_rfl) ?_
            refine wk_skip (show opD lKR3w2_26 5 = some (some 112, .call ⟨.value (.func 12), #[.tmp 111], #[23]⟩, 3, some (3, true)) from by kernel_rfl) (by kernel_rfl) ?_
            refine wk_skip (show opD lKR3w2_26 6 = some (some 113, .move (.tmp 0), 3, some (3, true)) from by kernel_rfl) (by kernel_rfl) ?_
            refine wk_skip (show opD lKR3w2_26 7 = some (some 114, .binOp .eql 3 (.tmp 112) (.tmp 113) 3, 4, some (3, true)) from by kernel_rfl) (by kernel_rfl) ?_
            refine wk_pure (show opD lKR3w2_26 8 = some (some 115, .pick (.tmp 110) (.tmp 114) (.const (.bool false)), 4, none) from by kernel_rfl) (by kernel_rfl) (.bool false) (fun _ => y_pick_f (by kernel_rfl) (by kernel_rfl)) ?_
            refine wk_pure (show opD lKR3w2_26 9 = some (some 116, .move (.tmp 115), 4, none) from by kernel_rfl) (by kernel_rfl) (.bool false) (fun _ => y_move (by kernel_rfl)) ?_
            refine wk_pure (show opD lKR3w2_26 10 = some (some 117, .move (.tmp 1), 3, some (9, false)) from by kernel_rfl) (by kernel_rfl) (.int .i64 ((u : Nat) : Int)) (fun _ => y_move (Eq.trans (by kernel_rfl) f_55)) ?_
            refine wk_pure (show opD lKR3w2_26 11 = some (some 118, .move (.tmp 2), 3, some (9, false)) from by kernel_rfl) (by kernel_rfl) (.int .i64 ((v : Nat) : Int)) (fun _ => y_move (Eq.trans (by kernel_rfl) f_56)) ?_
            refine wk_pure (show opD lKR3w2_26 12 = some (some 119, .binOp .geq 3 (.tmp 117) (.tmp 118) 3, 4, some (9, false)) from by kernel_rfl) (by kernel_rfl) (.bool true) (fun _ => y_geq (k := .i64) (a := ((u : Nat) : Int)) (b := ((v : Nat) : Int)) (by kernel_rfl) (by kernel_rfl) (decide_eq_true (by omega))) ?_
            refine wk_pure (show opD lKR3w2_26 13 = some (some 120, .move (.tmp 119), 4, some (9, false)) from by kernel_rfl) (by kernel_rfl) (.bool true) (fun _ => y_move (by kernel_rfl)) ?_
            refine wk_pure (show opD lKR3w2_26 14 = some (some 121, .move (.tmp 7), 23, some (13, true)) from by kernel_rfl) (by kernel_rfl) (.pointer (some ⟨p_10, 0, none⟩)) (fun _ => y_move (Eq.trans (by kernel_rfl) f_57)) ?_
            refine wk_call (show opD lKR3w2_26 15 = some (some 122, .call ⟨.value (.func 12), #[.tmp 121], #[23]⟩, 3, some (13, true)) from by kernel_rfl) (by kernel_rfl) 12 #[.pointer (some ⟨p_10, 0, none⟩)] (x_call Try.func12 (by kernel_rfl) (c := (Try.f12.body).getD .skip) (by kernel_rfl) (by kernel_rfl) (by kernel_rfl)) (waiting_p hr_59 (by omega) (fun w_322 sm_323 => ⟨?_, ?_⟩))
            · exact trivial
            have gx_324 : GX [] w_51 γ_53 w_322 γ_53 := GX.same [] γ_53 sm_323
            have hsz_325 : w_322.heap.size = w_51.heap.size := by rw [sm_323.heap]
            refine wk_pure (show opD lKR3w2_26 16 = some (some 123, .binOp .eql 3 (.tmp 122) (.const (.int .i64 0)) 3, 4, some (13, true)) from by kernel_rfl) (by kernel_rfl) (.bool true) (fun _ => y_eql (k := .i64) (a := ((s.out.length : Nat) : Int)) (b := 0) (by kernel_rfl) (by kernel_rfl) (decide_eq_true (by rw [hs, again_end]; split <;> omega))) ?_
            refine wk_pure (show opD lKR3w2_26 17 = some (some 124, .pick (.tmp 120) (.tmp 123) (.const (.bool false)), 4, some (9, false)) from by kernel_rfl) (by kernel_rfl) (.bool true) (fun _ => y_pick_t (by kernel_rfl) (by kernel_rfl)) ?_
            refine wk_pure (show opD lKR3w2_26 18 = some (some 125, .pick (.tmp 116) (.const (.bool true)) (.tmp 124), 4, none) from by kernel_rfl) (by kernel_rfl) (.bool true) (fun _ => y_pick_f (by kernel_rfl) (by kernel_rfl)) ?_
            refine wk_pure (show opD lKR3w2_26 19 = some (some 6, .assign (.tmp 125), 4, none) from by kernel_rfl) (by kernel_rfl) (.bool true) (fun _ => y_assign (by kernel_rfl)) ?_
            refine wk_nil ?_
            refine thn_n ?_
            refine g_ret (by kernel_rfl) ?_
            refine ends1_r (v := .bool true) rfl (by kernel_rfl) ?_
            exact hK _ (GX.ext (GX.then_same hE_52 sm_323) (fun _ _ => by show 0 ∉ [10, 11, 12]; decide))

end Go.Proofs.Ytpcdldakilkldaa
