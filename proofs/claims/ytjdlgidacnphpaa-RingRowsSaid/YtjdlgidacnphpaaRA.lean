/-
  A part of the proofs over the program's package ring: contracts of its functions, step by step.
-/
import Derived.Test.YtjdlgidacnphpaaK7
import Derived.Test.YtjdlgidacnphpaaProg
namespace Go.Proofs.Ytjdlgidacnphpaa
open Go Go.Wk

def sendsC (place n round : Int) : Int := if round < n - 1 then (place - round + n) % n else (place + 1 - (round - (n - 1)) + n) % n
def sendsA (n round : Int) : Bool := decide (round < n - 1)

noncomputable def gN21w1_0 : Code := (Try.f21.body).getD .skip
noncomputable def gN21w1_1 : Code := s1 gN21w1_0
noncomputable def gN21w1_2 : Code := s2 gN21w1_0
noncomputable def gR21w1_0 : Array Oper := rops gN21w1_1
noncomputable def gN21w1_3 : Code := s1 gN21w1_2
noncomputable def gN21w1_4 : Code := s2 gN21w1_2
noncomputable def gN21w1_5 : Code := s1 gN21w1_3
noncomputable def gN21w1_6 : Code := s1 gN21w1_5
noncomputable def gN21w1_7 : Code := s2 gN21w1_5
noncomputable def gR21w1_1 : Array Oper := rops gN21w1_6
noncomputable def gN21w1_8 : Code := s1 gN21w1_7
noncomputable def gN21w1_9 : Code := s2 gN21w1_7
noncomputable def gN21w1_10 : Code := s1 gN21w1_9
noncomputable def gN21w1_11 : Code := s2 gN21w1_9
noncomputable def gR21w1_3 : Array Oper := rops gN21w1_10
noncomputable def gN21w1_12 : Code := s1 gN21w1_11
noncomputable def gN21w1_13 : Code := s2 gN21w1_11
noncomputable def gN21w1_14 : Code := s1 gN21w1_12
noncomputable def gN21w1_15 : Code := s2 gN21w1_12
noncomputable def gR21w1_4 : Array Oper := rops gN21w1_14
noncomputable def gN21w1_16 : Code := s1 gN21w1_4
noncomputable def gN21w1_17 : Code := s2 gN21w1_4
noncomputable def gR21w1_5 : Array Oper := rops gN21w1_16
theorem sends_c (place n round : Int) (w : World) (h1 : 2 ≤ n) (h2 : n ≤ 16) (h3 : 0 ≤ place) (h4 : place < n) (h5 : 0 ≤ round) (h6 : round ≤ 2 * n - 3) {K : Value → World → Prop} (hK : K (.tuple #[.int .i64 (sendsC place n round), .bool (sendsA n round), .int .i64 0]) w) : CallsV Try.prog 21 #[.int .i64 place, .int .i64 n, .int .i64 round] w K := by
  refine callsV_of (c := gN21w1_0) Try.func21 (by kernel_rfl) (n := 59) (by kernel_rfl) ?_
  refine g_seq (x := gN21w1_1) (y := gN21w1_2) (by kernel_rfl) ?_
  refine g_region (ops := gR21w1_0) (id := 0) (by kernel_rfl) [(0, .pure), (1, .pure), (2, .pure)] (by kernel_rfl) (by kernel_rfl) ?_
  refine wk_pure (show opD gR21w1_0 0 = some (some 6, .assign (.const (.int .i64 0)), 3, none) from by kernel_rfl) (by kernel_rfl) (.int .i64 0) (fun _ => y_assign (by kernel_rfl)) ?_
  refine wk_pure (show opD gR21w1_0 1 = some (some 7, .assign (.const (.bool false)), 4, none) from by kernel_rfl) (by kernel_rfl) (.bool false) (fun _ => y_assign (by kernel_rfl)) ?_
  refine wk_pure (show opD gR21w1_0 2 = some (some 8, .assign (.const (.int .i64 0)), 28, none) from by kernel_rfl) (by kernel_rfl) (.int .i64 0) (fun _ => y_assign (by kernel_rfl)) ?_
  refine wk_nil ?_
  refine thn_n ?_
  refine g_seq (x := gN21w1_3) (y := gN21w1_4) (by kernel_rfl) ?_
  refine g_block (x := gN21w1_5) (id := 0) (by kernel_rfl) ?_
  refine g_seq (x := gN21w1_6) (y := gN21w1_7) (by kernel_rfl) ?_
  refine g_region (ops := gR21w1_1) (id := 1) (by kernel_rfl) [(0, .pure), (1, .pure), (2, .pure), (3, .pure), (4, .pure), (5, .pure), (6, .pure), (7, .pure), (8, .pure), (9, .pure), (10, .pure), (11, .pure), (12, .pure), (13, .pure), (14, .pure), (15, .pure), (16, .pure), (17, .pure), (18, .pure), (19, .pure), (20, .pure), (21, .pure), (22, .pure), (23, .pure), (24, .pure), (25, .pure), (26, .pure)] (by kernel_rfl) (by kernel_rfl) ?_
  refine wk_pure (show opD gR21w1_1 0 = some (some 10, .move (.tmp 1), 3, none) from by kernel_rfl) (by kernel_rfl) (.int .i64 n) (fun _ => y_move (by kernel_rfl)) ?_
  refine wk_pure (show opD gR21w1_1 1 = some (some 11, .binOp .lss 3 (.tmp 10) (.const (.int .i64 2)) 3, 4, none) from by kernel_rfl) (by kernel_rfl) (.bool false) (fun _ => y_lss (k := .i64) (a := n) (b := 2) (by kernel_rfl) (by kernel_rfl) (decide_eq_false (by omega))) ?_
  refine wk_pure (show opD gR21w1_1 2 = some (some 12, .move (.tmp 11), 4, none) from by kernel_rfl) (by kernel_rfl) (.bool false) (fun _ => y_move (by kernel_rfl)) ?_
  refine wk_pure (show opD gR21w1_1 3 = some (some 13, .move (.tmp 1), 3, some (2, false)) from by kernel_rfl) (by kernel_rfl) (.int .i64 n) (fun _ => y_move (by kernel_rfl)) ?_
  refine wk_pure (show opD gR21w1_1 4 = some (some 14, .binOp .gtr 3 (.tmp 13) (.const (.int .i64 16)) 3, 4, some (2, false)) from by kernel_rfl) (by kernel_rfl) (.bool false) (fun _ => y_gtr (k := .i64) (a := n) (b := 16) (by kernel_rfl) (by kernel_rfl) (decide_eq_false (by omega))) ?_
  refine wk_pure (show opD gR21w1_1 5 = some (some 15, .pick (.tmp 12) (.const (.bool true)) (.tmp 14), 4, none) from by kernel_rfl) (by kernel_rfl) (.bool false) (fun _ => y_pick_f (by kernel_rfl) (by kernel_rfl)) ?_
  refine wk_pure (show opD gR21w1_1 6 = some (some 16, .move (.tmp 15), 4, none) from by kernel_rfl) (by kernel_rfl) (.bool false) (fun _ => y_move (by kernel_rfl)) ?_
  refine wk_pure (show opD gR21w1_1 7 = some (some 17, .move (.tmp 0), 3, some (6, false)) from by kernel_rfl) (by kernel_rfl) (.int .i64 place) (fun _ => y_move (by kernel_rfl)) ?_
  refine wk_pure (show opD gR21w1_1 8 = some (some 18, .binOp .lss 3 (.tmp 17) (.const (.int .i64 0)) 3, 4, some (6, false)) from by kernel_rfl) (by kernel_rfl) (.bool false) (fun _ => y_lss (k := .i64) (a := place) (b := 0) (by kernel_rfl) (by kernel_rfl) (decide_eq_false (by omega))) ?_
  refine wk_pure (show opD gR21w1_1 9 = some (some 19, .pick (.tmp 16) (.const (.bool true)) (.tmp 18), 4, none) from by kernel_rfl) (by kernel_rfl) (.bool false) (fun _ => y_pick_f (by kernel_rfl) (by kernel_rfl)) ?_
  refine wk_pure (show opD gR21w1_1 10 = some (some 20, .move (.tmp 19), 4, none) from by kernel_rfl) (by kernel_rfl) (.bool false) (fun _ => y_move (by kernel_rfl)) ?_
  refine wk_pure (show opD gR21w1_1 11 = some (some 21, .move (.tmp 0), 3, some (10, false)) from by kernel_rfl) (by kernel_rfl) (.int .i64 place) (fun _ => y_move (by kernel_rfl)) ?_
  refine wk_pure (show opD gR21w1_1 12 = some (some 22, .move (.tmp 1), 3, some (10, false)) from by kernel_rfl) (by kernel_rfl) (.int .i64 n) (fun _ => y_move (by kernel_rfl)) ?_
  refine wk_pure (show opD gR21w1_1 13 = some (some 23, .binOp .geq 3 (.tmp 21) (.tmp 22) 3, 4, some (10, false)) from by kernel_rfl) (by kernel_rfl) (.bool false) (fun _ => y_geq (k := .i64) (a := place) (b := n) (by kernel_rfl) (by kernel_rfl) (decide_eq_false (by omega))) ?_
  refine wk_pure (show opD gR21w1_1 14 = some (some 24, .pick (.tmp 20) (.const (.bool true)) (.tmp 23), 4, none) from by kernel_rfl) (by kernel_rfl) (.bool false) (fun _ => y_pick_f (by kernel_rfl) (by kernel_rfl)) ?_
  refine wk_pure (show opD gR21w1_1 15 = some (some 25, .move (.tmp 24), 4, none) from by kernel_rfl) (by kernel_rfl) (.bool false) (fun _ => y_move (by kernel_rfl)) ?_
  refine wk_pure (show opD gR21w1_1 16 = some (some 26, .move (.tmp 2), 3, some (15, false)) from by kernel_rfl) (by kernel_rfl) (.int .i64 round) (fun _ => y_move (by kernel_rfl)) ?_
  refine wk_pure (show opD gR21w1_1 17 = some (some 27, .binOp .lss 3 (.tmp 26) (.const (.int .i64 0)) 3, 4, some (15, false)) from by kernel_rfl) (by kernel_rfl) (.bool false) (fun _ => y_lss (k := .i64) (a := round) (b := 0) (by kernel_rfl) (by kernel_rfl) (decide_eq_false (by omega))) ?_
  refine wk_pure (show opD gR21w1_1 18 = some (some 28, .pick (.tmp 25) (.const (.bool true)) (.tmp 27), 4, none) from by kernel_rfl) (by kernel_rfl) (.bool false) (fun _ => y_pick_f (by kernel_rfl) (by kernel_rfl)) ?_
  refine wk_pure (show opD gR21w1_1 19 = some (some 29, .move (.tmp 28), 4, none) from by kernel_rfl) (by kernel_rfl) (.bool false) (fun _ => y_move (by kernel_rfl)) ?_
  refine wk_pure (show opD gR21w1_1 20 = some (some 30, .move (.tmp 2), 3, some (19, false)) from by kernel_rfl) (by kernel_rfl) (.int .i64 round) (fun _ => y_move (by kernel_rfl)) ?_
  refine wk_pure (show opD gR21w1_1 21 = some (some 31, .move (.tmp 1), 3, some (19, false)) from by kernel_rfl) (by kernel_rfl) (.int .i64 n) (fun _ => y_move (by kernel_rfl)) ?_
  refine wk_pure (show opD gR21w1_1 22 = some (some 32, .binOp .mul 3 (.const (.int .i64 2)) (.tmp 31) 3, 3, some (19, false)) from by kernel_rfl) (by kernel_rfl) (.int .i64 (2 * n)) (fun _ => y_mul (k := .i64) (a := 2) (b := n) (by kernel_rfl) (by kernel_rfl) (i64_id (by omega))) ?_
  refine wk_pure (show opD gR21w1_1 23 = some (some 33, .binOp .sub 3 (.tmp 32) (.const (.int .i64 3)) 3, 3, some (19, false)) from by kernel_rfl) (by kernel_rfl) (.int .i64 ((2 * n) - 3)) (fun _ => y_sub (k := .i64) (a := (2 * n)) (b := 3) (by kernel_rfl) (by kernel_rfl) (i64_id (by omega))) ?_
  refine wk_pure (show opD gR21w1_1 24 = some (some 34, .binOp .gtr 3 (.tmp 30) (.tmp 33) 3, 4, some (19, false)) from by kernel_rfl) (by kernel_rfl) (.bool false) (fun _ => y_gtr (k := .i64) (a := round) (b := ((2 * n) - 3)) (by kernel_rfl) (by kernel_rfl) (decide_eq_false (by omega))) ?_
  refine wk_pure (show opD gR21w1_1 25 = some (some 35, .pick (.tmp 29) (.const (.bool true)) (.tmp 34), 4, none) from by kernel_rfl) (by kernel_rfl) (.bool false) (fun _ => y_pick_f (by kernel_rfl) (by kernel_rfl)) ?_
  refine wk_pure (show opD gR21w1_1 26 = some (some 9, .assign (.tmp 35), 4, none) from by kernel_rfl) (by kernel_rfl) (.bool false) (fun _ => y_assign (by kernel_rfl)) ?_
  refine wk_nil ?_
  refine thn_n ?_
  refine g_cond_f (o := .tmp 9) (x := gN21w1_8) (y := gN21w1_9) (by kernel_rfl) (by kernel_rfl) ?_
  refine g_seq (x := gN21w1_10) (y := gN21w1_11) (by kernel_rfl) ?_
  refine g_region (ops := gR21w1_3) (id := 3) (by kernel_rfl) [(0, .pure), (1, .pure), (2, .pure), (3, .pure), (4, .pure)] (by kernel_rfl) (by kernel_rfl) ?_
  refine wk_pure (show opD gR21w1_3 0 = some (some 37, .move (.tmp 2), 3, none) from by kernel_rfl) (by kernel_rfl) (.int .i64 round) (fun _ => y_move (by kernel_rfl)) ?_
  refine wk_pure (show opD gR21w1_3 1 = some (some 38, .move (.tmp 1), 3, none) from by kernel_rfl) (by kernel_rfl) (.int .i64 n) (fun _ => y_move (by kernel_rfl)) ?_
  refine wk_pure (show opD gR21w1_3 2 = some (some 39, .binOp .sub 3 (.tmp 38) (.const (.int .i64 1)) 3, 3, none) from by kernel_rfl) (by kernel_rfl) (.int .i64 (n - 1)) (fun _ => y_sub (k := .i64) (a := n) (b := 1) (by kernel_rfl) (by kernel_rfl) (i64_id (by omega))) ?_
  by_cases h_1 : (round : Int) < (n - 1)
  · refine wk_pure (show opD gR21w1_3 3 = some (some 40, .binOp .lss 3 (.tmp 37) (.tmp 39) 3, 4, none) from by kernel_rfl) (by kernel_rfl) (.bool true) (fun _ => y_lss (k := .i64) (a := round) (b := (n - 1)) (by kernel_rfl) (by kernel_rfl) (decide_eq_true h_1)) ?_
    refine wk_pure (show opD gR21w1_3 4 = some (some 36, .assign (.tmp 40), 4, none) from by kernel_rfl) (by kernel_rfl) (.bool true) (fun _ => y_assign (by kernel_rfl)) ?_
    refine wk_nil ?_
    refine thn_n ?_
    refine g_cond_t (o := .tmp 36) (x := gN21w1_12) (y := gN21w1_13) (by kernel_rfl) (by kernel_rfl) ?_
    refine g_seq (x := gN21w1_14) (y := gN21w1_15) (by kernel_rfl) ?_
    refine g_region (ops := gR21w1_4) (id := 4) (by kernel_rfl) [(0, .pure), (1, .pure), (2, .pure), (3, .pure), (4, .pure), (5, .pure), (6, .pure), (7, .pure), (8, .pure), (9, .pure)] (by kernel_rfl) (by kernel_rfl) ?_
    refine wk_pure (show opD gR21w1_4 0 = some (some 41, .move (.tmp 0), 3, none) from by kernel_rfl) (by kernel_rfl) (.int .i64 place) (fun _ => y_move (by kernel_rfl)) ?_
    refine wk_pure (show opD gR21w1_4 1 = some (some 42, .move (.tmp 2), 3, none) from by kernel_rfl) (by kernel_rfl) (.int .i64 round) (fun _ => y_move (by kernel_rfl)) ?_
    refine wk_pure (show opD gR21w1_4 2 = some (some 43, .binOp .sub 3 (.tmp 41) (.tmp 42) 3, 3, none) from by kernel_rfl) (by kernel_rfl) (.int .i64 (place - round)) (fun _ => y_sub (k := .i64) (a := place) (b := round) (by kernel_rfl) (by kernel_rfl) (i64_id (by omega))) ?_
    refine wk_pure (show opD gR21w1_4 3 = some (some 44, .move (.tmp 1), 3, none) from by kernel_rfl) (by kernel_rfl) (.int .i64 n) (fun _ => y_move (by kernel_rfl)) ?_
    refine wk_pure (show opD gR21w1_4 4 = some (some 45, .binOp .add 3 (.tmp 43) (.tmp 44) 3, 3, none) from by kernel_rfl) (by kernel_rfl) (.int .i64 ((place - round) + n)) (fun _ => y_add (k := .i64) (a := (place - round)) (b := n) (by kernel_rfl) (by kernel_rfl) (i64_id (by omega))) ?_
    refine wk_pure (show opD gR21w1_4 5 = some (some 46, .move (.tmp 1), 3, none) from by kernel_rfl) (by kernel_rfl) (.int .i64 n) (fun _ => y_move (by kernel_rfl)) ?_
    refine wk_pure (show opD gR21w1_4 6 = some (some 47, .binOp .rem 3 (.tmp 45) (.tmp 46) 3, 3, none) from by kernel_rfl) (by kernel_rfl) (.int .i64 (((place - round) + n) % n)) (fun _ => y_rem (k := .i64) (a := ((place - round) + n)) (b := n) (by kernel_rfl) (by kernel_rfl) (by omega) (tmod_of (by omega) rfl)) ?_
    refine wk_pure (show opD gR21w1_4 7 = some (some 6, .assign (.tmp 47), 3, none) from by kernel_rfl) (by kernel_rfl) (.int .i64 (((place - round) + n) % n)) (fun _ => y_assign (by kernel_rfl)) ?_
    refine wk_pure (show opD gR21w1_4 8 = some (some 7, .assign (.const (.bool true)), 4, none) from by kernel_rfl) (by kernel_rfl) (.bool true) (fun _ => y_assign (by kernel_rfl)) ?_
    refine wk_pure (show opD gR21w1_4 9 = some (some 8, .assign (.const (.int .i64 0)), 28, none) from by kernel_rfl) (by kernel_rfl) (.int .i64 0) (fun _ => y_assign (by kernel_rfl)) ?_
    refine wk_nil ?_
    refine thn_n ?_
    refine g_ret (by kernel_rfl) ?_
    refine blk_r ?_
    refine thn_r ?_
    refine ends3_r (v := .int .i64 (((place - round) + n) % n)) (v' := .bool true) (v'' := .int .i64 0) rfl (by kernel_rfl) (by kernel_rfl) (by kernel_rfl) ?_
    simpa [sendsC, sendsA, *] using hK
  · refine wk_pure (show opD gR21w1_3 3 = some (some 40, .binOp .lss 3 (.tmp 37) (.tmp 39) 3, 4, none) from by kernel_rfl) (by kernel_rfl) (.bool false) (fun _ => y_lss (k := .i64) (a := round) (b := (n - 1)) (by kernel_rfl) (by kernel_rfl) (decide_eq_false h_1)) ?_
    refine wk_pure (show opD gR21w1_3 4 = some (some 36, .assign (.tmp 40), 4, none) from by kernel_rfl) (by kernel_rfl) (.bool false) (fun _ => y_assign (by kernel_rfl)) ?_
    refine wk_nil ?_
    refine thn_n ?_
    refine g_cond_f (o := .tmp 36) (x := gN21w1_12) (y := gN21w1_13) (by kernel_rfl) (by kernel_rfl) ?_
    refine g_skip (by kernel_rfl) ?_
    refine blk_n ?_
    refine thn_n ?_
    refine g_seq (x := gN21w1_16) (y := gN21w1_17) (by kernel_rfl) ?_
    refine g_region (ops := gR21w1_5) (id := 5) (by kernel_rfl) [(0, .pure), (1, .pure), (2, .pure), (3, .pure), (4, .pure), (5, .pure), (6, .pure), (7, .pure), (8, .pure), (9, .pure), (10, .pure), (11, .pure), (12, .pure), (13, .pure)] (by kernel_rfl) (by kernel_rfl) ?_
    refine wk_pure (show opD gR21w1_5 0 = some (some 48, .move (.tmp 0), 3, none) from by kernel_rfl) (by kernel_rfl) (.int .i64 place) (fun _ => y_move (by kernel_rfl)) ?_
    refine wk_pure (show opD gR21w1_5 1 = some (some 49, .binOp .add 3 (.tmp 48) (.const (.int .i64 1)) 3, 3, none) from by kernel_rfl) (by kernel_rfl) (.int .i64 (place + 1)) (fun _ => y_add (k := .i64) (a := place) (b := 1) (by kernel_rfl) (by kernel_rfl) (i64_id (by omega))) ?_
    refine wk_pure (show opD gR21w1_5 2 = some (some 50, .move (.tmp 2), 3, none) from by kernel_rfl) (by kernel_rfl) (.int .i64 round) (fun _ => y_move (by kernel_rfl)) ?_
    refine wk_pure (show opD gR21w1_5 3 = some (some 51, .move (.tmp 1), 3, none) from by kernel_rfl) (by kernel_rfl) (.int .i64 n) (fun _ => y_move (by kernel_rfl)) ?_
    refine wk_pure (show opD gR21w1_5 4 = some (some 52, .binOp .sub 3 (.tmp 51) (.const (.int .i64 1)) 3, 3, none) from by kernel_rfl) (by kernel_rfl) (.int .i64 (n - 1)) (fun _ => y_sub (k := .i64) (a := n) (b := 1) (by kernel_rfl) (by kernel_rfl) (i64_id (by omega))) ?_
    refine wk_pure (show opD gR21w1_5 5 = some (some 53, .binOp .sub 3 (.tmp 50) (.tmp 52) 3, 3, none) from by kernel_rfl) (by kernel_rfl) (.int .i64 (round - (n - 1))) (fun _ => y_sub (k := .i64) (a := round) (b := (n - 1)) (by kernel_rfl) (by kernel_rfl) (i64_id (by omega))) ?_
    refine wk_pure (show opD gR21w1_5 6 = some (some 54, .binOp .sub 3 (.tmp 49) (.tmp 53) 3, 3, none) from by kernel_rfl) (by kernel_rfl) (.int .i64 ((place + 1) - (round - (n - 1)))) (fun _ => y_sub (k := .i64) (a := (place + 1)) (b := (round - (n - 1))) (by kernel_rfl) (by kernel_rfl) (i64_id (by omega))) ?_
    refine wk_pure (show opD gR21w1_5 7 = some (some 55, .move (.tmp 1), 3, none) from by kernel_rfl) (by kernel_rfl) (.int .i64 n) (fun _ => y_move (by kernel_rfl)) ?_
    refine wk_pure (show opD gR21w1_5 8 = some (some 56, .binOp .add 3 (.tmp 54) (.tmp 55) 3, 3, none) from by kernel_rfl) (by kernel_rfl) (.int .i64 (((place + 1) - (round - (n - 1))) + n)) (fun _ => y_add (k := .i64) (a := ((place + 1) - (round - (n - 1)))) (b := n) (by kernel_rfl) (by kernel_rfl) (i64_id (by omega))) ?_
    refine wk_pure (show opD gR21w1_5 9 = some (some 57, .move (.tmp 1), 3, none) from by kernel_rfl) (by kernel_rfl) (.int .i64 n) (fun _ => y_move (by kernel_rfl)) ?_
    refine wk_pure (show opD gR21w1_5 10 = some (some 58, .binOp .rem 3 (.tmp 56) (.tmp 57) 3, 3, none) from by kernel_rfl) (by kernel_rfl) (.int .i64 ((((place + 1) - (round - (n - 1))) + n) % n)) (fun _ => y_rem (k := .i64) (a := (((place + 1) - (round - (n - 1))) + n)) (b := n) (by kernel_rfl) (by kernel_rfl) (by omega) (tmod_of (by omega) rfl)) ?_
    refine wk_pure (show opD gR21w1_5 11 = some (some 6, .assign (.tmp 58), 3, none) from by kernel_rfl) (by kernel_rfl) (.int .i64 ((((place + 1) - (round - (n - 1))) + n) % n)) (fun _ => y_assign (by kernel_rfl)) ?_
    refine wk_pure (show opD gR21w1_5 12 = some (some 7, .assign (.const (.bool false)), 4, none) from by kernel_rfl) (by kernel_rfl) (.bool false) (fun _ => y_assign (by kernel_rfl)) ?_
    refine wk_pure (show opD gR21w1_5 13 = some (some 8, .assign (.const (.int .i64 0)), 28, none) from by kernel_rfl) (by kernel_rfl) (.int .i64 0) (fun _ => y_assign (by kernel_rfl)) ?_
    refine wk_nil ?_
    refine thn_n ?_
    refine g_ret (by kernel_rfl) ?_
    refine ends3_r (v := .int .i64 ((((place + 1) - (round - (n - 1))) + n) % n)) (v' := .bool false) (v'' := .int .i64 0) rfl (by kernel_rfl) (by kernel_rfl) (by kernel_rfl) ?_
    simpa [sendsC, sendsA, *] using hK
end Go.Proofs.Ytjdlgidacnphpaa
