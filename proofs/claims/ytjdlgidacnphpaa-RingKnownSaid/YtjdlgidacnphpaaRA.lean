/-
  A part of the proofs over the program's package ring: contracts of its functions, step by step.
-/
import Derived.Test.YtjdlgidacnphpaaK7
import Derived.Test.YtjdlgidacnphpaaProg
namespace Go.Proofs.Ytjdlgidacnphpaa
open Go Go.Wk

def sendsC (place n round : Int) : Int := if round < n - 1 then (place - round + n) % n else (place + 1 - (round - (n - 1)) + n) % n
def sendsA (n round : Int) : Bool := decide (round < n - 1)

noncomputable def gN21_0 : Code := (Try.f21.body).getD .skip
noncomputable def gN21_1 : Code := s1 gN21_0
noncomputable def gN21_2 : Code := s2 gN21_0
noncomputable def gR21_0 : Array Oper := rops gN21_1
noncomputable def gN21_3 : Code := s1 gN21_2
noncomputable def gN21_4 : Code := s2 gN21_2
noncomputable def gN21_5 : Code := s1 gN21_3
noncomputable def gN21_6 : Code := s1 gN21_5
noncomputable def gN21_7 : Code := s2 gN21_5
noncomputable def gR21_1 : Array Oper := rops gN21_6
noncomputable def gN21_8 : Code := s1 gN21_7
noncomputable def gN21_9 : Code := s2 gN21_7
noncomputable def gN21_10 : Code := s1 gN21_9
noncomputable def gN21_11 : Code := s2 gN21_9
noncomputable def gR21_3 : Array Oper := rops gN21_10
noncomputable def gN21_12 : Code := s1 gN21_11
noncomputable def gN21_13 : Code := s2 gN21_11
noncomputable def gN21_14 : Code := s1 gN21_12
noncomputable def gN21_15 : Code := s2 gN21_12
noncomputable def gR21_4 : Array Oper := rops gN21_14
noncomputable def gN21_16 : Code := s1 gN21_4
noncomputable def gN21_17 : Code := s2 gN21_4
noncomputable def gR21_5 : Array Oper := rops gN21_16
theorem sends_c (place n round : Int) (w : World) (h1 : 2 ≤ n) (h2 : n ≤ 16) (h3 : 0 ≤ place) (h4 : place < n) (h5 : 0 ≤ round) (h6 : round ≤ 2 * n - 3) {K : Value → World → Prop} (hK : K (.tuple #[.int .i64 (sendsC place n round), .bool (sendsA n round), .int .i64 0]) w) : CallsV Try.prog 21 #[.int .i64 place, .int .i64 n, .int .i64 round] w K := by
  refine callsV_of (c := gN21_0) Try.func21 (by kernel_rfl) (n := 59) (by kernel_rfl) ?_
  refine g_seq (x := gN21_1) (y := gN21_2) (by kernel_rfl) ?_
  refine g_region (ops := gR21_0) (id := 0) (by kernel_rfl) [(0, .pure), (1, .pure), (2, .pure)] (by kernel_rfl) (by kernel_rfl) ?_
  refine wk_pure (d := some 6) (op := .assign (.const (.int .i64 0))) (ty := 3) (g := none) (by kernel_rfl) (by kernel_rfl) (.int .i64 0) (fun _ => y_assign (by kernel_rfl)) ?_
  refine wk_pure (d := some 7) (op := .assign (.const (.bool false))) (ty := 4) (g := none) (by kernel_rfl) (by kernel_rfl) (.bool false) (fun _ => y_assign (by kernel_rfl)) ?_
  refine wk_pure (d := some 8) (op := .assign (.const (.int .i64 0))) (ty := 28) (g := none) (by kernel_rfl) (by kernel_rfl) (.int .i64 0) (fun _ => y_assign (by kernel_rfl)) ?_
  refine wk_nil ?_
  refine thn_n ?_
  refine g_seq (x := gN21_3) (y := gN21_4) (by kernel_rfl) ?_
  refine g_block (x := gN21_5) (id := 0) (by kernel_rfl) ?_
  refine g_seq (x := gN21_6) (y := gN21_7) (by kernel_rfl) ?_
  refine g_region (ops := gR21_1) (id := 1) (by kernel_rfl) [(0, .pure), (1, .pure), (2, .pure), (3, .pure), (4, .pure), (5, .pure), (6, .pure), (7, .pure), (8, .pure), (9, .pure), (10, .pure), (11, .pure), (12, .pure), (13, .pure), (14, .pure), (15, .pure), (16, .pure), (17, .pure), (18, .pure), (19, .pure), (20, .pure), (21, .pure), (22, .pure), (23, .pure), (24, .pure), (25, .pure), (26, .pure)] (by kernel_rfl) (by kernel_rfl) ?_
  refine wk_pure (d := some 10) (op := .move (.tmp 1)) (ty := 3) (g := none) (by kernel_rfl) (by kernel_rfl) (.int .i64 n) (fun _ => y_move (by kernel_rfl)) ?_
  refine wk_pure (d := some 11) (op := .binOp .lss 3 (.tmp 10) (.const (.int .i64 2)) 3) (ty := 4) (g := none) (by kernel_rfl) (by kernel_rfl) (.bool false) (fun _ => y_lss (k := .i64) (a := n) (b := 2) (by kernel_rfl) (by kernel_rfl) (decide_eq_false (by omega))) ?_
  refine wk_pure (d := some 12) (op := .move (.tmp 11)) (ty := 4) (g := none) (by kernel_rfl) (by kernel_rfl) (.bool false) (fun _ => y_move (by kernel_rfl)) ?_
  refine wk_pure (d := some 13) (op := .move (.tmp 1)) (ty := 3) (g := some (2, false)) (by kernel_rfl) (by kernel_rfl) (.int .i64 n) (fun _ => y_move (by kernel_rfl)) ?_
  refine wk_pure (d := some 14) (op := .binOp .gtr 3 (.tmp 13) (.const (.int .i64 16)) 3) (ty := 4) (g := some (2, false)) (by kernel_rfl) (by kernel_rfl) (.bool false) (fun _ => y_gtr (k := .i64) (a := n) (b := 16) (by kernel_rfl) (by kernel_rfl) (decide_eq_false (by omega))) ?_
  refine wk_pure (d := some 15) (op := .pick (.tmp 12) (.const (.bool true)) (.tmp 14)) (ty := 4) (g := none) (by kernel_rfl) (by kernel_rfl) (.bool false) (fun _ => y_pick_f (by kernel_rfl) (by kernel_rfl)) ?_
  refine wk_pure (d := some 16) (op := .move (.tmp 15)) (ty := 4) (g := none) (by kernel_rfl) (by kernel_rfl) (.bool false) (fun _ => y_move (by kernel_rfl)) ?_
  refine wk_pure (d := some 17) (op := .move (.tmp 0)) (ty := 3) (g := some (6, false)) (by kernel_rfl) (by kernel_rfl) (.int .i64 place) (fun _ => y_move (by kernel_rfl)) ?_
  refine wk_pure (d := some 18) (op := .binOp .lss 3 (.tmp 17) (.const (.int .i64 0)) 3) (ty := 4) (g := some (6, false)) (by kernel_rfl) (by kernel_rfl) (.bool false) (fun _ => y_lss (k := .i64) (a := place) (b := 0) (by kernel_rfl) (by kernel_rfl) (decide_eq_false (by omega))) ?_
  refine wk_pure (d := some 19) (op := .pick (.tmp 16) (.const (.bool true)) (.tmp 18)) (ty := 4) (g := none) (by kernel_rfl) (by kernel_rfl) (.bool false) (fun _ => y_pick_f (by kernel_rfl) (by kernel_rfl)) ?_
  refine wk_pure (d := some 20) (op := .move (.tmp 19)) (ty := 4) (g := none) (by kernel_rfl) (by kernel_rfl) (.bool false) (fun _ => y_move (by kernel_rfl)) ?_
  refine wk_pure (d := some 21) (op := .move (.tmp 0)) (ty := 3) (g := some (10, false)) (by kernel_rfl) (by kernel_rfl) (.int .i64 place) (fun _ => y_move (by kernel_rfl)) ?_
  refine wk_pure (d := some 22) (op := .move (.tmp 1)) (ty := 3) (g := some (10, false)) (by kernel_rfl) (by kernel_rfl) (.int .i64 n) (fun _ => y_move (by kernel_rfl)) ?_
  refine wk_pure (d := some 23) (op := .binOp .geq 3 (.tmp 21) (.tmp 22) 3) (ty := 4) (g := some (10, false)) (by kernel_rfl) (by kernel_rfl) (.bool false) (fun _ => y_geq (k := .i64) (a := place) (b := n) (by kernel_rfl) (by kernel_rfl) (decide_eq_false (by omega))) ?_
  refine wk_pure (d := some 24) (op := .pick (.tmp 20) (.const (.bool true)) (.tmp 23)) (ty := 4) (g := none) (by kernel_rfl) (by kernel_rfl) (.bool false) (fun _ => y_pick_f (by kernel_rfl) (by kernel_rfl)) ?_
  refine wk_pure (d := some 25) (op := .move (.tmp 24)) (ty := 4) (g := none) (by kernel_rfl) (by kernel_rfl) (.bool false) (fun _ => y_move (by kernel_rfl)) ?_
  refine wk_pure (d := some 26) (op := .move (.tmp 2)) (ty := 3) (g := some (15, false)) (by kernel_rfl) (by kernel_rfl) (.int .i64 round) (fun _ => y_move (by kernel_rfl)) ?_
  refine wk_pure (d := some 27) (op := .binOp .lss 3 (.tmp 26) (.const (.int .i64 0)) 3) (ty := 4) (g := some (15, false)) (by kernel_rfl) (by kernel_rfl) (.bool false) (fun _ => y_lss (k := .i64) (a := round) (b := 0) (by kernel_rfl) (by kernel_rfl) (decide_eq_false (by omega))) ?_
  refine wk_pure (d := some 28) (op := .pick (.tmp 25) (.const (.bool true)) (.tmp 27)) (ty := 4) (g := none) (by kernel_rfl) (by kernel_rfl) (.bool false) (fun _ => y_pick_f (by kernel_rfl) (by kernel_rfl)) ?_
  refine wk_pure (d := some 29) (op := .move (.tmp 28)) (ty := 4) (g := none) (by kernel_rfl) (by kernel_rfl) (.bool false) (fun _ => y_move (by kernel_rfl)) ?_
  refine wk_pure (d := some 30) (op := .move (.tmp 2)) (ty := 3) (g := some (19, false)) (by kernel_rfl) (by kernel_rfl) (.int .i64 round) (fun _ => y_move (by kernel_rfl)) ?_
  refine wk_pure (d := some 31) (op := .move (.tmp 1)) (ty := 3) (g := some (19, false)) (by kernel_rfl) (by kernel_rfl) (.int .i64 n) (fun _ => y_move (by kernel_rfl)) ?_
  refine wk_pure (d := some 32) (op := .binOp .mul 3 (.const (.int .i64 2)) (.tmp 31) 3) (ty := 3) (g := some (19, false)) (by kernel_rfl) (by kernel_rfl) (.int .i64 (2 * n)) (fun _ => y_mul (k := .i64) (a := 2) (b := n) (by kernel_rfl) (by kernel_rfl) (i64_id (by omega))) ?_
  refine wk_pure (d := some 33) (op := .binOp .sub 3 (.tmp 32) (.const (.int .i64 3)) 3) (ty := 3) (g := some (19, false)) (by kernel_rfl) (by kernel_rfl) (.int .i64 ((2 * n) - 3)) (fun _ => y_sub (k := .i64) (a := (2 * n)) (b := 3) (by kernel_rfl) (by kernel_rfl) (i64_id (by omega))) ?_
  refine wk_pure (d := some 34) (op := .binOp .gtr 3 (.tmp 30) (.tmp 33) 3) (ty := 4) (g := some (19, false)) (by kernel_rfl) (by kernel_rfl) (.bool false) (fun _ => y_gtr (k := .i64) (a := round) (b := ((2 * n) - 3)) (by kernel_rfl) (by kernel_rfl) (decide_eq_false (by omega))) ?_
  refine wk_pure (d := some 35) (op := .pick (.tmp 29) (.const (.bool true)) (.tmp 34)) (ty := 4) (g := none) (by kernel_rfl) (by kernel_rfl) (.bool false) (fun _ => y_pick_f (by kernel_rfl) (by kernel_rfl)) ?_
  refine wk_pure (d := some 9) (op := .assign (.tmp 35)) (ty := 4) (g := none) (by kernel_rfl) (by kernel_rfl) (.bool false) (fun _ => y_assign (by kernel_rfl)) ?_
  refine wk_nil ?_
  refine thn_n ?_
  refine g_cond_f (o := .tmp 9) (x := gN21_8) (y := gN21_9) (by kernel_rfl) (by kernel_rfl) ?_
  refine g_seq (x := gN21_10) (y := gN21_11) (by kernel_rfl) ?_
  refine g_region (ops := gR21_3) (id := 3) (by kernel_rfl) [(0, .pure), (1, .pure), (2, .pure), (3, .pure), (4, .pure)] (by kernel_rfl) (by kernel_rfl) ?_
  refine wk_pure (d := some 37) (op := .move (.tmp 2)) (ty := 3) (g := none) (by kernel_rfl) (by kernel_rfl) (.int .i64 round) (fun _ => y_move (by kernel_rfl)) ?_
  refine wk_pure (d := some 38) (op := .move (.tmp 1)) (ty := 3) (g := none) (by kernel_rfl) (by kernel_rfl) (.int .i64 n) (fun _ => y_move (by kernel_rfl)) ?_
  refine wk_pure (d := some 39) (op := .binOp .sub 3 (.tmp 38) (.const (.int .i64 1)) 3) (ty := 3) (g := none) (by kernel_rfl) (by kernel_rfl) (.int .i64 (n - 1)) (fun _ => y_sub (k := .i64) (a := n) (b := 1) (by kernel_rfl) (by kernel_rfl) (i64_id (by omega))) ?_
  by_cases h_1 : (round : Int) < (n - 1)
  · refine wk_pure (d := some 40) (op := .binOp .lss 3 (.tmp 37) (.tmp 39) 3) (ty := 4) (g := none) (by kernel_rfl) (by kernel_rfl) (.bool true) (fun _ => y_lss (k := .i64) (a := round) (b := (n - 1)) (by kernel_rfl) (by kernel_rfl) (decide_eq_true h_1)) ?_
    refine wk_pure (d := some 36) (op := .assign (.tmp 40)) (ty := 4) (g := none) (by kernel_rfl) (by kernel_rfl) (.bool true) (fun _ => y_assign (by kernel_rfl)) ?_
    refine wk_nil ?_
    refine thn_n ?_
    refine g_cond_t (o := .tmp 36) (x := gN21_12) (y := gN21_13) (by kernel_rfl) (by kernel_rfl) ?_
    refine g_seq (x := gN21_14) (y := gN21_15) (by kernel_rfl) ?_
    refine g_region (ops := gR21_4) (id := 4) (by kernel_rfl) [(0, .pure), (1, .pure), (2, .pure), (3, .pure), (4, .pure), (5, .pure), (6, .pure), (7, .pure), (8, .pure), (9, .pure)] (by kernel_rfl) (by kernel_rfl) ?_
    refine wk_pure (d := some 41) (op := .move (.tmp 0)) (ty := 3) (g := none) (by kernel_rfl) (by kernel_rfl) (.int .i64 place) (fun _ => y_move (by kernel_rfl)) ?_
    refine wk_pure (d := some 42) (op := .move (.tmp 2)) (ty := 3) (g := none) (by kernel_rfl) (by kernel_rfl) (.int .i64 round) (fun _ => y_move (by kernel_rfl)) ?_
    refine wk_pure (d := some 43) (op := .binOp .sub 3 (.tmp 41) (.tmp 42) 3) (ty := 3) (g := none) (by kernel_rfl) (by kernel_rfl) (.int .i64 (place - round)) (fun _ => y_sub (k := .i64) (a := place) (b := round) (by kernel_rfl) (by kernel_rfl) (i64_id (by omega))) ?_
    refine wk_pure (d := some 44) (op := .move (.tmp 1)) (ty := 3) (g := none) (by kernel_rfl) (by kernel_rfl) (.int .i64 n) (fun _ => y_move (by kernel_rfl)) ?_
    refine wk_pure (d := some 45) (op := .binOp .add 3 (.tmp 43) (.tmp 44) 3) (ty := 3) (g := none) (by kernel_rfl) (by kernel_rfl) (.int .i64 ((place - round) + n)) (fun _ => y_add (k := .i64) (a := (place - round)) (b := n) (by kernel_rfl) (by kernel_rfl) (i64_id (by omega))) ?_
    refine wk_pure (d := some 46) (op := .move (.tmp 1)) (ty := 3) (g := none) (by kernel_rfl) (by kernel_rfl) (.int .i64 n) (fun _ => y_move (by kernel_rfl)) ?_
    refine wk_pure (d := some 47) (op := .binOp .rem 3 (.tmp 45) (.tmp 46) 3) (ty := 3) (g := none) (by kernel_rfl) (by kernel_rfl) (.int .i64 (((place - round) + n) % n)) (fun _ => y_rem (k := .i64) (a := ((place - round) + n)) (b := n) (by kernel_rfl) (by kernel_rfl) (by omega) (tmod_of (by omega) rfl)) ?_
    refine wk_pure (d := some 6) (op := .assign (.tmp 47)) (ty := 3) (g := none) (by kernel_rfl) (by kernel_rfl) (.int .i64 (((place - round) + n) % n)) (fun _ => y_assign (by kernel_rfl)) ?_
    refine wk_pure (d := some 7) (op := .assign (.const (.bool true))) (ty := 4) (g := none) (by kernel_rfl) (by kernel_rfl) (.bool true) (fun _ => y_assign (by kernel_rfl)) ?_
    refine wk_pure (d := some 8) (op := .assign (.const (.int .i64 0))) (ty := 28) (g := none) (by kernel_rfl) (by kernel_rfl) (.int .i64 0) (fun _ => y_assign (by kernel_rfl)) ?_
    refine wk_nil ?_
    refine thn_n ?_
    refine g_ret (by kernel_rfl) ?_
    refine blk_r ?_
    refine thn_r ?_
    refine ends3_r (v := .int .i64 (((place - round) + n) % n)) (v' := .bool true) (v'' := .int .i64 0) rfl (by kernel_rfl) (by kernel_rfl) (by kernel_rfl) ?_
    simpa [sendsC, sendsA, *] using hK
  · refine wk_pure (d := some 40) (op := .binOp .lss 3 (.tmp 37) (.tmp 39) 3) (ty := 4) (g := none) (by kernel_rfl) (by kernel_rfl) (.bool false) (fun _ => y_lss (k := .i64) (a := round) (b := (n - 1)) (by kernel_rfl) (by kernel_rfl) (decide_eq_false h_1)) ?_
    refine wk_pure (d := some 36) (op := .assign (.tmp 40)) (ty := 4) (g := none) (by kernel_rfl) (by kernel_rfl) (.bool false) (fun _ => y_assign (by kernel_rfl)) ?_
    refine wk_nil ?_
    refine thn_n ?_
    refine g_cond_f (o := .tmp 36) (x := gN21_12) (y := gN21_13) (by kernel_rfl) (by kernel_rfl) ?_
    refine g_skip (by kernel_rfl) ?_
    refine blk_n ?_
    refine thn_n ?_
    refine g_seq (x := gN21_16) (y := gN21_17) (by kernel_rfl) ?_
    refine g_region (ops := gR21_5) (id := 5) (by kernel_rfl) [(0, .pure), (1, .pure), (2, .pure), (3, .pure), (4, .pure), (5, .pure), (6, .pure), (7, .pure), (8, .pure), (9, .pure), (10, .pure), (11, .pure), (12, .pure), (13, .pure)] (by kernel_rfl) (by kernel_rfl) ?_
    refine wk_pure (d := some 48) (op := .move (.tmp 0)) (ty := 3) (g := none) (by kernel_rfl) (by kernel_rfl) (.int .i64 place) (fun _ => y_move (by kernel_rfl)) ?_
    refine wk_pure (d := some 49) (op := .binOp .add 3 (.tmp 48) (.const (.int .i64 1)) 3) (ty := 3) (g := none) (by kernel_rfl) (by kernel_rfl) (.int .i64 (place + 1)) (fun _ => y_add (k := .i64) (a := place) (b := 1) (by kernel_rfl) (by kernel_rfl) (i64_id (by omega))) ?_
    refine wk_pure (d := some 50) (op := .move (.tmp 2)) (ty := 3) (g := none) (by kernel_rfl) (by kernel_rfl) (.int .i64 round) (fun _ => y_move (by kernel_rfl)) ?_
    refine wk_pure (d := some 51) (op := .move (.tmp 1)) (ty := 3) (g := none) (by kernel_rfl) (by kernel_rfl) (.int .i64 n) (fun _ => y_move (by kernel_rfl)) ?_
    refine wk_pure (d := some 52) (op := .binOp .sub 3 (.tmp 51) (.const (.int .i64 1)) 3) (ty := 3) (g := none) (by kernel_rfl) (by kernel_rfl) (.int .i64 (n - 1)) (fun _ => y_sub (k := .i64) (a := n) (b := 1) (by kernel_rfl) (by kernel_rfl) (i64_id (by omega))) ?_
    refine wk_pure (d := some 53) (op := .binOp .sub 3 (.tmp 50) (.tmp 52) 3) (ty := 3) (g := none) (by kernel_rfl) (by kernel_rfl) (.int .i64 (round - (n - 1))) (fun _ => y_sub (k := .i64) (a := round) (b := (n - 1)) (by kernel_rfl) (by kernel_rfl) (i64_id (by omega))) ?_
    refine wk_pure (d := some 54) (op := .binOp .sub 3 (.tmp 49) (.tmp 53) 3) (ty := 3) (g := none) (by kernel_rfl) (by kernel_rfl) (.int .i64 ((place + 1) - (round - (n - 1)))) (fun _ => y_sub (k := .i64) (a := (place + 1)) (b := (round - (n - 1))) (by kernel_rfl) (by kernel_rfl) (i64_id (by omega))) ?_
    refine wk_pure (d := some 55) (op := .move (.tmp 1)) (ty := 3) (g := none) (by kernel_rfl) (by kernel_rfl) (.int .i64 n) (fun _ => y_move (by kernel_rfl)) ?_
    refine wk_pure (d := some 56) (op := .binOp .add 3 (.tmp 54) (.tmp 55) 3) (ty := 3) (g := none) (by kernel_rfl) (by kernel_rfl) (.int .i64 (((place + 1) - (round - (n - 1))) + n)) (fun _ => y_add (k := .i64) (a := ((place + 1) - (round - (n - 1)))) (b := n) (by kernel_rfl) (by kernel_rfl) (i64_id (by omega))) ?_
    refine wk_pure (d := some 57) (op := .move (.tmp 1)) (ty := 3) (g := none) (by kernel_rfl) (by kernel_rfl) (.int .i64 n) (fun _ => y_move (by kernel_rfl)) ?_
    refine wk_pure (d := some 58) (op := .binOp .rem 3 (.tmp 56) (.tmp 57) 3) (ty := 3) (g := none) (by kernel_rfl) (by kernel_rfl) (.int .i64 ((((place + 1) - (round - (n - 1))) + n) % n)) (fun _ => y_rem (k := .i64) (a := (((place + 1) - (round - (n - 1))) + n)) (b := n) (by kernel_rfl) (by kernel_rfl) (by omega) (tmod_of (by omega) rfl)) ?_
    refine wk_pure (d := some 6) (op := .assign (.tmp 58)) (ty := 3) (g := none) (by kernel_rfl) (by kernel_rfl) (.int .i64 ((((place + 1) - (round - (n - 1))) + n) % n)) (fun _ => y_assign (by kernel_rfl)) ?_
    refine wk_pure (d := some 7) (op := .assign (.const (.bool false))) (ty := 4) (g := none) (by kernel_rfl) (by kernel_rfl) (.bool false) (fun _ => y_assign (by kernel_rfl)) ?_
    refine wk_pure (d := some 8) (op := .assign (.const (.int .i64 0))) (ty := 28) (g := none) (by kernel_rfl) (by kernel_rfl) (.int .i64 0) (fun _ => y_assign (by kernel_rfl)) ?_
    refine wk_nil ?_
    refine thn_n ?_
    refine g_ret (by kernel_rfl) ?_
    refine ends3_r (v := .int .i64 ((((place + 1) - (round - (n - 1))) + n) % n)) (v' := .bool false) (v'' := .int .i64 0) rfl (by kernel_rfl) (by kernel_rfl) (by kernel_rfl) ?_
    simpa [sendsC, sendsA, *] using hK
end Go.Proofs.Ytjdlgidacnphpaa
