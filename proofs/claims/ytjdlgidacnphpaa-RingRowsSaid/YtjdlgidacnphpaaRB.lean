/-
  A part of the proofs over the program's package ring: contracts of its functions, step by step.
-/
import Derived.Test.YtjdlgidacnphpaaK12
import Derived.Test.YtjdlgidacnphpaaRA
set_option linter.unusedSimpArgs false
set_option linter.unusedVariables false
namespace Go.Proofs.Ytjdlgidacnphpaa
open Go Go.Wk

/-! ### Wide numbers -/
def hiOf (z : Int) : Int := z / 18446744073709551616
def loOf (z : Int) : Int := z % 18446744073709551616
def InW (z : Int) : Prop := -170141183460469231731687303715884105728 ≤ z ∧ z < 170141183460469231731687303715884105728
def wrap128 (z : Int) : Int := (z + 170141183460469231731687303715884105728) % 340282366920938463463374607431768211456 - 170141183460469231731687303715884105728
def encW (z : Int) : List Value := [.int .i64 (hiOf z), .int .u64 (loOf z)]
theorem encW_len (z : Int) : (encW z).length = 2 := rfl
theorem encW_one (z : Int) : (encW z).all Value.oneCell' = true := rfl
abbrev wideV (z : Int) : Value := .agg #[.int .i64 (hiOf z), .int .u64 (loOf z)]
theorem inW_hi {z : Int} (h : InW z) : -9223372036854775808 ≤ hiOf z ∧ hiOf z ≤ 9223372036854775807 := by unfold InW hiOf at *; omega
theorem inW_lo (z : Int) : 0 ≤ loOf z ∧ loOf z ≤ 18446744073709551615 := by unfold loOf at *; omega

noncomputable def hN13w1_0 : Code := (Try.f13.body).getD .skip
noncomputable def hN13w1_1 : Code := s1 hN13w1_0
noncomputable def hN13w1_2 : Code := s2 hN13w1_0
noncomputable def hR13w1_0 : Array Oper := rops hN13w1_1
noncomputable def hN13w1_3 : Code := s1 hN13w1_2
noncomputable def hN13w1_4 : Code := s2 hN13w1_2
noncomputable def hR13w1_1 : Array Oper := rops hN13w1_3
theorem done_c {r ck : Nat} {place n round : Int} {la : Option Addr} {len lc nn kc : Nat} {told taken : Bool} {w : World} (hr : w.heap[r]? = some (.cells #[.int .i64 place, .int .i64 n, .slice la len lc, .slice (some ⟨ck, 0, none⟩) nn kc, .int .i64 round, .bool told, .bool taken] 54 (0, 0))) (h1 : 0 ≤ n ∧ n ≤ 16) {K : Value → World → Prop} (hK : ∀ w', SameMem w w' → K (.bool (decide (2 * n - 3 < round))) w') : CallsV Try.prog 13 #[.pointer (some ⟨r, 0, none⟩)] w K := by
  refine callsV_of (c := hN13w1_0) Try.func13 (by kernel_rfl) (n := 14) (by kernel_rfl) ?_
  refine g_seq (x := hN13w1_1) (y := hN13w1_2) (by kernel_rfl) ?_
  refine g_region (ops := hR13w1_0) (id := 0) (by kernel_rfl) [(0, .pure)] (by kernel_rfl) (by kernel_rfl) ?_
  refine wk_pure (show opD hR13w1_0 0 = some (some 2, .assign (.const (.bool false)), 4, none) from by kernel_rfl) (by kernel_rfl) (.bool false) (fun _ => y_assign (by kernel_rfl)) ?_
  refine wk_nil ?_
  refine thn_n ?_
  refine g_seq (x := hN13w1_3) (y := hN13w1_4) (by kernel_rfl) ?_
  refine g_draw (ops := hR13w1_1) (id := 1) (by kernel_rfl) (fun w w' => Grown w w') [(0, .pure), (1, .pure), (2, .pure), (4, .pure), (5, .pure), (6, .pure), (3, .stab), (7, .stab), (8, .pure), (9, .pure), (10, .pure), (11, .pure)] (by kernel_rfl) (by kernel_rfl) (fun _ => Grown.refl _) (fun w_1 sm_2 => ?_)
  have hsz_3 : w_1.heap.size = w.heap.size := by rw [sm_2.heap]
  refine wk_pure (show opD hR13w1_1 0 = some (some 3, .move (.tmp 0), 27, none) from by kernel_rfl) (by kernel_rfl) (.pointer (some ⟨r, 0, none⟩)) (fun _ => y_move (by kernel_rfl)) ?_
  refine wk_pure (show opD hR13w1_1 1 = some (some 4, .nilCheck (.tmp 3), 0, none) from by kernel_rfl) (by kernel_rfl) (.pointer (some ⟨r, 0, none⟩)) (fun _ => x_nilCheck (by kernel_rfl)) ?_
  refine wk_pure (show opD hR13w1_1 2 = some (some 5, .fieldAddr 54 (.tmp 4) 4, 0, none) from by kernel_rfl) (by kernel_rfl) (.pointer (some ⟨r, 4, none⟩)) (fun _ => x_fieldAddr (b := r) (off := 0) (o := 4) (by kernel_rfl) (by kernel_rfl)) ?_
  refine wk_pure (show opD hR13w1_1 4 = some (some 7, .move (.tmp 0), 27, none) from by kernel_rfl) (by kernel_rfl) (.pointer (some ⟨r, 0, none⟩)) (fun _ => y_move (by kernel_rfl)) ?_
  refine wk_pure (show opD hR13w1_1 5 = some (some 8, .nilCheck (.tmp 7), 0, none) from by kernel_rfl) (by kernel_rfl) (.pointer (some ⟨r, 0, none⟩)) (fun _ => x_nilCheck (by kernel_rfl)) ?_
  refine wk_pure (show opD hR13w1_1 6 = some (some 9, .fieldAddr 54 (.tmp 8) 1, 0, none) from by kernel_rfl) (by kernel_rfl) (.pointer (some ⟨r, 1, none⟩)) (fun _ => x_fieldAddr (b := r) (off := 0) (o := 1) (by kernel_rfl) (by kernel_rfl)) ?_
  refine wk_stab (show opD hR13w1_1 3 = some (some 6, .load 3 (.tmp 5), 3, none) from by kernel_rfl) (by kernel_rfl) (.int .i64 round) (fun w'_ g_ => x_load (b := r) (off := 4) (by kernel_rfl) (by kernel_rfl) (Grown.keep g_ (sm_2.keep hr)) (by kernel_rfl)) ?_
  refine wk_stab (show opD hR13w1_1 7 = some (some 10, .load 3 (.tmp 9), 3, none) from by kernel_rfl) (by kernel_rfl) (.int .i64 n) (fun w'_ g_ => x_load (b := r) (off := 1) (by kernel_rfl) (by kernel_rfl) (Grown.keep g_ (sm_2.keep hr)) (by kernel_rfl)) ?_
  refine wk_pure (show opD hR13w1_1 8 = some (some 11, .binOp .mul 3 (.const (.int .i64 2)) (.tmp 10) 3, 3, none) from by kernel_rfl) (by kernel_rfl) (.int .i64 (2 * n)) (fun _ => y_mul (k := .i64) (a := 2) (b := n) (by kernel_rfl) (by kernel_rfl) (i64_id (by omega))) ?_
  refine wk_pure (show opD hR13w1_1 9 = some (some 12, .binOp .sub 3 (.tmp 11) (.const (.int .i64 3)) 3, 3, none) from by kernel_rfl) (by kernel_rfl) (.int .i64 ((2 * n) - 3)) (fun _ => y_sub (k := .i64) (a := (2 * n)) (b := 3) (by kernel_rfl) (by kernel_rfl) (i64_id (by omega))) ?_
  refine wk_pure (show opD hR13w1_1 10 = some (some 13, .binOp .gtr 3 (.tmp 6) (.tmp 12) 3, 4, none) from by kernel_rfl) (by kernel_rfl) (.bool (decide ((((2 * n) - 3) : Int) < round))) (fun _ => y_gtr (k := .i64) (a := round) (b := ((2 * n) - 3)) (by kernel_rfl) (by kernel_rfl) rfl) ?_
  refine wk_pure (show opD hR13w1_1 11 = some (some 2, .assign (.tmp 13), 4, none) from by kernel_rfl) (by kernel_rfl) (.bool (decide ((((2 * n) - 3) : Int) < round))) (fun _ => y_assign (by kernel_rfl)) ?_
  refine wk_nil ?_
  refine thn_n ?_
  refine g_ret (by kernel_rfl) ?_
  refine ends1_r (v := .bool (decide ((((2 * n) - 3) : Int) < round))) rfl (by kernel_rfl) ?_
  exact hK _ (SameMem.trans (SameMem.refl _) sm_2)

noncomputable def hN15w2_0 : Code := (Try.f15.body).getD .skip
noncomputable def hN15w2_1 : Code := s1 hN15w2_0
noncomputable def hN15w2_2 : Code := s2 hN15w2_0
noncomputable def hR15w2_0 : Array Oper := rops hN15w2_1
noncomputable def hN15w2_3 : Code := s1 hN15w2_2
noncomputable def hN15w2_4 : Code := s2 hN15w2_2
noncomputable def hR15w2_1 : Array Oper := rops hN15w2_3
theorem round_c {r ck : Nat} {place n round : Int} {la : Option Addr} {len lc nn kc : Nat} {told taken : Bool} {w : World} (hr : w.heap[r]? = some (.cells #[.int .i64 place, .int .i64 n, .slice la len lc, .slice (some ⟨ck, 0, none⟩) nn kc, .int .i64 round, .bool told, .bool taken] 54 (0, 0))) {K : Value → World → Prop} (hK : K (.int .i64 round) w) : CallsV Try.prog 15 #[.pointer (some ⟨r, 0, none⟩)] w K := by
  refine callsV_of (c := hN15w2_0) Try.func15 (by kernel_rfl) (n := 7) (by kernel_rfl) ?_
  refine g_seq (x := hN15w2_1) (y := hN15w2_2) (by kernel_rfl) ?_
  refine g_region (ops := hR15w2_0) (id := 0) (by kernel_rfl) [(0, .pure)] (by kernel_rfl) (by kernel_rfl) ?_
  refine wk_pure (show opD hR15w2_0 0 = some (some 2, .assign (.const (.int .i64 0)), 3, none) from by kernel_rfl) (by kernel_rfl) (.int .i64 0) (fun _ => y_assign (by kernel_rfl)) ?_
  refine wk_nil ?_
  refine thn_n ?_
  refine g_seq (x := hN15w2_3) (y := hN15w2_4) (by kernel_rfl) ?_
  refine g_region (ops := hR15w2_1) (id := 1) (by kernel_rfl) [(0, .pure), (1, .pure), (2, .pure), (3, .loud), (4, .pure)] (by kernel_rfl) (by kernel_rfl) ?_
  refine wk_pure (show opD hR15w2_1 0 = some (some 3, .move (.tmp 0), 27, none) from by kernel_rfl) (by kernel_rfl) (.pointer (some ⟨r, 0, none⟩)) (fun _ => y_move (by kernel_rfl)) ?_
  refine wk_pure (show opD hR15w2_1 1 = some (some 4, .nilCheck (.tmp 3), 0, none) from by kernel_rfl) (by kernel_rfl) (.pointer (some ⟨r, 0, none⟩)) (fun _ => x_nilCheck (by kernel_rfl)) ?_
  refine wk_pure (show opD hR15w2_1 2 = some (some 5, .fieldAddr 54 (.tmp 4) 4, 0, none) from by kernel_rfl) (by kernel_rfl) (.pointer (some ⟨r, 4, none⟩)) (fun _ => x_fieldAddr (b := r) (off := 0) (o := 4) (by kernel_rfl) (by kernel_rfl)) ?_
  refine wk_val (show opD hR15w2_1 3 = some (some 6, .load 3 (.tmp 5), 3, none) from by kernel_rfl) (by kernel_rfl) (.int .i64 round) (x_load (b := r) (off := 4) (by kernel_rfl) (by kernel_rfl) hr (by kernel_rfl)) trivial ?_
  refine wk_pure (show opD hR15w2_1 4 = some (some 2, .assign (.tmp 6), 3, none) from by kernel_rfl) (by kernel_rfl) (.int .i64 round) (fun _ => y_assign (by kernel_rfl)) ?_
  refine wk_nil ?_
  refine thn_n ?_
  refine g_ret (by kernel_rfl) ?_
  refine ends1_r (v := .int .i64 round) rfl (by kernel_rfl) ?_
  exact hK

noncomputable def hN22w3_0 : Code := (Try.f22.body).getD .skip
noncomputable def hN22w3_1 : Code := s1 hN22w3_0
noncomputable def hN22w3_2 : Code := s2 hN22w3_0
noncomputable def hR22w3_0 : Array Oper := rops hN22w3_1
noncomputable def hN22w3_3 : Code := s1 hN22w3_2
noncomputable def hN22w3_4 : Code := s2 hN22w3_2
noncomputable def hN22w3_5 : Code := s1 hN22w3_3
noncomputable def hN22w3_6 : Code := s2 hN22w3_3
noncomputable def hR22w3_1 : Array Oper := rops hN22w3_5
noncomputable def hR22w3_2 : Array Oper := rops hN22w3_6
theorem next_tt {r ck : Nat} {place n round : Int} {la : Option Addr} {len lc nn kc : Nat} {w : World} (hr : w.heap[r]? = some (.cells #[.int .i64 place, .int .i64 n, .slice la len lc, .slice (some ⟨ck, 0, none⟩) nn kc, .int .i64 round, .bool true, .bool true] 54 (0, 0))) (h1 : 0 ≤ round ∧ round ≤ 100) {K : Value → World → Prop} (hK : ∀ w', Ext [r] w w' → w'.heap.size = w.heap.size → w'.heap[r]? = some (.cells #[.int .i64 place, .int .i64 n, .slice la len lc, .slice (some ⟨ck, 0, none⟩) nn kc, .int .i64 (round + 1), .bool false, .bool false] 54 (0, 0)) → K (.tuple #[]) w') : CallsV Try.prog 22 #[.pointer (some ⟨r, 0, none⟩)] w K := by
  refine callsV_of (c := hN22w3_0) Try.func22 (by kernel_rfl) (n := 25) (by kernel_rfl) ?_
  refine g_seq (x := hN22w3_1) (y := hN22w3_2) (by kernel_rfl) ?_
  refine g_region (ops := hR22w3_0) (id := 0) (by kernel_rfl) [(0, .pure), (1, .pure), (2, .pure), (3, .loud), (4, .pure), (5, .pure), (6, .pure), (7, .pure), (8, .loud), (9, .pure)] (by kernel_rfl) (by kernel_rfl) ?_
  refine wk_pure (show opD hR22w3_0 0 = some (some 2, .move (.tmp 0), 27, none) from by kernel_rfl) (by kernel_rfl) (.pointer (some ⟨r, 0, none⟩)) (fun _ => y_move (by kernel_rfl)) ?_
  refine wk_pure (show opD hR22w3_0 1 = some (some 3, .nilCheck (.tmp 2), 0, none) from by kernel_rfl) (by kernel_rfl) (.pointer (some ⟨r, 0, none⟩)) (fun _ => x_nilCheck (by kernel_rfl)) ?_
  refine wk_pure (show opD hR22w3_0 2 = some (some 4, .fieldAddr 54 (.tmp 3) 5, 0, none) from by kernel_rfl) (by kernel_rfl) (.pointer (some ⟨r, 5, none⟩)) (fun _ => x_fieldAddr (b := r) (off := 0) (o := 5) (by kernel_rfl) (by kernel_rfl)) ?_
  refine wk_val (show opD hR22w3_0 3 = some (some 5, .load 4 (.tmp 4), 4, none) from by kernel_rfl) (by kernel_rfl) (.bool true) (x_load (b := r) (off := 5) (by kernel_rfl) (by kernel_rfl) hr (by kernel_rfl)) trivial ?_
  refine wk_pure (show opD hR22w3_0 4 = some (some 6, .move (.tmp 5), 4, none) from by kernel_rfl) (by kernel_rfl) (.bool true) (fun _ => y_move (by kernel_rfl)) ?_
  refine wk_pure (show opD hR22w3_0 5 = some (some 7, .move (.tmp 0), 27, some (4, true)) from by kernel_rfl) (by kernel_rfl) (.pointer (some ⟨r, 0, none⟩)) (fun _ => y_move (by kernel_rfl)) ?_
  refine wk_pure (show opD hR22w3_0 6 = some (some 8, .nilCheck (.tmp 7), 0, some (4, true)) from by kernel_rfl) (by kernel_rfl) (.pointer (some ⟨r, 0, none⟩)) (fun _ => x_nilCheck (by kernel_rfl)) ?_
  refine wk_pure (show opD hR22w3_0 7 = some (some 9, .fieldAddr 54 (.tmp 8) 6, 0, some (4, true)) from by kernel_rfl) (by kernel_rfl) (.pointer (some ⟨r, 6, none⟩)) (fun _ => x_fieldAddr (b := r) (off := 0) (o := 6) (by kernel_rfl) (by kernel_rfl)) ?_
  refine wk_val (show opD hR22w3_0 8 = some (some 10, .load 4 (.tmp 9), 4, some (4, true)) from by kernel_rfl) (by kernel_rfl) (.bool true) (x_load (b := r) (off := 6) (by kernel_rfl) (by kernel_rfl) hr (by kernel_rfl)) trivial ?_
  refine wk_pure (show opD hR22w3_0 9 = some (some 11, .pick (.tmp 6) (.tmp 10) (.const (.bool false)), 4, none) from by kernel_rfl) (by kernel_rfl) (.bool true) (fun _ => y_pick_t (by kernel_rfl) (by kernel_rfl)) ?_
  refine wk_nil ?_
  refine thn_n ?_
  refine g_cond_t (o := .tmp 11) (x := hN22w3_3) (y := hN22w3_4) (by kernel_rfl) (by kernel_rfl) ?_
  refine g_seq (x := hN22w3_5) (y := hN22w3_6) (by kernel_rfl) ?_
  refine g_region (ops := hR22w3_1) (id := 1) (by kernel_rfl) [(0, .pure), (1, .pure), (2, .pure), (3, .loud), (4, .pure), (5, .pure), (6, .pure), (7, .loud)] (by kernel_rfl) (by kernel_rfl) ?_
  refine wk_pure (show opD hR22w3_1 0 = some (some 12, .move (.tmp 0), 27, none) from by kernel_rfl) (by kernel_rfl) (.pointer (some ⟨r, 0, none⟩)) (fun _ => y_move (by kernel_rfl)) ?_
  refine wk_pure (show opD hR22w3_1 1 = some (some 13, .nilCheck (.tmp 12), 0, none) from by kernel_rfl) (by kernel_rfl) (.pointer (some ⟨r, 0, none⟩)) (fun _ => x_nilCheck (by kernel_rfl)) ?_
  refine wk_pure (show opD hR22w3_1 2 = some (some 14, .fieldAddr 54 (.tmp 13) 4, 0, none) from by kernel_rfl) (by kernel_rfl) (.pointer (some ⟨r, 4, none⟩)) (fun _ => x_fieldAddr (b := r) (off := 0) (o := 4) (by kernel_rfl) (by kernel_rfl)) ?_
  refine wk_val (show opD hR22w3_1 3 = some (some 15, .load 3 (.tmp 14), 3, none) from by kernel_rfl) (by kernel_rfl) (.int .i64 round) (x_load (b := r) (off := 4) (by kernel_rfl) (by kernel_rfl) hr (by kernel_rfl)) trivial ?_
  refine wk_pure (show opD hR22w3_1 4 = some (some 16, .binOp .add 3 (.tmp 15) (.const (.int .i64 1)) 3, 3, none) from by kernel_rfl) (by kernel_rfl) (.int .i64 (round + 1)) (fun _ => y_add (k := .i64) (a := round) (b := 1) (by kernel_rfl) (by kernel_rfl) (i64_id (by omega))) ?_
  refine wk_pure (show opD hR22w3_1 5 = some (some 17, .nilCheck (.tmp 12), 0, none) from by kernel_rfl) (by kernel_rfl) (.pointer (some ⟨r, 0, none⟩)) (fun _ => x_nilCheck (by kernel_rfl)) ?_
  refine wk_pure (show opD hR22w3_1 6 = some (some 18, .fieldAddr 54 (.tmp 17) 4, 0, none) from by kernel_rfl) (by kernel_rfl) (.pointer (some ⟨r, 4, none⟩)) (fun _ => x_fieldAddr (b := r) (off := 0) (o := 4) (by kernel_rfl) (by kernel_rfl)) ?_
  refine wk_store (b := r) (off := 4) (cs' := #[.int .i64 place, .int .i64 n, .slice la len lc, .slice (some ⟨ck, 0, none⟩) nn kc, .int .i64 (round + 1), .bool true, .bool true]) (vs := #[.int .i64 (round + 1)]) (show opD hR22w3_1 7 = some (none, .store 3 (.tmp 18) (.tmp 16), 0, none) from by kernel_rfl) (by kernel_rfl) (by kernel_rfl) (by kernel_rfl) (by kernel_rfl) (by kernel_rfl) hr (Nat.le_of_ble_eq_true rfl) (by kernel_rfl) (by kernel_rfl) (fun w_1 e_2 sz_3 hb_4 => ⟨?_, ?_⟩)
  · exact trivial
  refine wk_nil ?_
  refine thn_n ?_
  refine g_region (ops := hR22w3_2) (id := 2) (by kernel_rfl) [(0, .pure), (1, .pure), (2, .pure), (3, .pure), (4, .loud), (5, .pure), (6, .pure), (7, .loud)] (by kernel_rfl) (by kernel_rfl) ?_
  refine wk_pure (show opD hR22w3_2 0 = some (some 19, .move (.tmp 0), 27, none) from by kernel_rfl) (by kernel_rfl) (.pointer (some ⟨r, 0, none⟩)) (fun _ => y_move (by kernel_rfl)) ?_
  refine wk_pure (show opD hR22w3_2 1 = some (some 20, .move (.tmp 0), 27, none) from by kernel_rfl) (by kernel_rfl) (.pointer (some ⟨r, 0, none⟩)) (fun _ => y_move (by kernel_rfl)) ?_
  refine wk_pure (show opD hR22w3_2 2 = some (some 21, .nilCheck (.tmp 19), 0, none) from by kernel_rfl) (by kernel_rfl) (.pointer (some ⟨r, 0, none⟩)) (fun _ => x_nilCheck (by kernel_rfl)) ?_
  refine wk_pure (show opD hR22w3_2 3 = some (some 22, .fieldAddr 54 (.tmp 21) 5, 0, none) from by kernel_rfl) (by kernel_rfl) (.pointer (some ⟨r, 5, none⟩)) (fun _ => x_fieldAddr (b := r) (off := 0) (o := 5) (by kernel_rfl) (by kernel_rfl)) ?_
  refine wk_store (b := r) (off := 5) (cs' := #[.int .i64 place, .int .i64 n, .slice la len lc, .slice (some ⟨ck, 0, none⟩) nn kc, .int .i64 (round + 1), .bool false, .bool true]) (vs := #[.bool false]) (show opD hR22w3_2 4 = some (none, .store 4 (.tmp 22) (.const (.bool false)), 0, none) from by kernel_rfl) (by kernel_rfl) (by kernel_rfl) (by kernel_rfl) (by kernel_rfl) (by kernel_rfl) hb_4 (Nat.le_of_ble_eq_true rfl) (by kernel_rfl) (by kernel_rfl) (fun w_5 e_6 sz_7 hb_8 => ⟨?_, ?_⟩)
  · exact trivial
  refine wk_pure (show opD hR22w3_2 5 = some (some 23, .nilCheck (.tmp 20), 0, none) from by kernel_rfl) (by kernel_rfl) (.pointer (some ⟨r, 0, none⟩)) (fun _ => x_nilCheck (by kernel_rfl)) ?_
  refine wk_pure (show opD hR22w3_2 6 = some (some 24, .fieldAddr 54 (.tmp 23) 6, 0, none) from by kernel_rfl) (by kernel_rfl) (.pointer (some ⟨r, 6, none⟩)) (fun _ => x_fieldAddr (b := r) (off := 0) (o := 6) (by kernel_rfl) (by kernel_rfl)) ?_
  refine wk_store (b := r) (off := 6) (cs' := #[.int .i64 place, .int .i64 n, .slice la len lc, .slice (some ⟨ck, 0, none⟩) nn kc, .int .i64 (round + 1), .bool false, .bool false]) (vs := #[.bool false]) (show opD hR22w3_2 7 = some (none, .store 4 (.tmp 24) (.const (.bool false)), 0, none) from by kernel_rfl) (by kernel_rfl) (by kernel_rfl) (by kernel_rfl) (by kernel_rfl) (by kernel_rfl) hb_8 (Nat.le_of_ble_eq_true rfl) (by kernel_rfl) (by kernel_rfl) (fun w_9 e_10 sz_11 hb_12 => ⟨?_, ?_⟩)
  · exact trivial
  refine wk_nil ?_
  refine ends0_n rfl ?_
  exact hK _ (Ext.then (Ext.then (Ext.then (Ext.refl [r] _) e_2 (by intro x_ hx_ hl_; simp only [List.mem_cons, List.not_mem_nil, or_false] at hx_ ⊢; omega)) e_6 (by intro x_ hx_ hl_; simp only [List.mem_cons, List.not_mem_nil, or_false] at hx_ ⊢; omega)) e_10 (by intro x_ hx_ hl_; simp only [List.mem_cons, List.not_mem_nil, or_false] at hx_ ⊢; omega)) (by omega) hb_12

noncomputable def hN22w4_0 : Code := (Try.f22.body).getD .skip
noncomputable def hN22w4_1 : Code := s1 hN22w4_0
noncomputable def hN22w4_2 : Code := s2 hN22w4_0
noncomputable def hR22w4_0 : Array Oper := rops hN22w4_1
noncomputable def hN22w4_3 : Code := s1 hN22w4_2
noncomputable def hN22w4_4 : Code := s2 hN22w4_2
theorem next_tf {r ck : Nat} {place n round : Int} {la : Option Addr} {len lc nn kc : Nat} {w : World} (hr : w.heap[r]? = some (.cells #[.int .i64 place, .int .i64 n, .slice la len lc, .slice (some ⟨ck, 0, none⟩) nn kc, .int .i64 round, .bool true, .bool false] 54 (0, 0))) (h1 : 0 ≤ round ∧ round ≤ 100) {K : Value → World → Prop} (hK : ∀ w', Ext [r] w w' → w'.heap.size = w.heap.size → w'.heap[r]? = some (.cells #[.int .i64 place, .int .i64 n, .slice la len lc, .slice (some ⟨ck, 0, none⟩) nn kc, .int .i64 round, .bool true, .bool false] 54 (0, 0)) → K (.tuple #[]) w') : CallsV Try.prog 22 #[.pointer (some ⟨r, 0, none⟩)] w K := by
  refine callsV_of (c := hN22w4_0) Try.func22 (by kernel_rfl) (n := 25) (by kernel_rfl) ?_
  refine g_seq (x := hN22w4_1) (y := hN22w4_2) (by kernel_rfl) ?_
  refine g_region (ops := hR22w4_0) (id := 0) (by kernel_rfl) [(0, .pure), (1, .pure), (2, .pure), (3, .loud), (4, .pure), (5, .pure), (6, .pure), (7, .pure), (8, .loud), (9, .pure)] (by kernel_rfl) (by kernel_rfl) ?_
  refine wk_pure (show opD hR22w4_0 0 = some (some 2, .move (.tmp 0), 27, none) from by kernel_rfl) (by kernel_rfl) (.pointer (some ⟨r, 0, none⟩)) (fun _ => y_move (by kernel_rfl)) ?_
  refine wk_pure (show opD hR22w4_0 1 = some (some 3, .nilCheck (.tmp 2), 0, none) from by kernel_rfl) (by kernel_rfl) (.pointer (some ⟨r, 0, none⟩)) (fun _ => x_nilCheck (by kernel_rfl)) ?_
  refine wk_pure (show opD hR22w4_0 2 = some (some 4, .fieldAddr 54 (.tmp 3) 5, 0, none) from by kernel_rfl) (by kernel_rfl) (.pointer (some ⟨r, 5, none⟩)) (fun _ => x_fieldAddr (b := r) (off := 0) (o := 5) (by kernel_rfl) (by kernel_rfl)) ?_
  refine wk_val (show opD hR22w4_0 3 = some (some 5, .load 4 (.tmp 4), 4, none) from by kernel_rfl) (by kernel_rfl) (.bool true) (x_load (b := r) (off := 5) (by kernel_rfl) (by kernel_rfl) hr (by kernel_rfl)) trivial ?_
  refine wk_pure (show opD hR22w4_0 4 = some (some 6, .move (.tmp 5), 4, none) from by kernel_rfl) (by kernel_rfl) (.bool true) (fun _ => y_move (by kernel_rfl)) ?_
  refine wk_pure (show opD hR22w4_0 5 = some (some 7, .move (.tmp 0), 27, some (4, true)) from by kernel_rfl) (by kernel_rfl) (.pointer (some ⟨r, 0, none⟩)) (fun _ => y_move (by kernel_rfl)) ?_
  refine wk_pure (show opD hR22w4_0 6 = some (some 8, .nilCheck (.tmp 7), 0, some (4, true)) from by kernel_rfl) (by kernel_rfl) (.pointer (some ⟨r, 0, none⟩)) (fun _ => x_nilCheck (by kernel_rfl)) ?_
  refine wk_pure (show opD hR22w4_0 7 = some (some 9, .fieldAddr 54 (.tmp 8) 6, 0, some (4, true)) from by kernel_rfl) (by kernel_rfl) (.pointer (some ⟨r, 6, none⟩)) (fun _ => x_fieldAddr (b := r) (off := 0) (o := 6) (by kernel_rfl) (by kernel_rfl)) ?_
  refine wk_val (show opD hR22w4_0 8 = some (some 10, .load 4 (.tmp 9), 4, some (4, true)) from by kernel_rfl) (by kernel_rfl) (.bool false) (x_load (b := r) (off := 6) (by kernel_rfl) (by kernel_rfl) hr (by kernel_rfl)) trivial ?_
  refine wk_pure (show opD hR22w4_0 9 = some (some 11, .pick (.tmp 6) (.tmp 10) (.const (.bool false)), 4, none) from by kernel_rfl) (by kernel_rfl) (.bool false) (fun _ => y_pick_t (by kernel_rfl) (by kernel_rfl)) ?_
  refine wk_nil ?_
  refine thn_n ?_
  refine g_cond_f (o := .tmp 11) (x := hN22w4_3) (y := hN22w4_4) (by kernel_rfl) (by kernel_rfl) ?_
  refine g_skip (by kernel_rfl) ?_
  refine ends0_n rfl ?_
  exact hK _ (Ext.refl [r] _) (by omega) hr

noncomputable def hN22w5_0 : Code := (Try.f22.body).getD .skip
noncomputable def hN22w5_1 : Code := s1 hN22w5_0
noncomputable def hN22w5_2 : Code := s2 hN22w5_0
noncomputable def hR22w5_0 : Array Oper := rops hN22w5_1
noncomputable def hN22w5_3 : Code := s1 hN22w5_2
noncomputable def hN22w5_4 : Code := s2 hN22w5_2
theorem next_ft {r ck : Nat} {place n round : Int} {la : Option Addr} {len lc nn kc : Nat} {w : World} (hr : w.heap[r]? = some (.cells #[.int .i64 place, .int .i64 n, .slice la len lc, .slice (some ⟨ck, 0, none⟩) nn kc, .int .i64 round, .bool false, .bool true] 54 (0, 0))) (h1 : 0 ≤ round ∧ round ≤ 100) {K : Value → World → Prop} (hK : ∀ w', Ext [r] w w' → w'.heap.size = w.heap.size → w'.heap[r]? = some (.cells #[.int .i64 place, .int .i64 n, .slice la len lc, .slice (some ⟨ck, 0, none⟩) nn kc, .int .i64 round, .bool false, .bool true] 54 (0, 0)) → K (.tuple #[]) w') : CallsV Try.prog 22 #[.pointer (some ⟨r, 0, none⟩)] w K := by
  refine callsV_of (c := hN22w5_0) Try.func22 (by kernel_rfl) (n := 25) (by kernel_rfl) ?_
  refine g_seq (x := hN22w5_1) (y := hN22w5_2) (by kernel_rfl) ?_
  refine g_region (ops := hR22w5_0) (id := 0) (by kernel_rfl) [(0, .pure), (1, .pure), (2, .pure), (3, .loud), (4, .pure), (5, .pure), (6, .pure), (7, .pure), (8, .loud), (9, .pure)] (by kernel_rfl) (by kernel_rfl) ?_
  refine wk_pure (show opD hR22w5_0 0 = some (some 2, .move (.tmp 0), 27, none) from by kernel_rfl) (by kernel_rfl) (.pointer (some ⟨r, 0, none⟩)) (fun _ => y_move (by kernel_rfl)) ?_
  refine wk_pure (show opD hR22w5_0 1 = some (some 3, .nilCheck (.tmp 2), 0, none) from by kernel_rfl) (by kernel_rfl) (.pointer (some ⟨r, 0, none⟩)) (fun _ => x_nilCheck (by kernel_rfl)) ?_
  refine wk_pure (show opD hR22w5_0 2 = some (some 4, .fieldAddr 54 (.tmp 3) 5, 0, none) from by kernel_rfl) (by kernel_rfl) (.pointer (some ⟨r, 5, none⟩)) (fun _ => x_fieldAddr (b := r) (off := 0) (o := 5) (by kernel_rfl) (by kernel_rfl)) ?_
  refine wk_val (show opD hR22w5_0 3 = some (some 5, .load 4 (.tmp 4), 4, none) from by kernel_rfl) (by kernel_rfl) (.bool false) (x_load (b := r) (off := 5) (by kernel_rfl) (by kernel_rfl) hr (by kernel_rfl)) trivial ?_
  refine wk_pure (show opD hR22w5_0 4 = some (some 6, .move (.tmp 5), 4, none) from by kernel_rfl) (by kernel_rfl) (.bool false) (fun _ => y_move (by kernel_rfl)) ?_
  refine wk_skip (show opD hR22w5_0 5 = some (some 7, .move (.tmp 0), 27, some (4, true)) from by kernel_rfl) (by kernel_rfl) ?_
  refine wk_skip (show opD hR22w5_0 6 = some (some 8, .nilCheck (.tmp 7), 0, some (4, true)) from by kernel_rfl) (by kernel_rfl) ?_
  refine wk_skip (show opD hR22w5_0 7 = some (some 9, .fieldAddr 54 (.tmp 8) 6, 0, some (4, true)) from by kernel_rfl) (by kernel_rfl) ?_
  refine wk_skip (show opD hR22w5_0 8 = some (some 10, .load 4 (.tmp 9), 4, some (4, true)) from by kernel_rfl) (by kernel_rfl) ?_
  refine wk_pure (show opD hR22w5_0 9 = some (some 11, .pick (.tmp 6) (.tmp 10) (.const (.bool false)), 4, none) from by kernel_rfl) (by kernel_rfl) (.bool false) (fun _ => y_pick_f (by kernel_rfl) (by kernel_rfl)) ?_
  refine wk_nil ?_
  refine thn_n ?_
  refine g_cond_f (o := .tmp 11) (x := hN22w5_3) (y := hN22w5_4) (by kernel_rfl) (by kernel_rfl) ?_
  refine g_skip (by kernel_rfl) ?_
  refine ends0_n rfl ?_
  exact hK _ (Ext.refl [r] _) (by omega) hr

noncomputable def hN22w6_0 : Code := (Try.f22.body).getD .skip
noncomputable def hN22w6_1 : Code := s1 hN22w6_0
noncomputable def hN22w6_2 : Code := s2 hN22w6_0
noncomputable def hR22w6_0 : Array Oper := rops hN22w6_1
noncomputable def hN22w6_3 : Code := s1 hN22w6_2
noncomputable def hN22w6_4 : Code := s2 hN22w6_2
theorem next_ff {r ck : Nat} {place n round : Int} {la : Option Addr} {len lc nn kc : Nat} {w : World} (hr : w.heap[r]? = some (.cells #[.int .i64 place, .int .i64 n, .slice la len lc, .slice (some ⟨ck, 0, none⟩) nn kc, .int .i64 round, .bool false, .bool false] 54 (0, 0))) (h1 : 0 ≤ round ∧ round ≤ 100) {K : Value → World → Prop} (hK : ∀ w', Ext [r] w w' → w'.heap.size = w.heap.size → w'.heap[r]? = some (.cells #[.int .i64 place, .int .i64 n, .slice la len lc, .slice (some ⟨ck, 0, none⟩) nn kc, .int .i64 round, .bool false, .bool false] 54 (0, 0)) → K (.tuple #[]) w') : CallsV Try.prog 22 #[.pointer (some ⟨r, 0, none⟩)] w K := by
  refine callsV_of (c := hN22w6_0) Try.func22 (by kernel_rfl) (n := 25) (by kernel_rfl) ?_
  refine g_seq (x := hN22w6_1) (y := hN22w6_2) (by kernel_rfl) ?_
  refine g_region (ops := hR22w6_0) (id := 0) (by kernel_rfl) [(0, .pure), (1, .pure), (2, .pure), (3, .loud), (4, .pure), (5, .pure), (6, .pure), (7, .pure), (8, .loud), (9, .pure)] (by kernel_rfl) (by kernel_rfl) ?_
  refine wk_pure (show opD hR22w6_0 0 = some (some 2, .move (.tmp 0), 27, none) from by kernel_rfl) (by kernel_rfl) (.pointer (some ⟨r, 0, none⟩)) (fun _ => y_move (by kernel_rfl)) ?_
  refine wk_pure (show opD hR22w6_0 1 = some (some 3, .nilCheck (.tmp 2), 0, none) from by kernel_rfl) (by kernel_rfl) (.pointer (some ⟨r, 0, none⟩)) (fun _ => x_nilCheck (by kernel_rfl)) ?_
  refine wk_pure (show opD hR22w6_0 2 = some (some 4, .fieldAddr 54 (.tmp 3) 5, 0, none) from by kernel_rfl) (by kernel_rfl) (.pointer (some ⟨r, 5, none⟩)) (fun _ => x_fieldAddr (b := r) (off := 0) (o := 5) (by kernel_rfl) (by kernel_rfl)) ?_
  refine wk_val (show opD hR22w6_0 3 = some (some 5, .load 4 (.tmp 4), 4, none) from by kernel_rfl) (by kernel_rfl) (.bool false) (x_load (b := r) (off := 5) (by kernel_rfl) (by kernel_rfl) hr (by kernel_rfl)) trivial ?_
  refine wk_pure (show opD hR22w6_0 4 = some (some 6, .move (.tmp 5), 4, none) from by kernel_rfl) (by kernel_rfl) (.bool false) (fun _ => y_move (by kernel_rfl)) ?_
  refine wk_skip (show opD hR22w6_0 5 = some (some 7, .move (.tmp 0), 27, some (4, true)) from by kernel_rfl) (by kernel_rfl) ?_
  refine wk_skip (show opD hR22w6_0 6 = some (some 8, .nilCheck (.tmp 7), 0, some (4, true)) from by kernel_rfl) (by kernel_rfl) ?_
  refine wk_skip (show opD hR22w6_0 7 = some (some 9, .fieldAddr 54 (.tmp 8) 6, 0, some (4, true)) from by kernel_rfl) (by kernel_rfl) ?_
  refine wk_skip (show opD hR22w6_0 8 = some (some 10, .load 4 (.tmp 9), 4, some (4, true)) from by kernel_rfl) (by kernel_rfl) ?_
  refine wk_pure (show opD hR22w6_0 9 = some (some 11, .pick (.tmp 6) (.tmp 10) (.const (.bool false)), 4, none) from by kernel_rfl) (by kernel_rfl) (.bool false) (fun _ => y_pick_f (by kernel_rfl) (by kernel_rfl)) ?_
  refine wk_nil ?_
  refine thn_n ?_
  refine g_cond_f (o := .tmp 11) (x := hN22w6_3) (y := hN22w6_4) (by kernel_rfl) (by kernel_rfl) ?_
  refine g_skip (by kernel_rfl) ?_
  refine ends0_n rfl ?_
  exact hK _ (Ext.refl [r] _) (by omega) hr

theorem next_c {r ck : Nat} {place n round : Int} {la : Option Addr} {len lc nn kc : Nat} {told taken : Bool} {w : World} (hr : w.heap[r]? = some (.cells #[.int .i64 place, .int .i64 n, .slice la len lc, .slice (some ⟨ck, 0, none⟩) nn kc, .int .i64 round, .bool told, .bool taken] 54 (0, 0))) (h1 : 0 ≤ round ∧ round ≤ 100) {K : Value → World → Prop}
    (hK : ∀ w', Ext [r] w w' → w'.heap.size = w.heap.size → w'.heap[r]? = some (.cells #[.int .i64 place, .int .i64 n, .slice la len lc, .slice (some ⟨ck, 0, none⟩) nn kc, .int .i64 (if told && taken then round + 1 else round), .bool (told && !taken), .bool (taken && !told)] 54 (0, 0)) → K (.tuple #[]) w') : CallsV Try.prog 22 #[.pointer (some ⟨r, 0, none⟩)] w K := by
  cases told <;> cases taken
  · exact next_ff hr h1 (by simpa using hK)
  · exact next_ft hr h1 (by simpa using hK)
  · exact next_tf hr h1 (by simpa using hK)
  · exact next_tt hr h1 (by simpa using hK)
noncomputable def hN17w7_0 : Code := (Try.f17.body).getD .skip
noncomputable def hN17w7_1 : Code := s1 hN17w7_0
noncomputable def hN17w7_2 : Code := s2 hN17w7_0
noncomputable def hR17w7_0 : Array Oper := rops hN17w7_1
noncomputable def hN17w7_3 : Code := s1 hN17w7_2
noncomputable def hN17w7_4 : Code := s2 hN17w7_2
noncomputable def hN17w7_5 : Code := s1 hN17w7_3
noncomputable def hN17w7_6 : Code := s2 hN17w7_3
noncomputable def hR17w7_1 : Array Oper := rops hN17w7_5
noncomputable def hN17w7_7 : Code := s1 hN17w7_6
noncomputable def hN17w7_8 : Code := s2 hN17w7_6
noncomputable def hN17w7_9 : Code := s1 hN17w7_7
noncomputable def hN17w7_10 : Code := s2 hN17w7_7
noncomputable def hR17w7_2 : Array Oper := rops hN17w7_9
theorem clone_nil {w : World} {c : Nat} {K : Value → World → Prop} (hK : K (.slice none 0 0) w) : CallsV Try.prog 17 #[.slice none 0 c] w K := by
  refine callsV_of (c := hN17w7_0) Try.func17 (by kernel_rfl) (n := 8) (by kernel_rfl) ?_
  refine g_seq (x := hN17w7_1) (y := hN17w7_2) (by kernel_rfl) ?_
  refine g_region (ops := hR17w7_0) (id := 0) (by kernel_rfl) [(0, .pure)] (by kernel_rfl) (by kernel_rfl) ?_
  refine wk_pure (show opD hR17w7_0 0 = some (some 2, .assign (.const (.slice none 0 0)), 25, none) from by kernel_rfl) (by kernel_rfl) (.slice none 0 0) (fun _ => y_assign (by kernel_rfl)) ?_
  refine wk_nil ?_
  refine thn_n ?_
  refine g_seq (x := hN17w7_3) (y := hN17w7_4) (by kernel_rfl) ?_
  refine g_seq (x := hN17w7_5) (y := hN17w7_6) (by kernel_rfl) ?_
  refine g_region (ops := hR17w7_1) (id := 1) (by kernel_rfl) [(0, .pure), (1, .pure)] (by kernel_rfl) (by kernel_rfl) ?_
  refine wk_pure (show opD hR17w7_1 0 = some (some 3, .move (.tmp 0), 25, none) from by kernel_rfl) (by kernel_rfl) (.slice none 0 c) (fun _ => y_move (by kernel_rfl)) ?_
  refine wk_pure (show opD hR17w7_1 1 = some (some 4, .binOp .eql 25 (.tmp 3) (.const (.slice none 0 0)) 25, 4, none) from by kernel_rfl) (by kernel_rfl) (.bool true) (fun _ => x_sl_eql_nil (a := none) (n := 0) (c := c) (m := 0) (l := 0) (e := 33) (by kernel_rfl) (by kernel_rfl) (by kernel_rfl)) ?_
  refine wk_nil ?_
  refine thn_n ?_
  refine g_cond_t (o := .tmp 4) (x := hN17w7_7) (y := hN17w7_8) (by kernel_rfl) (by kernel_rfl) ?_
  refine g_seq (x := hN17w7_9) (y := hN17w7_10) (by kernel_rfl) ?_
  refine g_region (ops := hR17w7_2) (id := 2) (by kernel_rfl) [(0, .pure)] (by kernel_rfl) (by kernel_rfl) ?_
  refine wk_pure (show opD hR17w7_2 0 = some (some 2, .assign (.const (.slice none 0 0)), 25, none) from by kernel_rfl) (by kernel_rfl) (.slice none 0 0) (fun _ => y_assign (by kernel_rfl)) ?_
  refine wk_nil ?_
  refine thn_n ?_
  refine g_ret (by kernel_rfl) ?_
  refine thn_r ?_
  refine ends1_r (v := .slice none 0 0) rfl (by kernel_rfl) ?_
  exact hK

theorem flat_all {α : Type} {enc : α → List Value} (h1 : ∀ x, (enc x).all Value.oneCell' = true) (L : List α) : (flat enc L).all Value.oneCell' = true := by
  simp only [flat, List.all_flatMap, List.all_eq_true]
  exact fun x _ => List.all_eq_true.1 (h1 x)

noncomputable def hN17w8_0 : Code := (Try.f17.body).getD .skip
noncomputable def hN17w8_1 : Code := s1 hN17w8_0
noncomputable def hN17w8_2 : Code := s2 hN17w8_0
noncomputable def hR17w8_0 : Array Oper := rops hN17w8_1
noncomputable def hN17w8_3 : Code := s1 hN17w8_2
noncomputable def hN17w8_4 : Code := s2 hN17w8_2
noncomputable def hN17w8_5 : Code := s1 hN17w8_3
noncomputable def hN17w8_6 : Code := s2 hN17w8_3
noncomputable def hR17w8_1 : Array Oper := rops hN17w8_5
noncomputable def hN17w8_7 : Code := s1 hN17w8_6
noncomputable def hN17w8_8 : Code := s2 hN17w8_6
noncomputable def hN17w8_9 : Code := s1 hN17w8_4
noncomputable def hN17w8_10 : Code := s2 hN17w8_4
noncomputable def hR17w8_3 : Array Oper := rops hN17w8_9
theorem clone_some {b off n c : Nat} {a : Addr} {L : List Int} {w : World} (hs : SlE w 2 (some a) b off encW L) (hn : n = L.length) (hl : L.length ≤ 1000) {K : Value → World → Prop} (hK : ∀ w' g c' rest, Ext [] w w' → OwnE w' 33 2 g c' encW L rest → w.heap.size ≤ g → g < w'.heap.size → w'.heap.size ≤ w.heap.size + 2 → K (.slice (some ⟨g, 0, none⟩) L.length c') w') : CallsV Try.prog 17 #[.slice (some a) n c] w K := by
  refine callsV_of (c := hN17w8_0) Try.func17 (by kernel_rfl) (n := 8) (by kernel_rfl) ?_
  refine g_seq (x := hN17w8_1) (y := hN17w8_2) (by kernel_rfl) ?_
  refine g_region (ops := hR17w8_0) (id := 0) (by kernel_rfl) [(0, .pure)] (by kernel_rfl) (by kernel_rfl) ?_
  refine wk_pure (show opD hR17w8_0 0 = some (some 2, .assign (.const (.slice none 0 0)), 25, none) from by kernel_rfl) (by kernel_rfl) (.slice none 0 0) (fun _ => y_assign (by kernel_rfl)) ?_
  refine wk_nil ?_
  refine thn_n ?_
  refine g_seq (x := hN17w8_3) (y := hN17w8_4) (by kernel_rfl) ?_
  refine g_seq (x := hN17w8_5) (y := hN17w8_6) (by kernel_rfl) ?_
  refine g_region (ops := hR17w8_1) (id := 1) (by kernel_rfl) [(0, .pure), (1, .pure)] (by kernel_rfl) (by kernel_rfl) ?_
  refine wk_pure (show opD hR17w8_1 0 = some (some 3, .move (.tmp 0), 25, none) from by kernel_rfl) (by kernel_rfl) (.slice (some a) n c) (fun _ => y_move (by kernel_rfl)) ?_
  refine wk_pure (show opD hR17w8_1 1 = some (some 4, .binOp .eql 25 (.tmp 3) (.const (.slice none 0 0)) 25, 4, none) from by kernel_rfl) (by kernel_rfl) (.bool false) (fun _ => x_sl_eql_nil (a := (some a)) (n := n) (c := c) (m := 0) (l := 0) (e := 33) (by kernel_rfl) (by kernel_rfl) (by kernel_rfl)) ?_
  refine wk_nil ?_
  refine thn_n ?_
  refine g_cond_f (o := .tmp 4) (x := hN17w8_7) (y := hN17w8_8) (by kernel_rfl) (by kernel_rfl) ?_
  refine g_skip (by kernel_rfl) ?_
  refine thn_n ?_
  refine g_seq (x := hN17w8_9) (y := hN17w8_10) (by kernel_rfl) ?_
  refine g_region (ops := hR17w8_3) (id := 3) (by kernel_rfl) [(0, .loud), (1, .pure), (2, .loud), (3, .pure)] (by kernel_rfl) (by kernel_rfl) ?_
  refine wk_buildSlice (e := 33) (cs := #[]) (show opD hR17w8_3 0 = some (some 5, .buildSlice 25 0 #[], 25, none) from by kernel_rfl) (by kernel_rfl) (by kernel_rfl) (fun w_1 b_2 eq_3 e_4 sz_5 hb_6 => ⟨?_, ?_⟩)
  · exact trivial
  refine wk_pure (show opD hR17w8_3 1 = some (some 6, .move (.tmp 0), 25, none) from by kernel_rfl) (by kernel_rfl) (.slice (some a) n c) (fun _ => y_move (by kernel_rfl)) ?_
  have hb_7 : SlE w_1 2 (some a) b off encW L := (e_4.keepSl hs List.not_mem_nil)
  subst hn
  refine wk_append_own (gb := b_2) (n := 0) (cap := 0) (xs := []) (rest := []) (m := L.length) (ax := some a) (bx := b) (offx := off) (cx := c) (e := 33) (sz := 2) (by_ := 16) (show opD hR17w8_3 2 = some (some 7, .call ⟨.builtin .append, #[.tmp 5, .tmp 6], #[25, 25]⟩, 25, none) from by kernel_rfl) (by kernel_rfl) (by kernel_rfl) (by kernel_rfl) (by kernel_rfl) ⟨hb_6, rfl, rfl, by decide, by decide⟩ (by kernel_rfl) hb_7 (flat_all encW_one L) (by constructor <;> omega) (fun w_8 b_9 cap_10 rest_11 hb_12 e_13 sz_14 lt_15 ho_16 => ⟨?_, ?_⟩)
  · trivial
  rw [Nat.zero_add] at *
  refine wk_pure (show opD hR17w8_3 3 = some (some 2, .assign (.tmp 7), 25, none) from by kernel_rfl) (by kernel_rfl) (.slice (some ⟨b_9, 0, none⟩) L.length cap_10) (fun _ => y_assign (by kernel_rfl)) ?_
  refine wk_nil ?_
  refine thn_n ?_
  refine g_ret (by kernel_rfl) ?_
  refine ends1_r (v := .slice (some ⟨b_9, 0, none⟩) L.length cap_10) rfl (by kernel_rfl) ?_
  exact hK _ _ _ _ (Ext.then (Ext.then (Ext.refl [] _) e_4 (fun _ h_ => absurd h_ List.not_mem_nil)) e_13 (by intro x_ hx_ hl_; simp only [List.mem_cons, List.not_mem_nil, or_false] at hx_ ⊢; omega)) ho_16 (by omega) (by omega) (by omega)

theorem wrap_u64 (n : Int) : IntKind.u64.wrap n = n % 18446744073709551616 := by
  simp only [IntKind.wrap, IntKind.bits, IntKind.signed]
  rfl
theorem wrap_i64 (n : Int) : IntKind.i64.wrap n = (n + 9223372036854775808) % 18446744073709551616 - 9223372036854775808 := by
  simp [IntKind.wrap, IntKind.bits, IntKind.signed]
  omega
theorem add_lo (x y : Int) : (loOf x + loOf y + 0) % 18446744073709551616 = loOf (wrap128 (x + y)) := by unfold loOf wrap128; omega
theorem add_hi {x y : Int} (hx : InW x) (hy : InW y) : IntKind.i64.wrap ((hiOf x % 18446744073709551616 + hiOf y % 18446744073709551616 + (loOf x + loOf y + 0) / 18446744073709551616) % 18446744073709551616) = hiOf (wrap128 (x + y)) := by
  rw [wrap_i64]; unfold hiOf loOf wrap128 InW at *; omega

noncomputable def hN23w9_0 : Code := (Try.f23.body).getD .skip
noncomputable def hN23w9_1 : Code := s1 hN23w9_0
noncomputable def hN23w9_2 : Code := s2 hN23w9_0
noncomputable def hR23w9_0 : Array Oper := rops hN23w9_1
noncomputable def hN23w9_3 : Code := s1 hN23w9_2
noncomputable def hN23w9_4 : Code := s2 hN23w9_2
noncomputable def hR23w9_1 : Array Oper := rops hN23w9_3
noncomputable def hN23w9_5 : Code := s1 hN23w9_4
noncomputable def hN23w9_6 : Code := s2 hN23w9_4
noncomputable def hR23w9_2 : Array Oper := rops hN23w9_5
noncomputable def hN23w9_7 : Code := s1 hN23w9_6
noncomputable def hN23w9_8 : Code := s2 hN23w9_6
noncomputable def hR23w9_3 : Array Oper := rops hN23w9_7
theorem add_c {x y : Int} {w : World} (hx : InW x) (hy : InW y) {K : Value → World → Prop} (hK : ∀ w', Ext [] w w' → w'.heap.size = w.heap.size + 3 → K (wideV (wrap128 (x + y))) w') : CallsV Try.prog 23 #[.agg #[.int .i64 (hiOf x), .int .u64 (loOf x)], .agg #[.int .i64 (hiOf y), .int .u64 (loOf y)]] w K := by
  refine callsV_of (c := hN23w9_0) Try.func23 (by kernel_rfl) (n := 32) (by kernel_rfl) ?_
  have h1 := inW_hi hx
  have h2 := inW_hi hy
  have h3 := inW_lo x
  have h4 := inW_lo y
  refine g_seq (x := hN23w9_1) (y := hN23w9_2) (by kernel_rfl) ?_
  refine g_region (ops := hR23w9_0) (id := 0) (by kernel_rfl) [(0, .loud), (1, .loud), (2, .loud)] (by kernel_rfl) (by kernel_rfl) ?_
  refine wk_box (cs := #[.int .i64 (hiOf x), .int .u64 (loOf x)]) (show opD hR23w9_0 0 = some (some 2, .box 33 (.tmp 0), 0, none) from by kernel_rfl) (by kernel_rfl) (by kernel_rfl) (fun w_2 b_1 eq_4 e_3 sz_5 hb_6 => ⟨?_, ?_⟩)
  · exact trivial
  refine wk_box (cs := #[.int .i64 (hiOf y), .int .u64 (loOf y)]) (show opD hR23w9_0 1 = some (some 3, .box 33 (.tmp 1), 0, none) from by kernel_rfl) (by kernel_rfl) (by kernel_rfl) (fun w_8 b_7 eq_10 e_9 sz_11 hb_12 => ⟨?_, ?_⟩)
  · exact trivial
  refine wk_alloc (z := #[.int .i64 0, .int .u64 0]) (show opD hR23w9_0 2 = some (some 4, .alloc 33, 0, none) from by kernel_rfl) (by kernel_rfl) (by kernel_rfl) (fun w_14 b_13 eq_16 e_15 sz_17 hb_18 => ⟨?_, ?_⟩)
  · exact trivial
  refine wk_nil ?_
  refine thn_n ?_
  refine g_seq (x := hN23w9_3) (y := hN23w9_4) (by kernel_rfl) ?_
  refine g_region (ops := hR23w9_1) (id := 1) (by kernel_rfl) [(0, .pure), (1, .loud), (2, .pure), (3, .loud), (4, .loud), (5, .pure), (6, .pure), (7, .pure), (8, .pure), (9, .pure)] (by kernel_rfl) (by kernel_rfl) ?_
  refine wk_pure (show opD hR23w9_1 0 = some (some 10, .fieldAddr 33 (.tmp 2) 1, 0, none) from by kernel_rfl) (by kernel_rfl) (.pointer (some ⟨b_1, 1, none⟩)) (fun _ => x_fieldAddr (b := b_1) (off := 0) (o := 1) (by kernel_rfl) (by kernel_rfl)) ?_
  have hb_19 : w_14.heap[b_1]? = some (.cells #[.int .i64 (hiOf x), .int .u64 (loOf x)] 33 (0, 0)) := (e_15.keep (e_9.keep hb_6 List.not_mem_nil) List.not_mem_nil)
  refine wk_val (show opD hR23w9_1 1 = some (some 11, .load 31 (.tmp 10), 31, none) from by kernel_rfl) (by kernel_rfl) (.int .u64 (loOf x)) (x_load (b := b_1) (off := 1) (by kernel_rfl) (by kernel_rfl) hb_19 (by kernel_rfl)) trivial ?_
  refine wk_pure (show opD hR23w9_1 2 = some (some 12, .fieldAddr 33 (.tmp 3) 1, 0, none) from by kernel_rfl) (by kernel_rfl) (.pointer (some ⟨b_7, 1, none⟩)) (fun _ => x_fieldAddr (b := b_7) (off := 0) (o := 1) (by kernel_rfl) (by kernel_rfl)) ?_
  have hb_20 : w_14.heap[b_7]? = some (.cells #[.int .i64 (hiOf y), .int .u64 (loOf y)] 33 (0, 0)) := (e_15.keep hb_12 List.not_mem_nil)
  refine wk_val (show opD hR23w9_1 3 = some (some 13, .load 31 (.tmp 12), 31, none) from by kernel_rfl) (by kernel_rfl) (.int .u64 (loOf y)) (x_load (b := b_7) (off := 1) (by kernel_rfl) (by kernel_rfl) hb_20 (by kernel_rfl)) trivial ?_
  refine wk_val (show opD hR23w9_1 4 = some (some 14, .call ⟨.value (.func 28), #[.tmp 11, .tmp 13, .const (.int .u64 0)], #[31, 31, 31]⟩, 67, none) from by kernel_rfl) (by kernel_rfl) (.tuple #[.int .u64 (((loOf x) + (loOf y) + 0) % 18446744073709551616), .int .u64 (((loOf x) + (loOf y) + 0) / 18446744073709551616)]) (y_add64 (a := (loOf x)) (b := (loOf y)) (c := 0) Try.func28 (by kernel_rfl) (by kernel_rfl) (by kernel_rfl) (by kernel_rfl) (by kernel_rfl) (by kernel_rfl) (by kernel_rfl) (by kernel_rfl) (by first | omega | exact Int.emod_nonneg _ (by decide)) (by first | omega | exact Int.emod_nonneg _ (by decide)) (by omega) rfl rfl) trivial ?_
  refine wk_pure (show opD hR23w9_1 5 = some (some 9, .move (.tmp 14), 67, none) from by kernel_rfl) (by kernel_rfl) (.tuple #[.int .u64 (((loOf x) + (loOf y) + 0) % 18446744073709551616), .int .u64 (((loOf x) + (loOf y) + 0) / 18446744073709551616)]) (fun _ => y_move (by kernel_rfl)) ?_
  refine wk_pure (show opD hR23w9_1 6 = some (some 15, .extract (.tmp 9) 0, 31, none) from by kernel_rfl) (by kernel_rfl) (.int .u64 (((loOf x) + (loOf y) + 0) % 18446744073709551616)) (fun _ => x_extract (vs := #[.int .u64 (((loOf x) + (loOf y) + 0) % 18446744073709551616), .int .u64 (((loOf x) + (loOf y) + 0) / 18446744073709551616)]) (by kernel_rfl) (by kernel_rfl)) ?_
  refine wk_pure (show opD hR23w9_1 7 = some (some 16, .extract (.tmp 9) 1, 31, none) from by kernel_rfl) (by kernel_rfl) (.int .u64 (((loOf x) + (loOf y) + 0) / 18446744073709551616)) (fun _ => x_extract (vs := #[.int .u64 (((loOf x) + (loOf y) + 0) % 18446744073709551616), .int .u64 (((loOf x) + (loOf y) + 0) / 18446744073709551616)]) (by kernel_rfl) (by kernel_rfl)) ?_
  refine wk_pure (show opD hR23w9_1 8 = some (some 5, .assign (.tmp 15), 31, none) from by kernel_rfl) (by kernel_rfl) (.int .u64 (((loOf x) + (loOf y) + 0) % 18446744073709551616)) (fun _ => y_assign (by kernel_rfl)) ?_
  refine wk_pure (show opD hR23w9_1 9 = some (some 6, .assign (.tmp 16), 31, none) from by kernel_rfl) (by kernel_rfl) (.int .u64 (((loOf x) + (loOf y) + 0) / 18446744073709551616)) (fun _ => y_assign (by kernel_rfl)) ?_
  refine wk_nil ?_
  refine thn_n ?_
  refine g_seq (x := hN23w9_5) (y := hN23w9_6) (by kernel_rfl) ?_
  refine g_region (ops := hR23w9_2) (id := 2) (by kernel_rfl) [(0, .pure), (1, .loud), (2, .pure), (3, .pure), (4, .loud), (5, .pure), (6, .pure), (7, .loud), (8, .pure), (9, .pure), (10, .pure), (11, .pure), (12, .pure)] (by kernel_rfl) (by kernel_rfl) ?_
  refine wk_pure (show opD hR23w9_2 0 = some (some 18, .fieldAddr 33 (.tmp 2) 0, 0, none) from by kernel_rfl) (by kernel_rfl) (.pointer (some ⟨b_1, 0, none⟩)) (fun _ => x_fieldAddr (b := b_1) (off := 0) (o := 0) (by kernel_rfl) (by kernel_rfl)) ?_
  refine wk_val (show opD hR23w9_2 1 = some (some 19, .load 2 (.tmp 18), 2, none) from by kernel_rfl) (by kernel_rfl) (.int .i64 (hiOf x)) (x_load (b := b_1) (off := 0) (by kernel_rfl) (by kernel_rfl) hb_19 (by kernel_rfl)) trivial ?_
  refine wk_pure (show opD hR23w9_2 2 = some (some 20, .convert 2 31 (.tmp 19), 31, none) from by kernel_rfl) (by kernel_rfl) (.int .u64 ((hiOf x) % 18446744073709551616)) (fun _ => y_conv (q := .i64) (a := (hiOf x)) (by kernel_rfl) (by kernel_rfl) (by kernel_rfl) (wrap_u64 _)) ?_
  refine wk_pure (show opD hR23w9_2 3 = some (some 21, .fieldAddr 33 (.tmp 3) 0, 0, none) from by kernel_rfl) (by kernel_rfl) (.pointer (some ⟨b_7, 0, none⟩)) (fun _ => x_fieldAddr (b := b_7) (off := 0) (o := 0) (by kernel_rfl) (by kernel_rfl)) ?_
  refine wk_val (show opD hR23w9_2 4 = some (some 22, .load 2 (.tmp 21), 2, none) from by kernel_rfl) (by kernel_rfl) (.int .i64 (hiOf y)) (x_load (b := b_7) (off := 0) (by kernel_rfl) (by kernel_rfl) hb_20 (by kernel_rfl)) trivial ?_
  refine wk_pure (show opD hR23w9_2 5 = some (some 23, .convert 2 31 (.tmp 22), 31, none) from by kernel_rfl) (by kernel_rfl) (.int .u64 ((hiOf y) % 18446744073709551616)) (fun _ => y_conv (q := .i64) (a := (hiOf y)) (by kernel_rfl) (by kernel_rfl) (by kernel_rfl) (wrap_u64 _)) ?_
  refine wk_pure (show opD hR23w9_2 6 = some (some 24, .move (.tmp 6), 31, none) from by kernel_rfl) (by kernel_rfl) (.int .u64 (((loOf x) + (loOf y) + 0) / 18446744073709551616)) (fun _ => y_move (by kernel_rfl)) ?_
  refine wk_val (show opD hR23w9_2 7 = some (some 25, .call ⟨.value (.func 28), #[.tmp 20, .tmp 23, .tmp 24], #[31, 31, 31]⟩, 67, none) from by kernel_rfl) (by kernel_rfl) (.tuple #[.int .u64 ((((hiOf x) % 18446744073709551616) + ((hiOf y) % 18446744073709551616) + (((loOf x) + (loOf y) + 0) / 18446744073709551616)) % 18446744073709551616), .int .u64 ((((hiOf x) % 18446744073709551616) + ((hiOf y) % 18446744073709551616) + (((loOf x) + (loOf y) + 0) / 18446744073709551616)) / 18446744073709551616)]) (y_add64 (a := ((hiOf x) % 18446744073709551616)) (b := ((hiOf y) % 18446744073709551616)) (c := (((loOf x) + (loOf y) + 0) / 18446744073709551616)) Try.func28 (by kernel_rfl) (by kernel_rfl) (by kernel_rfl) (by kernel_rfl) (by kernel_rfl) (by kernel_rfl) (by kernel_rfl) (by kernel_rfl) (by first | omega | exact Int.emod_nonneg _ (by decide)) (by first | omega | exact Int.emod_nonneg _ (by decide)) (by omega) rfl rfl) trivial ?_
  refine wk_pure (show opD hR23w9_2 8 = some (some 17, .move (.tmp 25), 67, none) from by kernel_rfl) (by kernel_rfl) (.tuple #[.int .u64 ((((hiOf x) % 18446744073709551616) + ((hiOf y) % 18446744073709551616) + (((loOf x) + (loOf y) + 0) / 18446744073709551616)) % 18446744073709551616), .int .u64 ((((hiOf x) % 18446744073709551616) + ((hiOf y) % 18446744073709551616) + (((loOf x) + (loOf y) + 0) / 18446744073709551616)) / 18446744073709551616)]) (fun _ => y_move (by kernel_rfl)) ?_
  refine wk_pure (show opD hR23w9_2 9 = some (some 26, .extract (.tmp 17) 0, 31, none) from by kernel_rfl) (by kernel_rfl) (.int .u64 ((((hiOf x) % 18446744073709551616) + ((hiOf y) % 18446744073709551616) + (((loOf x) + (loOf y) + 0) / 18446744073709551616)) % 18446744073709551616)) (fun _ => x_extract (vs := #[.int .u64 ((((hiOf x) % 18446744073709551616) + ((hiOf y) % 18446744073709551616) + (((loOf x) + (loOf y) + 0) / 18446744073709551616)) % 18446744073709551616), .int .u64 ((((hiOf x) % 18446744073709551616) + ((hiOf y) % 18446744073709551616) + (((loOf x) + (loOf y) + 0) / 18446744073709551616)) / 18446744073709551616)]) (by kernel_rfl) (by kernel_rfl)) ?_
  refine wk_pure (show opD hR23w9_2 10 = some (some 27, .extract (.tmp 17) 1, 31, none) from by kernel_rfl) (by kernel_rfl) (.int .u64 ((((hiOf x) % 18446744073709551616) + ((hiOf y) % 18446744073709551616) + (((loOf x) + (loOf y) + 0) / 18446744073709551616)) / 18446744073709551616)) (fun _ => x_extract (vs := #[.int .u64 ((((hiOf x) % 18446744073709551616) + ((hiOf y) % 18446744073709551616) + (((loOf x) + (loOf y) + 0) / 18446744073709551616)) % 18446744073709551616), .int .u64 ((((hiOf x) % 18446744073709551616) + ((hiOf y) % 18446744073709551616) + (((loOf x) + (loOf y) + 0) / 18446744073709551616)) / 18446744073709551616)]) (by kernel_rfl) (by kernel_rfl)) ?_
  refine wk_pure (show opD hR23w9_2 11 = some (some 7, .assign (.tmp 26), 31, none) from by kernel_rfl) (by kernel_rfl) (.int .u64 ((((hiOf x) % 18446744073709551616) + ((hiOf y) % 18446744073709551616) + (((loOf x) + (loOf y) + 0) / 18446744073709551616)) % 18446744073709551616)) (fun _ => y_assign (by kernel_rfl)) ?_
  refine wk_pure (show opD hR23w9_2 12 = some (some 8, .assign (.tmp 27), 31, none) from by kernel_rfl) (by kernel_rfl) (.int .u64 ((((hiOf x) % 18446744073709551616) + ((hiOf y) % 18446744073709551616) + (((loOf x) + (loOf y) + 0) / 18446744073709551616)) / 18446744073709551616)) (fun _ => y_assign (by kernel_rfl)) ?_
  refine wk_nil ?_
  refine thn_n ?_
  refine g_seq (x := hN23w9_7) (y := hN23w9_8) (by kernel_rfl) ?_
  refine g_region (ops := hR23w9_3) (id := 3) (by kernel_rfl) [(0, .pure), (1, .pure), (2, .pure), (3, .pure), (4, .loud)] (by kernel_rfl) (by kernel_rfl) ?_
  refine wk_pure (show opD hR23w9_3 0 = some (some 28, .move (.tmp 7), 31, none) from by kernel_rfl) (by kernel_rfl) (.int .u64 ((((hiOf x) % 18446744073709551616) + ((hiOf y) % 18446744073709551616) + (((loOf x) + (loOf y) + 0) / 18446744073709551616)) % 18446744073709551616)) (fun _ => y_move (by kernel_rfl)) ?_
  refine wk_pure (show opD hR23w9_3 1 = some (some 29, .convert 31 2 (.tmp 28), 2, none) from by kernel_rfl) (by kernel_rfl) (.int .i64 (hiOf (wrap128 (x + y)))) (fun _ => y_conv (q := .u64) (a := ((((hiOf x) % 18446744073709551616) + ((hiOf y) % 18446744073709551616) + (((loOf x) + (loOf y) + 0) / 18446744073709551616)) % 18446744073709551616)) (by kernel_rfl) (by kernel_rfl) (by kernel_rfl) (add_hi hx hy)) ?_
  refine wk_pure (show opD hR23w9_3 2 = some (some 30, .move (.tmp 5), 31, none) from by kernel_rfl) (by kernel_rfl) (.int .u64 (((loOf x) + (loOf y) + 0) % 18446744073709551616)) (fun _ => y_move (by kernel_rfl)) ?_
  refine wk_pure (show opD hR23w9_3 3 = some (some 31, .build 33 #[(0, .tmp 29), (1, .tmp 30)], 33, none) from by kernel_rfl) (by kernel_rfl) (.agg #[.int .i64 (hiOf (wrap128 (x + y))), .int .u64 (((loOf x) + (loOf y) + 0) % 18446744073709551616)]) (fun _ => x_build (by kernel_rfl)) ?_
  refine wk_store (b := b_13) (off := 0) (cs' := #[.int .i64 (hiOf (wrap128 (x + y))), .int .u64 (((loOf x) + (loOf y) + 0) % 18446744073709551616)]) (vs := #[.int .i64 (hiOf (wrap128 (x + y))), .int .u64 (((loOf x) + (loOf y) + 0) % 18446744073709551616)]) (show opD hR23w9_3 4 = some (none, .store 33 (.tmp 4) (.tmp 31), 0, none) from by kernel_rfl) (by kernel_rfl) (by kernel_rfl) (by kernel_rfl) (by kernel_rfl) (by kernel_rfl) hb_18 (Nat.le_of_ble_eq_true rfl) (by kernel_rfl) (by kernel_rfl) (fun w_21 e_22 sz_23 hb_24 => ⟨?_, ?_⟩)
  · exact trivial
  refine wk_nil ?_
  refine thn_n ?_
  refine g_ret (by kernel_rfl) ?_
  refine endsR (v := .agg #[.int .i64 (hiOf (wrap128 (x + y))), .int .u64 (((loOf x) + (loOf y) + 0) % 18446744073709551616)]) (runRL (vs := [.agg #[.int .i64 (hiOf (wrap128 (x + y))), .int .u64 (((loOf x) + (loOf y) + 0) % 18446744073709551616)]]) (rs := [.cell 4 33]) rfl (RL.cons (.agg (n := 2) (off := 0) (by kernel_rfl) (by kernel_rfl) hb_24 (Nat.le_of_ble_eq_true rfl) (by kernel_rfl)) RL.nil) rfl) ?_
  exact (by rw [add_lo]; exact hK _ (Ext.then (Ext.then (Ext.then (Ext.then (Ext.refl [] _) e_3 (fun _ h_ => absurd h_ List.not_mem_nil)) e_9 (fun _ h_ => absurd h_ List.not_mem_nil)) e_15 (fun _ h_ => absurd h_ List.not_mem_nil)) e_22 (by intro x_ hx_ hl_; simp only [List.mem_cons, List.not_mem_nil, or_false] at hx_ ⊢; omega)) (by omega))

end Go.Proofs.Ytjdlgidacnphpaa
