/-
  A part of the proofs over the program's package ring: contracts of its functions, step by step.
-/
import Derived.Test.YtjdlgidacnphpaaK14
import Derived.Test.YtjdlgidacnphpaaRB
set_option linter.unusedSimpArgs false
set_option linter.unusedVariables false
namespace Go.Proofs.Ytjdlgidacnphpaa
open Go Go.Wk

/-! ### Chunks -/
def cst (len n k : Nat) : Nat := k * (len / n) + min k (len % n)
def chk (len n k : Nat) : List (Nat × Nat) := (List.range k).map fun k => (cst len n k, cst len n (k + 1))
theorem chk_len (len n k : Nat) : (chk len n k).length = k := by simp [chk]
theorem chk_succ (len n k : Nat) : chk len n (k + 1) = chk len n k ++ [(cst len n k, cst len n (k + 1))] := by simp [chk, List.range_succ]
theorem chk_get (len n m k : Nat) (h : k < m) (d : Nat × Nat) : (chk len n m).getD k d = (cst len n k, cst len n (k + 1)) := by
  simp [chk, List.getD, h]
def encP (x : Nat × Nat) : List Value := [.int .i64 (x.1 : Int), .int .i64 (x.2 : Int)]
theorem encP_len (z : Nat × Nat) : (encP z).length = 2 := rfl
theorem encP_one (z : Nat × Nat) : (encP z).all Value.oneCell' = true := rfl
theorem cst_succ_lt {len n k : Nat} (h : k < len % n) : cst len n k + len / n + 1 = cst len n (k + 1) := by
  unfold cst; rw [Nat.add_mul, Nat.one_mul]; omega
theorem cst_succ_ge {len n k : Nat} (h : ¬ k < len % n) : cst len n k + len / n = cst len n (k + 1) := by
  unfold cst; rw [Nat.add_mul, Nat.one_mul]; omega
theorem cst_le {len n k : Nat} (hk : k ≤ n) : cst len n k ≤ len := by
  unfold cst
  have h1 := Nat.div_add_mod len n
  have h2 : k * (len / n) ≤ n * (len / n) := Nat.mul_le_mul_right _ hk
  omega
theorem cst_zero (len n : Nat) : cst len n 0 = 0 := by simp [cst]
theorem cst_end {len n : Nat} (h : 0 < n) : cst len n n = len := by
  unfold cst
  have h1 := Nat.div_add_mod len n
  have h2 := Nat.mod_lt len h
  omega

noncomputable def kN16w1_0 : Code := (Try.f16.body).getD .skip
noncomputable def kN16w1_1 : Code := s1 kN16w1_0
noncomputable def kN16w1_2 : Code := s2 kN16w1_0
noncomputable def kR16w1_0 : Array Oper := rops kN16w1_1
noncomputable def kN16w1_3 : Code := s1 kN16w1_2
noncomputable def kN16w1_4 : Code := s2 kN16w1_2
noncomputable def kN16w1_5 : Code := s1 kN16w1_3
noncomputable def kN16w1_6 : Code := s2 kN16w1_3
noncomputable def kR16w1_1 : Array Oper := rops kN16w1_5
noncomputable def kN16w1_7 : Code := s1 kN16w1_6
noncomputable def kN16w1_8 : Code := s2 kN16w1_6
noncomputable def kN16w1_9 : Code := s1 kN16w1_4
noncomputable def kN16w1_10 : Code := s2 kN16w1_4
noncomputable def kR16w1_3 : Array Oper := rops kN16w1_9
noncomputable def kN16w1_11 : Code := s1 kN16w1_10
noncomputable def kN16w1_12 : Code := s2 kN16w1_10
noncomputable def kR16w1_4 : Array Oper := rops kN16w1_11
noncomputable def kN16w1_13 : Code := s1 kN16w1_12
noncomputable def kN16w1_14 : Code := s2 kN16w1_12
noncomputable def kN16w1_15 : Code := s1 kN16w1_13
noncomputable def kN16w1_16 : Code := s2 kN16w1_13
noncomputable def kR16w1_5 : Array Oper := rops kN16w1_15
noncomputable def kN16w1_17 : Code := s1 kN16w1_16
noncomputable def kN16w1_18 : Code := s1 kN16w1_17
noncomputable def kN16w1_19 : Code := s1 kN16w1_18
noncomputable def kN16w1_20 : Code := s2 kN16w1_18
noncomputable def kR16w1_6 : Array Oper := rops kN16w1_19
noncomputable def kN16w1_21 : Code := s1 kN16w1_20
noncomputable def kN16w1_22 : Code := s2 kN16w1_20
noncomputable def kN16w1_23 : Code := s1 kN16w1_21
noncomputable def kN16w1_24 : Code := s2 kN16w1_21
noncomputable def kN16w1_25 : Code := s1 kN16w1_22
noncomputable def kN16w1_26 : Code := s2 kN16w1_22
noncomputable def kN16w1_27 : Code := s1 kN16w1_25
noncomputable def kN16w1_28 : Code := s1 kN16w1_27
noncomputable def kN16w1_29 : Code := s2 kN16w1_27
noncomputable def kR16w1_7 : Array Oper := rops kN16w1_28
noncomputable def kN16w1_30 : Code := s1 kN16w1_29
noncomputable def kN16w1_31 : Code := s2 kN16w1_29
noncomputable def kR16w1_8 : Array Oper := rops kN16w1_30
noncomputable def kN16w1_32 : Code := s1 kN16w1_31
noncomputable def kN16w1_33 : Code := s2 kN16w1_31
noncomputable def kN16w1_34 : Code := s1 kN16w1_32
noncomputable def kN16w1_35 : Code := s2 kN16w1_32
noncomputable def kR16w1_9 : Array Oper := rops kN16w1_34
noncomputable def kN16w1_36 : Code := s1 kN16w1_35
noncomputable def kN16w1_37 : Code := s2 kN16w1_35
noncomputable def kR16w1_10 : Array Oper := rops kN16w1_36
noncomputable def kN16w1_38 : Code := s1 kN16w1_33
noncomputable def kN16w1_39 : Code := s2 kN16w1_33
noncomputable def kR16w1_11 : Array Oper := rops kN16w1_38
noncomputable def kR16w1_12 : Array Oper := rops kN16w1_39
noncomputable def kR16w1_13 : Array Oper := rops kN16w1_26
noncomputable def kN16w1_40 : Code := s1 kN16w1_14
noncomputable def kN16w1_41 : Code := s2 kN16w1_14
noncomputable def kR16w1_14 : Array Oper := rops kN16w1_40
theorem chunks_c {len n : Nat} {w : World} (h1 : len ≤ 400) (h2 : 1 ≤ n) (h3 : n ≤ 16) {K : Value → World → Prop} (hK : ∀ w' g c rest, Ext [] w w' → OwnE w' 63 2 g c encP (chk len n n) rest → w.heap.size ≤ g → g < w'.heap.size → n ≤ c → K (.tuple #[.slice (some ⟨g, 0, none⟩) (chk len n n).length c, .int .i64 0]) w') : CallsV Try.prog 16 #[.int .i64 ((len : Nat) : Int), .int .i64 ((n : Nat) : Int)] w K := by
  refine callsV_of (c := kN16w1_0) Try.func16 (by kernel_rfl) (n := 49) (by kernel_rfl) ?_
  refine g_seq (x := kN16w1_1) (y := kN16w1_2) (by kernel_rfl) ?_
  refine g_region (ops := kR16w1_0) (id := 0) (by kernel_rfl) [(0, .pure), (1, .pure)] (by kernel_rfl) (by kernel_rfl) ?_
  refine wk_pure (show opD kR16w1_0 0 = some (some 4, .assign (.const (.slice none 0 0)), 49, none) from by kernel_rfl) (by kernel_rfl) (.slice none 0 0) (fun _ => y_assign (by kernel_rfl)) ?_
  refine wk_pure (show opD kR16w1_0 1 = some (some 5, .assign (.const (.int .i64 0)), 28, none) from by kernel_rfl) (by kernel_rfl) (.int .i64 0) (fun _ => y_assign (by kernel_rfl)) ?_
  refine wk_nil ?_
  refine thn_n ?_
  refine g_seq (x := kN16w1_3) (y := kN16w1_4) (by kernel_rfl) ?_
  refine g_seq (x := kN16w1_5) (y := kN16w1_6) (by kernel_rfl) ?_
  refine g_region (ops := kR16w1_1) (id := 1) (by kernel_rfl) [(0, .pure), (1, .pure), (2, .pure), (3, .pure), (4, .pure), (5, .pure), (6, .pure), (7, .pure), (8, .pure), (9, .pure), (10, .pure), (11, .pure), (12, .pure), (13, .pure)] (by kernel_rfl) (by kernel_rfl) ?_
  refine wk_pure (show opD kR16w1_1 0 = some (some 10, .move (.tmp 0), 3, none) from by kernel_rfl) (by kernel_rfl) (.int .i64 ((len : Nat) : Int)) (fun _ => y_move (by kernel_rfl)) ?_
  refine wk_pure (show opD kR16w1_1 1 = some (some 11, .binOp .lss 3 (.tmp 10) (.const (.int .i64 0)) 3, 4, none) from by kernel_rfl) (by kernel_rfl) (.bool false) (fun _ => y_lss (k := .i64) (a := ((len : Nat) : Int)) (b := 0) (by kernel_rfl) (by kernel_rfl) (decide_eq_false (by omega))) ?_
  refine wk_pure (show opD kR16w1_1 2 = some (some 12, .move (.tmp 11), 4, none) from by kernel_rfl) (by kernel_rfl) (.bool false) (fun _ => y_move (by kernel_rfl)) ?_
  refine wk_pure (show opD kR16w1_1 3 = some (some 13, .move (.tmp 0), 3, some (2, false)) from by kernel_rfl) (by kernel_rfl) (.int .i64 ((len : Nat) : Int)) (fun _ => y_move (by kernel_rfl)) ?_
  refine wk_pure (show opD kR16w1_1 4 = some (some 14, .binOp .gtr 3 (.tmp 13) (.const (.int .i64 400)) 3, 4, some (2, false)) from by kernel_rfl) (by kernel_rfl) (.bool false) (fun _ => y_gtr (k := .i64) (a := ((len : Nat) : Int)) (b := 400) (by kernel_rfl) (by kernel_rfl) (decide_eq_false (by omega))) ?_
  refine wk_pure (show opD kR16w1_1 5 = some (some 15, .pick (.tmp 12) (.const (.bool true)) (.tmp 14), 4, none) from by kernel_rfl) (by kernel_rfl) (.bool false) (fun _ => y_pick_f (by kernel_rfl) (by kernel_rfl)) ?_
  refine wk_pure (show opD kR16w1_1 6 = some (some 16, .move (.tmp 15), 4, none) from by kernel_rfl) (by kernel_rfl) (.bool false) (fun _ => y_move (by kernel_rfl)) ?_
  refine wk_pure (show opD kR16w1_1 7 = some (some 17, .move (.tmp 1), 3, some (6, false)) from by kernel_rfl) (by kernel_rfl) (.int .i64 ((n : Nat) : Int)) (fun _ => y_move (by kernel_rfl)) ?_
  refine wk_pure (show opD kR16w1_1 8 = some (some 18, .binOp .lss 3 (.tmp 17) (.const (.int .i64 1)) 3, 4, some (6, false)) from by kernel_rfl) (by kernel_rfl) (.bool false) (fun _ => y_lss (k := .i64) (a := ((n : Nat) : Int)) (b := 1) (by kernel_rfl) (by kernel_rfl) (decide_eq_false (by omega))) ?_
  refine wk_pure (show opD kR16w1_1 9 = some (some 19, .pick (.tmp 16) (.const (.bool true)) (.tmp 18), 4, none) from by kernel_rfl) (by kernel_rfl) (.bool false) (fun _ => y_pick_f (by kernel_rfl) (by kernel_rfl)) ?_
  refine wk_pure (show opD kR16w1_1 10 = some (some 20, .move (.tmp 19), 4, none) from by kernel_rfl) (by kernel_rfl) (.bool false) (fun _ => y_move (by kernel_rfl)) ?_
  refine wk_pure (show opD kR16w1_1 11 = some (some 21, .move (.tmp 1), 3, some (10, false)) from by kernel_rfl) (by kernel_rfl) (.int .i64 ((n : Nat) : Int)) (fun _ => y_move (by kernel_rfl)) ?_
  refine wk_pure (show opD kR16w1_1 12 = some (some 22, .binOp .gtr 3 (.tmp 21) (.const (.int .i64 16)) 3, 4, some (10, false)) from by kernel_rfl) (by kernel_rfl) (.bool false) (fun _ => y_gtr (k := .i64) (a := ((n : Nat) : Int)) (b := 16) (by kernel_rfl) (by kernel_rfl) (decide_eq_false (by omega))) ?_
  refine wk_pure (show opD kR16w1_1 13 = some (some 23, .pick (.tmp 20) (.const (.bool true)) (.tmp 22), 4, none) from by kernel_rfl) (by kernel_rfl) (.bool false) (fun _ => y_pick_f (by kernel_rfl) (by kernel_rfl)) ?_
  refine wk_nil ?_
  refine thn_n ?_
  refine g_cond_f (o := .tmp 23) (x := kN16w1_7) (y := kN16w1_8) (by kernel_rfl) (by kernel_rfl) ?_
  refine g_skip (by kernel_rfl) ?_
  refine thn_n ?_
  refine g_seq (x := kN16w1_9) (y := kN16w1_10) (by kernel_rfl) ?_
  refine g_region (ops := kR16w1_3) (id := 3) (by kernel_rfl) [(0, .pure)] (by kernel_rfl) (by kernel_rfl) ?_
  refine wk_pure (show opD kR16w1_3 0 = some (some 6, .assign (.const (.slice none 0 0)), 49, none) from by kernel_rfl) (by kernel_rfl) (.slice none 0 0) (fun _ => y_assign (by kernel_rfl)) ?_
  refine wk_nil ?_
  refine thn_n ?_
  refine g_seq (x := kN16w1_11) (y := kN16w1_12) (by kernel_rfl) ?_
  refine g_region (ops := kR16w1_4) (id := 4) (by kernel_rfl) [(0, .pure)] (by kernel_rfl) (by kernel_rfl) ?_
  refine wk_pure (show opD kR16w1_4 0 = some (some 7, .assign (.const (.int .i64 0)), 3, none) from by kernel_rfl) (by kernel_rfl) (.int .i64 0) (fun _ => y_assign (by kernel_rfl)) ?_
  refine wk_nil ?_
  refine thn_n ?_
  refine g_seq (x := kN16w1_13) (y := kN16w1_14) (by kernel_rfl) ?_
  refine g_seq (x := kN16w1_15) (y := kN16w1_16) (by kernel_rfl) ?_
  refine g_region (ops := kR16w1_5) (id := 5) (by kernel_rfl) [(0, .pure), (1, .pure)] (by kernel_rfl) (by kernel_rfl) ?_
  refine wk_pure (show opD kR16w1_5 0 = some (some 24, .move (.tmp 1), 3, none) from by kernel_rfl) (by kernel_rfl) (.int .i64 ((n : Nat) : Int)) (fun _ => y_move (by kernel_rfl)) ?_
  refine wk_pure (show opD kR16w1_5 1 = some (some 25, .move (.const (.int .i64 0)), 3, none) from by kernel_rfl) (by kernel_rfl) (.int .i64 0) (fun _ => y_move (by kernel_rfl)) ?_
  refine wk_nil ?_
  refine thn_n ?_
  refine g_block (x := kN16w1_17) (id := 0) (by kernel_rfl) ?_
  refine g_loop (x := kN16w1_18) (by kernel_rfl) (fun m_ ρ_ w_ => ∃ (k : Nat) (a : Option Addr) (g : Nat) (c : Nat) (rest : List Value), m_ = n - k ∧ (k ≤ n) ∧ ρ_ 0 = .int .i64 ((len : Nat) : Int) ∧ ρ_ 1 = .int .i64 ((n : Nat) : Int) ∧ ρ_ 4 = .slice none 0 0 ∧ ρ_ 5 = .int .i64 0 ∧ ρ_ 24 = .int .i64 ((n : Nat) : Int) ∧ ρ_ 25 = .int .i64 ((k : Nat) : Int) ∧ ρ_ 7 = .int .i64 ((cst len n k : Nat) : Int) ∧ ρ_ 6 = .slice a ((chk len n k).length) c ∧ OwN w_ 63 2 a g c encP (chk len n k) rest ∧ (a = none ∨ w.heap.size ≤ g) ∧ Ext [] w w_) (n - 0) ?_ ?_
  · exact ⟨0, none, 0, 0, [], rfl, by omega, (by kernel_rfl), (by kernel_rfl), (by kernel_rfl), (by kernel_rfl), (by kernel_rfl), (by kernel_rfl), (by rw [cst_zero]; kernel_rfl), (by kernel_rfl), OwN.nil _ _ _ _ _ _, (.inl rfl), Ext.refl _ _⟩
  · intro m_1 ρ_2 w_3 hI
    obtain ⟨k, a, g, c, rest, hm_m_1, hk, f_5, f_6, f_7, f_8, f_9, f_10, f_11, f_12, hr_13, hg, hE_4⟩ := hI
    have hs_w_3 := hE_4.size
    have hc1 := cst_le (len := len) (n := n) (k := k) hk
    have hc2 : len / n ≤ len := Nat.div_le_self _ _
    have hc3 := Int.ediv_nonneg (Int.natCast_nonneg len) (Int.natCast_nonneg n)
    refine g_seq (x := kN16w1_19) (y := kN16w1_20) (by kernel_rfl) ?_
    refine g_region (ops := kR16w1_6) (id := 6) (by kernel_rfl) [(0, .pure)] (by kernel_rfl) (by kernel_rfl) ?_
    by_cases h_14 : (((k : Nat) : Int) : Int) < ((n : Nat) : Int)
    · refine wk_pure (show opD kR16w1_6 0 = some (some 26, .binOp .lss 3 (.tmp 25) (.tmp 24) 3, 4, none) from by kernel_rfl) (by kernel_rfl) (.bool true) (fun _ => y_lss (k := .i64) (a := ((k : Nat) : Int)) (b := ((n : Nat) : Int)) (Eq.trans (by kernel_rfl) f_10) (Eq.trans (by kernel_rfl) f_9) (decide_eq_true h_14)) ?_
      refine wk_nil ?_
      refine thn_n ?_
      refine g_seq (x := kN16w1_21) (y := kN16w1_22) (by kernel_rfl) ?_
      refine g_cond_t (o := .tmp 26) (x := kN16w1_23) (y := kN16w1_24) (by kernel_rfl) (by kernel_rfl) ?_
      refine g_skip (by kernel_rfl) ?_
      refine thn_n ?_
      refine g_seq (x := kN16w1_25) (y := kN16w1_26) (by kernel_rfl) ?_
      refine g_block (x := kN16w1_27) (id := 1) (by kernel_rfl) ?_
      refine g_seq (x := kN16w1_28) (y := kN16w1_29) (by kernel_rfl) ?_
      refine g_region (ops := kR16w1_7) (id := 7) (by kernel_rfl) [(0, .pure), (1, .pure)] (by kernel_rfl) (by kernel_rfl) ?_
      refine wk_pure (show opD kR16w1_7 0 = some (some 27, .move (.tmp 25), 3, none) from by kernel_rfl) (by kernel_rfl) (.int .i64 ((k : Nat) : Int)) (fun _ => y_move (Eq.trans (by kernel_rfl) f_10)) ?_
      refine wk_pure (show opD kR16w1_7 1 = some (some 8, .assign (.tmp 27), 3, none) from by kernel_rfl) (by kernel_rfl) (.int .i64 ((k : Nat) : Int)) (fun _ => y_assign (by kernel_rfl)) ?_
      refine wk_nil ?_
      refine thn_n ?_
      refine g_seq (x := kN16w1_30) (y := kN16w1_31) (by kernel_rfl) ?_
      refine g_region (ops := kR16w1_8) (id := 8) (by kernel_rfl) [(0, .pure), (1, .pure), (2, .pure), (3, .pure), (4, .pure), (5, .pure)] (by kernel_rfl) (by kernel_rfl) ?_
      refine wk_pure (show opD kR16w1_8 0 = some (some 28, .move (.tmp 7), 3, none) from by kernel_rfl) (by kernel_rfl) (.int .i64 ((cst len n k : Nat) : Int)) (fun _ => y_move (Eq.trans (by kernel_rfl) f_11)) ?_
      refine wk_pure (show opD kR16w1_8 1 = some (some 29, .move (.tmp 0), 3, none) from by kernel_rfl) (by kernel_rfl) (.int .i64 ((len : Nat) : Int)) (fun _ => y_move (Eq.trans (by kernel_rfl) f_5)) ?_
      refine wk_pure (show opD kR16w1_8 2 = some (some 30, .move (.tmp 1), 3, none) from by kernel_rfl) (by kernel_rfl) (.int .i64 ((n : Nat) : Int)) (fun _ => y_move (Eq.trans (by kernel_rfl) f_6)) ?_
      refine wk_pure (show opD kR16w1_8 3 = some (some 31, .binOp .quo 3 (.tmp 29) (.tmp 30) 3, 3, none) from by kernel_rfl) (by kernel_rfl) (.int .i64 ((len / n : Nat) : Int)) (fun _ => y_quo (k := .i64) (a := ((len : Nat) : Int)) (b := ((n : Nat) : Int)) (by kernel_rfl) (by kernel_rfl) (by omega) (nat_quo (by omega))) ?_
      refine wk_pure (show opD kR16w1_8 4 = some (some 32, .binOp .add 3 (.tmp 28) (.tmp 31) 3, 3, none) from by kernel_rfl) (by kernel_rfl) (.int .i64 (((cst len n k) + (len / n) : Nat) : Int)) (fun _ => y_add (k := .i64) (a := ((cst len n k : Nat) : Int)) (b := ((len / n : Nat) : Int)) (by kernel_rfl) (by kernel_rfl) (i64_to (by omega) (by omega))) ?_
      refine wk_pure (show opD kR16w1_8 5 = some (some 9, .assign (.tmp 32), 3, none) from by kernel_rfl) (by kernel_rfl) (.int .i64 (((cst len n k) + (len / n) : Nat) : Int)) (fun _ => y_assign (by kernel_rfl)) ?_
      refine wk_nil ?_
      refine thn_n ?_
      refine g_seq (x := kN16w1_32) (y := kN16w1_33) (by kernel_rfl) ?_
      refine g_seq (x := kN16w1_34) (y := kN16w1_35) (by kernel_rfl) ?_
      refine g_region (ops := kR16w1_9) (id := 9) (by kernel_rfl) [(0, .pure), (1, .pure), (2, .pure), (3, .pure), (4, .pure)] (by kernel_rfl) (by kernel_rfl) ?_
      refine wk_pure (show opD kR16w1_9 0 = some (some 33, .move (.tmp 8), 3, none) from by kernel_rfl) (by kernel_rfl) (.int .i64 ((k : Nat) : Int)) (fun _ => y_move (by kernel_rfl)) ?_
      refine wk_pure (show opD kR16w1_9 1 = some (some 34, .move (.tmp 0), 3, none) from by kernel_rfl) (by kernel_rfl) (.int .i64 ((len : Nat) : Int)) (fun _ => y_move (Eq.trans (by kernel_rfl) f_5)) ?_
      refine wk_pure (show opD kR16w1_9 2 = some (some 35, .move (.tmp 1), 3, none) from by kernel_rfl) (by kernel_rfl) (.int .i64 ((n : Nat) : Int)) (fun _ => y_move (Eq.trans (by kernel_rfl) f_6)) ?_
      refine wk_pure (show opD kR16w1_9 3 = some (some 36, .binOp .rem 3 (.tmp 34) (.tmp 35) 3, 3, none) from by kernel_rfl) (by kernel_rfl) (.int .i64 ((len % n : Nat) : Int)) (fun _ => y_rem (k := .i64) (a := ((len : Nat) : Int)) (b := ((n : Nat) : Int)) (by kernel_rfl) (by kernel_rfl) (by omega) (nat_rem)) ?_
      by_cases h_15 : (((k : Nat) : Int) : Int) < ((len % n : Nat) : Int)
      · refine wk_pure (show opD kR16w1_9 4 = some (some 37, .binOp .lss 3 (.tmp 33) (.tmp 36) 3, 4, none) from by kernel_rfl) (by kernel_rfl) (.bool true) (fun _ => y_lss (k := .i64) (a := ((k : Nat) : Int)) (b := ((len % n : Nat) : Int)) (by kernel_rfl) (by kernel_rfl) (decide_eq_true h_15)) ?_
        refine wk_nil ?_
        refine thn_n ?_
        refine g_cond_t (o := .tmp 37) (x := kN16w1_36) (y := kN16w1_37) (by kernel_rfl) (by kernel_rfl) ?_
        refine g_region (ops := kR16w1_10) (id := 10) (by kernel_rfl) [(0, .pure), (1, .pure), (2, .pure)] (by kernel_rfl) (by kernel_rfl) ?_
        refine wk_pure (show opD kR16w1_10 0 = some (some 38, .move (.tmp 9), 3, none) from by kernel_rfl) (by kernel_rfl) (.int .i64 (((cst len n k) + (len / n) : Nat) : Int)) (fun _ => y_move (by kernel_rfl)) ?_
        refine wk_pure (show opD kR16w1_10 1 = some (some 39, .binOp .add 3 (.tmp 38) (.const (.int .i64 1)) 3, 3, none) from by kernel_rfl) (by kernel_rfl) (.int .i64 ((((cst len n k) + (len / n)) + 1 : Nat) : Int)) (fun _ => y_add (k := .i64) (a := (((cst len n k) + (len / n) : Nat) : Int)) (b := 1) (by kernel_rfl) (by kernel_rfl) (i64_to (by omega) (by omega))) ?_
        refine wk_pure (show opD kR16w1_10 2 = some (some 9, .assign (.tmp 39), 3, none) from by kernel_rfl) (by kernel_rfl) (.int .i64 ((((cst len n k) + (len / n)) + 1 : Nat) : Int)) (fun _ => y_assign (by kernel_rfl)) ?_
        refine wk_nil ?_
        refine thn_n ?_
        refine g_seq (x := kN16w1_38) (y := kN16w1_39) (by kernel_rfl) ?_
        refine g_region (ops := kR16w1_11) (id := 11) (by kernel_rfl) [(0, .pure), (1, .pure), (2, .pure), (3, .pure), (4, .loud), (5, .loud), (6, .pure)] (by kernel_rfl) (by kernel_rfl) ?_
        refine wk_pure (show opD kR16w1_11 0 = some (some 40, .move (.tmp 6), 49, none) from by kernel_rfl) (by kernel_rfl) (.slice a ((chk len n k).length) c) (fun _ => y_move (Eq.trans (by kernel_rfl) f_12)) ?_
        refine wk_pure (show opD kR16w1_11 1 = some (some 41, .move (.tmp 7), 3, none) from by kernel_rfl) (by kernel_rfl) (.int .i64 ((cst len n k : Nat) : Int)) (fun _ => y_move (Eq.trans (by kernel_rfl) f_11)) ?_
        refine wk_pure (show opD kR16w1_11 2 = some (some 42, .move (.tmp 9), 3, none) from by kernel_rfl) (by kernel_rfl) (.int .i64 ((((cst len n k) + (len / n)) + 1 : Nat) : Int)) (fun _ => y_move (by kernel_rfl)) ?_
        refine wk_pure (show opD kR16w1_11 3 = some (some 43, .build 63 #[(0, .tmp 41), (1, .tmp 42)], 63, none) from by kernel_rfl) (by kernel_rfl) (.agg #[.int .i64 ((cst len n k : Nat) : Int), .int .i64 ((((cst len n k) + (len / n)) + 1 : Nat) : Int)]) (fun _ => x_build (by kernel_rfl)) ?_
        refine wk_buildSlice (e := 63) (cs := #[.int .i64 ((cst len n k : Nat) : Int), .int .i64 ((((cst len n k) + (len / n)) + 1 : Nat) : Int)]) (show opD kR16w1_11 4 = some (some 44, .buildSlice 49 1 #[(0, .tmp 43)], 49, none) from by kernel_rfl) (by kernel_rfl) (by kernel_rfl) (fun w_16 b_17 eq_18 e_19 sz_20 hb_21 => ⟨?_, ?_⟩)
        · exact trivial
        have hs_22 : SlE w_16 2 (some ⟨b_17, 0, none⟩) b_17 0 encP [(cst len n k, ((cst len n k) + (len / n)) + 1)] := SlE.of_cells hb_21 encP_len (by rfl)
        have hb_32 : OwN w_16 63 2 a g c encP (chk len n k) rest := (e_19.keepOwN hr_13 (hg.imp id (fun h_ => List.not_mem_nil)))
        refine wk_append (M := ([(cst len n k, ((cst len n k) + (len / n)) + 1)])) (L := (chk len n k)) (a := a) (g := g) (c := c) (ax := (some ⟨b_17, 0, none⟩)) (bx := b_17) (offx := 0) (cx := 1) (e := 63) (sz := 2) (by_ := 16) (show opD kR16w1_11 5 = some (some 45, .call ⟨.builtin .append, #[.tmp 40, .tmp 44], #[49, 49]⟩, 49, none) from by kernel_rfl) (by kernel_rfl) (by kernel_rfl) (by kernel_rfl) encP_len (by kernel_rfl) hb_32 (by kernel_rfl) hs_22 (by simp) encP_one (by (rw [chk_len]; constructor <;> simp <;> omega)) (fun w_23 b_24 cap_25 rest_26 hb_27 e_28 sz_29 lt_30 ho_31 => ⟨?_, ?_⟩)
        · exact trivial
        have hsz_33 : w_16.heap.size ≤ w_23.heap.size := e_28.size
        refine wk_pure (show opD kR16w1_11 6 = some (some 6, .assign (.tmp 45), 49, none) from by kernel_rfl) (by kernel_rfl) (.slice (some ⟨b_24, 0, none⟩) (((chk len n k) ++ ([(cst len n k, ((cst len n k) + (len / n)) + 1)])).length) cap_25) (fun _ => y_assign (by kernel_rfl)) ?_
        refine wk_nil ?_
        refine thn_n ?_
        refine g_region (ops := kR16w1_12) (id := 12) (by kernel_rfl) [(0, .pure), (1, .pure)] (by kernel_rfl) (by kernel_rfl) ?_
        refine wk_pure (show opD kR16w1_12 0 = some (some 46, .move (.tmp 9), 3, none) from by kernel_rfl) (by kernel_rfl) (.int .i64 ((((cst len n k) + (len / n)) + 1 : Nat) : Int)) (fun _ => y_move (by kernel_rfl)) ?_
        refine wk_pure (show opD kR16w1_12 1 = some (some 7, .assign (.tmp 46), 3, none) from by kernel_rfl) (by kernel_rfl) (.int .i64 ((((cst len n k) + (len / n)) + 1 : Nat) : Int)) (fun _ => y_assign (by kernel_rfl)) ?_
        refine wk_nil ?_
        refine blk_n ?_
        refine thn_n ?_
        refine g_region (ops := kR16w1_13) (id := 13) (by kernel_rfl) [(0, .pure), (1, .pure)] (by kernel_rfl) (by kernel_rfl) ?_
        refine wk_pure (show opD kR16w1_13 0 = some (some 47, .binOp .add 3 (.tmp 25) (.const (.int .i64 1)) 3, 3, none) from by kernel_rfl) (by kernel_rfl) (.int .i64 ((k + 1 : Nat) : Int)) (fun _ => y_add (k := .i64) (a := ((k : Nat) : Int)) (b := 1) (Eq.trans (by kernel_rfl) f_10) (by kernel_rfl) (i64_to (by omega) (by omega))) ?_
        refine wk_pure (show opD kR16w1_13 1 = some (some 25, .move (.tmp 47), 3, none) from by kernel_rfl) (by kernel_rfl) (.int .i64 ((k + 1 : Nat) : Int)) (fun _ => y_move (by kernel_rfl)) ?_
        refine wk_nil ?_
        refine thn_n ?_
        have q_34 : ((cst len n k) + (len / n)) + 1 = cst len n (k + 1) := cst_succ_lt (by omega)
        exact ⟨_, (by omega), ⟨(k + 1), _, b_24, cap_25, rest_26, rfl, by omega, (Eq.trans (by kernel_rfl) f_5), (Eq.trans (by kernel_rfl) f_6), (Eq.trans (by kernel_rfl) f_7), (Eq.trans (by kernel_rfl) f_8), (Eq.trans (by kernel_rfl) f_9), (by kernel_rfl), (by rw [← q_34]; kernel_rfl), (by rw [chk_succ, ← q_34]; kernel_rfl), (.inr ⟨rfl, by rw [chk_succ, ← q_34]; exact ho_31⟩), (.inr (by rcases hb_27 with ⟨_, h_⟩ | ⟨h0_, h_⟩; {omega}; {have := hg.resolve_left h0_; omega})), (Ext.then (Ext.then hE_4 e_19 (fun _ h_ => absurd h_ List.not_mem_nil)) e_28 (ownL_new' hb_32 (hg.imp id (fun h_ => by omega))))⟩⟩
      · refine wk_pure (show opD kR16w1_9 4 = some (some 37, .binOp .lss 3 (.tmp 33) (.tmp 36) 3, 4, none) from by kernel_rfl) (by kernel_rfl) (.bool false) (fun _ => y_lss (k := .i64) (a := ((k : Nat) : Int)) (b := ((len % n : Nat) : Int)) (by kernel_rfl) (by kernel_rfl) (decide_eq_false h_15)) ?_
        refine wk_nil ?_
        refine thn_n ?_
        refine g_cond_f (o := .tmp 37) (x := kN16w1_36) (y := kN16w1_37) (by kernel_rfl) (by kernel_rfl) ?_
        refine g_skip (by kernel_rfl) ?_
        refine thn_n ?_
        refine g_seq (x := kN16w1_38) (y := kN16w1_39) (by kernel_rfl) ?_
        refine g_region (ops := kR16w1_11) (id := 11) (by kernel_rfl) [(0, .pure), (1, .pure), (2, .pure), (3, .pure), (4, .loud), (5, .loud), (6, .pure)] (by kernel_rfl) (by kernel_rfl) ?_
        refine wk_pure (show opD kR16w1_11 0 = some (some 40, .move (.tmp 6), 49, none) from by kernel_rfl) (by kernel_rfl) (.slice a ((chk len n k).length) c) (fun _ => y_move (Eq.trans (by kernel_rfl) f_12)) ?_
        refine wk_pure (show opD kR16w1_11 1 = some (some 41, .move (.tmp 7), 3, none) from by kernel_rfl) (by kernel_rfl) (.int .i64 ((cst len n k : Nat) : Int)) (fun _ => y_move (Eq.trans (by kernel_rfl) f_11)) ?_
        refine wk_pure (show opD kR16w1_11 2 = some (some 42, .move (.tmp 9), 3, none) from by kernel_rfl) (by kernel_rfl) (.int .i64 (((cst len n k) + (len / n) : Nat) : Int)) (fun _ => y_move (by kernel_rfl)) ?_
        refine wk_pure (show opD kR16w1_11 3 = some (some 43, .build 63 #[(0, .tmp 41), (1, .tmp 42)], 63, none) from by kernel_rfl) (by kernel_rfl) (.agg #[.int .i64 ((cst len n k : Nat) : Int), .int .i64 (((cst len n k) + (len / n) : Nat) : Int)]) (fun _ => x_build (by kernel_rfl)) ?_
        refine wk_buildSlice (e := 63) (cs := #[.int .i64 ((cst len n k : Nat) : Int), .int .i64 (((cst len n k) + (len / n) : Nat) : Int)]) (show opD kR16w1_11 4 = some (some 44, .buildSlice 49 1 #[(0, .tmp 43)], 49, none) from by kernel_rfl) (by kernel_rfl) (by kernel_rfl) (fun w_35 b_36 eq_37 e_38 sz_39 hb_40 => ⟨?_, ?_⟩)
        · exact trivial
        have hs_41 : SlE w_35 2 (some ⟨b_36, 0, none⟩) b_36 0 encP [(cst len n k, (cst len n k) + (len / n))] := SlE.of_cells hb_40 encP_len (by rfl)
        have hb_51 : OwN w_35 63 2 a g c encP (chk len n k) rest := (e_38.keepOwN hr_13 (hg.imp id (fun h_ => List.not_mem_nil)))
        refine wk_append (M := ([(cst len n k, (cst len n k) + (len / n))])) (L := (chk len n k)) (a := a) (g := g) (c := c) (ax := (some ⟨b_36, 0, none⟩)) (bx := b_36) (offx := 0) (cx := 1) (e := 63) (sz := 2) (by_ := 16) (show opD kR16w1_11 5 = some (some 45, .call ⟨.builtin .append, #[.tmp 40, .tmp 44], #[49, 49]⟩, 49, none) from by kernel_rfl) (by kernel_rfl) (by kernel_rfl) (by kernel_rfl) encP_len (by kernel_rfl) hb_51 (by kernel_rfl) hs_41 (by simp) encP_one (by (rw [chk_len]; constructor <;> simp <;> omega)) (fun w_42 b_43 cap_44 rest_45 hb_46 e_47 sz_48 lt_49 ho_50 => ⟨?_, ?_⟩)
        · exact trivial
        have hsz_52 : w_35.heap.size ≤ w_42.heap.size := e_47.size
        refine wk_pure (show opD kR16w1_11 6 = some (some 6, .assign (.tmp 45), 49, none) from by kernel_rfl) (by kernel_rfl) (.slice (some ⟨b_43, 0, none⟩) (((chk len n k) ++ ([(cst len n k, (cst len n k) + (len / n))])).length) cap_44) (fun _ => y_assign (by kernel_rfl)) ?_
        refine wk_nil ?_
        refine thn_n ?_
        refine g_region (ops := kR16w1_12) (id := 12) (by kernel_rfl) [(0, .pure), (1, .pure)] (by kernel_rfl) (by kernel_rfl) ?_
        refine wk_pure (show opD kR16w1_12 0 = some (some 46, .move (.tmp 9), 3, none) from by kernel_rfl) (by kernel_rfl) (.int .i64 (((cst len n k) + (len / n) : Nat) : Int)) (fun _ => y_move (by kernel_rfl)) ?_
        refine wk_pure (show opD kR16w1_12 1 = some (some 7, .assign (.tmp 46), 3, none) from by kernel_rfl) (by kernel_rfl) (.int .i64 (((cst len n k) + (len / n) : Nat) : Int)) (fun _ => y_assign (by kernel_rfl)) ?_
        refine wk_nil ?_
        refine blk_n ?_
        refine thn_n ?_
        refine g_region (ops := kR16w1_13) (id := 13) (by kernel_rfl) [(0, .pure), (1, .pure)] (by kernel_rfl) (by kernel_rfl) ?_
        refine wk_pure (show opD kR16w1_13 0 = some (some 47, .binOp .add 3 (.tmp 25) (.const (.int .i64 1)) 3, 3, none) from by kernel_rfl) (by kernel_rfl) (.int .i64 ((k + 1 : Nat) : Int)) (fun _ => y_add (k := .i64) (a := ((k : Nat) : Int)) (b := 1) (Eq.trans (by kernel_rfl) f_10) (by kernel_rfl) (i64_to (by omega) (by omega))) ?_
        refine wk_pure (show opD kR16w1_13 1 = some (some 25, .move (.tmp 47), 3, none) from by kernel_rfl) (by kernel_rfl) (.int .i64 ((k + 1 : Nat) : Int)) (fun _ => y_move (by kernel_rfl)) ?_
        refine wk_nil ?_
        refine thn_n ?_
        have q_53 : (cst len n k) + (len / n) = cst len n (k + 1) := cst_succ_ge (by omega)
        exact ⟨_, (by omega), ⟨(k + 1), _, b_43, cap_44, rest_45, rfl, by omega, (Eq.trans (by kernel_rfl) f_5), (Eq.trans (by kernel_rfl) f_6), (Eq.trans (by kernel_rfl) f_7), (Eq.trans (by kernel_rfl) f_8), (Eq.trans (by kernel_rfl) f_9), (by kernel_rfl), (by rw [← q_53]; kernel_rfl), (by rw [chk_succ, ← q_53]; kernel_rfl), (.inr ⟨rfl, by rw [chk_succ, ← q_53]; exact ho_50⟩), (.inr (by rcases hb_46 with ⟨_, h_⟩ | ⟨h0_, h_⟩; {omega}; {have := hg.resolve_left h0_; omega})), (Ext.then (Ext.then hE_4 e_38 (fun _ h_ => absurd h_ List.not_mem_nil)) e_47 (ownL_new' hb_51 (hg.imp id (fun h_ => by omega))))⟩⟩
    · refine wk_pure (show opD kR16w1_6 0 = some (some 26, .binOp .lss 3 (.tmp 25) (.tmp 24) 3, 4, none) from by kernel_rfl) (by kernel_rfl) (.bool false) (fun _ => y_lss (k := .i64) (a := ((k : Nat) : Int)) (b := ((n : Nat) : Int)) (Eq.trans (by kernel_rfl) f_10) (Eq.trans (by kernel_rfl) f_9) (decide_eq_false h_14)) ?_
      refine wk_nil ?_
      refine thn_n ?_
      refine g_seq (x := kN16w1_21) (y := kN16w1_22) (by kernel_rfl) ?_
      refine g_cond_f (o := .tmp 26) (x := kN16w1_23) (y := kN16w1_24) (by kernel_rfl) (by kernel_rfl) ?_
      refine g_exit (id := 0) (by kernel_rfl) ?_
      refine thn_e ?_
      refine thn_e ?_
      refine blk_hit ?_
      refine thn_n ?_
      refine g_seq (x := kN16w1_40) (y := kN16w1_41) (by kernel_rfl) ?_
      refine g_region (ops := kR16w1_14) (id := 14) (by kernel_rfl) [(0, .pure), (1, .pure), (2, .pure)] (by kernel_rfl) (by kernel_rfl) ?_
      refine wk_pure (show opD kR16w1_14 0 = some (some 48, .move (.tmp 6), 49, none) from by kernel_rfl) (by kernel_rfl) (.slice a ((chk len n k).length) c) (fun _ => y_move (Eq.trans (by kernel_rfl) f_12)) ?_
      refine wk_pure (show opD kR16w1_14 1 = some (some 4, .assign (.tmp 48), 49, none) from by kernel_rfl) (by kernel_rfl) (.slice a ((chk len n k).length) c) (fun _ => y_assign (by kernel_rfl)) ?_
      refine wk_pure (show opD kR16w1_14 2 = some (some 5, .assign (.const (.int .i64 0)), 28, none) from by kernel_rfl) (by kernel_rfl) (.int .i64 0) (fun _ => y_assign (by kernel_rfl)) ?_
      refine wk_nil ?_
      refine thn_n ?_
      refine g_ret (by kernel_rfl) ?_
      refine ends2_r (v := .slice a ((chk len n k).length) c) (v' := .int .i64 0) rfl (by kernel_rfl) (by kernel_rfl) ?_
      obtain rfl : k = n := by omega
      obtain ⟨rfl, hO⟩ := hr_13.own (by rw [chk_len]; omega)
      have hlt := hO.lt
      have hg' := hg.resolve_left (by simp)
      have hle := hO.le
      exact (by exact hK _ g c rest (Ext.then (Ext.refl [] _) hE_4 (fun _ h_ => absurd h_ List.not_mem_nil)) hO (by omega) hlt (by rw [chk_len] at hle; exact hle))

theorem wide_eq {x y : Int} : (hiOf x = hiOf y ∧ loOf x = loOf y) ↔ x = y := by unfold hiOf loOf; omega
theorem list_ext_getD {L M : List Int} (h : L.length = M.length) (k : Nat) (hk : L.length ≤ k) (ha : ∀ j, j < k → L.getD j 0 = M.getD j 0) : L = M := by
  refine List.ext_getElem h fun i h1 h2 => ?_
  have := ha i (by omega)
  simpa [List.getD, h1, h2] using this

noncomputable def kN12w2_0 : Code := (Try.f12.body).getD .skip
noncomputable def kN12w2_1 : Code := s1 kN12w2_0
noncomputable def kN12w2_2 : Code := s2 kN12w2_0
noncomputable def kR12w2_0 : Array Oper := rops kN12w2_1
noncomputable def kN12w2_3 : Code := s1 kN12w2_2
noncomputable def kN12w2_4 : Code := s2 kN12w2_2
noncomputable def kN12w2_5 : Code := s1 kN12w2_3
noncomputable def kN12w2_6 : Code := s2 kN12w2_3
noncomputable def kR12w2_1 : Array Oper := rops kN12w2_5
noncomputable def kN12w2_7 : Code := s1 kN12w2_6
noncomputable def kN12w2_8 : Code := s2 kN12w2_6
noncomputable def kN12w2_9 : Code := s1 kN12w2_7
noncomputable def kN12w2_10 : Code := s2 kN12w2_7
noncomputable def kR12w2_2 : Array Oper := rops kN12w2_9
noncomputable def kN12w2_11 : Code := s1 kN12w2_4
noncomputable def kN12w2_12 : Code := s2 kN12w2_4
noncomputable def kN12w2_13 : Code := s1 kN12w2_11
noncomputable def kN12w2_14 : Code := s2 kN12w2_11
noncomputable def kR12w2_3 : Array Oper := rops kN12w2_13
noncomputable def kN12w2_15 : Code := s1 kN12w2_14
noncomputable def kN12w2_16 : Code := s1 kN12w2_15
noncomputable def kN12w2_17 : Code := s1 kN12w2_16
noncomputable def kN12w2_18 : Code := s2 kN12w2_16
noncomputable def kN12w2_19 : Code := s1 kN12w2_17
noncomputable def kN12w2_20 : Code := s2 kN12w2_17
noncomputable def kR12w2_4 : Array Oper := rops kN12w2_19
noncomputable def kN12w2_21 : Code := s1 kN12w2_20
noncomputable def kN12w2_22 : Code := s2 kN12w2_20
noncomputable def kN12w2_23 : Code := s1 kN12w2_18
noncomputable def kN12w2_24 : Code := s2 kN12w2_18
noncomputable def kN12w2_25 : Code := s1 kN12w2_23
noncomputable def kN12w2_26 : Code := s1 kN12w2_25
noncomputable def kN12w2_27 : Code := s2 kN12w2_25
noncomputable def kR12w2_6 : Array Oper := rops kN12w2_26
noncomputable def kN12w2_28 : Code := s1 kN12w2_27
noncomputable def kN12w2_29 : Code := s2 kN12w2_27
noncomputable def kN12w2_30 : Code := s1 kN12w2_28
noncomputable def kN12w2_31 : Code := s2 kN12w2_28
noncomputable def kR12w2_7 : Array Oper := rops kN12w2_30
noncomputable def kR12w2_5 : Array Oper := rops kN12w2_24
noncomputable def kN12w2_32 : Code := s1 kN12w2_12
noncomputable def kN12w2_33 : Code := s2 kN12w2_12
noncomputable def kR12w2_8 : Array Oper := rops kN12w2_32
theorem wides_c {a b : Option Addr} {ba offa bb offb ca cb : Nat} {L M : List Int} {w : World} (ha : SlE w 2 a ba offa encW L) (hb : SlE w 2 b bb offb encW M) (hl : L.length ≤ 1000 ∧ M.length ≤ 1000) {K : Value → World → Prop} (hK : ∀ w' t, SameMem w w' → t = decide (L = M) → K (.bool t) w') : CallsV Try.prog 12 #[.slice a L.length ca, .slice b M.length cb] w K := by
  refine callsV_of (c := kN12w2_0) Try.func12 (by kernel_rfl) (n := 26) (by kernel_rfl) ?_
  refine g_seq (x := kN12w2_1) (y := kN12w2_2) (by kernel_rfl) ?_
  refine g_region (ops := kR12w2_0) (id := 0) (by kernel_rfl) [(0, .pure)] (by kernel_rfl) (by kernel_rfl) ?_
  refine wk_pure (show opD kR12w2_0 0 = some (some 4, .assign (.const (.bool false)), 4, none) from by kernel_rfl) (by kernel_rfl) (.bool false) (fun _ => y_assign (by kernel_rfl)) ?_
  refine wk_nil ?_
  refine thn_n ?_
  refine g_seq (x := kN12w2_3) (y := kN12w2_4) (by kernel_rfl) ?_
  refine g_seq (x := kN12w2_5) (y := kN12w2_6) (by kernel_rfl) ?_
  refine g_region (ops := kR12w2_1) (id := 1) (by kernel_rfl) [(0, .pure), (1, .pure), (2, .pure), (3, .pure), (4, .pure)] (by kernel_rfl) (by kernel_rfl) ?_
  refine wk_pure (show opD kR12w2_1 0 = some (some 6, .move (.tmp 0), 25, none) from by kernel_rfl) (by kernel_rfl) (.slice a L.length ca) (fun _ => y_move (by kernel_rfl)) ?_
  refine wk_pure (show opD kR12w2_1 1 = some (some 7, .call ⟨.builtin .len, #[.tmp 6], #[25]⟩, 3, none) from by kernel_rfl) (by kernel_rfl) (.int .i64 ((L.length : Nat) : Int)) (fun _ => x_len (a := a) (n := L.length) (c := ca) (by kernel_rfl) (by kernel_rfl)) ?_
  refine wk_pure (show opD kR12w2_1 2 = some (some 8, .move (.tmp 1), 25, none) from by kernel_rfl) (by kernel_rfl) (.slice b M.length cb) (fun _ => y_move (by kernel_rfl)) ?_
  refine wk_pure (show opD kR12w2_1 3 = some (some 9, .call ⟨.builtin .len, #[.tmp 8], #[25]⟩, 3, none) from by kernel_rfl) (by kernel_rfl) (.int .i64 ((M.length : Nat) : Int)) (fun _ => x_len (a := b) (n := M.length) (c := cb) (by kernel_rfl) (by kernel_rfl)) ?_
  by_cases h_1 : (((L.length : Nat) : Int) : Int) ≠ ((M.length : Nat) : Int)
  · refine wk_pure (show opD kR12w2_1 4 = some (some 10, .binOp .neq 3 (.tmp 7) (.tmp 9) 3, 4, none) from by kernel_rfl) (by kernel_rfl) (.bool true) (fun _ => y_neq (k := .i64) (a := ((L.length : Nat) : Int)) (b := ((M.length : Nat) : Int)) (by kernel_rfl) (by kernel_rfl) (decide_eq_true h_1)) ?_
    refine wk_nil ?_
    refine thn_n ?_
    refine g_cond_t (o := .tmp 10) (x := kN12w2_7) (y := kN12w2_8) (by kernel_rfl) (by kernel_rfl) ?_
    refine g_seq (x := kN12w2_9) (y := kN12w2_10) (by kernel_rfl) ?_
    refine g_region (ops := kR12w2_2) (id := 2) (by kernel_rfl) [(0, .pure)] (by kernel_rfl) (by kernel_rfl) ?_
    refine wk_pure (show opD kR12w2_2 0 = some (some 4, .assign (.const (.bool false)), 4, none) from by kernel_rfl) (by kernel_rfl) (.bool false) (fun _ => y_assign (by kernel_rfl)) ?_
    refine wk_nil ?_
    refine thn_n ?_
    refine g_ret (by kernel_rfl) ?_
    refine thn_r ?_
    refine ends1_r (v := .bool false) rfl (by kernel_rfl) ?_
    exact hK _ _ (SameMem.refl _) (decide_eq_false (fun e_ => by subst e_; omega)).symm
  · refine wk_pure (show opD kR12w2_1 4 = some (some 10, .binOp .neq 3 (.tmp 7) (.tmp 9) 3, 4, none) from by kernel_rfl) (by kernel_rfl) (.bool false) (fun _ => y_neq (k := .i64) (a := ((L.length : Nat) : Int)) (b := ((M.length : Nat) : Int)) (by kernel_rfl) (by kernel_rfl) (decide_eq_false h_1)) ?_
    refine wk_nil ?_
    refine thn_n ?_
    refine g_cond_f (o := .tmp 10) (x := kN12w2_7) (y := kN12w2_8) (by kernel_rfl) (by kernel_rfl) ?_
    refine g_skip (by kernel_rfl) ?_
    refine thn_n ?_
    refine g_seq (x := kN12w2_11) (y := kN12w2_12) (by kernel_rfl) ?_
    refine g_seq (x := kN12w2_13) (y := kN12w2_14) (by kernel_rfl) ?_
    refine g_region (ops := kR12w2_3) (id := 3) (by kernel_rfl) [(0, .pure)] (by kernel_rfl) (by kernel_rfl) ?_
    refine wk_pure (show opD kR12w2_3 0 = some (some 5, .assign (.const (.int .i64 0)), 3, none) from by kernel_rfl) (by kernel_rfl) (.int .i64 0) (fun _ => y_assign (by kernel_rfl)) ?_
    refine wk_nil ?_
    refine thn_n ?_
    refine g_block (x := kN12w2_15) (id := 0) (by kernel_rfl) ?_
    refine g_loop (x := kN12w2_16) (by kernel_rfl) (fun m_ ρ_ w_ => ∃ (k : Nat), m_ = L.length - k ∧ (k ≤ L.length) ∧ (∀ j, j < k → L.getD j 0 = M.getD j 0) ∧ ρ_ 0 = .slice a L.length ca ∧ ρ_ 1 = .slice b M.length cb ∧ ρ_ 5 = .int .i64 ((k : Nat) : Int) ∧ SameMem w w_) (L.length - 0) ?_ ?_
    · exact ⟨0, rfl, by omega, by intro j hj; omega, (by kernel_rfl), (by kernel_rfl), (by kernel_rfl), SameMem.refl _⟩
    · intro m_2 ρ_3 w_4 hI
      obtain ⟨k, hm_m_2, hk, hal, f_6, f_7, f_8, hE_5⟩ := hI
      have hs_w_4 := (hE_5.ext []).size
      refine g_seq (x := kN12w2_17) (y := kN12w2_18) (by kernel_rfl) ?_
      refine g_seq (x := kN12w2_19) (y := kN12w2_20) (by kernel_rfl) ?_
      refine g_region (ops := kR12w2_4) (id := 4) (by kernel_rfl) [(0, .pure), (1, .pure), (2, .pure), (3, .pure)] (by kernel_rfl) (by kernel_rfl) ?_
      refine wk_pure (show opD kR12w2_4 0 = some (some 11, .move (.tmp 5), 3, none) from by kernel_rfl) (by kernel_rfl) (.int .i64 ((k : Nat) : Int)) (fun _ => y_move (Eq.trans (by kernel_rfl) f_8)) ?_
      refine wk_pure (show opD kR12w2_4 1 = some (some 12, .move (.tmp 0), 25, none) from by kernel_rfl) (by kernel_rfl) (.slice a L.length ca) (fun _ => y_move (Eq.trans (by kernel_rfl) f_6)) ?_
      refine wk_pure (show opD kR12w2_4 2 = some (some 13, .call ⟨.builtin .len, #[.tmp 12], #[25]⟩, 3, none) from by kernel_rfl) (by kernel_rfl) (.int .i64 ((L.length : Nat) : Int)) (fun _ => x_len (a := a) (n := L.length) (c := ca) (by kernel_rfl) (by kernel_rfl)) ?_
      by_cases h_9 : (((k : Nat) : Int) : Int) < ((L.length : Nat) : Int)
      · refine wk_pure (show opD kR12w2_4 3 = some (some 14, .binOp .lss 3 (.tmp 11) (.tmp 13) 3, 4, none) from by kernel_rfl) (by kernel_rfl) (.bool true) (fun _ => y_lss (k := .i64) (a := ((k : Nat) : Int)) (b := ((L.length : Nat) : Int)) (by kernel_rfl) (by kernel_rfl) (decide_eq_true h_9)) ?_
        refine wk_nil ?_
        refine thn_n ?_
        refine g_cond_t (o := .tmp 14) (x := kN12w2_21) (y := kN12w2_22) (by kernel_rfl) (by kernel_rfl) ?_
        refine g_skip (by kernel_rfl) ?_
        refine thn_n ?_
        refine g_seq (x := kN12w2_23) (y := kN12w2_24) (by kernel_rfl) ?_
        refine g_block (x := kN12w2_25) (id := 1) (by kernel_rfl) ?_
        refine g_seq (x := kN12w2_26) (y := kN12w2_27) (by kernel_rfl) ?_
        refine g_draw (ops := kR12w2_6) (id := 6) (by kernel_rfl) (fun _ _ => True) [(0, .pure), (1, .pure), (2, .pure), (4, .pure), (5, .pure), (6, .pure), (3, .read), (7, .read), (8, .pure)] (by kernel_rfl) (by kernel_rfl) (fun _ => trivial) (fun w_10 sm_11 => ?_)
        have hsz_12 : w_10.heap.size = w_4.heap.size := by rw [sm_11.heap]
        refine wk_pure (show opD kR12w2_6 0 = some (some 17, .move (.tmp 0), 25, none) from by kernel_rfl) (by kernel_rfl) (.slice a L.length ca) (fun _ => y_move (Eq.trans (by kernel_rfl) f_6)) ?_
        refine wk_pure (show opD kR12w2_6 1 = some (some 18, .move (.tmp 5), 3, none) from by kernel_rfl) (by kernel_rfl) (.int .i64 ((k : Nat) : Int)) (fun _ => y_move (Eq.trans (by kernel_rfl) f_8)) ?_
        have hb_13 : SlE w_10 2 a ba offa encW L := (sm_11.keepSl (hE_5.keepSl ha))
        refine wk_pure (show opD kR12w2_6 2 = some (some 19, .indexAddr 25 (.tmp 17) (.tmp 18), 0, none) from by kernel_rfl) (by kernel_rfl) (.pointer (some ⟨ba, offa + (k * 2 + 0), none⟩)) (fun _ => y_ptr (x_indexN (a := a) (b := ba) (off := offa) (n := L.length) (c := ca) (k := .i64) (i := ((k : Nat) : Int)) (e := 33) (sz := 2) (sz' := 2) (by kernel_rfl) hb_13 (by kernel_rfl) (by kernel_rfl) rfl (by omega) _) (by omega)) ?_
        refine wk_pure (show opD kR12w2_6 4 = some (some 21, .move (.tmp 1), 25, none) from by kernel_rfl) (by kernel_rfl) (.slice b M.length cb) (fun _ => y_move (Eq.trans (by kernel_rfl) f_7)) ?_
        refine wk_pure (show opD kR12w2_6 5 = some (some 22, .move (.tmp 5), 3, none) from by kernel_rfl) (by kernel_rfl) (.int .i64 ((k : Nat) : Int)) (fun _ => y_move (Eq.trans (by kernel_rfl) f_8)) ?_
        have hb_14 : SlE w_10 2 b bb offb encW M := (sm_11.keepSl (hE_5.keepSl hb))
        refine wk_pure (show opD kR12w2_6 6 = some (some 23, .indexAddr 25 (.tmp 21) (.tmp 22), 0, none) from by kernel_rfl) (by kernel_rfl) (.pointer (some ⟨bb, offb + (k * 2 + 0), none⟩)) (fun _ => y_ptr (x_indexN (a := b) (b := bb) (off := offb) (n := M.length) (c := cb) (k := .i64) (i := ((k : Nat) : Int)) (e := 33) (sz := 2) (sz' := 2) (by kernel_rfl) hb_14 (by kernel_rfl) (by kernel_rfl) rfl (by omega) _) (by omega)) ?_
        refine wk_read (show opD kR12w2_6 3 = some (some 20, .load 33 (.tmp 19), 33, none) from by kernel_rfl) (by kernel_rfl) (.agg #[.int .i64 (hiOf (L.getD k 0)), .int .u64 (loOf (L.getD k 0))]) (fun w'_ g_ => x_load_cs (b := ba) (off := (offa + (k * 2 + 0))) (n := 2) (vs := [.int .i64 (hiOf (L.getD k 0)), .int .u64 (loOf (L.getD k 0))]) (by kernel_rfl) (by kernel_rfl) rfl (SlE.getN (g_.keepSl hb_13) encW_len 0 k 0 (by omega) rfl)) ?_
        refine wk_read (show opD kR12w2_6 7 = some (some 24, .load 33 (.tmp 23), 33, none) from by kernel_rfl) (by kernel_rfl) (.agg #[.int .i64 (hiOf (M.getD k 0)), .int .u64 (loOf (M.getD k 0))]) (fun w'_ g_ => x_load_cs (b := bb) (off := (offb + (k * 2 + 0))) (n := 2) (vs := [.int .i64 (hiOf (M.getD k 0)), .int .u64 (loOf (M.getD k 0))]) (by kernel_rfl) (by kernel_rfl) rfl (SlE.getN (g_.keepSl hb_14) encW_len 0 k 0 (by omega) rfl)) ?_
        by_cases h_15 : ¬ (((hiOf (L.getD k 0)) : Int) = (hiOf (M.getD k 0)) ∧ ((loOf (L.getD k 0)) : Int) = (loOf (M.getD k 0)))
        · refine wk_pure (show opD kR12w2_6 8 = some (some 25, .binOp .neq 33 (.tmp 20) (.tmp 24) 33, 4, none) from by kernel_rfl) (by kernel_rfl) (.bool true) (fun _ => y_neq2 (k1 := .i64) (k2 := .u64) (a := (hiOf (L.getD k 0))) (b := (loOf (L.getD k 0))) (c := (hiOf (M.getD k 0))) (d := (loOf (M.getD k 0))) (by kernel_rfl) (by kernel_rfl) (by kernel_rfl) (decide_eq_true h_15)) ?_
          refine wk_nil ?_
          refine thn_n ?_
          refine g_cond_t (o := .tmp 25) (x := kN12w2_28) (y := kN12w2_29) (by kernel_rfl) (by kernel_rfl) ?_
          refine g_seq (x := kN12w2_30) (y := kN12w2_31) (by kernel_rfl) ?_
          refine g_region (ops := kR12w2_7) (id := 7) (by kernel_rfl) [(0, .pure)] (by kernel_rfl) (by kernel_rfl) ?_
          refine wk_pure (show opD kR12w2_7 0 = some (some 4, .assign (.const (.bool false)), 4, none) from by kernel_rfl) (by kernel_rfl) (.bool false) (fun _ => y_assign (by kernel_rfl)) ?_
          refine wk_nil ?_
          refine thn_n ?_
          refine g_ret (by kernel_rfl) ?_
          refine blk_r ?_
          refine thn_r ?_
          refine thn_r ?_
          refine blk_r ?_
          refine thn_r ?_
          refine ends1_r (v := .bool false) rfl (by kernel_rfl) ?_
          exact hK _ _ (SameMem.trans (SameMem.trans (SameMem.refl _) hE_5) sm_11) (decide_eq_false (fun e_ => by subst e_; omega)).symm
        · refine wk_pure (show opD kR12w2_6 8 = some (some 25, .binOp .neq 33 (.tmp 20) (.tmp 24) 33, 4, none) from by kernel_rfl) (by kernel_rfl) (.bool false) (fun _ => y_neq2 (k1 := .i64) (k2 := .u64) (a := (hiOf (L.getD k 0))) (b := (loOf (L.getD k 0))) (c := (hiOf (M.getD k 0))) (d := (loOf (M.getD k 0))) (by kernel_rfl) (by kernel_rfl) (by kernel_rfl) (decide_eq_false h_15)) ?_
          refine wk_nil ?_
          refine thn_n ?_
          refine g_cond_f (o := .tmp 25) (x := kN12w2_28) (y := kN12w2_29) (by kernel_rfl) (by kernel_rfl) ?_
          refine g_skip (by kernel_rfl) ?_
          refine blk_n ?_
          refine thn_n ?_
          refine g_region (ops := kR12w2_5) (id := 5) (by kernel_rfl) [(0, .pure), (1, .pure), (2, .pure)] (by kernel_rfl) (by kernel_rfl) ?_
          refine wk_pure (show opD kR12w2_5 0 = some (some 15, .move (.tmp 5), 3, none) from by kernel_rfl) (by kernel_rfl) (.int .i64 ((k : Nat) : Int)) (fun _ => y_move (Eq.trans (by kernel_rfl) f_8)) ?_
          refine wk_pure (show opD kR12w2_5 1 = some (some 16, .binOp .add 3 (.tmp 15) (.const (.int .i64 1)) 3, 3, none) from by kernel_rfl) (by kernel_rfl) (.int .i64 ((k + 1 : Nat) : Int)) (fun _ => y_add (k := .i64) (a := ((k : Nat) : Int)) (b := 1) (by kernel_rfl) (by kernel_rfl) (i64_to (by omega) (by omega))) ?_
          refine wk_pure (show opD kR12w2_5 2 = some (some 5, .assign (.tmp 16), 3, none) from by kernel_rfl) (by kernel_rfl) (.int .i64 ((k + 1 : Nat) : Int)) (fun _ => y_assign (by kernel_rfl)) ?_
          refine wk_nil ?_
          refine thn_n ?_
          exact ⟨_, (by omega), ⟨(k + 1), rfl, by omega, by intro j hj; rcases Nat.lt_succ_iff_lt_or_eq.1 hj with h_ | rfl; {exact hal j h_}; {exact wide_eq.1 (Decidable.not_not.1 h_15)}, (Eq.trans (by kernel_rfl) f_6), (Eq.trans (by kernel_rfl) f_7), (by kernel_rfl), (SameMem.trans hE_5 sm_11)⟩⟩
      · refine wk_pure (show opD kR12w2_4 3 = some (some 14, .binOp .lss 3 (.tmp 11) (.tmp 13) 3, 4, none) from by kernel_rfl) (by kernel_rfl) (.bool false) (fun _ => y_lss (k := .i64) (a := ((k : Nat) : Int)) (b := ((L.length : Nat) : Int)) (by kernel_rfl) (by kernel_rfl) (decide_eq_false h_9)) ?_
        refine wk_nil ?_
        refine thn_n ?_
        refine g_cond_f (o := .tmp 14) (x := kN12w2_21) (y := kN12w2_22) (by kernel_rfl) (by kernel_rfl) ?_
        refine g_exit (id := 0) (by kernel_rfl) ?_
        refine thn_e ?_
        refine thn_e ?_
        refine blk_hit ?_
        refine thn_n ?_
        refine g_seq (x := kN12w2_32) (y := kN12w2_33) (by kernel_rfl) ?_
        refine g_region (ops := kR12w2_8) (id := 8) (by kernel_rfl) [(0, .pure)] (by kernel_rfl) (by kernel_rfl) ?_
        refine wk_pure (show opD kR12w2_8 0 = some (some 4, .assign (.const (.bool true)), 4, none) from by kernel_rfl) (by kernel_rfl) (.bool true) (fun _ => y_assign (by kernel_rfl)) ?_
        refine wk_nil ?_
        refine thn_n ?_
        refine g_ret (by kernel_rfl) ?_
        refine ends1_r (v := .bool true) rfl (by kernel_rfl) ?_
        exact hK _ _ (SameMem.trans (SameMem.refl _) hE_5) (decide_eq_true (list_ext_getD (by omega) k (by omega) hal)).symm

end Go.Proofs.Ytjdlgidacnphpaa
