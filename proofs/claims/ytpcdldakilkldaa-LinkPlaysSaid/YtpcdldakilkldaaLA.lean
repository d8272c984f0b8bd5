/-
  Links: contracts of functions, step by step (A).
-/
import Derived.Test.YtpcdldakilkldaaLDefs
set_option linter.unusedSimpArgs false
set_option linter.unusedVariables false
namespace Go.Proofs.Ytpcdldakilkldaa
open Go Go.Wk

noncomputable def lAN1_0 : Code := (Try.f24.body).getD .skip
noncomputable def lAN1_1 : Code := s1 lAN1_0
noncomputable def lAN1_2 : Code := s2 lAN1_0
noncomputable def lAR1_0 : Array Oper := rops lAN1_1
noncomputable def lAN1_3 : Code := s1 lAN1_2
noncomputable def lAN1_4 : Code := s2 lAN1_2
noncomputable def lAR1_1 : Array Oper := rops lAN1_3
theorem worker_c {n : Int} {w : World} {t : Bool} (ht : decide (0 ≤ n ∧ n < 16) = t) {K : Value → World → Prop} (hK : ∀ w', SameMem w w' → K (.bool t) w') : CallsV Try.prog 24 #[.int .i64 n] w K := by
  refine callsV_of (c := lAN1_0) Try.func24 (by kernel_rfl) (n := 9) (by kernel_rfl) ?_
  refine g_seq (x := lAN1_1) (y := lAN1_2) (by kernel_rfl) ?_
  refine g_region (ops := lAR1_0) (id := 0) (by kernel_rfl) [pu 0] (by kernel_rfl) (by kernel_rfl) ?_
  refine wpa 2 (.const (.bool false)) 4 (.bool false) ?_
  refine wk_nil ?_
  refine thn_n ?_
  refine g_seq (x := lAN1_3) (y := lAN1_4) (by kernel_rfl) ?_
  refine g_region (ops := lAR1_1) (id := 1) (by kernel_rfl) [pu 0, pu 1, pu 2, pu 3, pu 4, pu 5, pu 6] (by kernel_rfl) (by kernel_rfl) ?_
  refine wpm 3 (.tmp 0) 3 (.int .i64 n) ?_
  by_cases h_1 : (0 : Int) ≤ n
  · refine wk_pure (opd 4 (.binOp .geq 3 (.tmp 3) (.const (.int .i64 0)) 3) 4) rfl (.bool true) (fun _ => y_geq (k := .i64) (a := n) (b := 0) (by kernel_rfl) (by kernel_rfl) (decide_eq_true h_1)) ?_
    refine wpm 5 (.tmp 4) 4 (.bool true) ?_
    refine wk_pure (opg 6 (.move (.tmp 0)) 3 2 true) (by kernel_rfl) (.int .i64 n) (fun _ => y_move (by kernel_rfl)) ?_
    by_cases h_2 : (n : Int) < 16
    · refine wk_pure (opg 7 (.binOp .lss 3 (.tmp 6) (.const (.int .i64 16)) 3) 4 2 true) (by kernel_rfl) (.bool true) (fun _ => y_lss (k := .i64) (a := n) (b := 16) (by kernel_rfl) (by kernel_rfl) (decide_eq_true h_2)) ?_
      refine wpt 8 (.tmp 5) (.tmp 7) (.const (.bool false)) 4 (.bool true) ?_
      refine wpa 2 (.tmp 8) 4 (.bool true) ?_
      refine wk_nil ?_
      refine thn_n ?_
      refine g_ret (by kernel_rfl) ?_
      refine ends1_r (v := .bool true) rfl (by kernel_rfl) ?_
      have e_ : true = t := by rw [← ht]; exact (decide_eq_true (by omega)).symm
      rw [e_]
      exact hK _ (SameMem.refl _)
    refine wk_pure (opg 7 (.binOp .lss 3 (.tmp 6) (.const (.int .i64 16)) 3) 4 2 true) (by kernel_rfl) (.bool false) (fun _ => y_lss (k := .i64) (a := n) (b := 16) (by kernel_rfl) (by kernel_rfl) (decide_eq_false h_2)) ?_
    refine wpt 8 (.tmp 5) (.tmp 7) (.const (.bool false)) 4 (.bool false) ?_
    refine wpa 2 (.tmp 8) 4 (.bool false) ?_
    refine wk_nil ?_
    refine thn_n ?_
    refine g_ret (by kernel_rfl) ?_
    refine ends1_r (v := .bool false) rfl (by kernel_rfl) ?_
    have e_ : false = t := by rw [← ht]; exact (decide_eq_false (by omega)).symm
    rw [e_]
    exact hK _ (SameMem.refl _)
  refine wk_pure (opd 4 (.binOp .geq 3 (.tmp 3) (.const (.int .i64 0)) 3) 4) rfl (.bool false) (fun _ => y_geq (k := .i64) (a := n) (b := 0) (by kernel_rfl) (by kernel_rfl) (decide_eq_false h_1)) ?_
  refine wpm 5 (.tmp 4) 4 (.bool false) ?_
  refine wks 6 ?_
  refine wks 7 ?_
  refine wpk 8 (.tmp 5) (.tmp 7) (.const (.bool false)) 4 (.bool false) ?_
  refine wpa 2 (.tmp 8) 4 (.bool false) ?_
  refine wk_nil ?_
  refine thn_n ?_
  refine g_ret (by kernel_rfl) ?_
  refine ends1_r (v := .bool false) rfl (by kernel_rfl) ?_
  have e_ : false = t := by rw [← ht]; exact (decide_eq_false (by omega)).symm
  rw [e_]
  exact hK _ (SameMem.refl _)

noncomputable def lAN2_0 : Code := (Try.f46.body).getD .skip
noncomputable def lAN2_1 : Code := s1 lAN2_0
noncomputable def lAN2_2 : Code := s2 lAN2_0
noncomputable def lAR2_0 : Array Oper := rops lAN2_1
noncomputable def lAN2_3 : Code := s1 lAN2_2
noncomputable def lAN2_4 : Code := s2 lAN2_2
noncomputable def lAR2_1 : Array Oper := rops lAN2_3
theorem fworker_c {n : Int} {w : World} {t : Bool} (ht : decide (0 ≤ n ∧ n < 16) = t) {K : Value → World → Prop} (hK : ∀ w', SameMem w w' → K (.bool t) w') : CallsV Try.prog 46 #[.int .i64 n] w K := by
  refine callsV_of (c := lAN2_0) Try.func46 (by kernel_rfl) (n := 9) (by kernel_rfl) ?_
  refine g_seq (x := lAN2_1) (y := lAN2_2) (by kernel_rfl) ?_
  refine g_region (ops := lAR2_0) (id := 0) (by kernel_rfl) [pu 0] (by kernel_rfl) (by kernel_rfl) ?_
  refine wpa 2 (.const (.bool false)) 4 (.bool false) ?_
  refine wk_nil ?_
  refine thn_n ?_
  refine g_seq (x := lAN2_3) (y := lAN2_4) (by kernel_rfl) ?_
  refine g_region (ops := lAR2_1) (id := 1) (by kernel_rfl) [pu 0, pu 1, pu 2, pu 3, pu 4, pu 5, pu 6] (by kernel_rfl) (by kernel_rfl) ?_
  refine wpm 3 (.tmp 0) 3 (.int .i64 n) ?_
  by_cases h_1 : (0 : Int) ≤ n
  · refine wk_pure (opd 4 (.binOp .geq 3 (.tmp 3) (.const (.int .i64 0)) 3) 4) rfl (.bool true) (fun _ => y_geq (k := .i64) (a := n) (b := 0) (by kernel_rfl) (by kernel_rfl) (decide_eq_true h_1)) ?_
    refine wpm 5 (.tmp 4) 4 (.bool true) ?_
    refine wk_pure (opg 6 (.move (.tmp 0)) 3 2 true) (by kernel_rfl) (.int .i64 n) (fun _ => y_move (by kernel_rfl)) ?_
    by_cases h_2 : (n : Int) < 16
    · refine wk_pure (opg 7 (.binOp .lss 3 (.tmp 6) (.const (.int .i64 16)) 3) 4 2 true) (by kernel_rfl) (.bool true) (fun _ => y_lss (k := .i64) (a := n) (b := 16) (by kernel_rfl) (by kernel_rfl) (decide_eq_true h_2)) ?_
      refine wpt 8 (.tmp 5) (.tmp 7) (.const (.bool false)) 4 (.bool true) ?_
      refine wpa 2 (.tmp 8) 4 (.bool true) ?_
      refine wk_nil ?_
      refine thn_n ?_
      refine g_ret (by kernel_rfl) ?_
      refine ends1_r (v := .bool true) rfl (by kernel_rfl) ?_
      have e_ : true = t := by rw [← ht]; exact (decide_eq_true (by omega)).symm
      rw [e_]
      exact hK _ (SameMem.refl _)
    refine wk_pure (opg 7 (.binOp .lss 3 (.tmp 6) (.const (.int .i64 16)) 3) 4 2 true) (by kernel_rfl) (.bool false) (fun _ => y_lss (k := .i64) (a := n) (b := 16) (by kernel_rfl) (by kernel_rfl) (decide_eq_false h_2)) ?_
    refine wpt 8 (.tmp 5) (.tmp 7) (.const (.bool false)) 4 (.bool false) ?_
    refine wpa 2 (.tmp 8) 4 (.bool false) ?_
    refine wk_nil ?_
    refine thn_n ?_
    refine g_ret (by kernel_rfl) ?_
    refine ends1_r (v := .bool false) rfl (by kernel_rfl) ?_
    have e_ : false = t := by rw [← ht]; exact (decide_eq_false (by omega)).symm
    rw [e_]
    exact hK _ (SameMem.refl _)
  refine wk_pure (opd 4 (.binOp .geq 3 (.tmp 3) (.const (.int .i64 0)) 3) 4) rfl (.bool false) (fun _ => y_geq (k := .i64) (a := n) (b := 0) (by kernel_rfl) (by kernel_rfl) (decide_eq_false h_1)) ?_
  refine wpm 5 (.tmp 4) 4 (.bool false) ?_
  refine wks 6 ?_
  refine wks 7 ?_
  refine wpk 8 (.tmp 5) (.tmp 7) (.const (.bool false)) 4 (.bool false) ?_
  refine wpa 2 (.tmp 8) 4 (.bool false) ?_
  refine wk_nil ?_
  refine thn_n ?_
  refine g_ret (by kernel_rfl) ?_
  refine ends1_r (v := .bool false) rfl (by kernel_rfl) ?_
  have e_ : false = t := by rw [← ht]; exact (decide_eq_false (by omega)).symm
  rw [e_]
  exact hK _ (SameMem.refl _)

noncomputable def lAN3_0 : Code := (Try.f31.body).getD .skip
noncomputable def lAN3_1 : Code := s1 lAN3_0
noncomputable def lAN3_2 : Code := s2 lAN3_0
noncomputable def lAR3_0 : Array Oper := rops lAN3_1
noncomputable def lAN3_3 : Code := s1 lAN3_2
noncomputable def lAN3_4 : Code := s2 lAN3_2
noncomputable def lAR3_1 : Array Oper := rops lAN3_3
theorem id_c {n : Int} {w : World} {t : Bool} (ht : decide (0 ≤ n ∧ n < 16) = t) {K : Value → World → Prop} (hK : ∀ w', SameMem w w' → K (.bool t) w') : CallsV Try.prog 31 #[.int .i64 n] w K := by
  refine callsV_of (c := lAN3_0) Try.func31 (by kernel_rfl) (n := 9) (by kernel_rfl) ?_
  refine g_seq (x := lAN3_1) (y := lAN3_2) (by kernel_rfl) ?_
  refine g_region (ops := lAR3_0) (id := 0) (by kernel_rfl) [pu 0] (by kernel_rfl) (by kernel_rfl) ?_
  refine wpa 2 (.const (.bool false)) 4 (.bool false) ?_
  refine wk_nil ?_
  refine thn_n ?_
  refine g_seq (x := lAN3_3) (y := lAN3_4) (by kernel_rfl) ?_
  refine g_region (ops := lAR3_1) (id := 1) (by kernel_rfl) [pu 0, pu 1, pu 2, pu 3, pu 4, pu 5, pu 6] (by kernel_rfl) (by kernel_rfl) ?_
  refine wpm 3 (.tmp 0) 3 (.int .i64 n) ?_
  by_cases h_1 : (0 : Int) ≤ n
  · refine wk_pure (opd 4 (.binOp .geq 3 (.tmp 3) (.const (.int .i64 0)) 3) 4) rfl (.bool true) (fun _ => y_geq (k := .i64) (a := n) (b := 0) (by kernel_rfl) (by kernel_rfl) (decide_eq_true h_1)) ?_
    refine wpm 5 (.tmp 4) 4 (.bool true) ?_
    refine wk_pure (opg 6 (.move (.tmp 0)) 3 2 true) (by kernel_rfl) (.int .i64 n) (fun _ => y_move (by kernel_rfl)) ?_
    by_cases h_2 : (n : Int) < 16
    · refine wk_pure (opg 7 (.binOp .lss 3 (.tmp 6) (.const (.int .i64 16)) 3) 4 2 true) (by kernel_rfl) (.bool true) (fun _ => y_lss (k := .i64) (a := n) (b := 16) (by kernel_rfl) (by kernel_rfl) (decide_eq_true h_2)) ?_
      refine wpt 8 (.tmp 5) (.tmp 7) (.const (.bool false)) 4 (.bool true) ?_
      refine wpa 2 (.tmp 8) 4 (.bool true) ?_
      refine wk_nil ?_
      refine thn_n ?_
      refine g_ret (by kernel_rfl) ?_
      refine ends1_r (v := .bool true) rfl (by kernel_rfl) ?_
      have e_ : true = t := by rw [← ht]; exact (decide_eq_true (by omega)).symm
      rw [e_]
      exact hK _ (SameMem.refl _)
    refine wk_pure (opg 7 (.binOp .lss 3 (.tmp 6) (.const (.int .i64 16)) 3) 4 2 true) (by kernel_rfl) (.bool false) (fun _ => y_lss (k := .i64) (a := n) (b := 16) (by kernel_rfl) (by kernel_rfl) (decide_eq_false h_2)) ?_
    refine wpt 8 (.tmp 5) (.tmp 7) (.const (.bool false)) 4 (.bool false) ?_
    refine wpa 2 (.tmp 8) 4 (.bool false) ?_
    refine wk_nil ?_
    refine thn_n ?_
    refine g_ret (by kernel_rfl) ?_
    refine ends1_r (v := .bool false) rfl (by kernel_rfl) ?_
    have e_ : false = t := by rw [← ht]; exact (decide_eq_false (by omega)).symm
    rw [e_]
    exact hK _ (SameMem.refl _)
  refine wk_pure (opd 4 (.binOp .geq 3 (.tmp 3) (.const (.int .i64 0)) 3) 4) rfl (.bool false) (fun _ => y_geq (k := .i64) (a := n) (b := 0) (by kernel_rfl) (by kernel_rfl) (decide_eq_false h_1)) ?_
  refine wpm 5 (.tmp 4) 4 (.bool false) ?_
  refine wks 6 ?_
  refine wks 7 ?_
  refine wpk 8 (.tmp 5) (.tmp 7) (.const (.bool false)) 4 (.bool false) ?_
  refine wpa 2 (.tmp 8) 4 (.bool false) ?_
  refine wk_nil ?_
  refine thn_n ?_
  refine g_ret (by kernel_rfl) ?_
  refine ends1_r (v := .bool false) rfl (by kernel_rfl) ?_
  have e_ : false = t := by rw [← ht]; exact (decide_eq_false (by omega)).symm
  rw [e_]
  exact hK _ (SameMem.refl _)

noncomputable def lAN4_0 : Code := (Try.f36.body).getD .skip
noncomputable def lAN4_1 : Code := s1 lAN4_0
noncomputable def lAN4_2 : Code := s2 lAN4_0
noncomputable def lAR4_0 : Array Oper := rops lAN4_1
noncomputable def lAN4_3 : Code := s1 lAN4_2
noncomputable def lAN4_4 : Code := s2 lAN4_2
noncomputable def lAN4_5 : Code := s1 lAN4_3
noncomputable def lAN4_6 : Code := s2 lAN4_3
noncomputable def lAR4_1 : Array Oper := rops lAN4_5
noncomputable def lAN4_7 : Code := s1 lAN4_6
noncomputable def lAN4_8 : Code := s2 lAN4_6
noncomputable def lAN4_9 : Code := s1 lAN4_7
noncomputable def lAN4_10 : Code := s2 lAN4_7
noncomputable def lAR4_2 : Array Oper := rops lAN4_9
theorem cloneN_nil {b c : Nat} {w : World}  {K : Value → World → Prop} (hK : K (.slice none 0 0) w) : CallsV Try.prog 36 #[.slice none 0 c] w K := by
  refine callsV_of (c := lAN4_0) Try.func36 (by kernel_rfl) (n := 8) (by kernel_rfl) ?_
  refine g_seq (x := lAN4_1) (y := lAN4_2) (by kernel_rfl) ?_
  refine g_region (ops := lAR4_0) (id := 0) (by kernel_rfl) [pu 0] (by kernel_rfl) (by kernel_rfl) ?_
  refine wpa 2 (.const (.slice none 0 0)) 29 (.slice none 0 0) ?_
  refine wk_nil ?_
  refine thn_n ?_
  refine g_seq (x := lAN4_3) (y := lAN4_4) (by kernel_rfl) ?_
  refine g_seq (x := lAN4_5) (y := lAN4_6) (by kernel_rfl) ?_
  refine g_region (ops := lAR4_1) (id := 1) (by kernel_rfl) [pu 0, pu 1] (by kernel_rfl) (by kernel_rfl) ?_
  refine wpm 3 (.tmp 0) 29 (.slice none 0 c) ?_
  refine wk_pure (opd 4 (.binOp .eql 29 (.tmp 3) (.const (.slice none 0 0)) 29) 4) rfl (.bool true) (fun _ => x_sl_eql_nil (a := none) (n := 0) (c := c) (m := 0) (l := 0) (e := 2) (by kernel_rfl) (by kernel_rfl) (by kernel_rfl)) ?_
  refine wk_nil ?_
  refine thn_n ?_
  refine g_cond_t (o := .tmp 4) (x := lAN4_7) (y := lAN4_8) (by kernel_rfl) (by kernel_rfl) ?_
  refine g_seq (x := lAN4_9) (y := lAN4_10) (by kernel_rfl) ?_
  refine g_region (ops := lAR4_2) (id := 2) (by kernel_rfl) [pu 0] (by kernel_rfl) (by kernel_rfl) ?_
  refine wpa 2 (.const (.slice none 0 0)) 29 (.slice none 0 0) ?_
  refine wk_nil ?_
  refine thn_n ?_
  refine g_ret (by kernel_rfl) ?_
  refine thn_r ?_
  refine ends1_r (v := .slice none 0 0) rfl (by kernel_rfl) ?_
  exact hK

noncomputable def lAN5_0 : Code := (Try.f36.body).getD .skip
noncomputable def lAN5_1 : Code := s1 lAN5_0
noncomputable def lAN5_2 : Code := s2 lAN5_0
noncomputable def lAR5_0 : Array Oper := rops lAN5_1
noncomputable def lAN5_3 : Code := s1 lAN5_2
noncomputable def lAN5_4 : Code := s2 lAN5_2
noncomputable def lAN5_5 : Code := s1 lAN5_3
noncomputable def lAN5_6 : Code := s2 lAN5_3
noncomputable def lAR5_1 : Array Oper := rops lAN5_5
noncomputable def lAN5_7 : Code := s1 lAN5_6
noncomputable def lAN5_8 : Code := s2 lAN5_6
noncomputable def lAN5_9 : Code := s1 lAN5_4
noncomputable def lAN5_10 : Code := s2 lAN5_4
noncomputable def lAR5_3 : Array Oper := rops lAN5_9
theorem cloneN_some {a : Option Addr} {b off c : Nat} {L : List Int} {w : World} {γ : Nat → Nat} {x : Addr} (hs : SlG γ w 0 1 (some x) b off encI L) (hl : L.length ≤ 8796093022208) {K : Value → World → Prop} (hK : ∀ w' γ' a' b' c', GX [] w γ w' γ' → SlG γ' w' 0 1 a' b' 0 encI L → K (.slice a' L.length c') w') : CallsV Try.prog 36 #[.slice (some x) L.length c] w K := by
  refine callsV_of (c := lAN5_0) Try.func36 (by kernel_rfl) (n := 8) (by kernel_rfl) ?_
  refine g_seq (x := lAN5_1) (y := lAN5_2) (by kernel_rfl) ?_
  refine g_region (ops := lAR5_0) (id := 0) (by kernel_rfl) [pu 0] (by kernel_rfl) (by kernel_rfl) ?_
  refine wpa 2 (.const (.slice none 0 0)) 29 (.slice none 0 0) ?_
  refine wk_nil ?_
  refine thn_n ?_
  refine g_seq (x := lAN5_3) (y := lAN5_4) (by kernel_rfl) ?_
  refine g_seq (x := lAN5_5) (y := lAN5_6) (by kernel_rfl) ?_
  refine g_region (ops := lAR5_1) (id := 1) (by kernel_rfl) [pu 0, pu 1] (by kernel_rfl) (by kernel_rfl) ?_
  refine wpm 3 (.tmp 0) 29 (.slice (some x) L.length c) ?_
  refine wk_pure (opd 4 (.binOp .eql 29 (.tmp 3) (.const (.slice none 0 0)) 29) 4) rfl (.bool false) (fun _ => x_sl_eql_nil (a := (some x)) (n := L.length) (c := c) (m := 0) (l := 0) (e := 2) (by kernel_rfl) (by kernel_rfl) (by kernel_rfl)) ?_
  refine wk_nil ?_
  refine thn_n ?_
  refine g_cond_f (o := .tmp 4) (x := lAN5_7) (y := lAN5_8) (by kernel_rfl) (by kernel_rfl) ?_
  refine g_skip (by kernel_rfl) ?_
  refine thn_n ?_
  refine g_seq (x := lAN5_9) (y := lAN5_10) (by kernel_rfl) ?_
  refine g_region (ops := lAR5_3) (id := 3) (by kernel_rfl) [lo 0, pu 1, lo 2, pu 3] (by kernel_rfl) (by kernel_rfl) ?_
  refine wk_buildSlice (e := 2) (cs := #[]) (opd 5 (.buildSlice 29 0 #[]) 29) rfl (by kernel_rfl) (fun w_1 b_2 eq_3 e_4 sz_5 hb_6 => ⟨?_, ?_⟩)
  · exact trivial
  obtain ⟨γ_7, hg_8, hn_9⟩ := cls_new γ w.heap.size 0
  have gx_10 := GX.ext0 [] e_4 hg_8
  have hk_11 : Bk γ_7 w_1 b_2 0 (.cells #[] 2 (0, 0)) := ⟨hb_6, hn_9 _ (by omega)⟩
  refine wpm 6 (.tmp 0) 29 (.slice (some x) L.length c) ?_
  have hb_12 : SlG γ_7 w_1 0 1 (some x) b off encI L := (SlG.keep hs gx_10 ni0)
  have on_22 : OwNG γ_7 w_1 0 2 1 (some ⟨b_2, 0, none⟩) b_2 0 encI ([]) ([]) := (OwNG.of ⟨OwnE.of_cells (M := []) hk_11.1 encI_len (by kernel_rfl) (Nat.zero_le _), hk_11.2⟩)
  refine wk_append_some (M := L) (L := ([])) (g := b_2) (cap := 0) (ax := (some x)) (bx := b) (offx := off) (cx := c) (e := 2) (sz := 1) (by_ := 8) (opd 7 (.call ⟨.builtin .append, #[.tmp 5, .tmp 6], #[29, 29]⟩) 29) rfl (by kernel_rfl) (by kernel_rfl) encI_len (by kernel_rfl) on_22.1 (by kernel_rfl) hb_12.1  encI_one (by constructor <;> (simp only [List.length_nil]; omega)) (fun w_13 b_14 cap_15 rest_16 hb_17 e_18 sz_19 lt_20 ho_21 => ⟨?_, ?_⟩)
  · exact trivial
  obtain ⟨γ_23, hg_24, hn_25⟩ := cls_new γ_7 w_1.heap.size 0
  have gx_26 : GX [0] w_1 γ_7 w_13 γ_23 := OwNG.gx on_22 e_18 hg_24
  have hk_27 : OwnG γ_23 w_13 0 2 1 b_14 cap_15 encI (([]) ++ L) rest_16 := ⟨ho_21, OwNG.appc on_22 hb_17 hg_24 hn_25⟩
  have hsz_28 := e_18.size
  refine wpa 2 (.tmp 7) 29 (.slice (some ⟨b_14, 0, none⟩) ((([]) ++ L).length) cap_15) ?_
  refine wk_nil ?_
  refine thn_n ?_
  refine g_ret (by kernel_rfl) ?_
  refine ends1_r (v := .slice (some ⟨b_14, 0, none⟩) ((([]) ++ L).length) cap_15) rfl (by kernel_rfl) ?_
  exact hK _ _ _ _ _ (GX.thenNew (GX.then0 (GX.refl [] _ _) e_4 hg_8) e_18 (OwNG.newS (OwNG.of ⟨OwnE.of_cells (M := []) hk_11.1 encI_len (by kernel_rfl) (Nat.zero_le _), hk_11.2⟩) (by exact .inr (by omega))) hg_24) (OwnG.slg hk_27)

theorem cloneN_c {a : Option Addr} {b off c : Nat} {L : List Int} {w : World} {γ : Nat → Nat} (hs : SlG γ w 0 1 a b off encI L) (hl : L.length ≤ 8796093022208) {K : Value → World → Prop} (hK : ∀ w' γ' a' b' c', GX [] w γ w' γ' → SlG γ' w' 0 1 a' b' 0 encI L → K (.slice a' L.length c') w') :
    CallsV Try.prog 36 #[.slice a L.length c] w K := by
  cases a with
  | none =>
    have h0 : L.length = 0 := by
      by_cases h : 0 < L.length
      · have := hs.1.addr h; simp at this
      · omega
    have : L = [] := List.eq_nil_of_length_eq_zero h0
    subst this
    exact cloneN_nil (b := b) (hK w γ none 0 0 (GX.refl _ _ _) (SlG.nil _ _ _ _ _ _ _ _))
  | some x => exact cloneN_some (a := none) hs hl hK

noncomputable def lAN6_0 : Code := (Try.f37.body).getD .skip
noncomputable def lAN6_1 : Code := s1 lAN6_0
noncomputable def lAN6_2 : Code := s2 lAN6_0
noncomputable def lAR6_0 : Array Oper := rops lAN6_1
noncomputable def lAN6_3 : Code := s1 lAN6_2
noncomputable def lAN6_4 : Code := s2 lAN6_2
noncomputable def lAN6_5 : Code := s1 lAN6_3
noncomputable def lAN6_6 : Code := s2 lAN6_3
noncomputable def lAR6_1 : Array Oper := rops lAN6_5
noncomputable def lAN6_7 : Code := s1 lAN6_6
noncomputable def lAN6_8 : Code := s2 lAN6_6
noncomputable def lAN6_9 : Code := s1 lAN6_7
noncomputable def lAN6_10 : Code := s2 lAN6_7
noncomputable def lAR6_2 : Array Oper := rops lAN6_9
theorem cloneW_nil {b c : Nat} {w : World}  {K : Value → World → Prop} (hK : K (.slice none 0 0) w) : CallsV Try.prog 37 #[.slice none 0 c] w K := by
  refine callsV_of (c := lAN6_0) Try.func37 (by kernel_rfl) (n := 8) (by kernel_rfl) ?_
  refine g_seq (x := lAN6_1) (y := lAN6_2) (by kernel_rfl) ?_
  refine g_region (ops := lAR6_0) (id := 0) (by kernel_rfl) [pu 0] (by kernel_rfl) (by kernel_rfl) ?_
  refine wpa 2 (.const (.slice none 0 0)) 30 (.slice none 0 0) ?_
  refine wk_nil ?_
  refine thn_n ?_
  refine g_seq (x := lAN6_3) (y := lAN6_4) (by kernel_rfl) ?_
  refine g_seq (x := lAN6_5) (y := lAN6_6) (by kernel_rfl) ?_
  refine g_region (ops := lAR6_1) (id := 1) (by kernel_rfl) [pu 0, pu 1] (by kernel_rfl) (by kernel_rfl) ?_
  refine wpm 3 (.tmp 0) 30 (.slice none 0 c) ?_
  refine wk_pure (opd 4 (.binOp .eql 30 (.tmp 3) (.const (.slice none 0 0)) 30) 4) rfl (.bool true) (fun _ => x_sl_eql_nil (a := none) (n := 0) (c := c) (m := 0) (l := 0) (e := 79) (by kernel_rfl) (by kernel_rfl) (by kernel_rfl)) ?_
  refine wk_nil ?_
  refine thn_n ?_
  refine g_cond_t (o := .tmp 4) (x := lAN6_7) (y := lAN6_8) (by kernel_rfl) (by kernel_rfl) ?_
  refine g_seq (x := lAN6_9) (y := lAN6_10) (by kernel_rfl) ?_
  refine g_region (ops := lAR6_2) (id := 2) (by kernel_rfl) [pu 0] (by kernel_rfl) (by kernel_rfl) ?_
  refine wpa 2 (.const (.slice none 0 0)) 30 (.slice none 0 0) ?_
  refine wk_nil ?_
  refine thn_n ?_
  refine g_ret (by kernel_rfl) ?_
  refine thn_r ?_
  refine ends1_r (v := .slice none 0 0) rfl (by kernel_rfl) ?_
  exact hK

noncomputable def lAN7_0 : Code := (Try.f37.body).getD .skip
noncomputable def lAN7_1 : Code := s1 lAN7_0
noncomputable def lAN7_2 : Code := s2 lAN7_0
noncomputable def lAR7_0 : Array Oper := rops lAN7_1
noncomputable def lAN7_3 : Code := s1 lAN7_2
noncomputable def lAN7_4 : Code := s2 lAN7_2
noncomputable def lAN7_5 : Code := s1 lAN7_3
noncomputable def lAN7_6 : Code := s2 lAN7_3
noncomputable def lAR7_1 : Array Oper := rops lAN7_5
noncomputable def lAN7_7 : Code := s1 lAN7_6
noncomputable def lAN7_8 : Code := s2 lAN7_6
noncomputable def lAN7_9 : Code := s1 lAN7_4
noncomputable def lAN7_10 : Code := s2 lAN7_4
noncomputable def lAR7_3 : Array Oper := rops lAN7_9
theorem cloneW_some {a : Option Addr} {b off c : Nat} {L : List Int} {w : World} {γ : Nat → Nat} {x : Addr} (hs : SlG γ w 0 2 (some x) b off encW L) (hl : L.length ≤ 8796093022208) {K : Value → World → Prop} (hK : ∀ w' γ' a' b' c', GX [] w γ w' γ' → SlG γ' w' 0 2 a' b' 0 encW L → K (.slice a' L.length c') w') : CallsV Try.prog 37 #[.slice (some x) L.length c] w K := by
  refine callsV_of (c := lAN7_0) Try.func37 (by kernel_rfl) (n := 8) (by kernel_rfl) ?_
  refine g_seq (x := lAN7_1) (y := lAN7_2) (by kernel_rfl) ?_
  refine g_region (ops := lAR7_0) (id := 0) (by kernel_rfl) [pu 0] (by kernel_rfl) (by kernel_rfl) ?_
  refine wpa 2 (.const (.slice none 0 0)) 30 (.slice none 0 0) ?_
  refine wk_nil ?_
  refine thn_n ?_
  refine g_seq (x := lAN7_3) (y := lAN7_4) (by kernel_rfl) ?_
  refine g_seq (x := lAN7_5) (y := lAN7_6) (by kernel_rfl) ?_
  refine g_region (ops := lAR7_1) (id := 1) (by kernel_rfl) [pu 0, pu 1] (by kernel_rfl) (by kernel_rfl) ?_
  refine wpm 3 (.tmp 0) 30 (.slice (some x) L.length c) ?_
  refine wk_pure (opd 4 (.binOp .eql 30 (.tmp 3) (.const (.slice none 0 0)) 30) 4) rfl (.bool false) (fun _ => x_sl_eql_nil (a := (some x)) (n := L.length) (c := c) (m := 0) (l := 0) (e := 79) (by kernel_rfl) (by kernel_rfl) (by kernel_rfl)) ?_
  refine wk_nil ?_
  refine thn_n ?_
  refine g_cond_f (o := .tmp 4) (x := lAN7_7) (y := lAN7_8) (by kernel_rfl) (by kernel_rfl) ?_
  refine g_skip (by kernel_rfl) ?_
  refine thn_n ?_
  refine g_seq (x := lAN7_9) (y := lAN7_10) (by kernel_rfl) ?_
  refine g_region (ops := lAR7_3) (id := 3) (by kernel_rfl) [lo 0, pu 1, lo 2, pu 3] (by kernel_rfl) (by kernel_rfl) ?_
  refine wk_buildSlice (e := 79) (cs := #[]) (opd 5 (.buildSlice 30 0 #[]) 30) rfl (by kernel_rfl) (fun w_1 b_2 eq_3 e_4 sz_5 hb_6 => ⟨?_, ?_⟩)
  · exact trivial
  obtain ⟨γ_7, hg_8, hn_9⟩ := cls_new γ w.heap.size 0
  have gx_10 := GX.ext0 [] e_4 hg_8
  have hk_11 : Bk γ_7 w_1 b_2 0 (.cells #[] 79 (0, 0)) := ⟨hb_6, hn_9 _ (by omega)⟩
  refine wpm 6 (.tmp 0) 30 (.slice (some x) L.length c) ?_
  have hb_12 : SlG γ_7 w_1 0 2 (some x) b off encW L := (SlG.keep hs gx_10 ni0)
  have on_22 : OwNG γ_7 w_1 0 79 2 (some ⟨b_2, 0, none⟩) b_2 0 encW ([]) ([]) := (OwNG.of ⟨OwnE.of_cells (M := []) hk_11.1 encW_len (by kernel_rfl) (Nat.zero_le _), hk_11.2⟩)
  refine wk_append_some (M := L) (L := ([])) (g := b_2) (cap := 0) (ax := (some x)) (bx := b) (offx := off) (cx := c) (e := 79) (sz := 2) (by_ := 16) (opd 7 (.call ⟨.builtin .append, #[.tmp 5, .tmp 6], #[30, 30]⟩) 30) rfl (by kernel_rfl) (by kernel_rfl) encW_len (by kernel_rfl) on_22.1 (by kernel_rfl) hb_12.1  encW_one (by constructor <;> (simp only [List.length_nil]; omega)) (fun w_13 b_14 cap_15 rest_16 hb_17 e_18 sz_19 lt_20 ho_21 => ⟨?_, ?_⟩)
  · exact trivial
  obtain ⟨γ_23, hg_24, hn_25⟩ := cls_new γ_7 w_1.heap.size 0
  have gx_26 : GX [0] w_1 γ_7 w_13 γ_23 := OwNG.gx on_22 e_18 hg_24
  have hk_27 : OwnG γ_23 w_13 0 79 2 b_14 cap_15 encW (([]) ++ L) rest_16 := ⟨ho_21, OwNG.appc on_22 hb_17 hg_24 hn_25⟩
  have hsz_28 := e_18.size
  refine wpa 2 (.tmp 7) 30 (.slice (some ⟨b_14, 0, none⟩) ((([]) ++ L).length) cap_15) ?_
  refine wk_nil ?_
  refine thn_n ?_
  refine g_ret (by kernel_rfl) ?_
  refine ends1_r (v := .slice (some ⟨b_14, 0, none⟩) ((([]) ++ L).length) cap_15) rfl (by kernel_rfl) ?_
  exact hK _ _ _ _ _ (GX.thenNew (GX.then0 (GX.refl [] _ _) e_4 hg_8) e_18 (OwNG.newS (OwNG.of ⟨OwnE.of_cells (M := []) hk_11.1 encW_len (by kernel_rfl) (Nat.zero_le _), hk_11.2⟩) (by exact .inr (by omega))) hg_24) (OwnG.slg hk_27)

theorem cloneW_c {a : Option Addr} {b off c : Nat} {L : List Int} {w : World} {γ : Nat → Nat} (hs : SlG γ w 0 2 a b off encW L) (hl : L.length ≤ 8796093022208) {K : Value → World → Prop} (hK : ∀ w' γ' a' b' c', GX [] w γ w' γ' → SlG γ' w' 0 2 a' b' 0 encW L → K (.slice a' L.length c') w') :
    CallsV Try.prog 37 #[.slice a L.length c] w K := by
  cases a with
  | none =>
    have h0 : L.length = 0 := by
      by_cases h : 0 < L.length
      · have := hs.1.addr h; simp at this
      · omega
    have : L = [] := List.eq_nil_of_length_eq_zero h0
    subst this
    exact cloneW_nil (b := b) (hK w γ none 0 0 (GX.refl _ _ _) (SlG.nil _ _ _ _ _ _ _ _))
  | some x => exact cloneW_some (a := none) hs hl hK

noncomputable def lAN8_0 : Code := (Try.f25.body).getD .skip
noncomputable def lAN8_1 : Code := s1 lAN8_0
noncomputable def lAN8_2 : Code := s2 lAN8_0
noncomputable def lAR8_0 : Array Oper := rops lAN8_1
noncomputable def lAN8_3 : Code := s1 lAN8_2
noncomputable def lAN8_4 : Code := s2 lAN8_2
noncomputable def lAR8_1 : Array Oper := rops lAN8_3
noncomputable def lAN8_5 : Code := s1 lAN8_4
noncomputable def lAN8_6 : Code := s2 lAN8_4
noncomputable def lAR8_2 : Array Oper := rops lAN8_5
theorem copied_c {m : MsgR} {w : World} {γ : Nat → Nat} (hm : MOk γ w m) {K : Value → World → Prop} (hK : ∀ w' γ' m', GX [] w γ w' γ' → MOk γ' w' m' → m'.abs = m.abs → K (.agg (encM m').toArray) w') : CallsV Try.prog 25 #[.agg #[.int .i64 m.kind, .int .i64 m.frm, .int .i64 m.to, .int .u32 m.view, .int .u32 m.seq, .slice m.na m.N.length m.nc, .slice m.wa m.W.length m.wc]] w K := by
  refine callsV_of (c := lAN8_0) Try.func25 (by kernel_rfl) (n := 12) (by kernel_rfl) ?_
  refine g_seq (x := lAN8_1) (y := lAN8_2) (by kernel_rfl) ?_
  refine g_region (ops := lAR8_0) (id := 0) (by kernel_rfl) [lo 0, lo 1] (by kernel_rfl) (by kernel_rfl) ?_
  refine wk_box (cs := #[.int .i64 m.kind, .int .i64 m.frm, .int .i64 m.to, .int .u32 m.view, .int .u32 m.seq, .slice m.na m.N.length m.nc, .slice m.wa m.W.length m.wc]) (opd 1 (.box 32 (.tmp 0)) 0) rfl (by kernel_rfl) (fun w_2 b_1 eq_4 e_3 sz_5 hb_6 => ⟨?_, ?_⟩)
  · exact trivial
  obtain ⟨γ_7, hg_8, hn_9⟩ := cls_new γ w.heap.size 12501
  have gx_10 := GX.ext0 [] e_3 hg_8
  have hk_11 : Bk γ_7 w_2 b_1 12501 (.cells #[.int .i64 m.kind, .int .i64 m.frm, .int .i64 m.to, .int .u32 m.view, .int .u32 m.seq, .slice m.na m.N.length m.nc, .slice m.wa m.W.length m.wc] 32 (0, 0)) := ⟨hb_6, hn_9 _ (by omega)⟩
  refine wk_alloc (z := #[.int .i64 0, .int .i64 0, .int .i64 0, .int .u32 0, .int .u32 0, .slice none 0 0, .slice none 0 0]) (opd 2 (.alloc 32) 0) rfl (by kernel_rfl) (fun w_13 b_12 eq_15 e_14 sz_16 hb_17 => ⟨?_, ?_⟩)
  · exact trivial
  obtain ⟨γ_18, hg_19, hn_20⟩ := cls_new γ_7 w_2.heap.size 12502
  have gx_21 := GX.ext0 [] e_14 hg_19
  have hk_22 : Bk γ_18 w_13 b_12 12502 (.cells #[.int .i64 0, .int .i64 0, .int .i64 0, .int .u32 0, .int .u32 0, .slice none 0 0, .slice none 0 0] 32 (0, 0)) := ⟨hb_17, hn_20 _ (by omega)⟩
  refine wk_nil ?_
  refine thn_n ?_
  refine g_seq (x := lAN8_3) (y := lAN8_4) (by kernel_rfl) ?_
  refine g_fork (ops := lAR8_1) (id := 1) (by kernel_rfl) (fun _ _ => True) (seqP [(0, .pure), (3, .pure)] (.two 1 4 (seqP [] (.two 2 4 (seqP [(4, .read), (6, .pure), (5, .loud), (7, .loud), (8, .pure), (9, .loud)] .nil) (seqP [(2, .loud), (6, .pure), (5, .loud), (7, .loud), (8, .pure), (9, .loud)] .nil))) (seqP [(1, .loud), (2, .loud), (6, .pure), (5, .loud), (7, .loud), (8, .pure), (9, .loud)] .nil))) (by kernel_rfl) (by kernel_rfl) (fun _ => trivial) (fun w_23 sm_24 => wkP_seq ?_)
  have gx_25 := GX.same [] γ_18 sm_24
  have hsz_26 : w_23.heap.size = w_13.heap.size := by rw [sm_24.heap]
  refine wpf 3 32 (.tmp 1) 5 b_1 0 5 5 ?_
  refine wpf 6 32 (.tmp 1) 6 b_1 0 6 6 ?_
  refine wk_nil ?_
  refine wkP_two ?_ ?_
  · have hb_27 := (Bk.keep (Bk.keep hk_11 gx_21 ni0) gx_25 ni0)
    refine wpl 4 29 (.tmp 3) (.slice m.na m.N.length m.nc) b_1 5 hb_27.1 ?_
    refine wk_nil ?_
    refine wkP_seq ?_
    refine wk_nil ?_
    refine wkP_two ?_ ?_
    · have hb_28 : MOk γ_18 w_23 m := (MOk.keep (MOk.keep (MOk.keep hm gx_10 ni0) gx_21 ni0) gx_25 ni0)
      refine wkc 5 36 #[.tmp 4] #[29] 29 #[.slice m.na m.N.length m.nc] Try.func36 (cloneN_c (γ := γ_18) (L := m.N) hb_28.n (by have h1_ := hm.nl; have h2_ := hm.wl; omega) (fun w_29 γ_30 a_31 b_32 c_33 gx_34 hs_35 => ⟨?_, ?_⟩))
      · exact trivial
      have hsz_36 := gx_34.size
      refine wk_nil ?_
      refine wkP_seq ?_
      have hb_37 := (Bk.keep hb_27 gx_34 ni0)
      refine wk_read (opd 7 (.load 30 (.tmp 6)) 30) rfl (.slice m.wa m.W.length m.wc) (fun w'_ g_ => x_load (b := b_1) (off := 6) (by kernel_rfl) (by kernel_rfl) (g_.keep hb_37.1) (by kernel_rfl)) ?_
      refine wpf 9 32 (.tmp 1) 5 b_1 0 5 5 ?_
      have hb_38 := (MOk.keep hb_28 gx_34 ni0)
      refine wkc 8 37 #[.tmp 7] #[30] 30 #[.slice m.wa m.W.length m.wc] Try.func37 (cloneW_c (γ := γ_30) (L := m.W) hb_38.w (by have h1_ := hm.nl; have h2_ := hm.wl; omega) (fun w_39 γ_40 a_41 b_42 c_43 gx_44 hs_45 => ⟨?_, ?_⟩))
      · exact trivial
      have hsz_46 := gx_44.size
      have hb_47 := (Bk.keep hb_37 gx_44 ni0)
      refine wk_store (b := b_1) (off := 5) (cs' := #[.int .i64 m.kind, .int .i64 m.frm, .int .i64 m.to, .int .u32 m.view, .int .u32 m.seq, .slice a_31 m.N.length c_33, .slice m.wa m.W.length m.wc]) (vs := #[.slice a_31 m.N.length c_33]) (opn (.store 29 (.tmp 9) (.tmp 5)) 0) rfl (by kernel_rfl) (by kernel_rfl) (by kernel_rfl) (by kernel_rfl) hb_47.1 (Nat.le_of_ble_eq_true rfl) (by kernel_rfl) (by kernel_rfl) (fun w_48 e_49 sz_50 hb_51 => ⟨?_, ?_⟩)
      · exact trivial
      have gx_52 : GX [12501] w_39 γ_40 w_48 γ_40 := GX.ext1 e_49 hb_47.2 (fun _ _ => rfl)
      have hk_53 : Bk γ_40 w_48 b_1 12501 (.cells #[.int .i64 m.kind, .int .i64 m.frm, .int .i64 m.to, .int .u32 m.view, .int .u32 m.seq, .slice a_31 m.N.length c_33, .slice m.wa m.W.length m.wc] 32 (0, 0)) := ⟨hb_51, hb_47.2⟩
      refine wpf 10 32 (.tmp 1) 6 b_1 0 6 6 ?_
      refine wk_store (b := b_1) (off := 6) (cs' := #[.int .i64 m.kind, .int .i64 m.frm, .int .i64 m.to, .int .u32 m.view, .int .u32 m.seq, .slice a_31 m.N.length c_33, .slice a_41 m.W.length c_43]) (vs := #[.slice a_41 m.W.length c_43]) (opn (.store 30 (.tmp 10) (.tmp 8)) 0) rfl (by kernel_rfl) (by kernel_rfl) (by kernel_rfl) (by kernel_rfl) hk_53.1 (Nat.le_of_ble_eq_true rfl) (by kernel_rfl) (by kernel_rfl) (fun w_54 e_55 sz_56 hb_57 => ⟨?_, ?_⟩)
      · exact trivial
      have gx_58 : GX [12501] w_48 γ_40 w_54 γ_40 := GX.ext1 e_55 hk_53.2 (fun _ _ => rfl)
      have hk_59 : Bk γ_40 w_54 b_1 12501 (.cells #[.int .i64 m.kind, .int .i64 m.frm, .int .i64 m.to, .int .u32 m.view, .int .u32 m.seq, .slice a_31 m.N.length c_33, .slice a_41 m.W.length c_43] 32 (0, 0)) := ⟨hb_57, hk_53.2⟩
      refine wk_nil ?_
      refine wkP_nil ?_
      refine thn_n ?_
      refine g_seq (x := lAN8_5) (y := lAN8_6) (by kernel_rfl) ?_
      refine g_region (ops := lAR8_2) (id := 2) (by kernel_rfl) [lo 0, lo 1] (by kernel_rfl) (by kernel_rfl) ?_
      refine wk_val (opd 11 (.load 32 (.tmp 1)) 32) rfl (.agg #[.int .i64 m.kind, .int .i64 m.frm, .int .i64 m.to, .int .u32 m.view, .int .u32 m.seq, .slice a_31 m.N.length c_33, .slice a_41 m.W.length c_43]) (x_load_agg (b := b_1) (off := 0) (n := 7) (by kernel_rfl) (by kernel_rfl) hk_59.1 (Nat.le_of_ble_eq_true rfl) (by kernel_rfl)) trivial ?_
      have hb_60 := (Bk.keep (Bk.keep (Bk.keep (Bk.keep (Bk.keep hk_22 gx_25 ni0) gx_34 ni0) gx_44 ni0) gx_52 ni1) gx_58 ni1)
      refine wk_store (b := b_12) (off := 0) (cs' := #[.int .i64 m.kind, .int .i64 m.frm, .int .i64 m.to, .int .u32 m.view, .int .u32 m.seq, .slice a_31 m.N.length c_33, .slice a_41 m.W.length c_43]) (vs := #[.int .i64 m.kind, .int .i64 m.frm, .int .i64 m.to, .int .u32 m.view, .int .u32 m.seq, .slice a_31 m.N.length c_33, .slice a_41 m.W.length c_43]) (opn (.store 32 (.tmp 2) (.tmp 11)) 0) rfl (by kernel_rfl) (by kernel_rfl) (by kernel_rfl) (by kernel_rfl) hb_60.1 (Nat.le_of_ble_eq_true rfl) (by kernel_rfl) (by kernel_rfl) (fun w_61 e_62 sz_63 hb_64 => ⟨?_, ?_⟩)
      · exact trivial
      have gx_65 : GX [12502] w_54 γ_40 w_61 γ_40 := GX.ext1 e_62 hb_60.2 (fun _ _ => rfl)
      have hk_66 : Bk γ_40 w_61 b_12 12502 (.cells #[.int .i64 m.kind, .int .i64 m.frm, .int .i64 m.to, .int .u32 m.view, .int .u32 m.seq, .slice a_31 m.N.length c_33, .slice a_41 m.W.length c_43] 32 (0, 0)) := ⟨hb_64, hb_60.2⟩
      refine wk_nil ?_
      refine thn_n ?_
      refine g_ret (by kernel_rfl) ?_
      refine endsR (v := .agg #[.int .i64 m.kind, .int .i64 m.frm, .int .i64 m.to, .int .u32 m.view, .int .u32 m.seq, .slice a_31 m.N.length c_33, .slice a_41 m.W.length c_43]) (runRL (vs := [.agg #[.int .i64 m.kind, .int .i64 m.frm, .int .i64 m.to, .int .u32 m.view, .int .u32 m.seq, .slice a_31 m.N.length c_33, .slice a_41 m.W.length c_43]]) (rs := [.cell 2 32]) rfl (RL.cons (.agg (n := 7) (off := 0) (by kernel_rfl) (by kernel_rfl) hk_66.1 (Nat.le_of_ble_eq_true rfl) (by kernel_rfl)) RL.nil) rfl) ?_
      have hb_67 := (SlG.keep (SlG.keep (SlG.keep (SlG.keep hs_35 gx_44 ni0) gx_52 ni1) gx_58 ni1) gx_65 ni1)
      have hb_68 := (SlG.keep (SlG.keep (SlG.keep hs_45 gx_52 ni1) gx_58 ni1) gx_65 ni1)
      exact hK _ _ (⟨m.kind, m.frm, m.to, m.view, m.seq, a_31, b_32, 0, c_33, m.N, a_41, b_42, 0, c_43, m.W⟩ : MsgR) (GX.thenNew (GX.thenNew (GX.thenNew (GX.trans (GX.trans (GX.then_same (GX.then0 (GX.then0 (GX.refl [] _ _) e_3 hg_8) e_14 hg_19) sm_24) gx_34 (fun _ h_ => absurd h_ List.not_mem_nil)) gx_44 (fun _ h_ => absurd h_ List.not_mem_nil)) e_49 (by intro y_ hy_; simp only [List.mem_cons, List.not_mem_nil, or_false] at hy_; omega) (fun _ _ => rfl)) e_55 (by intro y_ hy_; simp only [List.mem_cons, List.not_mem_nil, or_false] at hy_; omega) (fun _ _ => rfl)) e_62 (by intro y_ hy_; simp only [List.mem_cons, List.not_mem_nil, or_false] at hy_; omega) (fun _ _ => rfl)) ⟨hb_67, hb_68, hm.v0, hm.s0, hm.nr, hm.nl, hm.wl⟩ rfl
    refine wpl 7 30 (.tmp 6) (.slice m.wa m.W.length m.wc) b_1 6 hb_27.1 ?_
    refine wk_nil ?_
    refine wkP_seq ?_
    have hb_69 : MOk γ_18 w_23 m := (MOk.keep (MOk.keep (MOk.keep hm gx_10 ni0) gx_21 ni0) gx_25 ni0)
    refine wkc 5 36 #[.tmp 4] #[29] 29 #[.slice m.na m.N.length m.nc] Try.func36 (cloneN_c (γ := γ_18) (L := m.N) hb_69.n (by have h1_ := hm.nl; have h2_ := hm.wl; omega) (fun w_70 γ_71 a_72 b_73 c_74 gx_75 hs_76 => ⟨?_, ?_⟩))
    · exact trivial
    have hsz_77 := gx_75.size
    refine wpf 9 32 (.tmp 1) 5 b_1 0 5 5 ?_
    have hb_78 := (MOk.keep hb_69 gx_75 ni0)
    refine wkc 8 37 #[.tmp 7] #[30] 30 #[.slice m.wa m.W.length m.wc] Try.func37 (cloneW_c (γ := γ_71) (L := m.W) hb_78.w (by have h1_ := hm.nl; have h2_ := hm.wl; omega) (fun w_79 γ_80 a_81 b_82 c_83 gx_84 hs_85 => ⟨?_, ?_⟩))
    · exact trivial
    have hsz_86 := gx_84.size
    have hb_87 := (Bk.keep (Bk.keep hb_27 gx_75 ni0) gx_84 ni0)
    refine wk_store (b := b_1) (off := 5) (cs' := #[.int .i64 m.kind, .int .i64 m.frm, .int .i64 m.to, .int .u32 m.view, .int .u32 m.seq, .slice a_72 m.N.length c_74, .slice m.wa m.W.length m.wc]) (vs := #[.slice a_72 m.N.length c_74]) (opn (.store 29 (.tmp 9) (.tmp 5)) 0) rfl (by kernel_rfl) (by kernel_rfl) (by kernel_rfl) (by kernel_rfl) hb_87.1 (Nat.le_of_ble_eq_true rfl) (by kernel_rfl) (by kernel_rfl) (fun w_88 e_89 sz_90 hb_91 => ⟨?_, ?_⟩)
    · exact trivial
    have gx_92 : GX [12501] w_79 γ_80 w_88 γ_80 := GX.ext1 e_89 hb_87.2 (fun _ _ => rfl)
    have hk_93 : Bk γ_80 w_88 b_1 12501 (.cells #[.int .i64 m.kind, .int .i64 m.frm, .int .i64 m.to, .int .u32 m.view, .int .u32 m.seq, .slice a_72 m.N.length c_74, .slice m.wa m.W.length m.wc] 32 (0, 0)) := ⟨hb_91, hb_87.2⟩
    refine wpf 10 32 (.tmp 1) 6 b_1 0 6 6 ?_
    refine wk_store (b := b_1) (off := 6) (cs' := #[.int .i64 m.kind, .int .i64 m.frm, .int .i64 m.to, .int .u32 m.view, .int .u32 m.seq, .slice a_72 m.N.length c_74, .slice a_81 m.W.length c_83]) (vs := #[.slice a_81 m.W.length c_83]) (opn (.store 30 (.tmp 10) (.tmp 8)) 0) rfl (by kernel_rfl) (by kernel_rfl) (by kernel_rfl) (by kernel_rfl) hk_93.1 (Nat.le_of_ble_eq_true rfl) (by kernel_rfl) (by kernel_rfl) (fun w_94 e_95 sz_96 hb_97 => ⟨?_, ?_⟩)
    · exact trivial
    have gx_98 : GX [12501] w_88 γ_80 w_94 γ_80 := GX.ext1 e_95 hk_93.2 (fun _ _ => rfl)
    have hk_99 : Bk γ_80 w_94 b_1 12501 (.cells #[.int .i64 m.kind, .int .i64 m.frm, .int .i64 m.to, .int .u32 m.view, .int .u32 m.seq, .slice a_72 m.N.length c_74, .slice a_81 m.W.length c_83] 32 (0, 0)) := ⟨hb_97, hk_93.2⟩
    refine wk_nil ?_
    refine wkP_nil ?_
    refine thn_n ?_
    refine g_seq (x := lAN8_5) (y := lAN8_6) (by kernel_rfl) ?_
    refine g_region (ops := lAR8_2) (id := 2) (by kernel_rfl) [lo 0, lo 1] (by kernel_rfl) (by kernel_rfl) ?_
    refine wk_val (opd 11 (.load 32 (.tmp 1)) 32) rfl (.agg #[.int .i64 m.kind, .int .i64 m.frm, .int .i64 m.to, .int .u32 m.view, .int .u32 m.seq, .slice a_72 m.N.length c_74, .slice a_81 m.W.length c_83]) (x_load_agg (b := b_1) (off := 0) (n := 7) (by kernel_rfl) (by kernel_rfl) hk_99.1 (Nat.le_of_ble_eq_true rfl) (by kernel_rfl)) trivial ?_
    have hb_100 := (Bk.keep (Bk.keep (Bk.keep (Bk.keep (Bk.keep hk_22 gx_25 ni0) gx_75 ni0) gx_84 ni0) gx_92 ni1) gx_98 ni1)
    refine wk_store (b := b_12) (off := 0) (cs' := #[.int .i64 m.kind, .int .i64 m.frm, .int .i64 m.to, .int .u32 m.view, .int .u32 m.seq, .slice a_72 m.N.length c_74, .slice a_81 m.W.length c_83]) (vs := #[.int .i64 m.kind, .int .i64 m.frm, .int .i64 m.to, .int .u32 m.view, .int .u32 m.seq, .slice a_72 m.N.length c_74, .slice a_81 m.W.length c_83]) (opn (.store 32 (.tmp 2) (.tmp 11)) 0) rfl (by kernel_rfl) (by kernel_rfl) (by kernel_rfl) (by kernel_rfl) hb_100.1 (Nat.le_of_ble_eq_true rfl) (by kernel_rfl) (by kernel_rfl) (fun w_101 e_102 sz_103 hb_104 => ⟨?_, ?_⟩)
    · exact trivial
    have gx_105 : GX [12502] w_94 γ_80 w_101 γ_80 := GX.ext1 e_102 hb_100.2 (fun _ _ => rfl)
    have hk_106 : Bk γ_80 w_101 b_12 12502 (.cells #[.int .i64 m.kind, .int .i64 m.frm, .int .i64 m.to, .int .u32 m.view, .int .u32 m.seq, .slice a_72 m.N.length c_74, .slice a_81 m.W.length c_83] 32 (0, 0)) := ⟨hb_104, hb_100.2⟩
    refine wk_nil ?_
    refine thn_n ?_
    refine g_ret (by kernel_rfl) ?_
    refine endsR (v := .agg #[.int .i64 m.kind, .int .i64 m.frm, .int .i64 m.to, .int .u32 m.view, .int .u32 m.seq, .slice a_72 m.N.length c_74, .slice a_81 m.W.length c_83]) (runRL (vs := [.agg #[.int .i64 m.kind, .int .i64 m.frm, .int .i64 m.to, .int .u32 m.view, .int .u32 m.seq, .slice a_72 m.N.length c_74, .slice a_81 m.W.length c_83]]) (rs := [.cell 2 32]) rfl (RL.cons (.agg (n := 7) (off := 0) (by kernel_rfl) (by kernel_rfl) hk_106.1 (Nat.le_of_ble_eq_true rfl) (by kernel_rfl)) RL.nil) rfl) ?_
    have hb_107 := (SlG.keep (SlG.keep (SlG.keep (SlG.keep hs_76 gx_84 ni0) gx_92 ni1) gx_98 ni1) gx_105 ni1)
    have hb_108 := (SlG.keep (SlG.keep (SlG.keep hs_85 gx_92 ni1) gx_98 ni1) gx_105 ni1)
    exact hK _ _ (⟨m.kind, m.frm, m.to, m.view, m.seq, a_72, b_73, 0, c_74, m.N, a_81, b_82, 0, c_83, m.W⟩ : MsgR) (GX.thenNew (GX.thenNew (GX.thenNew (GX.trans (GX.trans (GX.then_same (GX.then0 (GX.then0 (GX.refl [] _ _) e_3 hg_8) e_14 hg_19) sm_24) gx_75 (fun _ h_ => absurd h_ List.not_mem_nil)) gx_84 (fun _ h_ => absurd h_ List.not_mem_nil)) e_89 (by intro y_ hy_; simp only [List.mem_cons, List.not_mem_nil, or_false] at hy_; omega) (fun _ _ => rfl)) e_95 (by intro y_ hy_; simp only [List.mem_cons, List.not_mem_nil, or_false] at hy_; omega) (fun _ _ => rfl)) e_102 (by intro y_ hy_; simp only [List.mem_cons, List.not_mem_nil, or_false] at hy_; omega) (fun _ _ => rfl)) ⟨hb_107, hb_108, hm.v0, hm.s0, hm.nr, hm.nl, hm.wl⟩ rfl
  have hb_109 := (Bk.keep (Bk.keep hk_11 gx_21 ni0) gx_25 ni0)
  refine wpl 7 30 (.tmp 6) (.slice m.wa m.W.length m.wc) b_1 6 hb_109.1 ?_
  refine wk_nil ?_
  refine wkP_seq ?_
  refine wpl 4 29 (.tmp 3) (.slice m.na m.N.length m.nc) b_1 5 hb_109.1 ?_
  have hb_110 : MOk γ_18 w_23 m := (MOk.keep (MOk.keep (MOk.keep hm gx_10 ni0) gx_21 ni0) gx_25 ni0)
  refine wkc 5 36 #[.tmp 4] #[29] 29 #[.slice m.na m.N.length m.nc] Try.func36 (cloneN_c (γ := γ_18) (L := m.N) hb_110.n (by have h1_ := hm.nl; have h2_ := hm.wl; omega) (fun w_111 γ_112 a_113 b_114 c_115 gx_116 hs_117 => ⟨?_, ?_⟩))
  · exact trivial
  have hsz_118 := gx_116.size
  refine wpf 9 32 (.tmp 1) 5 b_1 0 5 5 ?_
  have hb_119 := (MOk.keep hb_110 gx_116 ni0)
  refine wkc 8 37 #[.tmp 7] #[30] 30 #[.slice m.wa m.W.length m.wc] Try.func37 (cloneW_c (γ := γ_112) (L := m.W) hb_119.w (by have h1_ := hm.nl; have h2_ := hm.wl; omega) (fun w_120 γ_121 a_122 b_123 c_124 gx_125 hs_126 => ⟨?_, ?_⟩))
  · exact trivial
  have hsz_127 := gx_125.size
  have hb_128 := (Bk.keep (Bk.keep hb_109 gx_116 ni0) gx_125 ni0)
  refine wk_store (b := b_1) (off := 5) (cs' := #[.int .i64 m.kind, .int .i64 m.frm, .int .i64 m.to, .int .u32 m.view, .int .u32 m.seq, .slice a_113 m.N.length c_115, .slice m.wa m.W.length m.wc]) (vs := #[.slice a_113 m.N.length c_115]) (opn (.store 29 (.tmp 9) (.tmp 5)) 0) rfl (by kernel_rfl) (by kernel_rfl) (by kernel_rfl) (by kernel_rfl) hb_128.1 (Nat.le_of_ble_eq_true rfl) (by kernel_rfl) (by kernel_rfl) (fun w_129 e_130 sz_131 hb_132 => ⟨?_, ?_⟩)
  · exact trivial
  have gx_133 : GX [12501] w_120 γ_121 w_129 γ_121 := GX.ext1 e_130 hb_128.2 (fun _ _ => rfl)
  have hk_134 : Bk γ_121 w_129 b_1 12501 (.cells #[.int .i64 m.kind, .int .i64 m.frm, .int .i64 m.to, .int .u32 m.view, .int .u32 m.seq, .slice a_113 m.N.length c_115, .slice m.wa m.W.length m.wc] 32 (0, 0)) := ⟨hb_132, hb_128.2⟩
  refine wpf 10 32 (.tmp 1) 6 b_1 0 6 6 ?_
  refine wk_store (b := b_1) (off := 6) (cs' := #[.int .i64 m.kind, .int .i64 m.frm, .int .i64 m.to, .int .u32 m.view, .int .u32 m.seq, .slice a_113 m.N.length c_115, .slice a_122 m.W.length c_124]) (vs := #[.slice a_122 m.W.length c_124]) (opn (.store 30 (.tmp 10) (.tmp 8)) 0) rfl (by kernel_rfl) (by kernel_rfl) (by kernel_rfl) (by kernel_rfl) hk_134.1 (Nat.le_of_ble_eq_true rfl) (by kernel_rfl) (by kernel_rfl) (fun w_135 e_136 sz_137 hb_138 => ⟨?_, ?_⟩)
  · exact trivial
  have gx_139 : GX [12501] w_129 γ_121 w_135 γ_121 := GX.ext1 e_136 hk_134.2 (fun _ _ => rfl)
  have hk_140 : Bk γ_121 w_135 b_1 12501 (.cells #[.int .i64 m.kind, .int .i64 m.frm, .int .i64 m.to, .int .u32 m.view, .int .u32 m.seq, .slice a_113 m.N.length c_115, .slice a_122 m.W.length c_124] 32 (0, 0)) := ⟨hb_138, hk_134.2⟩
  refine wk_nil ?_
  refine wkP_nil ?_
  refine thn_n ?_
  refine g_seq (x := lAN8_5) (y := lAN8_6) (by kernel_rfl) ?_
  refine g_region (ops := lAR8_2) (id := 2) (by kernel_rfl) [lo 0, lo 1] (by kernel_rfl) (by kernel_rfl) ?_
  refine wk_val (opd 11 (.load 32 (.tmp 1)) 32) rfl (.agg #[.int .i64 m.kind, .int .i64 m.frm, .int .i64 m.to, .int .u32 m.view, .int .u32 m.seq, .slice a_113 m.N.length c_115, .slice a_122 m.W.length c_124]) (x_load_agg (b := b_1) (off := 0) (n := 7) (by kernel_rfl) (by kernel_rfl) hk_140.1 (Nat.le_of_ble_eq_true rfl) (by kernel_rfl)) trivial ?_
  have hb_141 := (Bk.keep (Bk.keep (Bk.keep (Bk.keep (Bk.keep hk_22 gx_25 ni0) gx_116 ni0) gx_125 ni0) gx_133 ni1) gx_139 ni1)
  refine wk_store (b := b_12) (off := 0) (cs' := #[.int .i64 m.kind, .int .i64 m.frm, .int .i64 m.to, .int .u32 m.view, .int .u32 m.seq, .slice a_113 m.N.length c_115, .slice a_122 m.W.length c_124]) (vs := #[.int .i64 m.kind, .int .i64 m.frm, .int .i64 m.to, .int .u32 m.view, .int .u32 m.seq, .slice a_113 m.N.length c_115, .slice a_122 m.W.length c_124]) (opn (.store 32 (.tmp 2) (.tmp 11)) 0) rfl (by kernel_rfl) (by kernel_rfl) (by kernel_rfl) (by kernel_rfl) hb_141.1 (Nat.le_of_ble_eq_true rfl) (by kernel_rfl) (by kernel_rfl) (fun w_142 e_143 sz_144 hb_145 => ⟨?_, ?_⟩)
  · exact trivial
  have gx_146 : GX [12502] w_135 γ_121 w_142 γ_121 := GX.ext1 e_143 hb_141.2 (fun _ _ => rfl)
  have hk_147 : Bk γ_121 w_142 b_12 12502 (.cells #[.int .i64 m.kind, .int .i64 m.frm, .int .i64 m.to, .int .u32 m.view, .int .u32 m.seq, .slice a_113 m.N.length c_115, .slice a_122 m.W.length c_124] 32 (0, 0)) := ⟨hb_145, hb_141.2⟩
  refine wk_nil ?_
  refine thn_n ?_
  refine g_ret (by kernel_rfl) ?_
  refine endsR (v := .agg #[.int .i64 m.kind, .int .i64 m.frm, .int .i64 m.to, .int .u32 m.view, .int .u32 m.seq, .slice a_113 m.N.length c_115, .slice a_122 m.W.length c_124]) (runRL (vs := [.agg #[.int .i64 m.kind, .int .i64 m.frm, .int .i64 m.to, .int .u32 m.view, .int .u32 m.seq, .slice a_113 m.N.length c_115, .slice a_122 m.W.length c_124]]) (rs := [.cell 2 32]) rfl (RL.cons (.agg (n := 7) (off := 0) (by kernel_rfl) (by kernel_rfl) hk_147.1 (Nat.le_of_ble_eq_true rfl) (by kernel_rfl)) RL.nil) rfl) ?_
  have hb_148 := (SlG.keep (SlG.keep (SlG.keep (SlG.keep hs_117 gx_125 ni0) gx_133 ni1) gx_139 ni1) gx_146 ni1)
  have hb_149 := (SlG.keep (SlG.keep (SlG.keep hs_126 gx_133 ni1) gx_139 ni1) gx_146 ni1)
  exact hK _ _ (⟨m.kind, m.frm, m.to, m.view, m.seq, a_113, b_114, 0, c_115, m.N, a_122, b_123, 0, c_124, m.W⟩ : MsgR) (GX.thenNew (GX.thenNew (GX.thenNew (GX.trans (GX.trans (GX.then_same (GX.then0 (GX.then0 (GX.refl [] _ _) e_3 hg_8) e_14 hg_19) sm_24) gx_116 (fun _ h_ => absurd h_ List.not_mem_nil)) gx_125 (fun _ h_ => absurd h_ List.not_mem_nil)) e_130 (by intro y_ hy_; simp only [List.mem_cons, List.not_mem_nil, or_false] at hy_; omega) (fun _ _ => rfl)) e_136 (by intro y_ hy_; simp only [List.mem_cons, List.not_mem_nil, or_false] at hy_; omega) (fun _ _ => rfl)) e_143 (by intro y_ hy_; simp only [List.mem_cons, List.not_mem_nil, or_false] at hy_; omega) (fun _ _ => rfl)) ⟨hb_148, hb_149, hm.v0, hm.s0, hm.nr, hm.nl, hm.wl⟩ rfl

end Go.Proofs.Ytpcdldakilkldaa
