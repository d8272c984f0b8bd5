/-
  Links: contracts of functions, step by step (B).
-/
import Derived.Test.YtpcdldakilkldaaLA
set_option linter.unusedSimpArgs false
set_option linter.unusedVariables false
namespace Go.Proofs.Ytpcdldakilkldaa
open Go Go.Wk

noncomputable def lBN1_0 : Code := (Try.f45.body).getD .skip
noncomputable def lBN1_1 : Code := s1 lBN1_0
noncomputable def lBN1_2 : Code := s2 lBN1_0
noncomputable def lBR1_0 : Array Oper := rops lBN1_1
noncomputable def lBN1_3 : Code := s1 lBN1_2
noncomputable def lBN1_4 : Code := s2 lBN1_2
noncomputable def lBR1_1 : Array Oper := rops lBN1_3
theorem in_c {v lo hi : Int} {w : World} {t : Bool} (ht : decide (lo ≤ v ∧ v ≤ hi) = t) {K : Value → World → Prop} (hK : ∀ w', SameMem w w' → K (.bool t) w') : CallsV Try.prog 45 #[.int .i64 v, .int .i64 lo, .int .i64 hi] w K := by
  refine callsV_of (c := lBN1_0) Try.func45 (by kernel_rfl) (n := 15) (by kernel_rfl) ?_
  refine g_seq (x := lBN1_1) (y := lBN1_2) (by kernel_rfl) ?_
  refine g_region (ops := lBR1_0) (id := 0) (by kernel_rfl) [pu 0] (by kernel_rfl) (by kernel_rfl) ?_
  refine wpa 6 (.const (.bool false)) 4 (.bool false) ?_
  refine wk_nil ?_
  refine thn_n ?_
  refine g_seq (x := lBN1_3) (y := lBN1_4) (by kernel_rfl) ?_
  refine g_region (ops := lBR1_1) (id := 1) (by kernel_rfl) [pu 0, pu 1, pu 2, pu 3, pu 4, pu 5, pu 6, pu 7, pu 8] (by kernel_rfl) (by kernel_rfl) ?_
  refine wpm 7 (.tmp 0) 3 (.int .i64 v) ?_
  refine wpm 8 (.tmp 1) 3 (.int .i64 lo) ?_
  by_cases h_1 : (lo : Int) ≤ v
  · refine wk_pure (opd 9 (.binOp .geq 3 (.tmp 7) (.tmp 8) 3) 4) rfl (.bool true) (fun _ => y_geq (k := .i64) (a := v) (b := lo) (by kernel_rfl) (by kernel_rfl) (decide_eq_true h_1)) ?_
    refine wpm 10 (.tmp 9) 4 (.bool true) ?_
    refine wk_pure (opg 11 (.move (.tmp 0)) 3 3 true) (by kernel_rfl) (.int .i64 v) (fun _ => y_move (by kernel_rfl)) ?_
    refine wk_pure (opg 12 (.move (.tmp 2)) 3 3 true) (by kernel_rfl) (.int .i64 hi) (fun _ => y_move (by kernel_rfl)) ?_
    by_cases h_2 : (v : Int) ≤ hi
    · refine wk_pure (opg 13 (.binOp .leq 3 (.tmp 11) (.tmp 12) 3) 4 3 true) (by kernel_rfl) (.bool true) (fun _ => y_leq (k := .i64) (a := v) (b := hi) (by kernel_rfl) (by kernel_rfl) (decide_eq_true h_2)) ?_
      refine wpt 14 (.tmp 10) (.tmp 13) (.const (.bool false)) 4 (.bool true) ?_
      refine wpa 6 (.tmp 14) 4 (.bool true) ?_
      refine wk_nil ?_
      refine thn_n ?_
      refine g_ret (by kernel_rfl) ?_
      refine ends1_r (v := .bool true) rfl (by kernel_rfl) ?_
      have e_ : true = t := by rw [← ht]; exact (decide_eq_true (by omega)).symm
      rw [e_]
      exact hK _ (SameMem.refl _)
    refine wk_pure (opg 13 (.binOp .leq 3 (.tmp 11) (.tmp 12) 3) 4 3 true) (by kernel_rfl) (.bool false) (fun _ => y_leq (k := .i64) (a := v) (b := hi) (by kernel_rfl) (by kernel_rfl) (decide_eq_false h_2)) ?_
    refine wpt 14 (.tmp 10) (.tmp 13) (.const (.bool false)) 4 (.bool false) ?_
    refine wpa 6 (.tmp 14) 4 (.bool false) ?_
    refine wk_nil ?_
    refine thn_n ?_
    refine g_ret (by kernel_rfl) ?_
    refine ends1_r (v := .bool false) rfl (by kernel_rfl) ?_
    have e_ : false = t := by rw [← ht]; exact (decide_eq_false (by omega)).symm
    rw [e_]
    exact hK _ (SameMem.refl _)
  refine wk_pure (opd 9 (.binOp .geq 3 (.tmp 7) (.tmp 8) 3) 4) rfl (.bool false) (fun _ => y_geq (k := .i64) (a := v) (b := lo) (by kernel_rfl) (by kernel_rfl) (decide_eq_false h_1)) ?_
  refine wpm 10 (.tmp 9) 4 (.bool false) ?_
  refine wks 11 ?_
  refine wks 12 ?_
  refine wks 13 ?_
  refine wpk 14 (.tmp 10) (.tmp 13) (.const (.bool false)) 4 (.bool false) ?_
  refine wpa 6 (.tmp 14) 4 (.bool false) ?_
  refine wk_nil ?_
  refine thn_n ?_
  refine g_ret (by kernel_rfl) ?_
  refine ends1_r (v := .bool false) rfl (by kernel_rfl) ?_
  have e_ : false = t := by rw [← ht]; exact (decide_eq_false (by omega)).symm
  rw [e_]
  exact hK _ (SameMem.refl _)

noncomputable def lBN2_0 : Code := (Try.f39.body).getD .skip
noncomputable def lBN2_1 : Code := s1 lBN2_0
noncomputable def lBN2_2 : Code := s2 lBN2_0
noncomputable def lBR2_0 : Array Oper := rops lBN2_1
noncomputable def lBN2_3 : Code := s1 lBN2_2
noncomputable def lBN2_4 : Code := s2 lBN2_2
noncomputable def lBR2_1 : Array Oper := rops lBN2_3
theorem frameOf_c {m : MsgR} {w : World} {γ : Nat → Nat}  {K : Value → World → Prop} (hK : ∀ w' γ', GX [] w γ w' γ' → K (.agg #[.int .i64 m.kind, .int .i64 m.frm, .int .i64 m.to, .int .u32 m.view, .int .u32 m.seq, .slice none 0 0]) w') : CallsV Try.prog 39 #[.agg #[.int .i64 m.kind, .int .i64 m.frm, .int .i64 m.to, .int .u32 m.view, .int .u32 m.seq, .slice m.na m.N.length m.nc, .slice m.wa m.W.length m.wc], .slice none 0 0] w K := by
  refine callsV_of (c := lBN2_0) Try.func39 (by kernel_rfl) (n := 17) (by kernel_rfl) ?_
  refine g_seq (x := lBN2_1) (y := lBN2_2) (by kernel_rfl) ?_
  refine g_region (ops := lBR2_0) (id := 0) (by kernel_rfl) [lo 0, lo 1] (by kernel_rfl) (by kernel_rfl) ?_
  refine wk_box (cs := #[.int .i64 m.kind, .int .i64 m.frm, .int .i64 m.to, .int .u32 m.view, .int .u32 m.seq, .slice m.na m.N.length m.nc, .slice m.wa m.W.length m.wc]) (opd 2 (.box 32 (.tmp 0)) 0) rfl (by kernel_rfl) (fun w_2 b_1 eq_4 e_3 sz_5 hb_6 => ⟨?_, ?_⟩)
  · exact trivial
  obtain ⟨γ_7, hg_8, hn_9⟩ := cls_new γ w.heap.size 13901
  have gx_10 := GX.ext0 [] e_3 hg_8
  have hk_11 : Bk γ_7 w_2 b_1 13901 (.cells #[.int .i64 m.kind, .int .i64 m.frm, .int .i64 m.to, .int .u32 m.view, .int .u32 m.seq, .slice m.na m.N.length m.nc, .slice m.wa m.W.length m.wc] 32 (0, 0)) := ⟨hb_6, hn_9 _ (by omega)⟩
  refine wk_alloc (z := #[.int .i64 0, .int .i64 0, .int .i64 0, .int .u32 0, .int .u32 0, .slice none 0 0]) (opd 4 (.alloc 83) 0) rfl (by kernel_rfl) (fun w_13 b_12 eq_15 e_14 sz_16 hb_17 => ⟨?_, ?_⟩)
  · exact trivial
  obtain ⟨γ_18, hg_19, hn_20⟩ := cls_new γ_7 w_2.heap.size 13902
  have gx_21 := GX.ext0 [] e_14 hg_19
  have hk_22 : Bk γ_18 w_13 b_12 13902 (.cells #[.int .i64 0, .int .i64 0, .int .i64 0, .int .u32 0, .int .u32 0, .slice none 0 0] 83 (0, 0)) := ⟨hb_17, hn_20 _ (by omega)⟩
  refine wk_nil ?_
  refine thn_n ?_
  refine g_seq (x := lBN2_3) (y := lBN2_4) (by kernel_rfl) ?_
  refine g_region (ops := lBR2_1) (id := 1) (by kernel_rfl) [pu 0, lo 1, pu 2, lo 3, pu 4, lo 5, pu 6, lo 7, pu 8, lo 9, pu 10, pu 11, lo 12] (by kernel_rfl) (by kernel_rfl) ?_
  refine wpf 5 32 (.tmp 2) 0 b_1 0 0 0 ?_
  have hb_23 := (Bk.keep hk_11 gx_21 ni0)
  refine wpl 6 3 (.tmp 5) (.int .i64 m.kind) b_1 0 hb_23.1 ?_
  refine wpf 7 32 (.tmp 2) 1 b_1 0 1 1 ?_
  refine wpl 8 3 (.tmp 7) (.int .i64 m.frm) b_1 1 hb_23.1 ?_
  refine wpf 9 32 (.tmp 2) 2 b_1 0 2 2 ?_
  refine wpl 10 3 (.tmp 9) (.int .i64 m.to) b_1 2 hb_23.1 ?_
  refine wpf 11 32 (.tmp 2) 3 b_1 0 3 3 ?_
  refine wpl 12 27 (.tmp 11) (.int .u32 m.view) b_1 3 hb_23.1 ?_
  refine wpf 13 32 (.tmp 2) 4 b_1 0 4 4 ?_
  refine wpl 14 27 (.tmp 13) (.int .u32 m.seq) b_1 4 hb_23.1 ?_
  refine wpm 15 (.tmp 1) 81 (.slice none 0 0) ?_
  refine wk_pure (opd 16 (.build 83 #[(0, .tmp 6), (1, .tmp 8), (2, .tmp 10), (3, .tmp 12), (4, .tmp 14), (5, .tmp 15)]) 83) rfl (.agg #[.int .i64 m.kind, .int .i64 m.frm, .int .i64 m.to, .int .u32 m.view, .int .u32 m.seq, .slice none 0 0]) (fun _ => x_build (by kernel_rfl)) ?_
  refine wk_store (b := b_12) (off := 0) (cs' := #[.int .i64 m.kind, .int .i64 m.frm, .int .i64 m.to, .int .u32 m.view, .int .u32 m.seq, .slice none 0 0]) (vs := #[.int .i64 m.kind, .int .i64 m.frm, .int .i64 m.to, .int .u32 m.view, .int .u32 m.seq, .slice none 0 0]) (opn (.store 83 (.tmp 4) (.tmp 16)) 0) rfl (by kernel_rfl) (by kernel_rfl) (by kernel_rfl) (by kernel_rfl) hk_22.1 (Nat.le_of_ble_eq_true rfl) (by kernel_rfl) (by kernel_rfl) (fun w_24 e_25 sz_26 hb_27 => ⟨?_, ?_⟩)
  · exact trivial
  have gx_28 : GX [13902] w_13 γ_18 w_24 γ_18 := GX.ext1 e_25 hk_22.2 (fun _ _ => rfl)
  have hk_29 : Bk γ_18 w_24 b_12 13902 (.cells #[.int .i64 m.kind, .int .i64 m.frm, .int .i64 m.to, .int .u32 m.view, .int .u32 m.seq, .slice none 0 0] 83 (0, 0)) := ⟨hb_27, hk_22.2⟩
  refine wk_nil ?_
  refine thn_n ?_
  refine g_ret (by kernel_rfl) ?_
  refine endsR (v := .agg #[.int .i64 m.kind, .int .i64 m.frm, .int .i64 m.to, .int .u32 m.view, .int .u32 m.seq, .slice none 0 0]) (runRL (vs := [.agg #[.int .i64 m.kind, .int .i64 m.frm, .int .i64 m.to, .int .u32 m.view, .int .u32 m.seq, .slice none 0 0]]) (rs := [.cell 4 83]) rfl (RL.cons (.agg (n := 6) (off := 0) (by kernel_rfl) (by kernel_rfl) hk_29.1 (Nat.le_of_ble_eq_true rfl) (by kernel_rfl)) RL.nil) rfl) ?_
  exact hK _ _ (GX.thenNew (GX.then0 (GX.then0 (GX.refl [] _ _) e_3 hg_8) e_14 hg_19) e_25 (by intro y_ hy_; simp only [List.mem_cons, List.not_mem_nil, or_false] at hy_; omega) (fun _ _ => rfl))

noncomputable def lBN3_0 : Code := (Try.f38.body).getD .skip
noncomputable def lBN3_1 : Code := s1 lBN3_0
noncomputable def lBN3_2 : Code := s2 lBN3_0
noncomputable def lBR3_0 : Array Oper := rops lBN3_1
noncomputable def lBN3_3 : Code := s1 lBN3_2
noncomputable def lBN3_4 : Code := s2 lBN3_2
noncomputable def lBR3_1 : Array Oper := rops lBN3_3
theorem fgood_c {m : MsgR} {w : World} {γ : Nat → Nat} {t : Bool} (ht : decide (1 ≤ m.kind ∧ m.kind ≤ 20 ∧ 0 ≤ m.frm ∧ m.frm < 16 ∧ 0 ≤ m.to ∧ m.to < 16) = t) {K : Value → World → Prop} (hK : ∀ w' γ', GX [] w γ w' γ' → K (.bool t) w') : CallsV Try.prog 38 #[.agg #[.int .i64 m.kind, .int .i64 m.frm, .int .i64 m.to, .int .u32 m.view, .int .u32 m.seq, .slice none 0 0]] w K := by
  refine callsV_of (c := lBN3_0) Try.func38 (by kernel_rfl) (n := 27) (by kernel_rfl) ?_
  refine g_seq (x := lBN3_1) (y := lBN3_2) (by kernel_rfl) ?_
  refine g_region (ops := lBR3_0) (id := 0) (by kernel_rfl) [lo 0, pu 1] (by kernel_rfl) (by kernel_rfl) ?_
  refine wk_box (cs := #[.int .i64 m.kind, .int .i64 m.frm, .int .i64 m.to, .int .u32 m.view, .int .u32 m.seq, .slice none 0 0]) (opd 1 (.box 83 (.tmp 0)) 0) rfl (by kernel_rfl) (fun w_2 b_1 eq_4 e_3 sz_5 hb_6 => ⟨?_, ?_⟩)
  · exact trivial
  obtain ⟨γ_7, hg_8, hn_9⟩ := cls_new γ w.heap.size 13801
  have gx_10 := GX.ext0 [] e_3 hg_8
  have hk_11 : Bk γ_7 w_2 b_1 13801 (.cells #[.int .i64 m.kind, .int .i64 m.frm, .int .i64 m.to, .int .u32 m.view, .int .u32 m.seq, .slice none 0 0] 83 (0, 0)) := ⟨hb_6, hn_9 _ (by omega)⟩
  refine wpa 2 (.const (.bool false)) 4 (.bool false) ?_
  refine wk_nil ?_
  refine thn_n ?_
  refine g_seq (x := lBN3_3) (y := lBN3_4) (by kernel_rfl) ?_
  refine g_region (ops := lBR3_1) (id := 1) (by kernel_rfl) [pu 0, lo 1, pu 2, pu 3, pu 4, lo 5, pu 6, pu 7, pu 8, pu 9, lo 10, lo 11, pu 12, pu 13, pu 14, lo 15, lo 16, pu 17, pu 18, pu 19, lo 20, pu 21, pu 22, pu 23, pu 24] (by kernel_rfl) (by kernel_rfl) ?_
  refine wpf 3 83 (.tmp 1) 0 b_1 0 0 0 ?_
  refine wpl 4 3 (.tmp 3) (.int .i64 m.kind) b_1 0 hk_11.1 ?_
  by_cases h_12 : (1 : Int) ≤ m.kind
  · refine wk_pure (opd 5 (.binOp .geq 3 (.tmp 4) (.const (.int .i64 1)) 3) 4) rfl (.bool true) (fun _ => y_geq (k := .i64) (a := m.kind) (b := 1) (by kernel_rfl) (by kernel_rfl) (decide_eq_true h_12)) ?_
    refine wpm 6 (.tmp 5) 4 (.bool true) ?_
    refine wk_pure (opg 7 (.fieldAddr 83 (.tmp 1) 0) 0 3 true) (by kernel_rfl) (.pointer (some ⟨b_1, 0, none⟩)) (fun _ => x_fieldAddr (b := b_1) (off := 0) (o := 0) (by kernel_rfl) (by kernel_rfl)) ?_
    refine wk_val (opg 8 (.load 3 (.tmp 7)) 3 3 true) (by kernel_rfl) (.int .i64 m.kind) (x_load (b := b_1) (off := 0) (by kernel_rfl) (by kernel_rfl) hk_11.1 (by kernel_rfl)) trivial ?_
    by_cases h_13 : (m.kind : Int) ≤ 20
    · refine wk_pure (opg 9 (.binOp .leq 3 (.tmp 8) (.const (.int .i64 20)) 3) 4 3 true) (by kernel_rfl) (.bool true) (fun _ => y_leq (k := .i64) (a := m.kind) (b := 20) (by kernel_rfl) (by kernel_rfl) (decide_eq_true h_13)) ?_
      refine wpt 10 (.tmp 6) (.tmp 9) (.const (.bool false)) 4 (.bool true) ?_
      refine wpm 11 (.tmp 10) 4 (.bool true) ?_
      refine wk_pure (opg 12 (.fieldAddr 83 (.tmp 1) 1) 0 8 true) (by kernel_rfl) (.pointer (some ⟨b_1, 1, none⟩)) (fun _ => x_fieldAddr (b := b_1) (off := 0) (o := 1) (by kernel_rfl) (by kernel_rfl)) ?_
      refine wk_val (opg 13 (.load 3 (.tmp 12)) 3 8 true) (by kernel_rfl) (.int .i64 m.frm) (x_load (b := b_1) (off := 1) (by kernel_rfl) (by kernel_rfl) hk_11.1 (by kernel_rfl)) trivial ?_
      by_cases h_14 : 0 ≤ m.frm ∧ m.frm < 16
      · refine wk_call (opg 14 (.call ⟨.value (.func 46), #[.tmp 13], #[3]⟩) 4 8 true) (by kernel_rfl) 46 #[.int .i64 m.frm] (x_call Try.func46 (by kernel_rfl) (c := (Try.f46.body).getD .skip) (by kernel_rfl) (by kernel_rfl) (by kernel_rfl)) (fworker_c (decide_eq_true h_14) (fun w_15 sm_16 => ⟨?_, ?_⟩))
        · exact trivial
        have gx_17 := GX.same [] γ_7 sm_16
        have hsz_18 : w_15.heap.size = w_2.heap.size := by rw [sm_16.heap]
        refine wpt 15 (.tmp 11) (.tmp 14) (.const (.bool false)) 4 (.bool true) ?_
        refine wpm 16 (.tmp 15) 4 (.bool true) ?_
        refine wk_pure (opg 17 (.fieldAddr 83 (.tmp 1) 2) 0 13 true) (by kernel_rfl) (.pointer (some ⟨b_1, 2, none⟩)) (fun _ => x_fieldAddr (b := b_1) (off := 0) (o := 2) (by kernel_rfl) (by kernel_rfl)) ?_
        have hb_19 := (Bk.keep hk_11 gx_17 ni0)
        refine wk_val (opg 18 (.load 3 (.tmp 17)) 3 13 true) (by kernel_rfl) (.int .i64 m.to) (x_load (b := b_1) (off := 2) (by kernel_rfl) (by kernel_rfl) hb_19.1 (by kernel_rfl)) trivial ?_
        by_cases h_20 : 0 ≤ m.to ∧ m.to < 16
        · refine wk_call (opg 19 (.call ⟨.value (.func 46), #[.tmp 18], #[3]⟩) 4 13 true) (by kernel_rfl) 46 #[.int .i64 m.to] (x_call Try.func46 (by kernel_rfl) (c := (Try.f46.body).getD .skip) (by kernel_rfl) (by kernel_rfl) (by kernel_rfl)) (fworker_c (decide_eq_true h_20) (fun w_21 sm_22 => ⟨?_, ?_⟩))
          · exact trivial
          have gx_23 := GX.same [] γ_7 sm_22
          have hsz_24 : w_21.heap.size = w_15.heap.size := by rw [sm_22.heap]
          refine wpt 20 (.tmp 16) (.tmp 19) (.const (.bool false)) 4 (.bool true) ?_
          refine wpm 21 (.tmp 20) 4 (.bool true) ?_
          refine wk_pure (opg 22 (.fieldAddr 83 (.tmp 1) 5) 0 18 true) (by kernel_rfl) (.pointer (some ⟨b_1, 5, none⟩)) (fun _ => x_fieldAddr (b := b_1) (off := 0) (o := 5) (by kernel_rfl) (by kernel_rfl)) ?_
          have hb_25 := (Bk.keep hb_19 gx_23 ni0)
          refine wk_val (opg 23 (.load 81 (.tmp 22)) 81 18 true) (by kernel_rfl) (.slice none 0 0) (x_load (b := b_1) (off := 5) (by kernel_rfl) (by kernel_rfl) hb_25.1 (by kernel_rfl)) trivial ?_
          refine wk_pure (opg 24 (.call ⟨.builtin .len, #[.tmp 23], #[81]⟩) 3 18 true) (by kernel_rfl) (.int .i64 0) (fun _ => x_len (a := none) (n := 0) (c := 0) (by kernel_rfl) (by kernel_rfl)) ?_
          refine wk_pure (opg 25 (.binOp .leq 3 (.tmp 24) (.const (.int .i64 16384)) 3) 4 18 true) (by kernel_rfl) (.bool true) (fun _ => y_leq (k := .i64) (a := 0) (b := 16384) (by kernel_rfl) (by kernel_rfl) (by decide)) ?_
          refine wpt 26 (.tmp 21) (.tmp 25) (.const (.bool false)) 4 (.bool true) ?_
          refine wpa 2 (.tmp 26) 4 (.bool true) ?_
          refine wk_nil ?_
          refine thn_n ?_
          refine g_ret (by kernel_rfl) ?_
          refine ends1_r (v := .bool true) rfl (by kernel_rfl) ?_
          have e_ : true = t := by rw [← ht]; exact (decide_eq_true (by omega)).symm
          rw [e_]
          exact hK _ _ (GX.then_same (GX.then_same (GX.then0 (GX.refl [] _ _) e_3 hg_8) sm_16) sm_22)
        refine wk_call (opg 19 (.call ⟨.value (.func 46), #[.tmp 18], #[3]⟩) 4 13 true) (by kernel_rfl) 46 #[.int .i64 m.to] (x_call Try.func46 (by kernel_rfl) (c := (Try.f46.body).getD .skip) (by kernel_rfl) (by kernel_rfl) (by kernel_rfl)) (fworker_c (decide_eq_false h_20) (fun w_26 sm_27 => ⟨?_, ?_⟩))
        · exact trivial
        have gx_28 := GX.same [] γ_7 sm_27
        have hsz_29 : w_26.heap.size = w_15.heap.size := by rw [sm_27.heap]
        refine wpt 20 (.tmp 16) (.tmp 19) (.const (.bool false)) 4 (.bool false) ?_
        refine wpm 21 (.tmp 20) 4 (.bool false) ?_
        refine wks 22 ?_
        refine wks 23 ?_
        refine wks 24 ?_
        refine wks 25 ?_
        refine wpk 26 (.tmp 21) (.tmp 25) (.const (.bool false)) 4 (.bool false) ?_
        refine wpa 2 (.tmp 26) 4 (.bool false) ?_
        refine wk_nil ?_
        refine thn_n ?_
        refine g_ret (by kernel_rfl) ?_
        refine ends1_r (v := .bool false) rfl (by kernel_rfl) ?_
        have e_ : false = t := by rw [← ht]; exact (decide_eq_false (by omega)).symm
        rw [e_]
        exact hK _ _ (GX.then_same (GX.then_same (GX.then0 (GX.refl [] _ _) e_3 hg_8) sm_16) sm_27)
      refine wk_call (opg 14 (.call ⟨.value (.func 46), #[.tmp 13], #[3]⟩) 4 8 true) (by kernel_rfl) 46 #[.int .i64 m.frm] (x_call Try.func46 (by kernel_rfl) (c := (Try.f46.body).getD .skip) (by kernel_rfl) (by kernel_rfl) (by kernel_rfl)) (fworker_c (decide_eq_false h_14) (fun w_30 sm_31 => ⟨?_, ?_⟩))
      · exact trivial
      have gx_32 := GX.same [] γ_7 sm_31
      have hsz_33 : w_30.heap.size = w_2.heap.size := by rw [sm_31.heap]
      refine wpt 15 (.tmp 11) (.tmp 14) (.const (.bool false)) 4 (.bool false) ?_
      refine wpm 16 (.tmp 15) 4 (.bool false) ?_
      refine wks 17 ?_
      refine wks 18 ?_
      refine wks 19 ?_
      refine wpk 20 (.tmp 16) (.tmp 19) (.const (.bool false)) 4 (.bool false) ?_
      refine wpm 21 (.tmp 20) 4 (.bool false) ?_
      refine wks 22 ?_
      refine wks 23 ?_
      refine wks 24 ?_
      refine wks 25 ?_
      refine wpk 26 (.tmp 21) (.tmp 25) (.const (.bool false)) 4 (.bool false) ?_
      refine wpa 2 (.tmp 26) 4 (.bool false) ?_
      refine wk_nil ?_
      refine thn_n ?_
      refine g_ret (by kernel_rfl) ?_
      refine ends1_r (v := .bool false) rfl (by kernel_rfl) ?_
      have e_ : false = t := by rw [← ht]; exact (decide_eq_false (by omega)).symm
      rw [e_]
      exact hK _ _ (GX.then_same (GX.then0 (GX.refl [] _ _) e_3 hg_8) sm_31)
    refine wk_pure (opg 9 (.binOp .leq 3 (.tmp 8) (.const (.int .i64 20)) 3) 4 3 true) (by kernel_rfl) (.bool false) (fun _ => y_leq (k := .i64) (a := m.kind) (b := 20) (by kernel_rfl) (by kernel_rfl) (decide_eq_false h_13)) ?_
    refine wpt 10 (.tmp 6) (.tmp 9) (.const (.bool false)) 4 (.bool false) ?_
    refine wpm 11 (.tmp 10) 4 (.bool false) ?_
    refine wks 12 ?_
    refine wks 13 ?_
    refine wks 14 ?_
    refine wpk 15 (.tmp 11) (.tmp 14) (.const (.bool false)) 4 (.bool false) ?_
    refine wpm 16 (.tmp 15) 4 (.bool false) ?_
    refine wks 17 ?_
    refine wks 18 ?_
    refine wks 19 ?_
    refine wpk 20 (.tmp 16) (.tmp 19) (.const (.bool false)) 4 (.bool false) ?_
    refine wpm 21 (.tmp 20) 4 (.bool false) ?_
    refine wks 22 ?_
    refine wks 23 ?_
    refine wks 24 ?_
    refine wks 25 ?_
    refine wpk 26 (.tmp 21) (.tmp 25) (.const (.bool false)) 4 (.bool false) ?_
    refine wpa 2 (.tmp 26) 4 (.bool false) ?_
    refine wk_nil ?_
    refine thn_n ?_
    refine g_ret (by kernel_rfl) ?_
    refine ends1_r (v := .bool false) rfl (by kernel_rfl) ?_
    have e_ : false = t := by rw [← ht]; exact (decide_eq_false (by omega)).symm
    rw [e_]
    exact hK _ _ (GX.then0 (GX.refl [] _ _) e_3 hg_8)
  refine wk_pure (opd 5 (.binOp .geq 3 (.tmp 4) (.const (.int .i64 1)) 3) 4) rfl (.bool false) (fun _ => y_geq (k := .i64) (a := m.kind) (b := 1) (by kernel_rfl) (by kernel_rfl) (decide_eq_false h_12)) ?_
  refine wpm 6 (.tmp 5) 4 (.bool false) ?_
  refine wks 7 ?_
  refine wks 8 ?_
  refine wks 9 ?_
  refine wpk 10 (.tmp 6) (.tmp 9) (.const (.bool false)) 4 (.bool false) ?_
  refine wpm 11 (.tmp 10) 4 (.bool false) ?_
  refine wks 12 ?_
  refine wks 13 ?_
  refine wks 14 ?_
  refine wpk 15 (.tmp 11) (.tmp 14) (.const (.bool false)) 4 (.bool false) ?_
  refine wpm 16 (.tmp 15) 4 (.bool false) ?_
  refine wks 17 ?_
  refine wks 18 ?_
  refine wks 19 ?_
  refine wpk 20 (.tmp 16) (.tmp 19) (.const (.bool false)) 4 (.bool false) ?_
  refine wpm 21 (.tmp 20) 4 (.bool false) ?_
  refine wks 22 ?_
  refine wks 23 ?_
  refine wks 24 ?_
  refine wks 25 ?_
  refine wpk 26 (.tmp 21) (.tmp 25) (.const (.bool false)) 4 (.bool false) ?_
  refine wpa 2 (.tmp 26) 4 (.bool false) ?_
  refine wk_nil ?_
  refine thn_n ?_
  refine g_ret (by kernel_rfl) ?_
  refine ends1_r (v := .bool false) rfl (by kernel_rfl) ?_
  have e_ : false = t := by rw [← ht]; exact (decide_eq_false (by omega)).symm
  rw [e_]
  exact hK _ _ (GX.then0 (GX.refl [] _ _) e_3 hg_8)

noncomputable def lBN4_0 : Code := (Try.f26.body).getD .skip
noncomputable def lBN4_1 : Code := s1 lBN4_0
noncomputable def lBN4_2 : Code := s2 lBN4_0
noncomputable def lBR4_0 : Array Oper := rops lBN4_1
noncomputable def lBN4_3 : Code := s1 lBN4_2
noncomputable def lBN4_4 : Code := s2 lBN4_2
noncomputable def lBR4_1 : Array Oper := rops lBN4_3
theorem good_c {m : MsgR} {w : World} {γ : Nat → Nat} {t : Bool} (ht : decide (1 ≤ m.kind ∧ m.kind ≤ 20 ∧ 0 ≤ m.frm ∧ m.frm < 16 ∧ 0 ≤ m.to ∧ m.to < 16 ∧ m.N.length ≤ 500 ∧ m.W.length ≤ 500) = t) {K : Value → World → Prop} (hK : ∀ w' γ', GX [] w γ w' γ' → K (.bool t) w') : CallsV Try.prog 26 #[.agg #[.int .i64 m.kind, .int .i64 m.frm, .int .i64 m.to, .int .u32 m.view, .int .u32 m.seq, .slice m.na m.N.length m.nc, .slice m.wa m.W.length m.wc]] w K := by
  refine callsV_of (c := lBN4_0) Try.func26 (by kernel_rfl) (n := 18) (by kernel_rfl) ?_
  refine g_seq (x := lBN4_1) (y := lBN4_2) (by kernel_rfl) ?_
  refine g_region (ops := lBR4_0) (id := 0) (by kernel_rfl) [lo 0, pu 1] (by kernel_rfl) (by kernel_rfl) ?_
  refine wk_box (cs := #[.int .i64 m.kind, .int .i64 m.frm, .int .i64 m.to, .int .u32 m.view, .int .u32 m.seq, .slice m.na m.N.length m.nc, .slice m.wa m.W.length m.wc]) (opd 1 (.box 32 (.tmp 0)) 0) rfl (by kernel_rfl) (fun w_2 b_1 eq_4 e_3 sz_5 hb_6 => ⟨?_, ?_⟩)
  · exact trivial
  obtain ⟨γ_7, hg_8, hn_9⟩ := cls_new γ w.heap.size 12601
  have gx_10 := GX.ext0 [] e_3 hg_8
  have hk_11 : Bk γ_7 w_2 b_1 12601 (.cells #[.int .i64 m.kind, .int .i64 m.frm, .int .i64 m.to, .int .u32 m.view, .int .u32 m.seq, .slice m.na m.N.length m.nc, .slice m.wa m.W.length m.wc] 32 (0, 0)) := ⟨hb_6, hn_9 _ (by omega)⟩
  refine wpa 2 (.const (.bool false)) 4 (.bool false) ?_
  refine wk_nil ?_
  refine thn_n ?_
  refine g_seq (x := lBN4_3) (y := lBN4_4) (by kernel_rfl) ?_
  refine g_region (ops := lBR4_1) (id := 1) (by kernel_rfl) [lo 0, lo 1, lo 2, pu 3, pu 4, lo 5, pu 6, pu 7, pu 8, pu 9, pu 10, lo 11, pu 12, pu 13, pu 14, pu 15] (by kernel_rfl) (by kernel_rfl) ?_
  refine wk_val (opd 3 (.load 32 (.tmp 1)) 32) rfl (.agg #[.int .i64 m.kind, .int .i64 m.frm, .int .i64 m.to, .int .u32 m.view, .int .u32 m.seq, .slice m.na m.N.length m.nc, .slice m.wa m.W.length m.wc]) (x_load_agg (b := b_1) (off := 0) (n := 7) (by kernel_rfl) (by kernel_rfl) hk_11.1 (Nat.le_of_ble_eq_true rfl) (by kernel_rfl)) trivial ?_
  refine wkc 4 39 #[.tmp 3, .const (.slice none 0 0)] #[32, 81] 83 #[.agg #[.int .i64 m.kind, .int .i64 m.frm, .int .i64 m.to, .int .u32 m.view, .int .u32 m.seq, .slice m.na m.N.length m.nc, .slice m.wa m.W.length m.wc], .slice none 0 0] Try.func39 (frameOf_c (m := m) (γ := γ_7) (fun w_12 γ_13 gx_14 => ⟨?_, ?_⟩))
  · exact trivial
  have hsz_15 := gx_14.size
  by_cases h_16 : 1 ≤ m.kind ∧ m.kind ≤ 20 ∧ 0 ≤ m.frm ∧ m.frm < 16 ∧ 0 ≤ m.to ∧ m.to < 16
  · refine wkc 5 38 #[.tmp 4] #[83] 4 #[.agg #[.int .i64 m.kind, .int .i64 m.frm, .int .i64 m.to, .int .u32 m.view, .int .u32 m.seq, .slice none 0 0]] Try.func38 (fgood_c (m := m) (γ := γ_13) (decide_eq_true h_16) (fun w_17 γ_18 gx_19 => ⟨?_, ?_⟩))
    · exact trivial
    have hsz_20 := gx_19.size
    refine wpm 6 (.tmp 5) 4 (.bool true) ?_
    refine wk_pure (opg 7 (.fieldAddr 32 (.tmp 1) 5) 0 3 true) (by kernel_rfl) (.pointer (some ⟨b_1, 5, none⟩)) (fun _ => x_fieldAddr (b := b_1) (off := 0) (o := 5) (by kernel_rfl) (by kernel_rfl)) ?_
    have hb_21 := (Bk.keep (Bk.keep hk_11 gx_14 ni0) gx_19 ni0)
    refine wk_val (opg 8 (.load 29 (.tmp 7)) 29 3 true) (by kernel_rfl) (.slice m.na m.N.length m.nc) (x_load (b := b_1) (off := 5) (by kernel_rfl) (by kernel_rfl) hb_21.1 (by kernel_rfl)) trivial ?_
    refine wk_pure (opg 9 (.call ⟨.builtin .len, #[.tmp 8], #[29]⟩) 3 3 true) (by kernel_rfl) (.int .i64 ((m.N.length : Nat) : Int)) (fun _ => x_len (a := m.na) (n := m.N.length) (c := m.nc) (by kernel_rfl) (by kernel_rfl)) ?_
    by_cases h_22 : (((m.N.length : Nat) : Int) : Int) ≤ 500
    · refine wk_pure (opg 10 (.binOp .leq 3 (.tmp 9) (.const (.int .i64 500)) 3) 4 3 true) (by kernel_rfl) (.bool true) (fun _ => y_leq (k := .i64) (a := ((m.N.length : Nat) : Int)) (b := 500) (by kernel_rfl) (by kernel_rfl) (decide_eq_true h_22)) ?_
      refine wpt 11 (.tmp 6) (.tmp 10) (.const (.bool false)) 4 (.bool true) ?_
      refine wpm 12 (.tmp 11) 4 (.bool true) ?_
      refine wk_pure (opg 13 (.fieldAddr 32 (.tmp 1) 6) 0 9 true) (by kernel_rfl) (.pointer (some ⟨b_1, 6, none⟩)) (fun _ => x_fieldAddr (b := b_1) (off := 0) (o := 6) (by kernel_rfl) (by kernel_rfl)) ?_
      refine wk_val (opg 14 (.load 30 (.tmp 13)) 30 9 true) (by kernel_rfl) (.slice m.wa m.W.length m.wc) (x_load (b := b_1) (off := 6) (by kernel_rfl) (by kernel_rfl) hb_21.1 (by kernel_rfl)) trivial ?_
      refine wk_pure (opg 15 (.call ⟨.builtin .len, #[.tmp 14], #[30]⟩) 3 9 true) (by kernel_rfl) (.int .i64 ((m.W.length : Nat) : Int)) (fun _ => x_len (a := m.wa) (n := m.W.length) (c := m.wc) (by kernel_rfl) (by kernel_rfl)) ?_
      by_cases h_23 : (((m.W.length : Nat) : Int) : Int) ≤ 500
      · refine wk_pure (opg 16 (.binOp .leq 3 (.tmp 15) (.const (.int .i64 500)) 3) 4 9 true) (by kernel_rfl) (.bool true) (fun _ => y_leq (k := .i64) (a := ((m.W.length : Nat) : Int)) (b := 500) (by kernel_rfl) (by kernel_rfl) (decide_eq_true h_23)) ?_
        refine wpt 17 (.tmp 12) (.tmp 16) (.const (.bool false)) 4 (.bool true) ?_
        refine wpa 2 (.tmp 17) 4 (.bool true) ?_
        refine wk_nil ?_
        refine thn_n ?_
        refine g_ret (by kernel_rfl) ?_
        refine ends1_r (v := .bool true) rfl (by kernel_rfl) ?_
        have e_ : true = t := by rw [← ht]; exact (decide_eq_true (by omega)).symm
        rw [e_]
        exact hK _ _ (GX.trans (GX.trans (GX.then0 (GX.refl [] _ _) e_3 hg_8) gx_14 (fun _ h_ => absurd h_ List.not_mem_nil)) gx_19 (fun _ h_ => absurd h_ List.not_mem_nil))
      refine wk_pure (opg 16 (.binOp .leq 3 (.tmp 15) (.const (.int .i64 500)) 3) 4 9 true) (by kernel_rfl) (.bool false) (fun _ => y_leq (k := .i64) (a := ((m.W.length : Nat) : Int)) (b := 500) (by kernel_rfl) (by kernel_rfl) (decide_eq_false h_23)) ?_
      refine wpt 17 (.tmp 12) (.tmp 16) (.const (.bool false)) 4 (.bool false) ?_
      refine wpa 2 (.tmp 17) 4 (.bool false) ?_
      refine wk_nil ?_
      refine thn_n ?_
      refine g_ret (by kernel_rfl) ?_
      refine ends1_r (v := .bool false) rfl (by kernel_rfl) ?_
      have e_ : false = t := by rw [← ht]; exact (decide_eq_false (by omega)).symm
      rw [e_]
      exact hK _ _ (GX.trans (GX.trans (GX.then0 (GX.refl [] _ _) e_3 hg_8) gx_14 (fun _ h_ => absurd h_ List.not_mem_nil)) gx_19 (fun _ h_ => absurd h_ List.not_mem_nil))
    refine wk_pure (opg 10 (.binOp .leq 3 (.tmp 9) (.const (.int .i64 500)) 3) 4 3 true) (by kernel_rfl) (.bool false) (fun _ => y_leq (k := .i64) (a := ((m.N.length : Nat) : Int)) (b := 500) (by kernel_rfl) (by kernel_rfl) (decide_eq_false h_22)) ?_
    refine wpt 11 (.tmp 6) (.tmp 10) (.const (.bool false)) 4 (.bool false) ?_
    refine wpm 12 (.tmp 11) 4 (.bool false) ?_
    refine wks 13 ?_
    refine wks 14 ?_
    refine wks 15 ?_
    refine wks 16 ?_
    refine wpk 17 (.tmp 12) (.tmp 16) (.const (.bool false)) 4 (.bool false) ?_
    refine wpa 2 (.tmp 17) 4 (.bool false) ?_
    refine wk_nil ?_
    refine thn_n ?_
    refine g_ret (by kernel_rfl) ?_
    refine ends1_r (v := .bool false) rfl (by kernel_rfl) ?_
    have e_ : false = t := by rw [← ht]; exact (decide_eq_false (by omega)).symm
    rw [e_]
    exact hK _ _ (GX.trans (GX.trans (GX.then0 (GX.refl [] _ _) e_3 hg_8) gx_14 (fun _ h_ => absurd h_ List.not_mem_nil)) gx_19 (fun _ h_ => absurd h_ List.not_mem_nil))
  refine wkc 5 38 #[.tmp 4] #[83] 4 #[.agg #[.int .i64 m.kind, .int .i64 m.frm, .int .i64 m.to, .int .u32 m.view, .int .u32 m.seq, .slice none 0 0]] Try.func38 (fgood_c (m := m) (γ := γ_13) (decide_eq_false h_16) (fun w_24 γ_25 gx_26 => ⟨?_, ?_⟩))
  · exact trivial
  have hsz_27 := gx_26.size
  refine wpm 6 (.tmp 5) 4 (.bool false) ?_
  refine wks 7 ?_
  refine wks 8 ?_
  refine wks 9 ?_
  refine wks 10 ?_
  refine wpk 11 (.tmp 6) (.tmp 10) (.const (.bool false)) 4 (.bool false) ?_
  refine wpm 12 (.tmp 11) 4 (.bool false) ?_
  refine wks 13 ?_
  refine wks 14 ?_
  refine wks 15 ?_
  refine wks 16 ?_
  refine wpk 17 (.tmp 12) (.tmp 16) (.const (.bool false)) 4 (.bool false) ?_
  refine wpa 2 (.tmp 17) 4 (.bool false) ?_
  refine wk_nil ?_
  refine thn_n ?_
  refine g_ret (by kernel_rfl) ?_
  refine ends1_r (v := .bool false) rfl (by kernel_rfl) ?_
  have e_ : false = t := by rw [← ht]; exact (decide_eq_false (by omega)).symm
  rw [e_]
  exact hK _ _ (GX.trans (GX.trans (GX.then0 (GX.refl [] _ _) e_3 hg_8) gx_14 (fun _ h_ => absurd h_ List.not_mem_nil)) gx_26 (fun _ h_ => absurd h_ List.not_mem_nil))

noncomputable def lBN5_0 : Code := (Try.f32.body).getD .skip
noncomputable def lBN5_1 : Code := s1 lBN5_0
noncomputable def lBN5_2 : Code := s2 lBN5_0
noncomputable def lBR5_0 : Array Oper := rops lBN5_1
noncomputable def lBN5_3 : Code := s1 lBN5_2
noncomputable def lBN5_4 : Code := s2 lBN5_2
noncomputable def lBR5_1 : Array Oper := rops lBN5_3
theorem may_c {m : MsgR} {w : World} {γ : Nat → Nat} {t : Bool} (ht : decide (1 ≤ m.kind ∧ m.kind ≤ 20 ∧ 0 ≤ m.frm ∧ m.frm < 16 ∧ 0 ≤ m.to ∧ m.to < 16 ∧ m.N.length ≤ 500 ∧ m.W.length ≤ 500) = t) {K : Value → World → Prop} (hK : ∀ w' γ', GX [] w γ w' γ' → K (.bool t) w') : CallsV Try.prog 32 #[.agg #[.int .i64 m.kind, .int .i64 m.frm, .int .i64 m.to, .int .u32 m.view, .int .u32 m.seq, .slice m.na m.N.length m.nc, .slice m.wa m.W.length m.wc]] w K := by
  refine callsV_of (c := lBN5_0) Try.func32 (by kernel_rfl) (n := 28) (by kernel_rfl) ?_
  refine g_seq (x := lBN5_1) (y := lBN5_2) (by kernel_rfl) ?_
  refine g_region (ops := lBR5_0) (id := 0) (by kernel_rfl) [lo 0, pu 1] (by kernel_rfl) (by kernel_rfl) ?_
  refine wk_box (cs := #[.int .i64 m.kind, .int .i64 m.frm, .int .i64 m.to, .int .u32 m.view, .int .u32 m.seq, .slice m.na m.N.length m.nc, .slice m.wa m.W.length m.wc]) (opd 1 (.box 50 (.tmp 0)) 0) rfl (by kernel_rfl) (fun w_2 b_1 eq_4 e_3 sz_5 hb_6 => ⟨?_, ?_⟩)
  · exact trivial
  obtain ⟨γ_7, hg_8, hn_9⟩ := cls_new γ w.heap.size 13201
  have gx_10 := GX.ext0 [] e_3 hg_8
  have hk_11 : Bk γ_7 w_2 b_1 13201 (.cells #[.int .i64 m.kind, .int .i64 m.frm, .int .i64 m.to, .int .u32 m.view, .int .u32 m.seq, .slice m.na m.N.length m.nc, .slice m.wa m.W.length m.wc] 50 (0, 0)) := ⟨hb_6, hn_9 _ (by omega)⟩
  refine wpa 2 (.const (.bool false)) 4 (.bool false) ?_
  refine wk_nil ?_
  refine thn_n ?_
  refine g_seq (x := lBN5_3) (y := lBN5_4) (by kernel_rfl) ?_
  refine g_region (ops := lBR5_1) (id := 1) (by kernel_rfl) [pu 0, lo 1, lo 2, pu 3, pu 4, lo 5, lo 6, pu 7, pu 8, pu 9, lo 10, lo 11, pu 12, pu 13, pu 14, lo 15, pu 16, pu 17, pu 18, pu 19, pu 20, lo 21, pu 22, pu 23, pu 24, pu 25] (by kernel_rfl) (by kernel_rfl) ?_
  refine wpf 3 50 (.tmp 1) 0 b_1 0 0 0 ?_
  refine wpl 4 3 (.tmp 3) (.int .i64 m.kind) b_1 0 hk_11.1 ?_
  by_cases h_12 : 1 ≤ m.kind ∧ m.kind ≤ 20
  · refine wkc 5 45 #[.tmp 4, .const (.int .i64 1), .const (.int .i64 20)] #[3, 3, 3] 4 #[.int .i64 m.kind, .int .i64 1, .int .i64 20] Try.func45 (in_c (decide_eq_true h_12) (fun w_13 sm_14 => ⟨?_, ?_⟩))
    · exact trivial
    have gx_15 := GX.same [] γ_7 sm_14
    have hsz_16 : w_13.heap.size = w_2.heap.size := by rw [sm_14.heap]
    refine wpm 6 (.tmp 5) 4 (.bool true) ?_
    refine wk_pure (opg 7 (.fieldAddr 50 (.tmp 1) 1) 0 3 true) (by kernel_rfl) (.pointer (some ⟨b_1, 1, none⟩)) (fun _ => x_fieldAddr (b := b_1) (off := 0) (o := 1) (by kernel_rfl) (by kernel_rfl)) ?_
    have hb_17 := (Bk.keep hk_11 gx_15 ni0)
    refine wk_val (opg 8 (.load 3 (.tmp 7)) 3 3 true) (by kernel_rfl) (.int .i64 m.frm) (x_load (b := b_1) (off := 1) (by kernel_rfl) (by kernel_rfl) hb_17.1 (by kernel_rfl)) trivial ?_
    by_cases h_18 : 0 ≤ m.frm ∧ m.frm ≤ 15
    · refine wk_call (opg 9 (.call ⟨.value (.func 45), #[.tmp 8, .const (.int .i64 0), .const (.int .i64 15)], #[3, 3, 3]⟩) 4 3 true) (by kernel_rfl) 45 #[.int .i64 m.frm, .int .i64 0, .int .i64 15] (x_call Try.func45 (by kernel_rfl) (c := (Try.f45.body).getD .skip) (by kernel_rfl) (by kernel_rfl) (by kernel_rfl)) (in_c (decide_eq_true h_18) (fun w_19 sm_20 => ⟨?_, ?_⟩))
      · exact trivial
      have gx_21 := GX.same [] γ_7 sm_20
      have hsz_22 : w_19.heap.size = w_13.heap.size := by rw [sm_20.heap]
      refine wpt 10 (.tmp 6) (.tmp 9) (.const (.bool false)) 4 (.bool true) ?_
      refine wpm 11 (.tmp 10) 4 (.bool true) ?_
      refine wk_pure (opg 12 (.fieldAddr 50 (.tmp 1) 2) 0 8 true) (by kernel_rfl) (.pointer (some ⟨b_1, 2, none⟩)) (fun _ => x_fieldAddr (b := b_1) (off := 0) (o := 2) (by kernel_rfl) (by kernel_rfl)) ?_
      have hb_23 := (Bk.keep hb_17 gx_21 ni0)
      refine wk_val (opg 13 (.load 3 (.tmp 12)) 3 8 true) (by kernel_rfl) (.int .i64 m.to) (x_load (b := b_1) (off := 2) (by kernel_rfl) (by kernel_rfl) hb_23.1 (by kernel_rfl)) trivial ?_
      by_cases h_24 : 0 ≤ m.to ∧ m.to ≤ 15
      · refine wk_call (opg 14 (.call ⟨.value (.func 45), #[.tmp 13, .const (.int .i64 0), .const (.int .i64 15)], #[3, 3, 3]⟩) 4 8 true) (by kernel_rfl) 45 #[.int .i64 m.to, .int .i64 0, .int .i64 15] (x_call Try.func45 (by kernel_rfl) (c := (Try.f45.body).getD .skip) (by kernel_rfl) (by kernel_rfl) (by kernel_rfl)) (in_c (decide_eq_true h_24) (fun w_25 sm_26 => ⟨?_, ?_⟩))
        · exact trivial
        have gx_27 := GX.same [] γ_7 sm_26
        have hsz_28 : w_25.heap.size = w_19.heap.size := by rw [sm_26.heap]
        refine wpt 15 (.tmp 11) (.tmp 14) (.const (.bool false)) 4 (.bool true) ?_
        refine wpm 16 (.tmp 15) 4 (.bool true) ?_
        refine wk_pure (opg 17 (.fieldAddr 50 (.tmp 1) 5) 0 13 true) (by kernel_rfl) (.pointer (some ⟨b_1, 5, none⟩)) (fun _ => x_fieldAddr (b := b_1) (off := 0) (o := 5) (by kernel_rfl) (by kernel_rfl)) ?_
        have hb_29 := (Bk.keep hb_23 gx_27 ni0)
        refine wk_val (opg 18 (.load 29 (.tmp 17)) 29 13 true) (by kernel_rfl) (.slice m.na m.N.length m.nc) (x_load (b := b_1) (off := 5) (by kernel_rfl) (by kernel_rfl) hb_29.1 (by kernel_rfl)) trivial ?_
        refine wk_pure (opg 19 (.call ⟨.builtin .len, #[.tmp 18], #[29]⟩) 3 13 true) (by kernel_rfl) (.int .i64 ((m.N.length : Nat) : Int)) (fun _ => x_len (a := m.na) (n := m.N.length) (c := m.nc) (by kernel_rfl) (by kernel_rfl)) ?_
        by_cases h_30 : (((m.N.length : Nat) : Int) : Int) ≤ 500
        · refine wk_pure (opg 20 (.binOp .leq 3 (.tmp 19) (.const (.int .i64 500)) 3) 4 13 true) (by kernel_rfl) (.bool true) (fun _ => y_leq (k := .i64) (a := ((m.N.length : Nat) : Int)) (b := 500) (by kernel_rfl) (by kernel_rfl) (decide_eq_true h_30)) ?_
          refine wpt 21 (.tmp 16) (.tmp 20) (.const (.bool false)) 4 (.bool true) ?_
          refine wpm 22 (.tmp 21) 4 (.bool true) ?_
          refine wk_pure (opg 23 (.fieldAddr 50 (.tmp 1) 6) 0 19 true) (by kernel_rfl) (.pointer (some ⟨b_1, 6, none⟩)) (fun _ => x_fieldAddr (b := b_1) (off := 0) (o := 6) (by kernel_rfl) (by kernel_rfl)) ?_
          refine wk_val (opg 24 (.load 30 (.tmp 23)) 30 19 true) (by kernel_rfl) (.slice m.wa m.W.length m.wc) (x_load (b := b_1) (off := 6) (by kernel_rfl) (by kernel_rfl) hb_29.1 (by kernel_rfl)) trivial ?_
          refine wk_pure (opg 25 (.call ⟨.builtin .len, #[.tmp 24], #[30]⟩) 3 19 true) (by kernel_rfl) (.int .i64 ((m.W.length : Nat) : Int)) (fun _ => x_len (a := m.wa) (n := m.W.length) (c := m.wc) (by kernel_rfl) (by kernel_rfl)) ?_
          by_cases h_31 : (((m.W.length : Nat) : Int) : Int) ≤ 500
          · refine wk_pure (opg 26 (.binOp .leq 3 (.tmp 25) (.const (.int .i64 500)) 3) 4 19 true) (by kernel_rfl) (.bool true) (fun _ => y_leq (k := .i64) (a := ((m.W.length : Nat) : Int)) (b := 500) (by kernel_rfl) (by kernel_rfl) (decide_eq_true h_31)) ?_
            refine wpt 27 (.tmp 22) (.tmp 26) (.const (.bool false)) 4 (.bool true) ?_
            refine wpa 2 (.tmp 27) 4 (.bool true) ?_
            refine wk_nil ?_
            refine thn_n ?_
            refine g_ret (by kernel_rfl) ?_
            refine ends1_r (v := .bool true) rfl (by kernel_rfl) ?_
            have e_ : true = t := by rw [← ht]; exact (decide_eq_true (by omega)).symm
            rw [e_]
            exact hK _ _ (GX.then_same (GX.then_same (GX.then_same (GX.then0 (GX.refl [] _ _) e_3 hg_8) sm_14) sm_20) sm_26)
          refine wk_pure (opg 26 (.binOp .leq 3 (.tmp 25) (.const (.int .i64 500)) 3) 4 19 true) (by kernel_rfl) (.bool false) (fun _ => y_leq (k := .i64) (a := ((m.W.length : Nat) : Int)) (b := 500) (by kernel_rfl) (by kernel_rfl) (decide_eq_false h_31)) ?_
          refine wpt 27 (.tmp 22) (.tmp 26) (.const (.bool false)) 4 (.bool false) ?_
          refine wpa 2 (.tmp 27) 4 (.bool false) ?_
          refine wk_nil ?_
          refine thn_n ?_
          refine g_ret (by kernel_rfl) ?_
          refine ends1_r (v := .bool false) rfl (by kernel_rfl) ?_
          have e_ : false = t := by rw [← ht]; exact (decide_eq_false (by omega)).symm
          rw [e_]
          exact hK _ _ (GX.then_same (GX.then_same (GX.then_same (GX.then0 (GX.refl [] _ _) e_3 hg_8) sm_14) sm_20) sm_26)
        refine wk_pure (opg 20 (.binOp .leq 3 (.tmp 19) (.const (.int .i64 500)) 3) 4 13 true) (by kernel_rfl) (.bool false) (fun _ => y_leq (k := .i64) (a := ((m.N.length : Nat) : Int)) (b := 500) (by kernel_rfl) (by kernel_rfl) (decide_eq_false h_30)) ?_
        refine wpt 21 (.tmp 16) (.tmp 20) (.const (.bool false)) 4 (.bool false) ?_
        refine wpm 22 (.tmp 21) 4 (.bool false) ?_
        refine wks 23 ?_
        refine wks 24 ?_
        refine wks 25 ?_
        refine wks 26 ?_
        refine wpk 27 (.tmp 22) (.tmp 26) (.const (.bool false)) 4 (.bool false) ?_
        refine wpa 2 (.tmp 27) 4 (.bool false) ?_
        refine wk_nil ?_
        refine thn_n ?_
        refine g_ret (by kernel_rfl) ?_
        refine ends1_r (v := .bool false) rfl (by kernel_rfl) ?_
        have e_ : false = t := by rw [← ht]; exact (decide_eq_false (by omega)).symm
        rw [e_]
        exact hK _ _ (GX.then_same (GX.then_same (GX.then_same (GX.then0 (GX.refl [] _ _) e_3 hg_8) sm_14) sm_20) sm_26)
      refine wk_call (opg 14 (.call ⟨.value (.func 45), #[.tmp 13, .const (.int .i64 0), .const (.int .i64 15)], #[3, 3, 3]⟩) 4 8 true) (by kernel_rfl) 45 #[.int .i64 m.to, .int .i64 0, .int .i64 15] (x_call Try.func45 (by kernel_rfl) (c := (Try.f45.body).getD .skip) (by kernel_rfl) (by kernel_rfl) (by kernel_rfl)) (in_c (decide_eq_false h_24) (fun w_32 sm_33 => ⟨?_, ?_⟩))
      · exact trivial
      have gx_34 := GX.same [] γ_7 sm_33
      have hsz_35 : w_32.heap.size = w_19.heap.size := by rw [sm_33.heap]
      refine wpt 15 (.tmp 11) (.tmp 14) (.const (.bool false)) 4 (.bool false) ?_
      refine wpm 16 (.tmp 15) 4 (.bool false) ?_
      refine wks 17 ?_
      refine wks 18 ?_
      refine wks 19 ?_
      refine wks 20 ?_
      refine wpk 21 (.tmp 16) (.tmp 20) (.const (.bool false)) 4 (.bool false) ?_
      refine wpm 22 (.tmp 21) 4 (.bool false) ?_
      refine wks 23 ?_
      refine wks 24 ?_
      refine wks 25 ?_
      refine wks 26 ?_
      refine wpk 27 (.tmp 22) (.tmp 26) (.const (.bool false)) 4 (.bool false) ?_
      refine wpa 2 (.tmp 27) 4 (.bool false) ?_
      refine wk_nil ?_
      refine thn_n ?_
      refine g_ret (by kernel_rfl) ?_
      refine ends1_r (v := .bool false) rfl (by kernel_rfl) ?_
      have e_ : false = t := by rw [← ht]; exact (decide_eq_false (by omega)).symm
      rw [e_]
      exact hK _ _ (GX.then_same (GX.then_same (GX.then_same (GX.then0 (GX.refl [] _ _) e_3 hg_8) sm_14) sm_20) sm_33)
    refine wk_call (opg 9 (.call ⟨.value (.func 45), #[.tmp 8, .const (.int .i64 0), .const (.int .i64 15)], #[3, 3, 3]⟩) 4 3 true) (by kernel_rfl) 45 #[.int .i64 m.frm, .int .i64 0, .int .i64 15] (x_call Try.func45 (by kernel_rfl) (c := (Try.f45.body).getD .skip) (by kernel_rfl) (by kernel_rfl) (by kernel_rfl)) (in_c (decide_eq_false h_18) (fun w_36 sm_37 => ⟨?_, ?_⟩))
    · exact trivial
    have gx_38 := GX.same [] γ_7 sm_37
    have hsz_39 : w_36.heap.size = w_13.heap.size := by rw [sm_37.heap]
    refine wpt 10 (.tmp 6) (.tmp 9) (.const (.bool false)) 4 (.bool false) ?_
    refine wpm 11 (.tmp 10) 4 (.bool false) ?_
    refine wks 12 ?_
    refine wks 13 ?_
    refine wks 14 ?_
    refine wpk 15 (.tmp 11) (.tmp 14) (.const (.bool false)) 4 (.bool false) ?_
    refine wpm 16 (.tmp 15) 4 (.bool false) ?_
    refine wks 17 ?_
    refine wks 18 ?_
    refine wks 19 ?_
    refine wks 20 ?_
    refine wpk 21 (.tmp 16) (.tmp 20) (.const (.bool false)) 4 (.bool false) ?_
    refine wpm 22 (.tmp 21) 4 (.bool false) ?_
    refine wks 23 ?_
    refine wks 24 ?_
    refine wks 25 ?_
    refine wks 26 ?_
    refine wpk 27 (.tmp 22) (.tmp 26) (.const (.bool false)) 4 (.bool false) ?_
    refine wpa 2 (.tmp 27) 4 (.bool false) ?_
    refine wk_nil ?_
    refine thn_n ?_
    refine g_ret (by kernel_rfl) ?_
    refine ends1_r (v := .bool false) rfl (by kernel_rfl) ?_
    have e_ : false = t := by rw [← ht]; exact (decide_eq_false (by omega)).symm
    rw [e_]
    exact hK _ _ (GX.then_same (GX.then_same (GX.then0 (GX.refl [] _ _) e_3 hg_8) sm_14) sm_37)
  refine wkc 5 45 #[.tmp 4, .const (.int .i64 1), .const (.int .i64 20)] #[3, 3, 3] 4 #[.int .i64 m.kind, .int .i64 1, .int .i64 20] Try.func45 (in_c (decide_eq_false h_12) (fun w_40 sm_41 => ⟨?_, ?_⟩))
  · exact trivial
  have gx_42 := GX.same [] γ_7 sm_41
  have hsz_43 : w_40.heap.size = w_2.heap.size := by rw [sm_41.heap]
  refine wpm 6 (.tmp 5) 4 (.bool false) ?_
  refine wks 7 ?_
  refine wks 8 ?_
  refine wks 9 ?_
  refine wpk 10 (.tmp 6) (.tmp 9) (.const (.bool false)) 4 (.bool false) ?_
  refine wpm 11 (.tmp 10) 4 (.bool false) ?_
  refine wks 12 ?_
  refine wks 13 ?_
  refine wks 14 ?_
  refine wpk 15 (.tmp 11) (.tmp 14) (.const (.bool false)) 4 (.bool false) ?_
  refine wpm 16 (.tmp 15) 4 (.bool false) ?_
  refine wks 17 ?_
  refine wks 18 ?_
  refine wks 19 ?_
  refine wks 20 ?_
  refine wpk 21 (.tmp 16) (.tmp 20) (.const (.bool false)) 4 (.bool false) ?_
  refine wpm 22 (.tmp 21) 4 (.bool false) ?_
  refine wks 23 ?_
  refine wks 24 ?_
  refine wks 25 ?_
  refine wks 26 ?_
  refine wpk 27 (.tmp 22) (.tmp 26) (.const (.bool false)) 4 (.bool false) ?_
  refine wpa 2 (.tmp 27) 4 (.bool false) ?_
  refine wk_nil ?_
  refine thn_n ?_
  refine g_ret (by kernel_rfl) ?_
  refine ends1_r (v := .bool false) rfl (by kernel_rfl) ?_
  have e_ : false = t := by rw [← ht]; exact (decide_eq_false (by omega)).symm
  rw [e_]
  exact hK _ _ (GX.then_same (GX.then0 (GX.refl [] _ _) e_3 hg_8) sm_41)

noncomputable def lBN6_0 : Code := (Try.f17.body).getD .skip
noncomputable def lBN6_1 : Code := s1 lBN6_0
noncomputable def lBN6_2 : Code := s2 lBN6_0
noncomputable def lBR6_0 : Array Oper := rops lBN6_1
noncomputable def lBN6_3 : Code := s1 lBN6_2
noncomputable def lBN6_4 : Code := s2 lBN6_2
noncomputable def lBR6_1 : Array Oper := rops lBN6_3
theorem mown_c {m : MsgR} {w : World} {γ : Nat → Nat}  {K : Value → World → Prop} (hK : ∀ w' γ', GX [] w γ w' γ' → K (.agg (encM m).toArray) w') : CallsV Try.prog 17 #[.agg #[.int .i64 m.kind, .int .i64 m.frm, .int .i64 m.to, .int .u32 m.view, .int .u32 m.seq, .slice m.na m.N.length m.nc, .slice m.wa m.W.length m.wc]] w K := by
  refine callsV_of (c := lBN6_0) Try.func17 (by kernel_rfl) (n := 18) (by kernel_rfl) ?_
  refine g_seq (x := lBN6_1) (y := lBN6_2) (by kernel_rfl) ?_
  refine g_region (ops := lBR6_0) (id := 0) (by kernel_rfl) [lo 0, lo 1] (by kernel_rfl) (by kernel_rfl) ?_
  refine wk_box (cs := #[.int .i64 m.kind, .int .i64 m.frm, .int .i64 m.to, .int .u32 m.view, .int .u32 m.seq, .slice m.na m.N.length m.nc, .slice m.wa m.W.length m.wc]) (opd 1 (.box 32 (.tmp 0)) 0) rfl (by kernel_rfl) (fun w_2 b_1 eq_4 e_3 sz_5 hb_6 => ⟨?_, ?_⟩)
  · exact trivial
  obtain ⟨γ_7, hg_8, hn_9⟩ := cls_new γ w.heap.size 11701
  have gx_10 := GX.ext0 [] e_3 hg_8
  have hk_11 : Bk γ_7 w_2 b_1 11701 (.cells #[.int .i64 m.kind, .int .i64 m.frm, .int .i64 m.to, .int .u32 m.view, .int .u32 m.seq, .slice m.na m.N.length m.nc, .slice m.wa m.W.length m.wc] 32 (0, 0)) := ⟨hb_6, hn_9 _ (by omega)⟩
  refine wk_alloc (z := #[.int .i64 0, .int .i64 0, .int .i64 0, .int .u32 0, .int .u32 0, .slice none 0 0, .slice none 0 0]) (opd 2 (.alloc 50) 0) rfl (by kernel_rfl) (fun w_13 b_12 eq_15 e_14 sz_16 hb_17 => ⟨?_, ?_⟩)
  · exact trivial
  obtain ⟨γ_18, hg_19, hn_20⟩ := cls_new γ_7 w_2.heap.size 11702
  have gx_21 := GX.ext0 [] e_14 hg_19
  have hk_22 : Bk γ_18 w_13 b_12 11702 (.cells #[.int .i64 0, .int .i64 0, .int .i64 0, .int .u32 0, .int .u32 0, .slice none 0 0, .slice none 0 0] 50 (0, 0)) := ⟨hb_17, hn_20 _ (by omega)⟩
  refine wk_nil ?_
  refine thn_n ?_
  refine g_seq (x := lBN6_3) (y := lBN6_4) (by kernel_rfl) ?_
  refine g_region (ops := lBR6_1) (id := 1) (by kernel_rfl) [pu 0, lo 1, pu 2, lo 3, pu 4, lo 5, pu 6, lo 7, pu 8, lo 9, pu 10, lo 11, pu 12, lo 13, pu 14, lo 15] (by kernel_rfl) (by kernel_rfl) ?_
  refine wpf 3 32 (.tmp 1) 0 b_1 0 0 0 ?_
  have hb_23 := (Bk.keep hk_11 gx_21 ni0)
  refine wpl 4 3 (.tmp 3) (.int .i64 m.kind) b_1 0 hb_23.1 ?_
  refine wpf 5 32 (.tmp 1) 1 b_1 0 1 1 ?_
  refine wpl 6 3 (.tmp 5) (.int .i64 m.frm) b_1 1 hb_23.1 ?_
  refine wpf 7 32 (.tmp 1) 2 b_1 0 2 2 ?_
  refine wpl 8 3 (.tmp 7) (.int .i64 m.to) b_1 2 hb_23.1 ?_
  refine wpf 9 32 (.tmp 1) 3 b_1 0 3 3 ?_
  refine wpl 10 27 (.tmp 9) (.int .u32 m.view) b_1 3 hb_23.1 ?_
  refine wpf 11 32 (.tmp 1) 4 b_1 0 4 4 ?_
  refine wpl 12 27 (.tmp 11) (.int .u32 m.seq) b_1 4 hb_23.1 ?_
  refine wpf 13 32 (.tmp 1) 5 b_1 0 5 5 ?_
  refine wpl 14 29 (.tmp 13) (.slice m.na m.N.length m.nc) b_1 5 hb_23.1 ?_
  refine wpf 15 32 (.tmp 1) 6 b_1 0 6 6 ?_
  refine wpl 16 30 (.tmp 15) (.slice m.wa m.W.length m.wc) b_1 6 hb_23.1 ?_
  refine wk_pure (opd 17 (.build 50 #[(0, .tmp 4), (1, .tmp 6), (2, .tmp 8), (3, .tmp 10), (4, .tmp 12), (5, .tmp 14), (6, .tmp 16)]) 50) rfl (.agg #[.int .i64 m.kind, .int .i64 m.frm, .int .i64 m.to, .int .u32 m.view, .int .u32 m.seq, .slice m.na m.N.length m.nc, .slice m.wa m.W.length m.wc]) (fun _ => x_build (by kernel_rfl)) ?_
  refine wk_store (b := b_12) (off := 0) (cs' := #[.int .i64 m.kind, .int .i64 m.frm, .int .i64 m.to, .int .u32 m.view, .int .u32 m.seq, .slice m.na m.N.length m.nc, .slice m.wa m.W.length m.wc]) (vs := #[.int .i64 m.kind, .int .i64 m.frm, .int .i64 m.to, .int .u32 m.view, .int .u32 m.seq, .slice m.na m.N.length m.nc, .slice m.wa m.W.length m.wc]) (opn (.store 50 (.tmp 2) (.tmp 17)) 0) rfl (by kernel_rfl) (by kernel_rfl) (by kernel_rfl) (by kernel_rfl) hk_22.1 (Nat.le_of_ble_eq_true rfl) (by kernel_rfl) (by kernel_rfl) (fun w_24 e_25 sz_26 hb_27 => ⟨?_, ?_⟩)
  · exact trivial
  have gx_28 : GX [11702] w_13 γ_18 w_24 γ_18 := GX.ext1 e_25 hk_22.2 (fun _ _ => rfl)
  have hk_29 : Bk γ_18 w_24 b_12 11702 (.cells #[.int .i64 m.kind, .int .i64 m.frm, .int .i64 m.to, .int .u32 m.view, .int .u32 m.seq, .slice m.na m.N.length m.nc, .slice m.wa m.W.length m.wc] 50 (0, 0)) := ⟨hb_27, hk_22.2⟩
  refine wk_nil ?_
  refine thn_n ?_
  refine g_ret (by kernel_rfl) ?_
  refine endsR (v := .agg #[.int .i64 m.kind, .int .i64 m.frm, .int .i64 m.to, .int .u32 m.view, .int .u32 m.seq, .slice m.na m.N.length m.nc, .slice m.wa m.W.length m.wc]) (runRL (vs := [.agg #[.int .i64 m.kind, .int .i64 m.frm, .int .i64 m.to, .int .u32 m.view, .int .u32 m.seq, .slice m.na m.N.length m.nc, .slice m.wa m.W.length m.wc]]) (rs := [.cell 2 50]) rfl (RL.cons (.agg (n := 7) (off := 0) (by kernel_rfl) (by kernel_rfl) hk_29.1 (Nat.le_of_ble_eq_true rfl) (by kernel_rfl)) RL.nil) rfl) ?_
  exact hK _ _ (GX.thenNew (GX.then0 (GX.then0 (GX.refl [] _ _) e_3 hg_8) e_14 hg_19) e_25 (by intro y_ hy_; simp only [List.mem_cons, List.not_mem_nil, or_false] at hy_; omega) (fun _ _ => rfl))

theorem getD_ext {L M : List Int} (h : L.length = M.length) (k : Nat) (hk : L.length ≤ k) (ha : ∀ j, j < k → L.getD j 0 = M.getD j 0) : L = M := by
  refine List.ext_getElem h fun i h1 h2 => ?_
  have := ha i (by omega)
  simpa [List.getD, h1, h2] using this
theorem abs_eq {m q : MsgR} : m.abs = q.abs ↔ m.kind = q.kind ∧ m.frm = q.frm ∧ m.to = q.to ∧ m.view = q.view ∧ m.seq = q.seq ∧ m.N = q.N ∧ m.W = q.W := by
  simp only [MsgR.abs, Msg.mk.injEq]

noncomputable def lBN7_0 : Code := (Try.f33.body).getD .skip
noncomputable def lBN7_1 : Code := s1 lBN7_0
noncomputable def lBN7_2 : Code := s2 lBN7_0
noncomputable def lBR7_0 : Array Oper := rops lBN7_1
noncomputable def lBN7_3 : Code := s1 lBN7_2
noncomputable def lBN7_4 : Code := s2 lBN7_2
noncomputable def lBN7_5 : Code := s1 lBN7_3
noncomputable def lBN7_6 : Code := s2 lBN7_3
noncomputable def lBR7_1 : Array Oper := rops lBN7_5
noncomputable def lBN7_7 : Code := s1 lBN7_6
noncomputable def lBN7_8 : Code := s2 lBN7_6
noncomputable def lBN7_9 : Code := s1 lBN7_7
noncomputable def lBN7_10 : Code := s2 lBN7_7
noncomputable def lBR7_2 : Array Oper := rops lBN7_9
noncomputable def lBN7_11 : Code := s1 lBN7_4
noncomputable def lBN7_12 : Code := s2 lBN7_4
noncomputable def lBN7_13 : Code := s1 lBN7_11
noncomputable def lBN7_14 : Code := s2 lBN7_11
noncomputable def lBR7_3 : Array Oper := rops lBN7_13
noncomputable def lBN7_15 : Code := s1 lBN7_14
noncomputable def lBN7_16 : Code := s1 lBN7_15
noncomputable def lBN7_17 : Code := s1 lBN7_16
noncomputable def lBN7_18 : Code := s2 lBN7_16
noncomputable def lBN7_19 : Code := s1 lBN7_17
noncomputable def lBN7_20 : Code := s2 lBN7_17
noncomputable def lBR7_4 : Array Oper := rops lBN7_19
noncomputable def lBN7_21 : Code := s1 lBN7_20
noncomputable def lBN7_22 : Code := s2 lBN7_20
noncomputable def lBN7_23 : Code := s1 lBN7_18
noncomputable def lBN7_24 : Code := s2 lBN7_18
noncomputable def lBN7_25 : Code := s1 lBN7_23
noncomputable def lBN7_26 : Code := s1 lBN7_25
noncomputable def lBN7_27 : Code := s2 lBN7_25
noncomputable def lBR7_6 : Array Oper := rops lBN7_26
noncomputable def lBN7_28 : Code := s1 lBN7_27
noncomputable def lBN7_29 : Code := s2 lBN7_27
noncomputable def lBN7_30 : Code := s1 lBN7_28
noncomputable def lBN7_31 : Code := s2 lBN7_28
noncomputable def lBR7_7 : Array Oper := rops lBN7_30
noncomputable def lBR7_5 : Array Oper := rops lBN7_24
noncomputable def lBN7_32 : Code := s1 lBN7_12
noncomputable def lBN7_33 : Code := s2 lBN7_12
noncomputable def lBN7_34 : Code := s1 lBN7_32
noncomputable def lBN7_35 : Code := s2 lBN7_32
noncomputable def lBR7_8 : Array Oper := rops lBN7_34
noncomputable def lBN7_36 : Code := s1 lBN7_35
noncomputable def lBN7_37 : Code := s1 lBN7_36
noncomputable def lBN7_38 : Code := s1 lBN7_37
noncomputable def lBN7_39 : Code := s2 lBN7_37
noncomputable def lBN7_40 : Code := s1 lBN7_38
noncomputable def lBN7_41 : Code := s2 lBN7_38
noncomputable def lBR7_9 : Array Oper := rops lBN7_40
noncomputable def lBN7_42 : Code := s1 lBN7_41
noncomputable def lBN7_43 : Code := s2 lBN7_41
noncomputable def lBN7_44 : Code := s1 lBN7_39
noncomputable def lBN7_45 : Code := s2 lBN7_39
noncomputable def lBN7_46 : Code := s1 lBN7_44
noncomputable def lBN7_47 : Code := s1 lBN7_46
noncomputable def lBN7_48 : Code := s2 lBN7_46
noncomputable def lBR7_11 : Array Oper := rops lBN7_47
noncomputable def lBN7_49 : Code := s1 lBN7_48
noncomputable def lBN7_50 : Code := s2 lBN7_48
noncomputable def lBN7_51 : Code := s1 lBN7_49
noncomputable def lBN7_52 : Code := s2 lBN7_49
noncomputable def lBR7_12 : Array Oper := rops lBN7_51
noncomputable def lBR7_10 : Array Oper := rops lBN7_45
noncomputable def lBN7_53 : Code := s1 lBN7_33
noncomputable def lBN7_54 : Code := s2 lBN7_33
noncomputable def lBR7_13 : Array Oper := rops lBN7_53
theorem same_c {m q : MsgR} {w : World} {γ : Nat → Nat} {t : Bool} (hm : MOk γ w m) (hq : MOk γ w q) (ht : decide (m.abs = q.abs) = t) {K : Value → World → Prop} (hK : ∀ w' γ', GX [] w γ w' γ' → K (.bool t) w') : CallsV Try.prog 33 #[.agg #[.int .i64 m.kind, .int .i64 m.frm, .int .i64 m.to, .int .u32 m.view, .int .u32 m.seq, .slice m.na m.N.length m.nc, .slice m.wa m.W.length m.wc], .agg #[.int .i64 q.kind, .int .i64 q.frm, .int .i64 q.to, .int .u32 q.view, .int .u32 q.seq, .slice q.na q.N.length q.nc, .slice q.wa q.W.length q.wc]] w K := by
  refine callsV_of (c := lBN7_0) Try.func33 (by kernel_rfl) (n := 94) (by kernel_rfl) ?_
  have hl1 := hm.nl
  have hl2 := hq.nl
  have hl3 := hm.wl
  have hl4 := hq.wl
  refine g_seq (x := lBN7_1) (y := lBN7_2) (by kernel_rfl) ?_
  refine g_region (ops := lBR7_0) (id := 0) (by kernel_rfl) [lo 0, lo 1, pu 2] (by kernel_rfl) (by kernel_rfl) ?_
  refine wk_box (cs := #[.int .i64 m.kind, .int .i64 m.frm, .int .i64 m.to, .int .u32 m.view, .int .u32 m.seq, .slice m.na m.N.length m.nc, .slice m.wa m.W.length m.wc]) (opd 2 (.box 50 (.tmp 0)) 0) rfl (by kernel_rfl) (fun w_2 b_1 eq_4 e_3 sz_5 hb_6 => ⟨?_, ?_⟩)
  · exact trivial
  obtain ⟨γ_7, hg_8, hn_9⟩ := cls_new γ w.heap.size 13301
  have gx_10 := GX.ext0 [] e_3 hg_8
  have hk_11 : Bk γ_7 w_2 b_1 13301 (.cells #[.int .i64 m.kind, .int .i64 m.frm, .int .i64 m.to, .int .u32 m.view, .int .u32 m.seq, .slice m.na m.N.length m.nc, .slice m.wa m.W.length m.wc] 50 (0, 0)) := ⟨hb_6, hn_9 _ (by omega)⟩
  refine wk_box (cs := #[.int .i64 q.kind, .int .i64 q.frm, .int .i64 q.to, .int .u32 q.view, .int .u32 q.seq, .slice q.na q.N.length q.nc, .slice q.wa q.W.length q.wc]) (opd 3 (.box 50 (.tmp 1)) 0) rfl (by kernel_rfl) (fun w_13 b_12 eq_15 e_14 sz_16 hb_17 => ⟨?_, ?_⟩)
  · exact trivial
  obtain ⟨γ_18, hg_19, hn_20⟩ := cls_new γ_7 w_2.heap.size 13302
  have gx_21 := GX.ext0 [] e_14 hg_19
  have hk_22 : Bk γ_18 w_13 b_12 13302 (.cells #[.int .i64 q.kind, .int .i64 q.frm, .int .i64 q.to, .int .u32 q.view, .int .u32 q.seq, .slice q.na q.N.length q.nc, .slice q.wa q.W.length q.wc] 50 (0, 0)) := ⟨hb_17, hn_20 _ (by omega)⟩
  refine wpa 4 (.const (.bool false)) 4 (.bool false) ?_
  refine wk_nil ?_
  refine thn_n ?_
  refine g_seq (x := lBN7_3) (y := lBN7_4) (by kernel_rfl) ?_
  refine g_seq (x := lBN7_5) (y := lBN7_6) (by kernel_rfl) ?_
  refine g_region (ops := lBR7_1) (id := 1) (by kernel_rfl) [pu 0, lo 1, pu 2, lo 3, pu 4, pu 5, pu 6, lo 7, pu 8, lo 9, pu 10, pu 11, pu 12, pu 13, lo 14, pu 15, lo 16, pu 17, pu 18, pu 19, pu 20, lo 21, pu 22, lo 23, pu 24, pu 25, pu 26, pu 27, lo 28, pu 29, lo 30, pu 31, pu 32, pu 33, pu 34, lo 35, pu 36, pu 37, lo 38, pu 39, pu 40, pu 41, pu 42, pu 43, lo 44, pu 45, pu 46, lo 47, pu 48, pu 49, pu 50] (by kernel_rfl) (by kernel_rfl) ?_
  refine wpf 7 50 (.tmp 2) 0 b_1 0 0 0 ?_
  have hb_23 := (Bk.keep hk_11 gx_21 ni0)
  refine wpl 8 3 (.tmp 7) (.int .i64 m.kind) b_1 0 hb_23.1 ?_
  refine wpf 9 50 (.tmp 3) 0 b_12 0 0 0 ?_
  refine wpl 10 3 (.tmp 9) (.int .i64 q.kind) b_12 0 hk_22.1 ?_
  by_cases h_24 : (m.kind : Int) ≠ q.kind
  · refine wk_pure (opd 11 (.binOp .neq 3 (.tmp 8) (.tmp 10) 3) 4) rfl (.bool true) (fun _ => y_neq (k := .i64) (a := m.kind) (b := q.kind) (by kernel_rfl) (by kernel_rfl) (decide_eq_true h_24)) ?_
    refine wpm 12 (.tmp 11) 4 (.bool true) ?_
    refine wks 13 ?_
    refine wks 14 ?_
    refine wks 15 ?_
    refine wks 16 ?_
    refine wks 17 ?_
    refine wpt 18 (.tmp 12) (.const (.bool true)) (.tmp 17) 4 (.bool true) ?_
    refine wpm 19 (.tmp 18) 4 (.bool true) ?_
    refine wks 20 ?_
    refine wks 21 ?_
    refine wks 22 ?_
    refine wks 23 ?_
    refine wks 24 ?_
    refine wpt 25 (.tmp 19) (.const (.bool true)) (.tmp 24) 4 (.bool true) ?_
    refine wpm 26 (.tmp 25) 4 (.bool true) ?_
    refine wks 27 ?_
    refine wks 28 ?_
    refine wks 29 ?_
    refine wks 30 ?_
    refine wks 31 ?_
    refine wpt 32 (.tmp 26) (.const (.bool true)) (.tmp 31) 4 (.bool true) ?_
    refine wpm 33 (.tmp 32) 4 (.bool true) ?_
    refine wks 34 ?_
    refine wks 35 ?_
    refine wks 36 ?_
    refine wks 37 ?_
    refine wks 38 ?_
    refine wpt 39 (.tmp 33) (.const (.bool true)) (.tmp 38) 4 (.bool true) ?_
    refine wpm 40 (.tmp 39) 4 (.bool true) ?_
    refine wks 41 ?_
    refine wks 42 ?_
    refine wks 43 ?_
    refine wks 44 ?_
    refine wks 45 ?_
    refine wks 46 ?_
    refine wks 47 ?_
    refine wpt 48 (.tmp 40) (.const (.bool true)) (.tmp 47) 4 (.bool true) ?_
    refine wpm 49 (.tmp 48) 4 (.bool true) ?_
    refine wks 50 ?_
    refine wks 51 ?_
    refine wks 52 ?_
    refine wks 53 ?_
    refine wks 54 ?_
    refine wks 55 ?_
    refine wks 56 ?_
    refine wpt 57 (.tmp 49) (.const (.bool true)) (.tmp 56) 4 (.bool true) ?_
    refine wk_nil ?_
    refine thn_n ?_
    refine g_cond_t (o := .tmp 57) (x := lBN7_7) (y := lBN7_8) (by kernel_rfl) (by kernel_rfl) ?_
    refine g_seq (x := lBN7_9) (y := lBN7_10) (by kernel_rfl) ?_
    refine g_region (ops := lBR7_2) (id := 2) (by kernel_rfl) [pu 0] (by kernel_rfl) (by kernel_rfl) ?_
    refine wpa 4 (.const (.bool false)) 4 (.bool false) ?_
    refine wk_nil ?_
    refine thn_n ?_
    refine g_ret (by kernel_rfl) ?_
    refine thn_r ?_
    refine ends1_r (v := .bool false) rfl (by kernel_rfl) ?_
    have e_ : false = t := by rw [← ht]; exact (decide_eq_false (fun e_ => by obtain ⟨e1_, e2_, e3_, e4_, e5_, e6_, e7_⟩ := abs_eq.1 e_; have e8_ := congrArg List.length e6_; have e9_ := congrArg List.length e7_; first | omega | exact h_24 (by rw [e6_]) | exact h_24 (by rw [e7_]; exact ⟨rfl, rfl⟩))).symm
    rw [e_]
    exact hK _ _ (GX.then0 (GX.then0 (GX.refl [] _ _) e_3 hg_8) e_14 hg_19)
  refine wk_pure (opd 11 (.binOp .neq 3 (.tmp 8) (.tmp 10) 3) 4) rfl (.bool false) (fun _ => y_neq (k := .i64) (a := m.kind) (b := q.kind) (by kernel_rfl) (by kernel_rfl) (decide_eq_false h_24)) ?_
  refine wpm 12 (.tmp 11) 4 (.bool false) ?_
  refine wk_pure (opg 13 (.fieldAddr 50 (.tmp 2) 1) 0 5 false) (by kernel_rfl) (.pointer (some ⟨b_1, 1, none⟩)) (fun _ => x_fieldAddr (b := b_1) (off := 0) (o := 1) (by kernel_rfl) (by kernel_rfl)) ?_
  refine wk_val (opg 14 (.load 3 (.tmp 13)) 3 5 false) (by kernel_rfl) (.int .i64 m.frm) (x_load (b := b_1) (off := 1) (by kernel_rfl) (by kernel_rfl) hb_23.1 (by kernel_rfl)) trivial ?_
  refine wk_pure (opg 15 (.fieldAddr 50 (.tmp 3) 1) 0 5 false) (by kernel_rfl) (.pointer (some ⟨b_12, 1, none⟩)) (fun _ => x_fieldAddr (b := b_12) (off := 0) (o := 1) (by kernel_rfl) (by kernel_rfl)) ?_
  refine wk_val (opg 16 (.load 3 (.tmp 15)) 3 5 false) (by kernel_rfl) (.int .i64 q.frm) (x_load (b := b_12) (off := 1) (by kernel_rfl) (by kernel_rfl) hk_22.1 (by kernel_rfl)) trivial ?_
  by_cases h_25 : (m.frm : Int) ≠ q.frm
  · refine wk_pure (opg 17 (.binOp .neq 3 (.tmp 14) (.tmp 16) 3) 4 5 false) (by kernel_rfl) (.bool true) (fun _ => y_neq (k := .i64) (a := m.frm) (b := q.frm) (by kernel_rfl) (by kernel_rfl) (decide_eq_true h_25)) ?_
    refine wpk 18 (.tmp 12) (.const (.bool true)) (.tmp 17) 4 (.bool true) ?_
    refine wpm 19 (.tmp 18) 4 (.bool true) ?_
    refine wks 20 ?_
    refine wks 21 ?_
    refine wks 22 ?_
    refine wks 23 ?_
    refine wks 24 ?_
    refine wpt 25 (.tmp 19) (.const (.bool true)) (.tmp 24) 4 (.bool true) ?_
    refine wpm 26 (.tmp 25) 4 (.bool true) ?_
    refine wks 27 ?_
    refine wks 28 ?_
    refine wks 29 ?_
    refine wks 30 ?_
    refine wks 31 ?_
    refine wpt 32 (.tmp 26) (.const (.bool true)) (.tmp 31) 4 (.bool true) ?_
    refine wpm 33 (.tmp 32) 4 (.bool true) ?_
    refine wks 34 ?_
    refine wks 35 ?_
    refine wks 36 ?_
    refine wks 37 ?_
    refine wks 38 ?_
    refine wpt 39 (.tmp 33) (.const (.bool true)) (.tmp 38) 4 (.bool true) ?_
    refine wpm 40 (.tmp 39) 4 (.bool true) ?_
    refine wks 41 ?_
    refine wks 42 ?_
    refine wks 43 ?_
    refine wks 44 ?_
    refine wks 45 ?_
    refine wks 46 ?_
    refine wks 47 ?_
    refine wpt 48 (.tmp 40) (.const (.bool true)) (.tmp 47) 4 (.bool true) ?_
    refine wpm 49 (.tmp 48) 4 (.bool true) ?_
    refine wks 50 ?_
    refine wks 51 ?_
    refine wks 52 ?_
    refine wks 53 ?_
    refine wks 54 ?_
    refine wks 55 ?_
    refine wks 56 ?_
    refine wpt 57 (.tmp 49) (.const (.bool true)) (.tmp 56) 4 (.bool true) ?_
    refine wk_nil ?_
    refine thn_n ?_
    refine g_cond_t (o := .tmp 57) (x := lBN7_7) (y := lBN7_8) (by kernel_rfl) (by kernel_rfl) ?_
    refine g_seq (x := lBN7_9) (y := lBN7_10) (by kernel_rfl) ?_
    refine g_region (ops := lBR7_2) (id := 2) (by kernel_rfl) [pu 0] (by kernel_rfl) (by kernel_rfl) ?_
    refine wpa 4 (.const (.bool false)) 4 (.bool false) ?_
    refine wk_nil ?_
    refine thn_n ?_
    refine g_ret (by kernel_rfl) ?_
    refine thn_r ?_
    refine ends1_r (v := .bool false) rfl (by kernel_rfl) ?_
    have e_ : false = t := by rw [← ht]; exact (decide_eq_false (fun e_ => by obtain ⟨e1_, e2_, e3_, e4_, e5_, e6_, e7_⟩ := abs_eq.1 e_; have e8_ := congrArg List.length e6_; have e9_ := congrArg List.length e7_; first | omega | exact h_25 (by rw [e6_]) | exact h_25 (by rw [e7_]; exact ⟨rfl, rfl⟩))).symm
    rw [e_]
    exact hK _ _ (GX.then0 (GX.then0 (GX.refl [] _ _) e_3 hg_8) e_14 hg_19)
  refine wk_pure (opg 17 (.binOp .neq 3 (.tmp 14) (.tmp 16) 3) 4 5 false) (by kernel_rfl) (.bool false) (fun _ => y_neq (k := .i64) (a := m.frm) (b := q.frm) (by kernel_rfl) (by kernel_rfl) (decide_eq_false h_25)) ?_
  refine wpk 18 (.tmp 12) (.const (.bool true)) (.tmp 17) 4 (.bool false) ?_
  refine wpm 19 (.tmp 18) 4 (.bool false) ?_
  refine wk_pure (opg 20 (.fieldAddr 50 (.tmp 2) 2) 0 12 false) (by kernel_rfl) (.pointer (some ⟨b_1, 2, none⟩)) (fun _ => x_fieldAddr (b := b_1) (off := 0) (o := 2) (by kernel_rfl) (by kernel_rfl)) ?_
  refine wk_val (opg 21 (.load 3 (.tmp 20)) 3 12 false) (by kernel_rfl) (.int .i64 m.to) (x_load (b := b_1) (off := 2) (by kernel_rfl) (by kernel_rfl) hb_23.1 (by kernel_rfl)) trivial ?_
  refine wk_pure (opg 22 (.fieldAddr 50 (.tmp 3) 2) 0 12 false) (by kernel_rfl) (.pointer (some ⟨b_12, 2, none⟩)) (fun _ => x_fieldAddr (b := b_12) (off := 0) (o := 2) (by kernel_rfl) (by kernel_rfl)) ?_
  refine wk_val (opg 23 (.load 3 (.tmp 22)) 3 12 false) (by kernel_rfl) (.int .i64 q.to) (x_load (b := b_12) (off := 2) (by kernel_rfl) (by kernel_rfl) hk_22.1 (by kernel_rfl)) trivial ?_
  by_cases h_26 : (m.to : Int) ≠ q.to
  · refine wk_pure (opg 24 (.binOp .neq 3 (.tmp 21) (.tmp 23) 3) 4 12 false) (by kernel_rfl) (.bool true) (fun _ => y_neq (k := .i64) (a := m.to) (b := q.to) (by kernel_rfl) (by kernel_rfl) (decide_eq_true h_26)) ?_
    refine wpk 25 (.tmp 19) (.const (.bool true)) (.tmp 24) 4 (.bool true) ?_
    refine wpm 26 (.tmp 25) 4 (.bool true) ?_
    refine wks 27 ?_
    refine wks 28 ?_
    refine wks 29 ?_
    refine wks 30 ?_
    refine wks 31 ?_
    refine wpt 32 (.tmp 26) (.const (.bool true)) (.tmp 31) 4 (.bool true) ?_
    refine wpm 33 (.tmp 32) 4 (.bool true) ?_
    refine wks 34 ?_
    refine wks 35 ?_
    refine wks 36 ?_
    refine wks 37 ?_
    refine wks 38 ?_
    refine wpt 39 (.tmp 33) (.const (.bool true)) (.tmp 38) 4 (.bool true) ?_
    refine wpm 40 (.tmp 39) 4 (.bool true) ?_
    refine wks 41 ?_
    refine wks 42 ?_
    refine wks 43 ?_
    refine wks 44 ?_
    refine wks 45 ?_
    refine wks 46 ?_
    refine wks 47 ?_
    refine wpt 48 (.tmp 40) (.const (.bool true)) (.tmp 47) 4 (.bool true) ?_
    refine wpm 49 (.tmp 48) 4 (.bool true) ?_
    refine wks 50 ?_
    refine wks 51 ?_
    refine wks 52 ?_
    refine wks 53 ?_
    refine wks 54 ?_
    refine wks 55 ?_
    refine wks 56 ?_
    refine wpt 57 (.tmp 49) (.const (.bool true)) (.tmp 56) 4 (.bool true) ?_
    refine wk_nil ?_
    refine thn_n ?_
    refine g_cond_t (o := .tmp 57) (x := lBN7_7) (y := lBN7_8) (by kernel_rfl) (by kernel_rfl) ?_
    refine g_seq (x := lBN7_9) (y := lBN7_10) (by kernel_rfl) ?_
    refine g_region (ops := lBR7_2) (id := 2) (by kernel_rfl) [pu 0] (by kernel_rfl) (by kernel_rfl) ?_
    refine wpa 4 (.const (.bool false)) 4 (.bool false) ?_
    refine wk_nil ?_
    refine thn_n ?_
    refine g_ret (by kernel_rfl) ?_
    refine thn_r ?_
    refine ends1_r (v := .bool false) rfl (by kernel_rfl) ?_
    have e_ : false = t := by rw [← ht]; exact (decide_eq_false (fun e_ => by obtain ⟨e1_, e2_, e3_, e4_, e5_, e6_, e7_⟩ := abs_eq.1 e_; have e8_ := congrArg List.length e6_; have e9_ := congrArg List.length e7_; first | omega | exact h_26 (by rw [e6_]) | exact h_26 (by rw [e7_]; exact ⟨rfl, rfl⟩))).symm
    rw [e_]
    exact hK _ _ (GX.then0 (GX.then0 (GX.refl [] _ _) e_3 hg_8) e_14 hg_19)
  refine wk_pure (opg 24 (.binOp .neq 3 (.tmp 21) (.tmp 23) 3) 4 12 false) (by kernel_rfl) (.bool false) (fun _ => y_neq (k := .i64) (a := m.to) (b := q.to) (by kernel_rfl) (by kernel_rfl) (decide_eq_false h_26)) ?_
  refine wpk 25 (.tmp 19) (.const (.bool true)) (.tmp 24) 4 (.bool false) ?_
  refine wpm 26 (.tmp 25) 4 (.bool false) ?_
  refine wk_pure (opg 27 (.fieldAddr 50 (.tmp 2) 3) 0 19 false) (by kernel_rfl) (.pointer (some ⟨b_1, 3, none⟩)) (fun _ => x_fieldAddr (b := b_1) (off := 0) (o := 3) (by kernel_rfl) (by kernel_rfl)) ?_
  refine wk_val (opg 28 (.load 27 (.tmp 27)) 27 19 false) (by kernel_rfl) (.int .u32 m.view) (x_load (b := b_1) (off := 3) (by kernel_rfl) (by kernel_rfl) hb_23.1 (by kernel_rfl)) trivial ?_
  refine wk_pure (opg 29 (.fieldAddr 50 (.tmp 3) 3) 0 19 false) (by kernel_rfl) (.pointer (some ⟨b_12, 3, none⟩)) (fun _ => x_fieldAddr (b := b_12) (off := 0) (o := 3) (by kernel_rfl) (by kernel_rfl)) ?_
  refine wk_val (opg 30 (.load 27 (.tmp 29)) 27 19 false) (by kernel_rfl) (.int .u32 q.view) (x_load (b := b_12) (off := 3) (by kernel_rfl) (by kernel_rfl) hk_22.1 (by kernel_rfl)) trivial ?_
  by_cases h_27 : (m.view : Int) ≠ q.view
  · refine wk_pure (opg 31 (.binOp .neq 27 (.tmp 28) (.tmp 30) 27) 4 19 false) (by kernel_rfl) (.bool true) (fun _ => y_neq (k := .u32) (a := m.view) (b := q.view) (by kernel_rfl) (by kernel_rfl) (decide_eq_true h_27)) ?_
    refine wpk 32 (.tmp 26) (.const (.bool true)) (.tmp 31) 4 (.bool true) ?_
    refine wpm 33 (.tmp 32) 4 (.bool true) ?_
    refine wks 34 ?_
    refine wks 35 ?_
    refine wks 36 ?_
    refine wks 37 ?_
    refine wks 38 ?_
    refine wpt 39 (.tmp 33) (.const (.bool true)) (.tmp 38) 4 (.bool true) ?_
    refine wpm 40 (.tmp 39) 4 (.bool true) ?_
    refine wks 41 ?_
    refine wks 42 ?_
    refine wks 43 ?_
    refine wks 44 ?_
    refine wks 45 ?_
    refine wks 46 ?_
    refine wks 47 ?_
    refine wpt 48 (.tmp 40) (.const (.bool true)) (.tmp 47) 4 (.bool true) ?_
    refine wpm 49 (.tmp 48) 4 (.bool true) ?_
    refine wks 50 ?_
    refine wks 51 ?_
    refine wks 52 ?_
    refine wks 53 ?_
    refine wks 54 ?_
    refine wks 55 ?_
    refine wks 56 ?_
    refine wpt 57 (.tmp 49) (.const (.bool true)) (.tmp 56) 4 (.bool true) ?_
    refine wk_nil ?_
    refine thn_n ?_
    refine g_cond_t (o := .tmp 57) (x := lBN7_7) (y := lBN7_8) (by kernel_rfl) (by kernel_rfl) ?_
    refine g_seq (x := lBN7_9) (y := lBN7_10) (by kernel_rfl) ?_
    refine g_region (ops := lBR7_2) (id := 2) (by kernel_rfl) [pu 0] (by kernel_rfl) (by kernel_rfl) ?_
    refine wpa 4 (.const (.bool false)) 4 (.bool false) ?_
    refine wk_nil ?_
    refine thn_n ?_
    refine g_ret (by kernel_rfl) ?_
    refine thn_r ?_
    refine ends1_r (v := .bool false) rfl (by kernel_rfl) ?_
    have e_ : false = t := by rw [← ht]; exact (decide_eq_false (fun e_ => by obtain ⟨e1_, e2_, e3_, e4_, e5_, e6_, e7_⟩ := abs_eq.1 e_; have e8_ := congrArg List.length e6_; have e9_ := congrArg List.length e7_; first | omega | exact h_27 (by rw [e6_]) | exact h_27 (by rw [e7_]; exact ⟨rfl, rfl⟩))).symm
    rw [e_]
    exact hK _ _ (GX.then0 (GX.then0 (GX.refl [] _ _) e_3 hg_8) e_14 hg_19)
  refine wk_pure (opg 31 (.binOp .neq 27 (.tmp 28) (.tmp 30) 27) 4 19 false) (by kernel_rfl) (.bool false) (fun _ => y_neq (k := .u32) (a := m.view) (b := q.view) (by kernel_rfl) (by kernel_rfl) (decide_eq_false h_27)) ?_
  refine wpk 32 (.tmp 26) (.const (.bool true)) (.tmp 31) 4 (.bool false) ?_
  refine wpm 33 (.tmp 32) 4 (.bool false) ?_
  refine wk_pure (opg 34 (.fieldAddr 50 (.tmp 2) 4) 0 26 false) (by kernel_rfl) (.pointer (some ⟨b_1, 4, none⟩)) (fun _ => x_fieldAddr (b := b_1) (off := 0) (o := 4) (by kernel_rfl) (by kernel_rfl)) ?_
  refine wk_val (opg 35 (.load 27 (.tmp 34)) 27 26 false) (by kernel_rfl) (.int .u32 m.seq) (x_load (b := b_1) (off := 4) (by kernel_rfl) (by kernel_rfl) hb_23.1 (by kernel_rfl)) trivial ?_
  refine wk_pure (opg 36 (.fieldAddr 50 (.tmp 3) 4) 0 26 false) (by kernel_rfl) (.pointer (some ⟨b_12, 4, none⟩)) (fun _ => x_fieldAddr (b := b_12) (off := 0) (o := 4) (by kernel_rfl) (by kernel_rfl)) ?_
  refine wk_val (opg 37 (.load 27 (.tmp 36)) 27 26 false) (by kernel_rfl) (.int .u32 q.seq) (x_load (b := b_12) (off := 4) (by kernel_rfl) (by kernel_rfl) hk_22.1 (by kernel_rfl)) trivial ?_
  by_cases h_28 : (m.seq : Int) ≠ q.seq
  · refine wk_pure (opg 38 (.binOp .neq 27 (.tmp 35) (.tmp 37) 27) 4 26 false) (by kernel_rfl) (.bool true) (fun _ => y_neq (k := .u32) (a := m.seq) (b := q.seq) (by kernel_rfl) (by kernel_rfl) (decide_eq_true h_28)) ?_
    refine wpk 39 (.tmp 33) (.const (.bool true)) (.tmp 38) 4 (.bool true) ?_
    refine wpm 40 (.tmp 39) 4 (.bool true) ?_
    refine wks 41 ?_
    refine wks 42 ?_
    refine wks 43 ?_
    refine wks 44 ?_
    refine wks 45 ?_
    refine wks 46 ?_
    refine wks 47 ?_
    refine wpt 48 (.tmp 40) (.const (.bool true)) (.tmp 47) 4 (.bool true) ?_
    refine wpm 49 (.tmp 48) 4 (.bool true) ?_
    refine wks 50 ?_
    refine wks 51 ?_
    refine wks 52 ?_
    refine wks 53 ?_
    refine wks 54 ?_
    refine wks 55 ?_
    refine wks 56 ?_
    refine wpt 57 (.tmp 49) (.const (.bool true)) (.tmp 56) 4 (.bool true) ?_
    refine wk_nil ?_
    refine thn_n ?_
    refine g_cond_t (o := .tmp 57) (x := lBN7_7) (y := lBN7_8) (by kernel_rfl) (by kernel_rfl) ?_
    refine g_seq (x := lBN7_9) (y := lBN7_10) (by kernel_rfl) ?_
    refine g_region (ops := lBR7_2) (id := 2) (by kernel_rfl) [pu 0] (by kernel_rfl) (by kernel_rfl) ?_
    refine wpa 4 (.const (.bool false)) 4 (.bool false) ?_
    refine wk_nil ?_
    refine thn_n ?_
    refine g_ret (by kernel_rfl) ?_
    refine thn_r ?_
    refine ends1_r (v := .bool false) rfl (by kernel_rfl) ?_
    have e_ : false = t := by rw [← ht]; exact (decide_eq_false (fun e_ => by obtain ⟨e1_, e2_, e3_, e4_, e5_, e6_, e7_⟩ := abs_eq.1 e_; have e8_ := congrArg List.length e6_; have e9_ := congrArg List.length e7_; first | omega | exact h_28 (by rw [e6_]) | exact h_28 (by rw [e7_]; exact ⟨rfl, rfl⟩))).symm
    rw [e_]
    exact hK _ _ (GX.then0 (GX.then0 (GX.refl [] _ _) e_3 hg_8) e_14 hg_19)
  refine wk_pure (opg 38 (.binOp .neq 27 (.tmp 35) (.tmp 37) 27) 4 26 false) (by kernel_rfl) (.bool false) (fun _ => y_neq (k := .u32) (a := m.seq) (b := q.seq) (by kernel_rfl) (by kernel_rfl) (decide_eq_false h_28)) ?_
  refine wpk 39 (.tmp 33) (.const (.bool true)) (.tmp 38) 4 (.bool false) ?_
  refine wpm 40 (.tmp 39) 4 (.bool false) ?_
  refine wk_pure (opg 41 (.fieldAddr 50 (.tmp 2) 5) 0 33 false) (by kernel_rfl) (.pointer (some ⟨b_1, 5, none⟩)) (fun _ => x_fieldAddr (b := b_1) (off := 0) (o := 5) (by kernel_rfl) (by kernel_rfl)) ?_
  refine wk_val (opg 42 (.load 29 (.tmp 41)) 29 33 false) (by kernel_rfl) (.slice m.na m.N.length m.nc) (x_load (b := b_1) (off := 5) (by kernel_rfl) (by kernel_rfl) hb_23.1 (by kernel_rfl)) trivial ?_
  refine wk_pure (opg 43 (.call ⟨.builtin .len, #[.tmp 42], #[29]⟩) 3 33 false) (by kernel_rfl) (.int .i64 ((m.N.length : Nat) : Int)) (fun _ => x_len (a := m.na) (n := m.N.length) (c := m.nc) (by kernel_rfl) (by kernel_rfl)) ?_
  refine wk_pure (opg 44 (.fieldAddr 50 (.tmp 3) 5) 0 33 false) (by kernel_rfl) (.pointer (some ⟨b_12, 5, none⟩)) (fun _ => x_fieldAddr (b := b_12) (off := 0) (o := 5) (by kernel_rfl) (by kernel_rfl)) ?_
  refine wk_val (opg 45 (.load 29 (.tmp 44)) 29 33 false) (by kernel_rfl) (.slice q.na q.N.length q.nc) (x_load (b := b_12) (off := 5) (by kernel_rfl) (by kernel_rfl) hk_22.1 (by kernel_rfl)) trivial ?_
  refine wk_pure (opg 46 (.call ⟨.builtin .len, #[.tmp 45], #[29]⟩) 3 33 false) (by kernel_rfl) (.int .i64 ((q.N.length : Nat) : Int)) (fun _ => x_len (a := q.na) (n := q.N.length) (c := q.nc) (by kernel_rfl) (by kernel_rfl)) ?_
  by_cases h_29 : (((m.N.length : Nat) : Int) : Int) ≠ ((q.N.length : Nat) : Int)
  · refine wk_pure (opg 47 (.binOp .neq 3 (.tmp 43) (.tmp 46) 3) 4 33 false) (by kernel_rfl) (.bool true) (fun _ => y_neq (k := .i64) (a := ((m.N.length : Nat) : Int)) (b := ((q.N.length : Nat) : Int)) (by kernel_rfl) (by kernel_rfl) (decide_eq_true h_29)) ?_
    refine wpk 48 (.tmp 40) (.const (.bool true)) (.tmp 47) 4 (.bool true) ?_
    refine wpm 49 (.tmp 48) 4 (.bool true) ?_
    refine wks 50 ?_
    refine wks 51 ?_
    refine wks 52 ?_
    refine wks 53 ?_
    refine wks 54 ?_
    refine wks 55 ?_
    refine wks 56 ?_
    refine wpt 57 (.tmp 49) (.const (.bool true)) (.tmp 56) 4 (.bool true) ?_
    refine wk_nil ?_
    refine thn_n ?_
    refine g_cond_t (o := .tmp 57) (x := lBN7_7) (y := lBN7_8) (by kernel_rfl) (by kernel_rfl) ?_
    refine g_seq (x := lBN7_9) (y := lBN7_10) (by kernel_rfl) ?_
    refine g_region (ops := lBR7_2) (id := 2) (by kernel_rfl) [pu 0] (by kernel_rfl) (by kernel_rfl) ?_
    refine wpa 4 (.const (.bool false)) 4 (.bool false) ?_
    refine wk_nil ?_
    refine thn_n ?_
    refine g_ret (by kernel_rfl) ?_
    refine thn_r ?_
    refine ends1_r (v := .bool false) rfl (by kernel_rfl) ?_
    have e_ : false = t := by rw [← ht]; exact (decide_eq_false (fun e_ => by obtain ⟨e1_, e2_, e3_, e4_, e5_, e6_, e7_⟩ := abs_eq.1 e_; have e8_ := congrArg List.length e6_; have e9_ := congrArg List.length e7_; first | omega | exact h_29 (by rw [e6_]) | exact h_29 (by rw [e7_]; exact ⟨rfl, rfl⟩))).symm
    rw [e_]
    exact hK _ _ (GX.then0 (GX.then0 (GX.refl [] _ _) e_3 hg_8) e_14 hg_19)
  refine wk_pure (opg 47 (.binOp .neq 3 (.tmp 43) (.tmp 46) 3) 4 33 false) (by kernel_rfl) (.bool false) (fun _ => y_neq (k := .i64) (a := ((m.N.length : Nat) : Int)) (b := ((q.N.length : Nat) : Int)) (by kernel_rfl) (by kernel_rfl) (decide_eq_false h_29)) ?_
  refine wpk 48 (.tmp 40) (.const (.bool true)) (.tmp 47) 4 (.bool false) ?_
  refine wpm 49 (.tmp 48) 4 (.bool false) ?_
  refine wk_pure (opg 50 (.fieldAddr 50 (.tmp 2) 6) 0 42 false) (by kernel_rfl) (.pointer (some ⟨b_1, 6, none⟩)) (fun _ => x_fieldAddr (b := b_1) (off := 0) (o := 6) (by kernel_rfl) (by kernel_rfl)) ?_
  refine wk_val (opg 51 (.load 30 (.tmp 50)) 30 42 false) (by kernel_rfl) (.slice m.wa m.W.length m.wc) (x_load (b := b_1) (off := 6) (by kernel_rfl) (by kernel_rfl) hb_23.1 (by kernel_rfl)) trivial ?_
  refine wk_pure (opg 52 (.call ⟨.builtin .len, #[.tmp 51], #[30]⟩) 3 42 false) (by kernel_rfl) (.int .i64 ((m.W.length : Nat) : Int)) (fun _ => x_len (a := m.wa) (n := m.W.length) (c := m.wc) (by kernel_rfl) (by kernel_rfl)) ?_
  refine wk_pure (opg 53 (.fieldAddr 50 (.tmp 3) 6) 0 42 false) (by kernel_rfl) (.pointer (some ⟨b_12, 6, none⟩)) (fun _ => x_fieldAddr (b := b_12) (off := 0) (o := 6) (by kernel_rfl) (by kernel_rfl)) ?_
  refine wk_val (opg 54 (.load 30 (.tmp 53)) 30 42 false) (by kernel_rfl) (.slice q.wa q.W.length q.wc) (x_load (b := b_12) (off := 6) (by kernel_rfl) (by kernel_rfl) hk_22.1 (by kernel_rfl)) trivial ?_
  refine wk_pure (opg 55 (.call ⟨.builtin .len, #[.tmp 54], #[30]⟩) 3 42 false) (by kernel_rfl) (.int .i64 ((q.W.length : Nat) : Int)) (fun _ => x_len (a := q.wa) (n := q.W.length) (c := q.wc) (by kernel_rfl) (by kernel_rfl)) ?_
  by_cases h_30 : (((m.W.length : Nat) : Int) : Int) ≠ ((q.W.length : Nat) : Int)
  · refine wk_pure (opg 56 (.binOp .neq 3 (.tmp 52) (.tmp 55) 3) 4 42 false) (by kernel_rfl) (.bool true) (fun _ => y_neq (k := .i64) (a := ((m.W.length : Nat) : Int)) (b := ((q.W.length : Nat) : Int)) (by kernel_rfl) (by kernel_rfl) (decide_eq_true h_30)) ?_
    refine wpk 57 (.tmp 49) (.const (.bool true)) (.tmp 56) 4 (.bool true) ?_
    refine wk_nil ?_
    refine thn_n ?_
    refine g_cond_t (o := .tmp 57) (x := lBN7_7) (y := lBN7_8) (by kernel_rfl) (by kernel_rfl) ?_
    refine g_seq (x := lBN7_9) (y := lBN7_10) (by kernel_rfl) ?_
    refine g_region (ops := lBR7_2) (id := 2) (by kernel_rfl) [pu 0] (by kernel_rfl) (by kernel_rfl) ?_
    refine wpa 4 (.const (.bool false)) 4 (.bool false) ?_
    refine wk_nil ?_
    refine thn_n ?_
    refine g_ret (by kernel_rfl) ?_
    refine thn_r ?_
    refine ends1_r (v := .bool false) rfl (by kernel_rfl) ?_
    have e_ : false = t := by rw [← ht]; exact (decide_eq_false (fun e_ => by obtain ⟨e1_, e2_, e3_, e4_, e5_, e6_, e7_⟩ := abs_eq.1 e_; have e8_ := congrArg List.length e6_; have e9_ := congrArg List.length e7_; first | omega | exact h_30 (by rw [e6_]) | exact h_30 (by rw [e7_]; exact ⟨rfl, rfl⟩))).symm
    rw [e_]
    exact hK _ _ (GX.then0 (GX.then0 (GX.refl [] _ _) e_3 hg_8) e_14 hg_19)
  refine wk_pure (opg 56 (.binOp .neq 3 (.tmp 52) (.tmp 55) 3) 4 42 false) (by kernel_rfl) (.bool false) (fun _ => y_neq (k := .i64) (a := ((m.W.length : Nat) : Int)) (b := ((q.W.length : Nat) : Int)) (by kernel_rfl) (by kernel_rfl) (decide_eq_false h_30)) ?_
  refine wpk 57 (.tmp 49) (.const (.bool true)) (.tmp 56) 4 (.bool false) ?_
  refine wk_nil ?_
  refine thn_n ?_
  refine g_cond_f (o := .tmp 57) (x := lBN7_7) (y := lBN7_8) (by kernel_rfl) (by kernel_rfl) ?_
  refine g_skip (by kernel_rfl) ?_
  refine thn_n ?_
  refine g_seq (x := lBN7_11) (y := lBN7_12) (by kernel_rfl) ?_
  refine g_seq (x := lBN7_13) (y := lBN7_14) (by kernel_rfl) ?_
  refine g_region (ops := lBR7_3) (id := 3) (by kernel_rfl) [pu 0] (by kernel_rfl) (by kernel_rfl) ?_
  refine wpa 5 (.const (.int .i64 0)) 3 (.int .i64 0) ?_
  refine wk_nil ?_
  refine thn_n ?_
  refine g_block (x := lBN7_15) (id := 0) (by kernel_rfl) ?_
  have hb_31 : MOk γ_18 w_13 m := (MOk.keep (MOk.keep hm gx_10 ni0) gx_21 ni0)
  have hb_32 : MOk γ_18 w_13 q := (MOk.keep (MOk.keep hq gx_10 ni0) gx_21 ni0)
  refine g_loop (x := lBN7_16) (by kernel_rfl) (fun m_ ρ_ w_ => ∃ (k : Nat) (γ_ : Nat → Nat), m_ = m.N.length - k ∧ (k ≤ m.N.length) ∧ (∀ j, j < k → m.N.getD j 0 = q.N.getD j 0) ∧ ρ_ 2 = .pointer (some ⟨b_1, 0, none⟩) ∧ ρ_ 3 = .pointer (some ⟨b_12, 0, none⟩) ∧ ρ_ 5 = .int .i64 ((k : Nat) : Int) ∧ MOk γ_ w_ m ∧ MOk γ_ w_ q ∧ Bk γ_ w_ b_1 13301 (.cells #[.int .i64 m.kind, .int .i64 m.frm, .int .i64 m.to, .int .u32 m.view, .int .u32 m.seq, .slice m.na m.N.length m.nc, .slice m.wa m.W.length m.wc] 50 (0, 0)) ∧ Bk γ_ w_ b_12 13302 (.cells #[.int .i64 q.kind, .int .i64 q.frm, .int .i64 q.to, .int .u32 q.view, .int .u32 q.seq, .slice q.na q.N.length q.nc, .slice q.wa q.W.length q.wc] 50 (0, 0)) ∧ GX [] w γ w_ γ_) (m.N.length - 0) ?_ ?_
  · exact ⟨0, _, rfl, by omega, by intro j hj; omega, (by kernel_rfl), (by kernel_rfl), (by kernel_rfl), hb_31, hb_32, hb_23, hk_22, (GX.then0 (GX.then0 (GX.refl [] _ _) e_3 hg_8) e_14 hg_19)⟩
  intro m_33 ρ_34 w_35 hI
  obtain ⟨k, γ_37, hm_m_33, hk, hal, f_38, f_39, f_40, hr_41, hr_42, hr_43, hr_44, hE_36⟩ := hI
  have hs_w_35 := hE_36.size
  refine g_seq (x := lBN7_17) (y := lBN7_18) (by kernel_rfl) ?_
  refine g_seq (x := lBN7_19) (y := lBN7_20) (by kernel_rfl) ?_
  refine g_region (ops := lBR7_4) (id := 4) (by kernel_rfl) [pu 0, pu 1, lo 2, pu 3, pu 4] (by kernel_rfl) (by kernel_rfl) ?_
  refine wpm 58 (.tmp 5) 3 (.int .i64 ((k : Nat) : Int)) ?_ (Eq.trans (by kernel_rfl) f_40)
  refine wpf 59 50 (.tmp 2) 5 b_1 0 5 5 ?_ (Eq.trans (by kernel_rfl) f_38)
  refine wpl 60 29 (.tmp 59) (.slice m.na m.N.length m.nc) b_1 5 hr_43.1 ?_
  refine wk_pure (opd 61 (.call ⟨.builtin .len, #[.tmp 60], #[29]⟩) 3) rfl (.int .i64 ((m.N.length : Nat) : Int)) (fun _ => x_len (a := m.na) (n := m.N.length) (c := m.nc) (by kernel_rfl) (by kernel_rfl)) ?_
  by_cases h_45 : (((k : Nat) : Int) : Int) < ((m.N.length : Nat) : Int)
  · refine wk_pure (opd 62 (.binOp .lss 3 (.tmp 58) (.tmp 61) 3) 4) rfl (.bool true) (fun _ => y_lss (k := .i64) (a := ((k : Nat) : Int)) (b := ((m.N.length : Nat) : Int)) (by kernel_rfl) (by kernel_rfl) (decide_eq_true h_45)) ?_
    refine wk_nil ?_
    refine thn_n ?_
    refine g_cond_t (o := .tmp 62) (x := lBN7_21) (y := lBN7_22) (by kernel_rfl) (by kernel_rfl) ?_
    refine g_skip (by kernel_rfl) ?_
    refine thn_n ?_
    refine g_seq (x := lBN7_23) (y := lBN7_24) (by kernel_rfl) ?_
    refine g_block (x := lBN7_25) (id := 1) (by kernel_rfl) ?_
    refine g_seq (x := lBN7_26) (y := lBN7_27) (by kernel_rfl) ?_
    refine g_draw (ops := lBR7_6) (id := 6) (by kernel_rfl) (fun _ _ => True) [pu 0, pu 2, pu 5, pu 7, rd 1, pu 3, rd 4, rd 6, pu 8, rd 9, pu 10] (by kernel_rfl) (by kernel_rfl) (fun _ => trivial) (fun w_46 sm_47 => ?_)
    have gx_48 := GX.same [] γ_37 sm_47
    have hsz_49 : w_46.heap.size = w_35.heap.size := by rw [sm_47.heap]
    refine wpf 65 50 (.tmp 2) 5 b_1 0 5 5 ?_ (Eq.trans (by kernel_rfl) f_38)
    refine wpm 67 (.tmp 5) 3 (.int .i64 ((k : Nat) : Int)) ?_ (Eq.trans (by kernel_rfl) f_40)
    refine wpf 70 50 (.tmp 3) 5 b_12 0 5 5 ?_ (Eq.trans (by kernel_rfl) f_39)
    refine wpm 72 (.tmp 5) 3 (.int .i64 ((k : Nat) : Int)) ?_ (Eq.trans (by kernel_rfl) f_40)
    have hb_50 := (Bk.keep hr_43 gx_48 ni0)
    refine wk_read (opd 66 (.load 29 (.tmp 65)) 29) rfl (.slice m.na m.N.length m.nc) (fun w'_ g_ => x_load (b := b_1) (off := 5) (by kernel_rfl) (by kernel_rfl) (g_.keep hb_50.1) (by kernel_rfl)) ?_
    have hb_51 := (MOk.keep hr_41 gx_48 ni0)
    refine wk_pure (opd 68 (.indexAddr 29 (.tmp 66) (.tmp 67)) 0) rfl (.pointer (some ⟨m.nb, m.noff + (k * 1 + 0), none⟩)) (fun _ => y_ptr (x_indexN (a := m.na) (b := m.nb) (off := m.noff) (n := m.N.length) (c := m.nc) (k := .i64) (i := ((k : Nat) : Int)) (e := 2) (sz := 1) (sz' := 1) (by kernel_rfl) hb_51.n.1 (by kernel_rfl) (by kernel_rfl) rfl (by omega) _) (by omega)) ?_
    refine wk_read (opd 69 (.load 2 (.tmp 68)) 2) rfl (.int .i64 (m.N.getD k 0)) (fun w'_ g_ => x_load_c (b := m.nb) (off := (m.noff + (k * 1 + 0))) (by kernel_rfl) (by kernel_rfl) (SlE.get (g_.keepSl hb_51.n.1) encI_len 0 k 0 (by omega) rfl)) ?_
    have hb_52 := (Bk.keep hr_44 gx_48 ni0)
    refine wk_read (opd 71 (.load 29 (.tmp 70)) 29) rfl (.slice q.na q.N.length q.nc) (fun w'_ g_ => x_load (b := b_12) (off := 5) (by kernel_rfl) (by kernel_rfl) (g_.keep hb_52.1) (by kernel_rfl)) ?_
    have hb_53 := (MOk.keep hr_42 gx_48 ni0)
    refine wk_pure (opd 73 (.indexAddr 29 (.tmp 71) (.tmp 72)) 0) rfl (.pointer (some ⟨q.nb, q.noff + (k * 1 + 0), none⟩)) (fun _ => y_ptr (x_indexN (a := q.na) (b := q.nb) (off := q.noff) (n := q.N.length) (c := q.nc) (k := .i64) (i := ((k : Nat) : Int)) (e := 2) (sz := 1) (sz' := 1) (by kernel_rfl) hb_53.n.1 (by kernel_rfl) (by kernel_rfl) rfl (by omega) _) (by omega)) ?_
    refine wk_read (opd 74 (.load 2 (.tmp 73)) 2) rfl (.int .i64 (q.N.getD k 0)) (fun w'_ g_ => x_load_c (b := q.nb) (off := (q.noff + (k * 1 + 0))) (by kernel_rfl) (by kernel_rfl) (SlE.get (g_.keepSl hb_53.n.1) encI_len 0 k 0 (by omega) rfl)) ?_
    by_cases h_54 : ((m.N.getD k 0) : Int) ≠ (q.N.getD k 0)
    · refine wk_pure (opd 75 (.binOp .neq 2 (.tmp 69) (.tmp 74) 2) 4) rfl (.bool true) (fun _ => y_neq (k := .i64) (a := (m.N.getD k 0)) (b := (q.N.getD k 0)) (by kernel_rfl) (by kernel_rfl) (decide_eq_true h_54)) ?_
      refine wk_nil ?_
      refine thn_n ?_
      refine g_cond_t (o := .tmp 75) (x := lBN7_28) (y := lBN7_29) (by kernel_rfl) (by kernel_rfl) ?_
      refine g_seq (x := lBN7_30) (y := lBN7_31) (by kernel_rfl) ?_
      refine g_region (ops := lBR7_7) (id := 7) (by kernel_rfl) [pu 0] (by kernel_rfl) (by kernel_rfl) ?_
      refine wpa 4 (.const (.bool false)) 4 (.bool false) ?_
      refine wk_nil ?_
      refine thn_n ?_
      refine g_ret (by kernel_rfl) ?_
      refine blk_r ?_
      refine thn_r ?_
      refine thn_r ?_
      refine blk_r ?_
      refine thn_r ?_
      refine ends1_r (v := .bool false) rfl (by kernel_rfl) ?_
      have e_ : false = t := by rw [← ht]; exact (decide_eq_false (fun e_ => by obtain ⟨e1_, e2_, e3_, e4_, e5_, e6_, e7_⟩ := abs_eq.1 e_; have e8_ := congrArg List.length e6_; have e9_ := congrArg List.length e7_; first | omega | exact h_54 (by rw [e6_]) | exact h_54 (by rw [e7_]; exact ⟨rfl, rfl⟩))).symm
      rw [e_]
      exact hK _ _ (GX.then_same hE_36 sm_47)
    refine wk_pure (opd 75 (.binOp .neq 2 (.tmp 69) (.tmp 74) 2) 4) rfl (.bool false) (fun _ => y_neq (k := .i64) (a := (m.N.getD k 0)) (b := (q.N.getD k 0)) (by kernel_rfl) (by kernel_rfl) (decide_eq_false h_54)) ?_
    refine wk_nil ?_
    refine thn_n ?_
    refine g_cond_f (o := .tmp 75) (x := lBN7_28) (y := lBN7_29) (by kernel_rfl) (by kernel_rfl) ?_
    refine g_skip (by kernel_rfl) ?_
    refine blk_n ?_
    refine thn_n ?_
    refine g_region (ops := lBR7_5) (id := 5) (by kernel_rfl) [pu 0, pu 1, pu 2] (by kernel_rfl) (by kernel_rfl) ?_
    refine wpm 63 (.tmp 5) 3 (.int .i64 ((k : Nat) : Int)) ?_ (Eq.trans (by kernel_rfl) f_40)
    refine wk_pure (opd 64 (.binOp .add 3 (.tmp 63) (.const (.int .i64 1)) 3) 3) rfl (.int .i64 ((k + 1 : Nat) : Int)) (fun _ => y_add (k := .i64) (a := ((k : Nat) : Int)) (b := 1) (by kernel_rfl) (by kernel_rfl) (i64_to (by omega) (by omega))) ?_
    refine wpa 5 (.tmp 64) 3 (.int .i64 ((k + 1 : Nat) : Int)) ?_
    refine wk_nil ?_
    refine thn_n ?_
    exact ⟨_, (by omega), ⟨(k + 1), _, rfl, by omega, by intro j hj; rcases Nat.lt_succ_iff_lt_or_eq.1 hj with h_ | rfl; {exact hal j h_}; {exact Decidable.not_not.1 h_54}, (Eq.trans (by kernel_rfl) f_38), (Eq.trans (by kernel_rfl) f_39), (by kernel_rfl), hb_51, hb_53, hb_50, hb_52, (GX.then_same hE_36 sm_47)⟩⟩
  refine wk_pure (opd 62 (.binOp .lss 3 (.tmp 58) (.tmp 61) 3) 4) rfl (.bool false) (fun _ => y_lss (k := .i64) (a := ((k : Nat) : Int)) (b := ((m.N.length : Nat) : Int)) (by kernel_rfl) (by kernel_rfl) (decide_eq_false h_45)) ?_
  refine wk_nil ?_
  refine thn_n ?_
  refine g_cond_f (o := .tmp 62) (x := lBN7_21) (y := lBN7_22) (by kernel_rfl) (by kernel_rfl) ?_
  refine g_exit (id := 0) (by kernel_rfl) ?_
  refine thn_e ?_
  refine thn_e ?_
  refine blk_hit ?_
  refine thn_n ?_
  refine g_seq (x := lBN7_32) (y := lBN7_33) (by kernel_rfl) ?_
  refine g_seq (x := lBN7_34) (y := lBN7_35) (by kernel_rfl) ?_
  refine g_region (ops := lBR7_8) (id := 8) (by kernel_rfl) [pu 0] (by kernel_rfl) (by kernel_rfl) ?_
  refine wpa 6 (.const (.int .i64 0)) 3 (.int .i64 0) ?_
  refine wk_nil ?_
  refine thn_n ?_
  refine g_block (x := lBN7_36) (id := 2) (by kernel_rfl) ?_
  refine g_loop (x := lBN7_37) (by kernel_rfl) (fun m_ ρ_ w_ => ∃ (k2 : Nat) (γ_ : Nat → Nat), m_ = m.W.length - k2 ∧ (k2 ≤ m.W.length) ∧ (∀ j, j < k2 → m.W.getD j 0 = q.W.getD j 0) ∧ ρ_ 2 = .pointer (some ⟨b_1, 0, none⟩) ∧ ρ_ 3 = .pointer (some ⟨b_12, 0, none⟩) ∧ ρ_ 6 = .int .i64 ((k2 : Nat) : Int) ∧ MOk γ_ w_ m ∧ MOk γ_ w_ q ∧ Bk γ_ w_ b_1 13301 (.cells #[.int .i64 m.kind, .int .i64 m.frm, .int .i64 m.to, .int .u32 m.view, .int .u32 m.seq, .slice m.na m.N.length m.nc, .slice m.wa m.W.length m.wc] 50 (0, 0)) ∧ Bk γ_ w_ b_12 13302 (.cells #[.int .i64 q.kind, .int .i64 q.frm, .int .i64 q.to, .int .u32 q.view, .int .u32 q.seq, .slice q.na q.N.length q.nc, .slice q.wa q.W.length q.wc] 50 (0, 0)) ∧ GX [] w γ w_ γ_) (m.W.length - 0) ?_ ?_
  · exact ⟨0, _, rfl, by omega, by intro j hj; omega, (Eq.trans (by kernel_rfl) f_38), (Eq.trans (by kernel_rfl) f_39), (by kernel_rfl), hr_41, hr_42, hr_43, hr_44, hE_36⟩
  intro m_55 ρ_56 w_57 hI
  obtain ⟨k2, γ_59, hm_m_55, hk2, hal2, f_60, f_61, f_62, hr_63, hr_64, hr_65, hr_66, hE_58⟩ := hI
  have hs_w_57 := hE_58.size
  refine g_seq (x := lBN7_38) (y := lBN7_39) (by kernel_rfl) ?_
  refine g_seq (x := lBN7_40) (y := lBN7_41) (by kernel_rfl) ?_
  refine g_region (ops := lBR7_9) (id := 9) (by kernel_rfl) [pu 0, pu 1, lo 2, pu 3, pu 4] (by kernel_rfl) (by kernel_rfl) ?_
  refine wpm 76 (.tmp 6) 3 (.int .i64 ((k2 : Nat) : Int)) ?_ (Eq.trans (by kernel_rfl) f_62)
  refine wpf 77 50 (.tmp 2) 6 b_1 0 6 6 ?_ (Eq.trans (by kernel_rfl) f_60)
  refine wpl 78 30 (.tmp 77) (.slice m.wa m.W.length m.wc) b_1 6 hr_65.1 ?_
  refine wk_pure (opd 79 (.call ⟨.builtin .len, #[.tmp 78], #[30]⟩) 3) rfl (.int .i64 ((m.W.length : Nat) : Int)) (fun _ => x_len (a := m.wa) (n := m.W.length) (c := m.wc) (by kernel_rfl) (by kernel_rfl)) ?_
  by_cases h_67 : (((k2 : Nat) : Int) : Int) < ((m.W.length : Nat) : Int)
  · refine wk_pure (opd 80 (.binOp .lss 3 (.tmp 76) (.tmp 79) 3) 4) rfl (.bool true) (fun _ => y_lss (k := .i64) (a := ((k2 : Nat) : Int)) (b := ((m.W.length : Nat) : Int)) (by kernel_rfl) (by kernel_rfl) (decide_eq_true h_67)) ?_
    refine wk_nil ?_
    refine thn_n ?_
    refine g_cond_t (o := .tmp 80) (x := lBN7_42) (y := lBN7_43) (by kernel_rfl) (by kernel_rfl) ?_
    refine g_skip (by kernel_rfl) ?_
    refine thn_n ?_
    refine g_seq (x := lBN7_44) (y := lBN7_45) (by kernel_rfl) ?_
    refine g_block (x := lBN7_46) (id := 3) (by kernel_rfl) ?_
    refine g_seq (x := lBN7_47) (y := lBN7_48) (by kernel_rfl) ?_
    refine g_draw (ops := lBR7_11) (id := 11) (by kernel_rfl) (fun w w' => Grown w w') [pu 0, pu 2, pu 5, pu 7, (1, .stab), pu 3, rd 4, (6, .stab), pu 8, rd 9, pu 10] (by kernel_rfl) (by kernel_rfl) (fun _ => Grown.refl _) (fun w_68 sm_69 => ?_)
    have gx_70 := GX.same [] γ_59 sm_69
    have hsz_71 : w_68.heap.size = w_57.heap.size := by rw [sm_69.heap]
    refine wpf 83 50 (.tmp 2) 6 b_1 0 6 6 ?_ (Eq.trans (by kernel_rfl) f_60)
    refine wpm 85 (.tmp 6) 3 (.int .i64 ((k2 : Nat) : Int)) ?_ (Eq.trans (by kernel_rfl) f_62)
    refine wpf 88 50 (.tmp 3) 6 b_12 0 6 6 ?_ (Eq.trans (by kernel_rfl) f_61)
    refine wpm 90 (.tmp 6) 3 (.int .i64 ((k2 : Nat) : Int)) ?_ (Eq.trans (by kernel_rfl) f_62)
    refine wk_stab (opd 84 (.load 30 (.tmp 83)) 30) rfl (.slice m.wa m.W.length m.wc) (fun w'_ g_ => x_load (b := b_1) (off := 6) (by kernel_rfl) (by kernel_rfl) (Grown.keep g_ (Bk.keep hr_65 gx_70 ni0).1) (by kernel_rfl)) ?_
    have hb_72 := (MOk.keep hr_63 gx_70 ni0)
    refine wk_pure (opd 86 (.indexAddr 30 (.tmp 84) (.tmp 85)) 0) rfl (.pointer (some ⟨m.wb, m.woff + (k2 * 2 + 0), none⟩)) (fun _ => y_ptr (x_indexN (a := m.wa) (b := m.wb) (off := m.woff) (n := m.W.length) (c := m.wc) (k := .i64) (i := ((k2 : Nat) : Int)) (e := 79) (sz := 2) (sz' := 2) (by kernel_rfl) hb_72.w.1 (by kernel_rfl) (by kernel_rfl) rfl (by omega) _) (by omega)) ?_
    refine wk_read (opd 87 (.load 79 (.tmp 86)) 79) rfl (.agg #[.int .i64 (hiOf (m.W.getD k2 0)), .int .u64 (loOf (m.W.getD k2 0))]) (fun w'_ g_ => x_load_cs (b := m.wb) (off := (m.woff + (k2 * 2 + 0))) (n := 2) (vs := [.int .i64 (hiOf (m.W.getD k2 0)), .int .u64 (loOf (m.W.getD k2 0))]) (by kernel_rfl) (by kernel_rfl) rfl (SlE.getN (g_.keepSl hb_72.w.1) encW_len 0 k2 0 (by omega) rfl)) ?_
    refine wk_stab (opd 89 (.load 30 (.tmp 88)) 30) rfl (.slice q.wa q.W.length q.wc) (fun w'_ g_ => x_load (b := b_12) (off := 6) (by kernel_rfl) (by kernel_rfl) (Grown.keep g_ (Bk.keep hr_66 gx_70 ni0).1) (by kernel_rfl)) ?_
    have hb_73 := (MOk.keep hr_64 gx_70 ni0)
    refine wk_pure (opd 91 (.indexAddr 30 (.tmp 89) (.tmp 90)) 0) rfl (.pointer (some ⟨q.wb, q.woff + (k2 * 2 + 0), none⟩)) (fun _ => y_ptr (x_indexN (a := q.wa) (b := q.wb) (off := q.woff) (n := q.W.length) (c := q.wc) (k := .i64) (i := ((k2 : Nat) : Int)) (e := 79) (sz := 2) (sz' := 2) (by kernel_rfl) hb_73.w.1 (by kernel_rfl) (by kernel_rfl) rfl (by omega) _) (by omega)) ?_
    refine wk_read (opd 92 (.load 79 (.tmp 91)) 79) rfl (.agg #[.int .i64 (hiOf (q.W.getD k2 0)), .int .u64 (loOf (q.W.getD k2 0))]) (fun w'_ g_ => x_load_cs (b := q.wb) (off := (q.woff + (k2 * 2 + 0))) (n := 2) (vs := [.int .i64 (hiOf (q.W.getD k2 0)), .int .u64 (loOf (q.W.getD k2 0))]) (by kernel_rfl) (by kernel_rfl) rfl (SlE.getN (g_.keepSl hb_73.w.1) encW_len 0 k2 0 (by omega) rfl)) ?_
    by_cases h_74 : ¬ (((hiOf (m.W.getD k2 0)) : Int) = (hiOf (q.W.getD k2 0)) ∧ ((loOf (m.W.getD k2 0)) : Int) = (loOf (q.W.getD k2 0)))
    · refine wk_pure (opd 93 (.binOp .neq 79 (.tmp 87) (.tmp 92) 79) 4) rfl (.bool true) (fun _ => y_neq2 (k1 := .i64) (k2 := .u64) (a := (hiOf (m.W.getD k2 0))) (b := (loOf (m.W.getD k2 0))) (c := (hiOf (q.W.getD k2 0))) (d := (loOf (q.W.getD k2 0))) (by kernel_rfl) (by kernel_rfl) (by kernel_rfl) (decide_eq_true h_74)) ?_
      refine wk_nil ?_
      refine thn_n ?_
      refine g_cond_t (o := .tmp 93) (x := lBN7_49) (y := lBN7_50) (by kernel_rfl) (by kernel_rfl) ?_
      refine g_seq (x := lBN7_51) (y := lBN7_52) (by kernel_rfl) ?_
      refine g_region (ops := lBR7_12) (id := 12) (by kernel_rfl) [pu 0] (by kernel_rfl) (by kernel_rfl) ?_
      refine wpa 4 (.const (.bool false)) 4 (.bool false) ?_
      refine wk_nil ?_
      refine thn_n ?_
      refine g_ret (by kernel_rfl) ?_
      refine blk_r ?_
      refine thn_r ?_
      refine thn_r ?_
      refine blk_r ?_
      refine thn_r ?_
      refine ends1_r (v := .bool false) rfl (by kernel_rfl) ?_
      have e_ : false = t := by rw [← ht]; exact (decide_eq_false (fun e_ => by obtain ⟨e1_, e2_, e3_, e4_, e5_, e6_, e7_⟩ := abs_eq.1 e_; have e8_ := congrArg List.length e6_; have e9_ := congrArg List.length e7_; first | omega | exact h_74 (by rw [e6_]) | exact h_74 (by rw [e7_]; exact ⟨rfl, rfl⟩))).symm
      rw [e_]
      exact hK _ _ (GX.then_same hE_58 sm_69)
    refine wk_pure (opd 93 (.binOp .neq 79 (.tmp 87) (.tmp 92) 79) 4) rfl (.bool false) (fun _ => y_neq2 (k1 := .i64) (k2 := .u64) (a := (hiOf (m.W.getD k2 0))) (b := (loOf (m.W.getD k2 0))) (c := (hiOf (q.W.getD k2 0))) (d := (loOf (q.W.getD k2 0))) (by kernel_rfl) (by kernel_rfl) (by kernel_rfl) (decide_eq_false h_74)) ?_
    refine wk_nil ?_
    refine thn_n ?_
    refine g_cond_f (o := .tmp 93) (x := lBN7_49) (y := lBN7_50) (by kernel_rfl) (by kernel_rfl) ?_
    refine g_skip (by kernel_rfl) ?_
    refine blk_n ?_
    refine thn_n ?_
    refine g_region (ops := lBR7_10) (id := 10) (by kernel_rfl) [pu 0, pu 1, pu 2] (by kernel_rfl) (by kernel_rfl) ?_
    refine wpm 81 (.tmp 6) 3 (.int .i64 ((k2 : Nat) : Int)) ?_ (Eq.trans (by kernel_rfl) f_62)
    refine wk_pure (opd 82 (.binOp .add 3 (.tmp 81) (.const (.int .i64 1)) 3) 3) rfl (.int .i64 ((k2 + 1 : Nat) : Int)) (fun _ => y_add (k := .i64) (a := ((k2 : Nat) : Int)) (b := 1) (by kernel_rfl) (by kernel_rfl) (i64_to (by omega) (by omega))) ?_
    refine wpa 6 (.tmp 82) 3 (.int .i64 ((k2 + 1 : Nat) : Int)) ?_
    refine wk_nil ?_
    refine thn_n ?_
    have hb_75 := (Bk.keep hr_65 gx_70 ni0)
    have hb_76 := (Bk.keep hr_66 gx_70 ni0)
    exact ⟨_, (by omega), ⟨(k2 + 1), _, rfl, by omega, by intro j hj; rcases Nat.lt_succ_iff_lt_or_eq.1 hj with h_ | rfl; {exact hal2 j h_}; {exact wide_eq.1 (Decidable.not_not.1 h_74)}, (Eq.trans (by kernel_rfl) f_60), (Eq.trans (by kernel_rfl) f_61), (by kernel_rfl), hb_72, hb_73, hb_75, hb_76, (GX.then_same hE_58 sm_69)⟩⟩
  refine wk_pure (opd 80 (.binOp .lss 3 (.tmp 76) (.tmp 79) 3) 4) rfl (.bool false) (fun _ => y_lss (k := .i64) (a := ((k2 : Nat) : Int)) (b := ((m.W.length : Nat) : Int)) (by kernel_rfl) (by kernel_rfl) (decide_eq_false h_67)) ?_
  refine wk_nil ?_
  refine thn_n ?_
  refine g_cond_f (o := .tmp 80) (x := lBN7_42) (y := lBN7_43) (by kernel_rfl) (by kernel_rfl) ?_
  refine g_exit (id := 2) (by kernel_rfl) ?_
  refine thn_e ?_
  refine thn_e ?_
  refine blk_hit ?_
  refine thn_n ?_
  refine g_seq (x := lBN7_53) (y := lBN7_54) (by kernel_rfl) ?_
  refine g_region (ops := lBR7_13) (id := 13) (by kernel_rfl) [pu 0] (by kernel_rfl) (by kernel_rfl) ?_
  refine wpa 4 (.const (.bool true)) 4 (.bool true) ?_
  refine wk_nil ?_
  refine thn_n ?_
  refine g_ret (by kernel_rfl) ?_
  refine ends1_r (v := .bool true) rfl (by kernel_rfl) ?_
  have e_ : true = t := by rw [← ht]; exact (decide_eq_true (abs_eq.2 ⟨by omega, by omega, by omega, by omega, by omega, getD_ext (by omega) k (by omega) hal, getD_ext (by omega) k2 (by omega) hal2⟩)).symm
  rw [e_]
  exact hK _ _ hE_58

end Go.Proofs.Ytpcdldakilkldaa
