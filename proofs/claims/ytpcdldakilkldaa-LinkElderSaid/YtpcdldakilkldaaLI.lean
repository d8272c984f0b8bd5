/-
  Links: contracts of functions, step by step (I).
-/
import Derived.Test.YtpcdldakilkldaaLP
set_option linter.unusedSimpArgs false
set_option linter.unusedVariables false
namespace Go.Proofs.Ytpcdldakilkldaa
open Go Go.Wk

theorem nr_nil : ∀ i, (-9223372036854775808 : Int) ≤ ([] : List Int).getD i 0 ∧ ([] : List Int).getD i 0 ≤ 9223372036854775807 := by intro i; simp
theorem nr_one {x : Int} (h : -9223372036854775808 ≤ x ∧ x ≤ 9223372036854775807) : ∀ i, -9223372036854775808 ≤ [x].getD i 0 ∧ [x].getD i 0 ≤ 9223372036854775807 := by
  intro i
  match i with
  | 0 => exact h
  | i + 1 => simp

noncomputable def lIN7w1_0 : Code := (Try.f7.body).getD .skip
noncomputable def lIN7w1_1 : Code := s1 lIN7w1_0
noncomputable def lIN7w1_2 : Code := s2 lIN7w1_0
noncomputable def lIR7w1_0 : Array Oper := rops lIN7w1_1
noncomputable def lIN7w1_3 : Code := s1 lIN7w1_2
noncomputable def lIN7w1_4 : Code := s2 lIN7w1_2
noncomputable def lIR7w1_1 : Array Oper := rops lIN7w1_3
noncomputable def lIN7w1_5 : Code := s1 lIN7w1_4
noncomputable def lIN7w1_6 : Code := s2 lIN7w1_4
noncomputable def lIN7w1_7 : Code := s1 lIN7w1_5
noncomputable def lIN7w1_8 : Code := s2 lIN7w1_5
noncomputable def lIR7w1_2 : Array Oper := rops lIN7w1_7
noncomputable def lIN7w1_9 : Code := s1 lIN7w1_8
noncomputable def lIN7w1_10 : Code := s2 lIN7w1_8
noncomputable def lIN7w1_11 : Code := s1 lIN7w1_6
noncomputable def lIN7w1_12 : Code := s2 lIN7w1_6
noncomputable def lIR7w1_4 : Array Oper := rops lIN7w1_11
noncomputable def lIN7w1_13 : Code := s1 lIN7w1_12
noncomputable def lIN7w1_14 : Code := s2 lIN7w1_12
noncomputable def lIR7w1_5 : Array Oper := rops lIN7w1_13
noncomputable def lIN7w1_15 : Code := s1 lIN7w1_14
noncomputable def lIN7w1_16 : Code := s2 lIN7w1_14
noncomputable def lIR7w1_6 : Array Oper := rops lIN7w1_15
theorem awake_c {w : World} {K : Value → World → Prop} (hK : ∀ w', Ext [] w w' → K (.bool true) w') : CallsV Try.prog 7 #[] w K := by
  refine callsV_of (c := lIN7w1_0) Try.func7 (by kernel_rfl) (n := 81) (by kernel_rfl) ?_
  refine g_seq (x := lIN7w1_1) (y := lIN7w1_2) (by kernel_rfl) ?_
  refine g_region (ops := lIR7w1_0) (id := 0) (by kernel_rfl) [(0, .pure)] (by kernel_rfl) (by kernel_rfl) ?_
  refine wk_pure (opd 0 (.assign (.const (.bool false))) 4) rfl (.bool false) (fun _ => y_assign (by kernel_rfl)) ?_
  refine wk_nil ?_
  refine thn_n ?_
  refine g_seq (x := lIN7w1_3) (y := lIN7w1_4) (by kernel_rfl) ?_
  refine g_region (ops := lIR7w1_1) (id := 1) (by kernel_rfl) [(0, .loud), (1, .pure), (2, .pure), (3, .pure), (4, .pure), (5, .pure)] (by kernel_rfl) (by kernel_rfl) ?_
  refine wk_call (opd 7 (.call ⟨.value (.func 8), #[.const (.int .i64 1), .const (.int .i64 2), .const (.int .u32 3)], #[3, 3, 27]⟩) 25) rfl 8 #[.int .i64 1, .int .i64 2, .int .u32 3] (x_call Try.func8 (by kernel_rfl) (c := (Try.f8.body).getD .skip) (by kernel_rfl) (by kernel_rfl) (by kernel_rfl)) (newL_p (γ := (fun _ => 0)) (own := 1) (peer := 2) (view := 3) 10 (by omega) (by omega) (by omega) (by omega) (fun w_1 γ_2 p_3 gx_4 hL_5 lo_6 => ⟨?_, ?_⟩))
  · exact trivial
  have hsz_7 : w.heap.size ≤ w_1.heap.size := gx_4.size
  have hL_8 : LkAt γ_2 w_1 10 p_3 (newL 1 2 3) := hL_5
  refine wk_pure (opd 6 (.move (.tmp 7)) 25) rfl (.tuple #[.pointer (some ⟨p_3, 0, none⟩), .int .i64 0]) (fun _ => y_move (by kernel_rfl)) ?_
  refine wk_pure (opd 8 (.extract (.tmp 6) 0) 23) rfl (.pointer (some ⟨p_3, 0, none⟩)) (fun _ => x_extract (vs := #[.pointer (some ⟨p_3, 0, none⟩), .int .i64 0]) (by kernel_rfl) (by kernel_rfl)) ?_
  refine wk_pure (opd 9 (.extract (.tmp 6) 1) 24) rfl (.int .i64 0) (fun _ => x_extract (vs := #[.pointer (some ⟨p_3, 0, none⟩), .int .i64 0]) (by kernel_rfl) (by kernel_rfl)) ?_
  refine wk_pure (opd 1 (.assign (.tmp 8)) 23) rfl (.pointer (some ⟨p_3, 0, none⟩)) (fun _ => y_assign (by kernel_rfl)) ?_
  refine wk_pure (opd 2 (.assign (.tmp 9)) 24) rfl (.int .i64 0) (fun _ => y_assign (by kernel_rfl)) ?_
  refine wk_nil ?_
  refine thn_n ?_
  refine g_seq (x := lIN7w1_5) (y := lIN7w1_6) (by kernel_rfl) ?_
  refine g_seq (x := lIN7w1_7) (y := lIN7w1_8) (by kernel_rfl) ?_
  refine g_region (ops := lIR7w1_2) (id := 2) (by kernel_rfl) [(0, .pure), (1, .pure), (2, .pure), (3, .pure), (4, .pure), (5, .pure)] (by kernel_rfl) (by kernel_rfl) ?_
  refine wk_pure (opd 10 (.move (.tmp 2)) 24) rfl (.int .i64 0) (fun _ => y_move (by kernel_rfl)) ?_
  refine wk_pure (opd 11 (.binOp .neq 24 (.tmp 10) (.const (.int .i64 0)) 24) 4) rfl (.bool false) (fun _ => y_neq (k := .i64) (a := 0) (b := 0) (by kernel_rfl) (by kernel_rfl) (by decide)) ?_
  refine wk_pure (opd 12 (.move (.tmp 11)) 4) rfl (.bool false) (fun _ => y_move (by kernel_rfl)) ?_
  refine wk_pure (opg 13 (.move (.tmp 1)) 23 2 false) (by kernel_rfl) (.pointer (some ⟨p_3, 0, none⟩)) (fun _ => y_move (by kernel_rfl)) ?_
  refine wk_pure (opg 14 (.binOp .eql 23 (.tmp 13) (.const (.pointer none)) 23) 4 2 false) (by kernel_rfl) (.bool false) (fun _ => x_ptr_eql_nil (a := some ⟨p_3, 0, none⟩) (e := 61) (by kernel_rfl) (by kernel_rfl) (by kernel_rfl)) ?_
  refine wk_pure (opd 15 (.pick (.tmp 12) (.const (.bool true)) (.tmp 14)) 4) rfl (.bool false) (fun _ => y_pick_f (by kernel_rfl) (by kernel_rfl)) ?_
  refine wk_nil ?_
  refine thn_n ?_
  refine g_cond_f (o := .tmp 15) (x := lIN7w1_9) (y := lIN7w1_10) (by kernel_rfl) (by kernel_rfl) ?_
  refine g_skip (by kernel_rfl) ?_
  refine thn_n ?_
  refine g_seq (x := lIN7w1_11) (y := lIN7w1_12) (by kernel_rfl) ?_
  refine g_region (ops := lIR7w1_4) (id := 4) (by kernel_rfl) [(0, .pure), (1, .loud), (2, .pure), (3, .loud), (4, .pure)] (by kernel_rfl) (by kernel_rfl) ?_
  refine wk_pure (opd 16 (.move (.tmp 1)) 23) rfl (.pointer (some ⟨p_3, 0, none⟩)) (fun _ => y_move (by kernel_rfl)) ?_
  refine wk_buildSlice (e := 2) (cs := #[.int .i64 9]) (opd 17 (.buildSlice 29 1 #[(0, .const (.int .i64 9))]) 29) rfl (by kernel_rfl) (fun w_9 b_10 eq_11 e_12 sz_13 hb_14 => ⟨?_, ?_⟩)
  · exact trivial
  obtain ⟨γ_15, hg_16, hn_17⟩ := cls_new γ_2 w_1.heap.size 0
  have gx_18 : GX [] w_1 γ_2 w_9 γ_15 := GX.ext0 [] e_12 hg_16
  have hk_19 : Bk γ_15 w_9 b_10 0 (.cells #[.int .i64 9] 2 (0, 0)) := ⟨hb_14, hn_17 _ (by omega)⟩
  refine wk_pure (opd 18 (.build 32 #[(0, .const (.int .i64 5)), (5, .tmp 17)]) 32) rfl (.agg #[.int .i64 5, .int .i64 0, .int .i64 0, .int .u32 0, .int .u32 0, .slice (some ⟨b_10, 0, none⟩) 1 1, .slice none 0 0]) (fun _ => x_build (by kernel_rfl)) ?_
  have hm_20 : MOk γ_15 w_9 (⟨5, 0, 0, 0, 0, (some ⟨b_10, 0, none⟩), b_10, 0, 1, [9], none, 0, 0, 0, []⟩ : MsgR) := ⟨⟨SlE.of_cells hk_19.1 encI_len (by kernel_rfl), .inr ⟨Bk.lt hk_19, hk_19.2⟩⟩, SlG.nil _ _ _ _ _ _ _ _, (by show (0 : Int) ≤ 0 ∧ (0 : Int) < 4294967296; omega), (by show (0 : Int) ≤ 0 ∧ (0 : Int) < 4294967296; omega), (nr_one (by omega)), (by simp), (by simp)⟩
  have hb_21 : LkAt γ_15 w_9 10 p_3 (newL 1 2 3) := (LkAt.keep hL_8 gx_18 List.not_mem_nil List.not_mem_nil List.not_mem_nil List.not_mem_nil)
  refine wk_call (opd 19 (.call ⟨.value (.func 9), #[.tmp 16, .tmp 18], #[23, 32]⟩) 24) rfl 9 #[.pointer (some ⟨p_3, 0, none⟩), .agg #[.int .i64 5, .int .i64 0, .int .i64 0, .int .u32 0, .int .u32 0, .slice (some ⟨b_10, 0, none⟩) 1 1, .slice none 0 0]] (x_call Try.func9 (by kernel_rfl) (c := (Try.f9.body).getD .skip) (by kernel_rfl) (by kernel_rfl) (by kernel_rfl)) (push_p (m := (⟨5, 0, 0, 0, 0, (some ⟨b_10, 0, none⟩), b_10, 0, 1, [9], none, 0, 0, 0, []⟩ : MsgR)) hb_21 (by omega) hm_20 (fun w_22 γ_23 gx_24 hL_25 => ⟨?_, ?_⟩))
  · exact trivial
  have hsz_26 : w_9.heap.size ≤ w_22.heap.size := gx_24.size
  have hL_27 : LkAt γ_23 w_22 10 p_3 ((pushP (newL 1 2 3) (⟨5, 0, 0, 0, 0, [9], []⟩ : Msg)).1) := hL_25
  refine wk_pure (opd 3 (.assign (.tmp 19)) 24) rfl (.int .i64 ((pushP (newL 1 2 3) (⟨5, 0, 0, 0, 0, [9], []⟩ : Msg)).2)) (fun _ => y_assign (by kernel_rfl)) ?_
  refine wk_nil ?_
  refine thn_n ?_
  refine g_seq (x := lIN7w1_13) (y := lIN7w1_14) (by kernel_rfl) ?_
  refine g_region (ops := lIR7w1_5) (id := 5) (by kernel_rfl) [(0, .pure), (1, .loud), (2, .pure), (3, .loud), (4, .pure), (5, .pure)] (by kernel_rfl) (by kernel_rfl) ?_
  refine wk_pure (opd 20 (.move (.tmp 1)) 23) rfl (.pointer (some ⟨p_3, 0, none⟩)) (fun _ => y_move (by kernel_rfl)) ?_
  refine wk_call (opd 21 (.call ⟨.value (.func 10), #[.tmp 20, .const (.int .i64 0)], #[23, 2]⟩) 33) rfl 10 #[.pointer (some ⟨p_3, 0, none⟩), .int .i64 0] (x_call Try.func10 (by kernel_rfl) (c := (Try.f10.body).getD .skip) (by kernel_rfl) (by kernel_rfl) (by kernel_rfl)) (tick_p (now := 0) hL_27 (by omega) (by omega) (fun w_28 γ_29 v_30 outs_31 gx_32 hM_33 hL_34 ho_35 => ⟨?_, ?_⟩))
  · exact trivial
  have hsz_36 : w_22.heap.size ≤ w_28.heap.size := gx_32.size
  have hL_37 : LkAt γ_29 w_28 10 p_3 ((tickP (pushP (newL 1 2 3) (⟨5, 0, 0, 0, 0, [9], []⟩ : Msg)).1 0).1) := hL_34
  obtain ⟨a_38, b_39, off_40, c_41, ev_44, hs_42, hall_43⟩ := hM_33
  subst ev_44
  have ho_45 : outs_31.map MsgR.abs = (tickP (pushP (newL 1 2 3) (⟨5, 0, 0, 0, 0, [9], []⟩ : Msg)).1 0).2 := ho_35
  have hlen_outs_31 : outs_31.length = (tickP (pushP (newL 1 2 3) (⟨5, 0, 0, 0, 0, [9], []⟩ : Msg)).1 0).2.length := by rw [← ho_45, List.length_map]
  have hmany_outs_31 : outs_31.length = 1 := by rw [hlen_outs_31]; decide +kernel
  have hnl_outs_31_0 : (outs_31.getD 0 M0).N.length = 1 := by have hq_ : (outs_31.getD 0 M0).abs = (tickP (pushP (newL 1 2 3) (⟨5, 0, 0, 0, 0, [9], []⟩ : Msg)).1 0).2.getD 0 default := (by rw [← abs_getD, ho_45]); have hq2_ := congrArg (fun x_ => (Msg.N x_).length) hq_; exact Eq.trans hq2_ (by decide +kernel)
  refine wk_pure (opd 22 (.move (.tmp 1)) 23) rfl (.pointer (some ⟨p_3, 0, none⟩)) (fun _ => y_move (by kernel_rfl)) ?_
  refine wk_call (opd 23 (.call ⟨.value (.func 10), #[.tmp 22, .const (.int .i64 0)], #[23, 2]⟩) 33) rfl 10 #[.pointer (some ⟨p_3, 0, none⟩), .int .i64 0] (x_call Try.func10 (by kernel_rfl) (c := (Try.f10.body).getD .skip) (by kernel_rfl) (by kernel_rfl) (by kernel_rfl)) (tick_p (now := 0) hL_37 (by omega) (by omega) (fun w_46 γ_47 v_48 outs_49 gx_50 hM_51 hL_52 ho_53 => ⟨?_, ?_⟩))
  · exact trivial
  have hsz_54 : w_28.heap.size ≤ w_46.heap.size := gx_50.size
  have hL_55 : LkAt γ_47 w_46 10 p_3 ((tickP (tickP (pushP (newL 1 2 3) (⟨5, 0, 0, 0, 0, [9], []⟩ : Msg)).1 0).1 0).1) := hL_52
  obtain ⟨a_56, b_57, off_58, c_59, ev_62, hs_60, hall_61⟩ := hM_51
  subst ev_62
  have ho_63 : outs_49.map MsgR.abs = (tickP (tickP (pushP (newL 1 2 3) (⟨5, 0, 0, 0, 0, [9], []⟩ : Msg)).1 0).1 0).2 := ho_53
  have hlen_outs_49 : outs_49.length = (tickP (tickP (pushP (newL 1 2 3) (⟨5, 0, 0, 0, 0, [9], []⟩ : Msg)).1 0).1 0).2.length := by rw [← ho_63, List.length_map]
  have hmany_outs_49 : outs_49.length = 0 := by rw [hlen_outs_49]; decide +kernel
  refine wk_pure (opd 4 (.assign (.tmp 21)) 33) rfl (.slice a_38 outs_31.length c_41) (fun _ => y_assign (by kernel_rfl)) ?_
  refine wk_pure (opd 5 (.assign (.tmp 23)) 33) rfl (.slice a_56 outs_49.length c_59) (fun _ => y_assign (by kernel_rfl)) ?_
  refine wk_nil ?_
  refine thn_n ?_
  refine g_seq (x := lIN7w1_15) (y := lIN7w1_16) (by kernel_rfl) ?_
  refine g_region (ops := lIR7w1_6) (id := 6) (by kernel_rfl) [(0, .pure), (1, .pure), (2, .pure), (3, .pure), (4, .pure), (5, .pure), (6, .pure), (7, .pure), (8, .pure), (9, .pure), (10, .pure), (11, .loud), (12, .pure), (13, .pure), (14, .pure), (15, .pure), (16, .pure), (17, .pure), (18, .loud), (19, .pure), (20, .pure), (21, .pure), (22, .pure), (23, .pure), (24, .pure), (25, .loud), (26, .pure), (27, .pure), (28, .pure), (29, .pure), (30, .pure), (31, .pure), (32, .loud), (33, .pure), (34, .pure), (35, .pure), (36, .pure), (37, .pure), (38, .pure), (39, .loud), (40, .pure), (41, .pure), (42, .pure), (43, .pure), (44, .pure), (45, .pure), (46, .pure), (47, .pure), (48, .pure), (49, .loud), (50, .pure), (51, .pure), (52, .pure), (53, .pure), (54, .loud), (55, .pure), (56, .pure), (57, .pure)] (by kernel_rfl) (by kernel_rfl) ?_
  refine wk_pure (opd 24 (.move (.tmp 3)) 24) rfl (.int .i64 ((pushP (newL 1 2 3) (⟨5, 0, 0, 0, 0, [9], []⟩ : Msg)).2)) (fun _ => y_move (by kernel_rfl)) ?_
  refine wk_pure (opd 25 (.binOp .eql 24 (.tmp 24) (.const (.int .i64 0)) 24) 4) rfl (.bool true) (fun _ => y_eql (k := .i64) (a := ((pushP (newL 1 2 3) (⟨5, 0, 0, 0, 0, [9], []⟩ : Msg)).2)) (b := 0) (by kernel_rfl) (by kernel_rfl) (decide_eq_true (by decide +kernel))) ?_
  refine wk_pure (opd 26 (.move (.tmp 25)) 4) rfl (.bool true) (fun _ => y_move (by kernel_rfl)) ?_
  refine wk_pure (opg 27 (.move (.tmp 4)) 33 2 true) (by kernel_rfl) (.slice a_38 outs_31.length c_41) (fun _ => y_move (by kernel_rfl)) ?_
  refine wk_pure (opg 28 (.call ⟨.builtin .len, #[.tmp 27], #[33]⟩) 3 2 true) (by kernel_rfl) (.int .i64 ((outs_31.length : Nat) : Int)) (fun _ => x_len (a := a_38) (n := outs_31.length) (c := c_41) (by kernel_rfl) (by kernel_rfl)) ?_
  refine wk_pure (opg 29 (.binOp .eql 3 (.tmp 28) (.const (.int .i64 1)) 3) 4 2 true) (by kernel_rfl) (.bool true) (fun _ => y_eql (k := .i64) (a := ((outs_31.length : Nat) : Int)) (b := 1) (by kernel_rfl) (by kernel_rfl) (decide_eq_true (by rw [hlen_outs_31]; decide +kernel))) ?_
  refine wk_pure (opd 30 (.pick (.tmp 26) (.tmp 29) (.const (.bool false))) 4) rfl (.bool true) (fun _ => y_pick_t (by kernel_rfl) (by kernel_rfl)) ?_
  refine wk_pure (opd 31 (.move (.tmp 30)) 4) rfl (.bool true) (fun _ => y_move (by kernel_rfl)) ?_
  refine wk_pure (opg 32 (.move (.tmp 4)) 33 7 true) (by kernel_rfl) (.slice a_38 outs_31.length c_41) (fun _ => y_move (by kernel_rfl)) ?_
  have hb_64 : SlG γ_47 w_46 0 7 a_38 b_39 off_40 encM outs_31 := (SlG.keep hs_42 gx_50 (by decide))
  refine wk_pure (opg 33 (.indexAddr 33 (.tmp 32) (.const (.int .i64 0))) 0 7 true) (by kernel_rfl) (.pointer (some ⟨b_39, off_40 + (0 * 7 + 0), none⟩)) (fun _ => y_ptr (x_indexN (a := a_38) (b := b_39) (off := off_40) (n := outs_31.length) (c := c_41) (k := .i64) (i := 0) (e := 32) (sz := 7) (sz' := 7) (by kernel_rfl) hb_64.1 (by kernel_rfl) (by kernel_rfl) rfl (by rw [hlen_outs_31]; decide +kernel) _) (by omega)) ?_
  refine wk_pure (opg 34 (.fieldAddr 32 (.tmp 33) 4) 0 7 true) (by kernel_rfl) (.pointer (some ⟨b_39, off_40 + (0 * 7 + 4), none⟩)) (fun _ => y_ptr (x_fieldAddr (b := b_39) (off := (off_40 + (0 * 7 + 0))) (o := 4) (by kernel_rfl) (by kernel_rfl)) (by omega)) ?_
  refine wk_val (opg 35 (.load 27 (.tmp 34)) 27 7 true) (by kernel_rfl) (.int .u32 ((outs_31.getD 0 M0).seq)) (x_load_c (b := b_39) (off := (off_40 + (0 * 7 + 4))) (by kernel_rfl) (by kernel_rfl) (SlE.get hb_64.1 encM_len M0 0 4 (by omega) rfl)) trivial ?_
  refine wk_pure (opg 36 (.binOp .eql 27 (.tmp 35) (.const (.int .u32 1)) 27) 4 7 true) (by kernel_rfl) (.bool true) (fun _ => y_eql (k := .u32) (a := ((outs_31.getD 0 M0).seq)) (b := 1) (by kernel_rfl) (by kernel_rfl) (decide_eq_true (by have hq_ : (outs_31.getD 0 M0).abs = (tickP (pushP (newL 1 2 3) (⟨5, 0, 0, 0, 0, [9], []⟩ : Msg)).1 0).2.getD 0 default := (by rw [← abs_getD, ho_45]); have hq2_ := congrArg Msg.seq hq_; have hq3_ : (outs_31.getD 0 M0).seq = ((tickP (pushP (newL 1 2 3) (⟨5, 0, 0, 0, 0, [9], []⟩ : Msg)).1 0).2.getD 0 default).seq := hq2_; exact hq3_.trans (by decide +kernel)))) ?_
  refine wk_pure (opd 37 (.pick (.tmp 31) (.tmp 36) (.const (.bool false))) 4) rfl (.bool true) (fun _ => y_pick_t (by kernel_rfl) (by kernel_rfl)) ?_
  refine wk_pure (opd 38 (.move (.tmp 37)) 4) rfl (.bool true) (fun _ => y_move (by kernel_rfl)) ?_
  refine wk_pure (opg 39 (.move (.tmp 4)) 33 14 true) (by kernel_rfl) (.slice a_38 outs_31.length c_41) (fun _ => y_move (by kernel_rfl)) ?_
  refine wk_pure (opg 40 (.indexAddr 33 (.tmp 39) (.const (.int .i64 0))) 0 14 true) (by kernel_rfl) (.pointer (some ⟨b_39, off_40 + (0 * 7 + 0), none⟩)) (fun _ => y_ptr (x_indexN (a := a_38) (b := b_39) (off := off_40) (n := outs_31.length) (c := c_41) (k := .i64) (i := 0) (e := 32) (sz := 7) (sz' := 7) (by kernel_rfl) hb_64.1 (by kernel_rfl) (by kernel_rfl) rfl (by rw [hlen_outs_31]; decide +kernel) _) (by omega)) ?_
  refine wk_pure (opg 41 (.fieldAddr 32 (.tmp 40) 1) 0 14 true) (by kernel_rfl) (.pointer (some ⟨b_39, off_40 + (0 * 7 + 1), none⟩)) (fun _ => y_ptr (x_fieldAddr (b := b_39) (off := (off_40 + (0 * 7 + 0))) (o := 1) (by kernel_rfl) (by kernel_rfl)) (by omega)) ?_
  refine wk_val (opg 42 (.load 3 (.tmp 41)) 3 14 true) (by kernel_rfl) (.int .i64 ((outs_31.getD 0 M0).frm)) (x_load_c (b := b_39) (off := (off_40 + (0 * 7 + 1))) (by kernel_rfl) (by kernel_rfl) (SlE.get hb_64.1 encM_len M0 0 1 (by omega) rfl)) trivial ?_
  refine wk_pure (opg 43 (.binOp .eql 3 (.tmp 42) (.const (.int .i64 1)) 3) 4 14 true) (by kernel_rfl) (.bool true) (fun _ => y_eql (k := .i64) (a := ((outs_31.getD 0 M0).frm)) (b := 1) (by kernel_rfl) (by kernel_rfl) (decide_eq_true (by have hq_ : (outs_31.getD 0 M0).abs = (tickP (pushP (newL 1 2 3) (⟨5, 0, 0, 0, 0, [9], []⟩ : Msg)).1 0).2.getD 0 default := (by rw [← abs_getD, ho_45]); have hq2_ := congrArg Msg.frm hq_; have hq3_ : (outs_31.getD 0 M0).frm = ((tickP (pushP (newL 1 2 3) (⟨5, 0, 0, 0, 0, [9], []⟩ : Msg)).1 0).2.getD 0 default).frm := hq2_; exact hq3_.trans (by decide +kernel)))) ?_
  refine wk_pure (opd 44 (.pick (.tmp 38) (.tmp 43) (.const (.bool false))) 4) rfl (.bool true) (fun _ => y_pick_t (by kernel_rfl) (by kernel_rfl)) ?_
  refine wk_pure (opd 45 (.move (.tmp 44)) 4) rfl (.bool true) (fun _ => y_move (by kernel_rfl)) ?_
  refine wk_pure (opg 46 (.move (.tmp 4)) 33 21 true) (by kernel_rfl) (.slice a_38 outs_31.length c_41) (fun _ => y_move (by kernel_rfl)) ?_
  refine wk_pure (opg 47 (.indexAddr 33 (.tmp 46) (.const (.int .i64 0))) 0 21 true) (by kernel_rfl) (.pointer (some ⟨b_39, off_40 + (0 * 7 + 0), none⟩)) (fun _ => y_ptr (x_indexN (a := a_38) (b := b_39) (off := off_40) (n := outs_31.length) (c := c_41) (k := .i64) (i := 0) (e := 32) (sz := 7) (sz' := 7) (by kernel_rfl) hb_64.1 (by kernel_rfl) (by kernel_rfl) rfl (by rw [hlen_outs_31]; decide +kernel) _) (by omega)) ?_
  refine wk_pure (opg 48 (.fieldAddr 32 (.tmp 47) 2) 0 21 true) (by kernel_rfl) (.pointer (some ⟨b_39, off_40 + (0 * 7 + 2), none⟩)) (fun _ => y_ptr (x_fieldAddr (b := b_39) (off := (off_40 + (0 * 7 + 0))) (o := 2) (by kernel_rfl) (by kernel_rfl)) (by omega)) ?_
  refine wk_val (opg 49 (.load 3 (.tmp 48)) 3 21 true) (by kernel_rfl) (.int .i64 ((outs_31.getD 0 M0).to)) (x_load_c (b := b_39) (off := (off_40 + (0 * 7 + 2))) (by kernel_rfl) (by kernel_rfl) (SlE.get hb_64.1 encM_len M0 0 2 (by omega) rfl)) trivial ?_
  refine wk_pure (opg 50 (.binOp .eql 3 (.tmp 49) (.const (.int .i64 2)) 3) 4 21 true) (by kernel_rfl) (.bool true) (fun _ => y_eql (k := .i64) (a := ((outs_31.getD 0 M0).to)) (b := 2) (by kernel_rfl) (by kernel_rfl) (decide_eq_true (by have hq_ : (outs_31.getD 0 M0).abs = (tickP (pushP (newL 1 2 3) (⟨5, 0, 0, 0, 0, [9], []⟩ : Msg)).1 0).2.getD 0 default := (by rw [← abs_getD, ho_45]); have hq2_ := congrArg Msg.to hq_; have hq3_ : (outs_31.getD 0 M0).to = ((tickP (pushP (newL 1 2 3) (⟨5, 0, 0, 0, 0, [9], []⟩ : Msg)).1 0).2.getD 0 default).to := hq2_; exact hq3_.trans (by decide +kernel)))) ?_
  refine wk_pure (opd 51 (.pick (.tmp 45) (.tmp 50) (.const (.bool false))) 4) rfl (.bool true) (fun _ => y_pick_t (by kernel_rfl) (by kernel_rfl)) ?_
  refine wk_pure (opd 52 (.move (.tmp 51)) 4) rfl (.bool true) (fun _ => y_move (by kernel_rfl)) ?_
  refine wk_pure (opg 53 (.move (.tmp 4)) 33 28 true) (by kernel_rfl) (.slice a_38 outs_31.length c_41) (fun _ => y_move (by kernel_rfl)) ?_
  refine wk_pure (opg 54 (.indexAddr 33 (.tmp 53) (.const (.int .i64 0))) 0 28 true) (by kernel_rfl) (.pointer (some ⟨b_39, off_40 + (0 * 7 + 0), none⟩)) (fun _ => y_ptr (x_indexN (a := a_38) (b := b_39) (off := off_40) (n := outs_31.length) (c := c_41) (k := .i64) (i := 0) (e := 32) (sz := 7) (sz' := 7) (by kernel_rfl) hb_64.1 (by kernel_rfl) (by kernel_rfl) rfl (by rw [hlen_outs_31]; decide +kernel) _) (by omega)) ?_
  refine wk_pure (opg 55 (.fieldAddr 32 (.tmp 54) 3) 0 28 true) (by kernel_rfl) (.pointer (some ⟨b_39, off_40 + (0 * 7 + 3), none⟩)) (fun _ => y_ptr (x_fieldAddr (b := b_39) (off := (off_40 + (0 * 7 + 0))) (o := 3) (by kernel_rfl) (by kernel_rfl)) (by omega)) ?_
  refine wk_val (opg 56 (.load 27 (.tmp 55)) 27 28 true) (by kernel_rfl) (.int .u32 ((outs_31.getD 0 M0).view)) (x_load_c (b := b_39) (off := (off_40 + (0 * 7 + 3))) (by kernel_rfl) (by kernel_rfl) (SlE.get hb_64.1 encM_len M0 0 3 (by omega) rfl)) trivial ?_
  refine wk_pure (opg 57 (.binOp .eql 27 (.tmp 56) (.const (.int .u32 3)) 27) 4 28 true) (by kernel_rfl) (.bool true) (fun _ => y_eql (k := .u32) (a := ((outs_31.getD 0 M0).view)) (b := 3) (by kernel_rfl) (by kernel_rfl) (decide_eq_true (by have hq_ : (outs_31.getD 0 M0).abs = (tickP (pushP (newL 1 2 3) (⟨5, 0, 0, 0, 0, [9], []⟩ : Msg)).1 0).2.getD 0 default := (by rw [← abs_getD, ho_45]); have hq2_ := congrArg Msg.view hq_; have hq3_ : (outs_31.getD 0 M0).view = ((tickP (pushP (newL 1 2 3) (⟨5, 0, 0, 0, 0, [9], []⟩ : Msg)).1 0).2.getD 0 default).view := hq2_; exact hq3_.trans (by decide +kernel)))) ?_
  refine wk_pure (opd 58 (.pick (.tmp 52) (.tmp 57) (.const (.bool false))) 4) rfl (.bool true) (fun _ => y_pick_t (by kernel_rfl) (by kernel_rfl)) ?_
  refine wk_pure (opd 59 (.move (.tmp 58)) 4) rfl (.bool true) (fun _ => y_move (by kernel_rfl)) ?_
  refine wk_pure (opg 60 (.move (.tmp 4)) 33 35 true) (by kernel_rfl) (.slice a_38 outs_31.length c_41) (fun _ => y_move (by kernel_rfl)) ?_
  refine wk_pure (opg 61 (.indexAddr 33 (.tmp 60) (.const (.int .i64 0))) 0 35 true) (by kernel_rfl) (.pointer (some ⟨b_39, off_40 + (0 * 7 + 0), none⟩)) (fun _ => y_ptr (x_indexN (a := a_38) (b := b_39) (off := off_40) (n := outs_31.length) (c := c_41) (k := .i64) (i := 0) (e := 32) (sz := 7) (sz' := 7) (by kernel_rfl) hb_64.1 (by kernel_rfl) (by kernel_rfl) rfl (by rw [hlen_outs_31]; decide +kernel) _) (by omega)) ?_
  refine wk_pure (opg 62 (.fieldAddr 32 (.tmp 61) 0) 0 35 true) (by kernel_rfl) (.pointer (some ⟨b_39, off_40 + (0 * 7 + 0), none⟩)) (fun _ => y_ptr (x_fieldAddr (b := b_39) (off := (off_40 + (0 * 7 + 0))) (o := 0) (by kernel_rfl) (by kernel_rfl)) (by omega)) ?_
  refine wk_val (opg 63 (.load 3 (.tmp 62)) 3 35 true) (by kernel_rfl) (.int .i64 ((outs_31.getD 0 M0).kind)) (x_load_c (b := b_39) (off := (off_40 + (0 * 7 + 0))) (by kernel_rfl) (by kernel_rfl) (SlE.get hb_64.1 encM_len M0 0 0 (by omega) rfl)) trivial ?_
  refine wk_pure (opg 64 (.binOp .eql 3 (.tmp 63) (.const (.int .i64 5)) 3) 4 35 true) (by kernel_rfl) (.bool true) (fun _ => y_eql (k := .i64) (a := ((outs_31.getD 0 M0).kind)) (b := 5) (by kernel_rfl) (by kernel_rfl) (decide_eq_true (by have hq_ : (outs_31.getD 0 M0).abs = (tickP (pushP (newL 1 2 3) (⟨5, 0, 0, 0, 0, [9], []⟩ : Msg)).1 0).2.getD 0 default := (by rw [← abs_getD, ho_45]); have hq2_ := congrArg Msg.kind hq_; have hq3_ : (outs_31.getD 0 M0).kind = ((tickP (pushP (newL 1 2 3) (⟨5, 0, 0, 0, 0, [9], []⟩ : Msg)).1 0).2.getD 0 default).kind := hq2_; exact hq3_.trans (by decide +kernel)))) ?_
  refine wk_pure (opd 65 (.pick (.tmp 59) (.tmp 64) (.const (.bool false))) 4) rfl (.bool true) (fun _ => y_pick_t (by kernel_rfl) (by kernel_rfl)) ?_
  refine wk_pure (opd 66 (.move (.tmp 65)) 4) rfl (.bool true) (fun _ => y_move (by kernel_rfl)) ?_
  refine wk_pure (opg 67 (.move (.tmp 5)) 33 42 true) (by kernel_rfl) (.slice a_56 outs_49.length c_59) (fun _ => y_move (by kernel_rfl)) ?_
  refine wk_pure (opg 68 (.call ⟨.builtin .len, #[.tmp 67], #[33]⟩) 3 42 true) (by kernel_rfl) (.int .i64 ((outs_49.length : Nat) : Int)) (fun _ => x_len (a := a_56) (n := outs_49.length) (c := c_59) (by kernel_rfl) (by kernel_rfl)) ?_
  refine wk_pure (opg 69 (.binOp .eql 3 (.tmp 68) (.const (.int .i64 0)) 3) 4 42 true) (by kernel_rfl) (.bool true) (fun _ => y_eql (k := .i64) (a := ((outs_49.length : Nat) : Int)) (b := 0) (by kernel_rfl) (by kernel_rfl) (decide_eq_true (by rw [hlen_outs_49]; decide +kernel))) ?_
  refine wk_pure (opd 70 (.pick (.tmp 66) (.tmp 69) (.const (.bool false))) 4) rfl (.bool true) (fun _ => y_pick_t (by kernel_rfl) (by kernel_rfl)) ?_
  refine wk_pure (opd 71 (.move (.tmp 70)) 4) rfl (.bool true) (fun _ => y_move (by kernel_rfl)) ?_
  refine wk_pure (opg 72 (.move (.tmp 1)) 23 47 true) (by kernel_rfl) (.pointer (some ⟨p_3, 0, none⟩)) (fun _ => y_move (by kernel_rfl)) ?_
  refine wk_call (opg 73 (.call ⟨.value (.func 12), #[.tmp 72], #[23]⟩) 3 47 true) (by kernel_rfl) 12 #[.pointer (some ⟨p_3, 0, none⟩)] (x_call Try.func12 (by kernel_rfl) (c := (Try.f12.body).getD .skip) (by kernel_rfl) (by kernel_rfl) (by kernel_rfl)) (waiting_p hL_55 (by omega) (fun w_65 sm_66 => ⟨?_, ?_⟩))
  · exact trivial
  have gx_67 : GX [] w_46 γ_47 w_65 γ_47 := GX.same [] γ_47 sm_66
  have hsz_68 : w_65.heap.size = w_46.heap.size := by rw [sm_66.heap]
  refine wk_pure (opg 74 (.binOp .eql 3 (.tmp 73) (.const (.int .i64 1)) 3) 4 47 true) (by kernel_rfl) (.bool true) (fun _ => y_eql (k := .i64) (a := ((((tickP (tickP (pushP (newL 1 2 3) (⟨5, 0, 0, 0, 0, [9], []⟩ : Msg)).1 0).1 0).1).out.length : Nat) : Int)) (b := 1) (by kernel_rfl) (by kernel_rfl) (decide_eq_true (by decide +kernel))) ?_
  refine wk_pure (opd 75 (.pick (.tmp 71) (.tmp 74) (.const (.bool false))) 4) rfl (.bool true) (fun _ => y_pick_t (by kernel_rfl) (by kernel_rfl)) ?_
  refine wk_pure (opd 76 (.move (.tmp 75)) 4) rfl (.bool true) (fun _ => y_move (by kernel_rfl)) ?_
  refine wk_pure (opg 77 (.move (.tmp 1)) 23 52 true) (by kernel_rfl) (.pointer (some ⟨p_3, 0, none⟩)) (fun _ => y_move (by kernel_rfl)) ?_
  have hb_69 : LkAt γ_47 w_65 10 p_3 ((tickP (tickP (pushP (newL 1 2 3) (⟨5, 0, 0, 0, 0, [9], []⟩ : Msg)).1 0).1 0).1) := (LkAt.keep hL_55 gx_67 List.not_mem_nil List.not_mem_nil List.not_mem_nil List.not_mem_nil)
  refine wk_call (opg 78 (.call ⟨.value (.func 14), #[.tmp 77], #[23]⟩) 27 52 true) (by kernel_rfl) 14 #[.pointer (some ⟨p_3, 0, none⟩)] (x_call Try.func14 (by kernel_rfl) (c := (Try.f14.body).getD .skip) (by kernel_rfl) (by kernel_rfl) (by kernel_rfl)) (next_p hb_69 (by omega) (fun w_70 sm_71 => ⟨?_, ?_⟩))
  · exact trivial
  have gx_72 : GX [] w_65 γ_47 w_70 γ_47 := GX.same [] γ_47 sm_71
  have hsz_73 : w_70.heap.size = w_65.heap.size := by rw [sm_71.heap]
  refine wk_pure (opg 79 (.binOp .eql 27 (.tmp 78) (.const (.int .u32 1)) 27) 4 52 true) (by kernel_rfl) (.bool true) (fun _ => y_eql (k := .u32) (a := (((tickP (tickP (pushP (newL 1 2 3) (⟨5, 0, 0, 0, 0, [9], []⟩ : Msg)).1 0).1 0).1).next)) (b := 1) (by kernel_rfl) (by kernel_rfl) (decide_eq_true (by decide +kernel))) ?_
  refine wk_pure (opd 80 (.pick (.tmp 76) (.tmp 79) (.const (.bool false))) 4) rfl (.bool true) (fun _ => y_pick_t (by kernel_rfl) (by kernel_rfl)) ?_
  refine wk_pure (opd 0 (.assign (.tmp 80)) 4) rfl (.bool true) (fun _ => y_assign (by kernel_rfl)) ?_
  refine wk_nil ?_
  refine thn_n ?_
  refine g_ret (by kernel_rfl) ?_
  refine ends1_r (v := .bool true) rfl (by kernel_rfl) ?_
  exact hK _ (GX.ext (GX.then_same (GX.then_same (GX.trans (GX.trans (GX.trans (GX.then0 (GX.trans (GX.refl [10, 11, 12] _ _) gx_4 (fun _ h_ => absurd h_ List.not_mem_nil)) e_12 hg_16) gx_24 (by intro c_ hc_; simp only [List.mem_cons, List.not_mem_nil, or_false] at hc_ ⊢; omega)) gx_32 (by intro c_ hc_; simp only [List.mem_cons, List.not_mem_nil, or_false] at hc_ ⊢; omega)) gx_50 (by intro c_ hc_; simp only [List.mem_cons, List.not_mem_nil, or_false] at hc_ ⊢; omega)) sm_66) sm_71) (fun _ _ => by show 0 ∉ [10, 11, 12]; decide))

noncomputable def lIN4w2_0 : Code := (Try.f4.body).getD .skip
noncomputable def lIN4w2_1 : Code := s1 lIN4w2_0
noncomputable def lIN4w2_2 : Code := s2 lIN4w2_0
noncomputable def lIR4w2_0 : Array Oper := rops lIN4w2_1
noncomputable def lIN4w2_3 : Code := s1 lIN4w2_2
noncomputable def lIN4w2_4 : Code := s2 lIN4w2_2
noncomputable def lIN4w2_5 : Code := s1 lIN4w2_3
noncomputable def lIN4w2_6 : Code := s2 lIN4w2_3
noncomputable def lIR4w2_1 : Array Oper := rops lIN4w2_5
noncomputable def lIN4w2_7 : Code := s1 lIN4w2_6
noncomputable def lIN4w2_8 : Code := s2 lIN4w2_6
noncomputable def lIN4w2_9 : Code := s1 lIN4w2_4
noncomputable def lIN4w2_10 : Code := s2 lIN4w2_4
noncomputable def lIR4w2_3 : Array Oper := rops lIN4w2_9
noncomputable def lIN4w2_11 : Code := s1 lIN4w2_10
noncomputable def lIN4w2_12 : Code := s2 lIN4w2_10
noncomputable def lIR4w2_4 : Array Oper := rops lIN4w2_11
noncomputable def lIN4w2_13 : Code := s1 lIN4w2_12
noncomputable def lIN4w2_14 : Code := s2 lIN4w2_12
noncomputable def lIR4w2_5 : Array Oper := rops lIN4w2_13
noncomputable def lIN4w2_15 : Code := s1 lIN4w2_14
noncomputable def lIN4w2_16 : Code := s2 lIN4w2_14
noncomputable def lIR4w2_6 : Array Oper := rops lIN4w2_15
noncomputable def lIN4w2_17 : Code := s1 lIN4w2_16
noncomputable def lIN4w2_18 : Code := s2 lIN4w2_16
noncomputable def lIR4w2_7 : Array Oper := rops lIN4w2_17
noncomputable def lIN4w2_19 : Code := s1 lIN4w2_18
noncomputable def lIN4w2_20 : Code := s2 lIN4w2_18
noncomputable def lIR4w2_8 : Array Oper := rops lIN4w2_19
noncomputable def lIN4w2_21 : Code := s1 lIN4w2_20
noncomputable def lIN4w2_22 : Code := s2 lIN4w2_20
noncomputable def lIR4w2_9 : Array Oper := rops lIN4w2_21
noncomputable def lIN4w2_23 : Code := s1 lIN4w2_22
noncomputable def lIN4w2_24 : Code := s2 lIN4w2_22
noncomputable def lIR4w2_10 : Array Oper := rops lIN4w2_23
noncomputable def lIN4w2_25 : Code := s1 lIN4w2_24
noncomputable def lIN4w2_26 : Code := s2 lIN4w2_24
noncomputable def lIR4w2_11 : Array Oper := rops lIN4w2_25
noncomputable def lIN4w2_27 : Code := s1 lIN4w2_26
noncomputable def lIN4w2_28 : Code := s2 lIN4w2_26
noncomputable def lIR4w2_12 : Array Oper := rops lIN4w2_27
noncomputable def lIN4w2_29 : Code := s1 lIN4w2_28
noncomputable def lIN4w2_30 : Code := s2 lIN4w2_28
noncomputable def lIR4w2_13 : Array Oper := rops lIN4w2_29
noncomputable def lIN4w2_31 : Code := s1 lIN4w2_30
noncomputable def lIN4w2_32 : Code := s2 lIN4w2_30
noncomputable def lIR4w2_14 : Array Oper := rops lIN4w2_31
noncomputable def lIN4w2_33 : Code := s1 lIN4w2_32
noncomputable def lIN4w2_34 : Code := s2 lIN4w2_32
noncomputable def lIR4w2_15 : Array Oper := rops lIN4w2_33
noncomputable def lIN4w2_35 : Code := s1 lIN4w2_34
noncomputable def lIN4w2_36 : Code := s2 lIN4w2_34
noncomputable def lIR4w2_16 : Array Oper := rops lIN4w2_35
noncomputable def lIN4w2_37 : Code := s1 lIN4w2_36
noncomputable def lIN4w2_38 : Code := s2 lIN4w2_36
noncomputable def lIR4w2_17 : Array Oper := rops lIN4w2_37
noncomputable def lIN4w2_39 : Code := s1 lIN4w2_38
noncomputable def lIN4w2_40 : Code := s2 lIN4w2_38
noncomputable def lIR4w2_18 : Array Oper := rops lIN4w2_39
noncomputable def lIN4w2_41 : Code := s1 lIN4w2_40
noncomputable def lIN4w2_42 : Code := s2 lIN4w2_40
noncomputable def lIR4w2_19 : Array Oper := rops lIN4w2_41
noncomputable def lIN4w2_43 : Code := s1 lIN4w2_42
noncomputable def lIN4w2_44 : Code := s2 lIN4w2_42
noncomputable def lIR4w2_20 : Array Oper := rops lIN4w2_43
theorem linkKnown_c {w : World} {K : Value → World → Prop} (hK : ∀ w', Ext [] w w' → K (.bool true) w') : CallsV Try.prog 4 #[] w K := by
  refine callsV_of (c := lIN4w2_0) Try.func4 (by kernel_rfl) (n := 210) (by kernel_rfl) ?_
  refine g_seq (x := lIN4w2_1) (y := lIN4w2_2) (by kernel_rfl) ?_
  refine g_region (ops := lIR4w2_0) (id := 0) (by kernel_rfl) [(0, .pure)] (by kernel_rfl) (by kernel_rfl) ?_
  refine wk_pure (opd 0 (.assign (.const (.bool false))) 4) rfl (.bool false) (fun _ => y_assign (by kernel_rfl)) ?_
  refine wk_nil ?_
  refine thn_n ?_
  refine g_seq (x := lIN4w2_3) (y := lIN4w2_4) (by kernel_rfl) ?_
  refine g_seq (x := lIN4w2_5) (y := lIN4w2_6) (by kernel_rfl) ?_
  refine g_region (ops := lIR4w2_1) (id := 1) (by kernel_rfl) [(0, .loud), (1, .pure)] (by kernel_rfl) (by kernel_rfl) ?_
  refine wk_call (opd 31 (.call ⟨.value (.func 7), #[], #[]⟩) 4) rfl 7 #[] (x_call Try.func7 (by kernel_rfl) (c := (Try.f7.body).getD .skip) (by kernel_rfl) (by kernel_rfl) (by kernel_rfl)) (awake_c (fun w_1 e_2 => ⟨?_, ?_⟩))
  · exact trivial
  obtain ⟨γ_3, hg_4, hn_5⟩ := cls_new (fun _ => 0) w.heap.size 10401
  have gx_6 : GX [] w (fun _ => 0) w_1 γ_3 := GX.ext0 [] e_2 hg_4
  have hsz_7 : w.heap.size ≤ w_1.heap.size := e_2.size
  refine wk_pure (opd 32 (.unOp .not 4 (.tmp 31)) 4) rfl (.bool false) (fun _ => y_not (p := true) (by kernel_rfl) rfl) ?_
  refine wk_nil ?_
  refine thn_n ?_
  refine g_cond_f (o := .tmp 32) (x := lIN4w2_7) (y := lIN4w2_8) (by kernel_rfl) (by kernel_rfl) ?_
  refine g_skip (by kernel_rfl) ?_
  refine thn_n ?_
  refine g_seq (x := lIN4w2_9) (y := lIN4w2_10) (by kernel_rfl) ?_
  refine g_region (ops := lIR4w2_3) (id := 3) (by kernel_rfl) [(0, .loud), (1, .pure), (2, .pure), (3, .pure), (4, .pure), (5, .pure)] (by kernel_rfl) (by kernel_rfl) ?_
  refine wk_call (opd 34 (.call ⟨.value (.func 8), #[.const (.int .i64 1), .const (.int .i64 1), .const (.int .u32 0)], #[3, 3, 27]⟩) 25) rfl 8 #[.int .i64 1, .int .i64 1, .int .u32 0] (x_call Try.func8 (by kernel_rfl) (c := (Try.f8.body).getD .skip) (by kernel_rfl) (by kernel_rfl) (by kernel_rfl)) (new_bad (γ := γ_3) (by omega) (fun w_8 sm_9 => ⟨?_, ?_⟩))
  · exact trivial
  have gx_10 : GX [] w_1 γ_3 w_8 γ_3 := GX.same [] γ_3 sm_9
  have hsz_11 : w_8.heap.size = w_1.heap.size := by rw [sm_9.heap]
  refine wk_pure (opd 33 (.move (.tmp 34)) 25) rfl (.tuple #[.pointer none, .int .i64 1]) (fun _ => y_move (by kernel_rfl)) ?_
  refine wk_pure (opd 35 (.extract (.tmp 33) 0) 23) rfl (.pointer none) (fun _ => x_extract (vs := #[.pointer none, .int .i64 1]) (by kernel_rfl) (by kernel_rfl)) ?_
  refine wk_pure (opd 36 (.extract (.tmp 33) 1) 24) rfl (.int .i64 1) (fun _ => x_extract (vs := #[.pointer none, .int .i64 1]) (by kernel_rfl) (by kernel_rfl)) ?_
  refine wk_pure (opd 1 (.assign (.tmp 35)) 23) rfl (.pointer none) (fun _ => y_assign (by kernel_rfl)) ?_
  refine wk_pure (opd 2 (.assign (.tmp 36)) 24) rfl (.int .i64 1) (fun _ => y_assign (by kernel_rfl)) ?_
  refine wk_nil ?_
  refine thn_n ?_
  refine g_seq (x := lIN4w2_11) (y := lIN4w2_12) (by kernel_rfl) ?_
  refine g_region (ops := lIR4w2_4) (id := 4) (by kernel_rfl) [(0, .loud), (1, .pure), (2, .pure), (3, .pure), (4, .pure), (5, .pure)] (by kernel_rfl) (by kernel_rfl) ?_
  refine wk_call (opd 38 (.call ⟨.value (.func 8), #[.const (.int .i64 1), .const (.int .i64 2), .const (.int .u32 3)], #[3, 3, 27]⟩) 25) rfl 8 #[.int .i64 1, .int .i64 2, .int .u32 3] (x_call Try.func8 (by kernel_rfl) (c := (Try.f8.body).getD .skip) (by kernel_rfl) (by kernel_rfl) (by kernel_rfl)) (newL_p (γ := γ_3) (own := 1) (peer := 2) (view := 3) 10 (by omega) (by omega) (by omega) (by omega) (fun w_12 γ_13 p_14 gx_15 hL_16 lo_17 => ⟨?_, ?_⟩))
  · exact trivial
  have hsz_18 : w_8.heap.size ≤ w_12.heap.size := gx_15.size
  have hL_19 : LkAt γ_13 w_12 10 p_14 (newL 1 2 3) := hL_16
  refine wk_pure (opd 37 (.move (.tmp 38)) 25) rfl (.tuple #[.pointer (some ⟨p_14, 0, none⟩), .int .i64 0]) (fun _ => y_move (by kernel_rfl)) ?_
  refine wk_pure (opd 39 (.extract (.tmp 37) 0) 23) rfl (.pointer (some ⟨p_14, 0, none⟩)) (fun _ => x_extract (vs := #[.pointer (some ⟨p_14, 0, none⟩), .int .i64 0]) (by kernel_rfl) (by kernel_rfl)) ?_
  refine wk_pure (opd 40 (.extract (.tmp 37) 1) 24) rfl (.int .i64 0) (fun _ => x_extract (vs := #[.pointer (some ⟨p_14, 0, none⟩), .int .i64 0]) (by kernel_rfl) (by kernel_rfl)) ?_
  refine wk_pure (opd 3 (.assign (.tmp 39)) 23) rfl (.pointer (some ⟨p_14, 0, none⟩)) (fun _ => y_assign (by kernel_rfl)) ?_
  refine wk_pure (opd 4 (.assign (.tmp 40)) 24) rfl (.int .i64 0) (fun _ => y_assign (by kernel_rfl)) ?_
  refine wk_nil ?_
  refine thn_n ?_
  refine g_seq (x := lIN4w2_13) (y := lIN4w2_14) (by kernel_rfl) ?_
  refine g_region (ops := lIR4w2_5) (id := 5) (by kernel_rfl) [(0, .pure), (1, .loud), (2, .loud)] (by kernel_rfl) (by kernel_rfl) ?_
  refine wk_pure (opd 41 (.build 32 #[(0, .const (.int .i64 5)), (1, .const (.int .i64 2)), (2, .const (.int .i64 1)), (3, .const (.int .u32 3)), (4, .const (.int .u32 2))]) 32) rfl (.agg #[.int .i64 5, .int .i64 2, .int .i64 1, .int .u32 3, .int .u32 2, .slice none 0 0, .slice none 0 0]) (fun _ => x_build (by kernel_rfl)) ?_
  refine wk_alloc (z := #[.int .i64 0, .int .i64 0, .int .i64 0, .int .u32 0, .int .u32 0, .slice none 0 0, .slice none 0 0]) (opd 5 (.alloc 32) 0) rfl (by kernel_rfl) (fun w_21 b_20 eq_23 e_22 sz_24 hb_25 => ⟨?_, ?_⟩)
  · exact trivial
  obtain ⟨γ_26, hg_27, hn_28⟩ := cls_new γ_13 w_12.heap.size 10402
  have gx_29 : GX [] w_12 γ_13 w_21 γ_26 := GX.ext0 [] e_22 hg_27
  have hk_30 : Bk γ_26 w_21 b_20 10402 (.cells #[.int .i64 0, .int .i64 0, .int .i64 0, .int .u32 0, .int .u32 0, .slice none 0 0, .slice none 0 0] 32 (0, 0)) := ⟨hb_25, hn_28 _ (by omega)⟩
  refine wk_store (b := b_20) (off := 0) (cs' := #[.int .i64 5, .int .i64 2, .int .i64 1, .int .u32 3, .int .u32 2, .slice none 0 0, .slice none 0 0]) (vs := #[.int .i64 5, .int .i64 2, .int .i64 1, .int .u32 3, .int .u32 2, .slice none 0 0, .slice none 0 0]) (opn (.store 32 (.tmp 5) (.tmp 41)) 0) rfl (by kernel_rfl) (by kernel_rfl) (by kernel_rfl) (by kernel_rfl) hk_30.1 (Nat.le_of_ble_eq_true rfl) (by kernel_rfl) (by kernel_rfl) (fun w_31 e_32 sz_33 hb_34 => ⟨?_, ?_⟩)
  · exact trivial
  have gx_35 : GX [10402] w_21 γ_26 w_31 γ_26 := GX.ext1 e_32 hk_30.2 (fun _ _ => rfl)
  have hk_36 : Bk γ_26 w_31 b_20 10402 (.cells #[.int .i64 5, .int .i64 2, .int .i64 1, .int .u32 3, .int .u32 2, .slice none 0 0, .slice none 0 0] 32 (0, 0)) := ⟨hb_34, hk_30.2⟩
  refine wk_nil ?_
  refine thn_n ?_
  refine g_seq (x := lIN4w2_15) (y := lIN4w2_16) (by kernel_rfl) ?_
  refine g_region (ops := lIR4w2_6) (id := 6) (by kernel_rfl) [(0, .pure), (1, .loud), (2, .loud), (3, .pure), (4, .pure), (5, .pure), (6, .pure), (7, .pure), (8, .pure), (9, .pure)] (by kernel_rfl) (by kernel_rfl) ?_
  refine wk_pure (opd 43 (.move (.tmp 3)) 23) rfl (.pointer (some ⟨p_14, 0, none⟩)) (fun _ => y_move (by kernel_rfl)) ?_
  refine wk_val (opd 44 (.load 32 (.tmp 5)) 32) rfl (.agg #[.int .i64 5, .int .i64 2, .int .i64 1, .int .u32 3, .int .u32 2, .slice none 0 0, .slice none 0 0]) (x_load_agg (b := b_20) (off := 0) (n := 7) (by kernel_rfl) (by kernel_rfl) hk_36.1 (Nat.le_of_ble_eq_true rfl) (by kernel_rfl)) trivial ?_
  have hm_37 : MOk γ_26 w_31 (⟨5, 2, 1, 3, 2, none, 0, 0, 0, [], none, 0, 0, 0, []⟩ : MsgR) := ⟨SlG.nil _ _ _ _ _ _ _ _, SlG.nil _ _ _ _ _ _ _ _, (by show (0 : Int) ≤ 3 ∧ (3 : Int) < 4294967296; omega), (by show (0 : Int) ≤ 2 ∧ (2 : Int) < 4294967296; omega), nr_nil, (by simp), (by simp)⟩
  have hb_38 : LkAt γ_26 w_31 10 p_14 (newL 1 2 3) := (LkAt.keep (LkAt.keep hL_19 gx_29 List.not_mem_nil List.not_mem_nil List.not_mem_nil List.not_mem_nil) gx_35 (by decide) (by decide) (by decide) (by decide))
  refine wk_call (opd 45 (.call ⟨.value (.func 11), #[.tmp 43, .tmp 44], #[23, 32]⟩) 35) rfl 11 #[.pointer (some ⟨p_14, 0, none⟩), .agg #[.int .i64 5, .int .i64 2, .int .i64 1, .int .u32 3, .int .u32 2, .slice none 0 0, .slice none 0 0]] (x_call Try.func11 (by kernel_rfl) (c := (Try.f11.body).getD .skip) (by kernel_rfl) (by kernel_rfl) (by kernel_rfl)) (get_p (m := (⟨5, 2, 1, 3, 2, none, 0, 0, 0, [], none, 0, 0, 0, []⟩ : MsgR)) hb_38 (by omega) hm_37 (by decide +kernel) (fun w_39 γ_40 v_41 v_42 outs_43 outs_44 gx_45 hM_46 hM_47 hL_48 ho_49 ho_50 => ⟨?_, ?_⟩))
  · exact trivial
  have hsz_51 : w_31.heap.size ≤ w_39.heap.size := gx_45.size
  have hL_52 : LkAt γ_40 w_39 10 p_14 ((getP (newL 1 2 3) (⟨5, 2, 1, 3, 2, [], []⟩ : Msg)).1) := hL_48
  obtain ⟨a_53, b_54, off_55, c_56, ev_59, hs_57, hall_58⟩ := hM_46
  subst ev_59
  have ho_60 : outs_43.map MsgR.abs = (getP (newL 1 2 3) (⟨5, 2, 1, 3, 2, [], []⟩ : Msg)).2.1 := ho_49
  have hlen_outs_43 : outs_43.length = (getP (newL 1 2 3) (⟨5, 2, 1, 3, 2, [], []⟩ : Msg)).2.1.length := by rw [← ho_60, List.length_map]
  have hmany_outs_43 : outs_43.length = 0 := by rw [hlen_outs_43]; decide +kernel
  obtain ⟨a_61, b_62, off_63, c_64, ev_67, hs_65, hall_66⟩ := hM_47
  subst ev_67
  have ho_68 : outs_44.map MsgR.abs = (getP (newL 1 2 3) (⟨5, 2, 1, 3, 2, [], []⟩ : Msg)).2.2.1 := ho_50
  have hlen_outs_44 : outs_44.length = (getP (newL 1 2 3) (⟨5, 2, 1, 3, 2, [], []⟩ : Msg)).2.2.1.length := by rw [← ho_68, List.length_map]
  have hmany_outs_44 : outs_44.length = 1 := by rw [hlen_outs_44]; decide +kernel
  have hnl_outs_44_0 : (outs_44.getD 0 M0).N.length = 1 := by have hq_ : (outs_44.getD 0 M0).abs = (getP (newL 1 2 3) (⟨5, 2, 1, 3, 2, [], []⟩ : Msg)).2.2.1.getD 0 default := (by rw [← abs_getD, ho_68]); have hq2_ := congrArg (fun x_ => (Msg.N x_).length) hq_; exact Eq.trans hq2_ (by decide +kernel)
  refine wk_pure (opd 42 (.move (.tmp 45)) 35) rfl (.tuple #[.slice a_53 outs_43.length c_56, .slice a_61 outs_44.length c_64, .int .i64 ((getP (newL 1 2 3) (⟨5, 2, 1, 3, 2, [], []⟩ : Msg)).2.2.2)]) (fun _ => y_move (by kernel_rfl)) ?_
  refine wk_pure (opd 46 (.extract (.tmp 42) 0) 33) rfl (.slice a_53 outs_43.length c_56) (fun _ => x_extract (vs := #[.slice a_53 outs_43.length c_56, .slice a_61 outs_44.length c_64, .int .i64 ((getP (newL 1 2 3) (⟨5, 2, 1, 3, 2, [], []⟩ : Msg)).2.2.2)]) (by kernel_rfl) (by kernel_rfl)) ?_
  refine wk_pure (opd 47 (.extract (.tmp 42) 1) 33) rfl (.slice a_61 outs_44.length c_64) (fun _ => x_extract (vs := #[.slice a_53 outs_43.length c_56, .slice a_61 outs_44.length c_64, .int .i64 ((getP (newL 1 2 3) (⟨5, 2, 1, 3, 2, [], []⟩ : Msg)).2.2.2)]) (by kernel_rfl) (by kernel_rfl)) ?_
  refine wk_pure (opd 48 (.extract (.tmp 42) 2) 24) rfl (.int .i64 ((getP (newL 1 2 3) (⟨5, 2, 1, 3, 2, [], []⟩ : Msg)).2.2.2)) (fun _ => x_extract (vs := #[.slice a_53 outs_43.length c_56, .slice a_61 outs_44.length c_64, .int .i64 ((getP (newL 1 2 3) (⟨5, 2, 1, 3, 2, [], []⟩ : Msg)).2.2.2)]) (by kernel_rfl) (by kernel_rfl)) ?_
  refine wk_pure (opd 6 (.assign (.tmp 46)) 33) rfl (.slice a_53 outs_43.length c_56) (fun _ => y_assign (by kernel_rfl)) ?_
  refine wk_pure (opd 7 (.assign (.tmp 47)) 33) rfl (.slice a_61 outs_44.length c_64) (fun _ => y_assign (by kernel_rfl)) ?_
  refine wk_pure (opd 8 (.assign (.tmp 48)) 24) rfl (.int .i64 ((getP (newL 1 2 3) (⟨5, 2, 1, 3, 2, [], []⟩ : Msg)).2.2.2)) (fun _ => y_assign (by kernel_rfl)) ?_
  refine wk_nil ?_
  refine thn_n ?_
  refine g_seq (x := lIN4w2_17) (y := lIN4w2_18) (by kernel_rfl) ?_
  refine g_region (ops := lIR4w2_7) (id := 7) (by kernel_rfl) [(0, .pure), (1, .loud), (2, .loud), (3, .pure), (4, .pure), (5, .pure), (6, .pure), (7, .pure), (8, .pure), (9, .pure)] (by kernel_rfl) (by kernel_rfl) ?_
  refine wk_pure (opd 50 (.move (.tmp 3)) 23) rfl (.pointer (some ⟨p_14, 0, none⟩)) (fun _ => y_move (by kernel_rfl)) ?_
  have hb_69 : Bk γ_40 w_39 b_20 10402 (.cells #[.int .i64 5, .int .i64 2, .int .i64 1, .int .u32 3, .int .u32 2, .slice none 0 0, .slice none 0 0] 32 (0, 0)) := (Bk.keep hk_36 gx_45 (by decide))
  refine wk_val (opd 51 (.load 32 (.tmp 5)) 32) rfl (.agg #[.int .i64 5, .int .i64 2, .int .i64 1, .int .u32 3, .int .u32 2, .slice none 0 0, .slice none 0 0]) (x_load_agg (b := b_20) (off := 0) (n := 7) (by kernel_rfl) (by kernel_rfl) hb_69.1 (Nat.le_of_ble_eq_true rfl) (by kernel_rfl)) trivial ?_
  have hm_70 : MOk γ_40 w_39 (⟨5, 2, 1, 3, 2, none, 0, 0, 0, [], none, 0, 0, 0, []⟩ : MsgR) := ⟨SlG.nil _ _ _ _ _ _ _ _, SlG.nil _ _ _ _ _ _ _ _, (by show (0 : Int) ≤ 3 ∧ (3 : Int) < 4294967296; omega), (by show (0 : Int) ≤ 2 ∧ (2 : Int) < 4294967296; omega), nr_nil, (by simp), (by simp)⟩
  refine wk_call (opd 52 (.call ⟨.value (.func 11), #[.tmp 50, .tmp 51], #[23, 32]⟩) 35) rfl 11 #[.pointer (some ⟨p_14, 0, none⟩), .agg #[.int .i64 5, .int .i64 2, .int .i64 1, .int .u32 3, .int .u32 2, .slice none 0 0, .slice none 0 0]] (x_call Try.func11 (by kernel_rfl) (c := (Try.f11.body).getD .skip) (by kernel_rfl) (by kernel_rfl) (by kernel_rfl)) (get_p (m := (⟨5, 2, 1, 3, 2, none, 0, 0, 0, [], none, 0, 0, 0, []⟩ : MsgR)) hL_52 (by omega) hm_70 (by decide +kernel) (fun w_71 γ_72 v_73 v_74 outs_75 outs_76 gx_77 hM_78 hM_79 hL_80 ho_81 ho_82 => ⟨?_, ?_⟩))
  · exact trivial
  have hsz_83 : w_39.heap.size ≤ w_71.heap.size := gx_77.size
  have hL_84 : LkAt γ_72 w_71 10 p_14 ((getP (getP (newL 1 2 3) (⟨5, 2, 1, 3, 2, [], []⟩ : Msg)).1 (⟨5, 2, 1, 3, 2, [], []⟩ : Msg)).1) := hL_80
  obtain ⟨a_85, b_86, off_87, c_88, ev_91, hs_89, hall_90⟩ := hM_78
  subst ev_91
  have ho_92 : outs_75.map MsgR.abs = (getP (getP (newL 1 2 3) (⟨5, 2, 1, 3, 2, [], []⟩ : Msg)).1 (⟨5, 2, 1, 3, 2, [], []⟩ : Msg)).2.1 := ho_81
  have hlen_outs_75 : outs_75.length = (getP (getP (newL 1 2 3) (⟨5, 2, 1, 3, 2, [], []⟩ : Msg)).1 (⟨5, 2, 1, 3, 2, [], []⟩ : Msg)).2.1.length := by rw [← ho_92, List.length_map]
  have hmany_outs_75 : outs_75.length = 0 := by rw [hlen_outs_75]; decide +kernel
  obtain ⟨a_93, b_94, off_95, c_96, ev_99, hs_97, hall_98⟩ := hM_79
  subst ev_99
  have ho_100 : outs_76.map MsgR.abs = (getP (getP (newL 1 2 3) (⟨5, 2, 1, 3, 2, [], []⟩ : Msg)).1 (⟨5, 2, 1, 3, 2, [], []⟩ : Msg)).2.2.1 := ho_82
  have hlen_outs_76 : outs_76.length = (getP (getP (newL 1 2 3) (⟨5, 2, 1, 3, 2, [], []⟩ : Msg)).1 (⟨5, 2, 1, 3, 2, [], []⟩ : Msg)).2.2.1.length := by rw [← ho_100, List.length_map]
  have hmany_outs_76 : outs_76.length = 1 := by rw [hlen_outs_76]; decide +kernel
  have hnl_outs_76_0 : (outs_76.getD 0 M0).N.length = 1 := by have hq_ : (outs_76.getD 0 M0).abs = (getP (getP (newL 1 2 3) (⟨5, 2, 1, 3, 2, [], []⟩ : Msg)).1 (⟨5, 2, 1, 3, 2, [], []⟩ : Msg)).2.2.1.getD 0 default := (by rw [← abs_getD, ho_100]); have hq2_ := congrArg (fun x_ => (Msg.N x_).length) hq_; exact Eq.trans hq2_ (by decide +kernel)
  refine wk_pure (opd 49 (.move (.tmp 52)) 35) rfl (.tuple #[.slice a_85 outs_75.length c_88, .slice a_93 outs_76.length c_96, .int .i64 ((getP (getP (newL 1 2 3) (⟨5, 2, 1, 3, 2, [], []⟩ : Msg)).1 (⟨5, 2, 1, 3, 2, [], []⟩ : Msg)).2.2.2)]) (fun _ => y_move (by kernel_rfl)) ?_
  refine wk_pure (opd 53 (.extract (.tmp 49) 0) 33) rfl (.slice a_85 outs_75.length c_88) (fun _ => x_extract (vs := #[.slice a_85 outs_75.length c_88, .slice a_93 outs_76.length c_96, .int .i64 ((getP (getP (newL 1 2 3) (⟨5, 2, 1, 3, 2, [], []⟩ : Msg)).1 (⟨5, 2, 1, 3, 2, [], []⟩ : Msg)).2.2.2)]) (by kernel_rfl) (by kernel_rfl)) ?_
  refine wk_pure (opd 54 (.extract (.tmp 49) 1) 33) rfl (.slice a_93 outs_76.length c_96) (fun _ => x_extract (vs := #[.slice a_85 outs_75.length c_88, .slice a_93 outs_76.length c_96, .int .i64 ((getP (getP (newL 1 2 3) (⟨5, 2, 1, 3, 2, [], []⟩ : Msg)).1 (⟨5, 2, 1, 3, 2, [], []⟩ : Msg)).2.2.2)]) (by kernel_rfl) (by kernel_rfl)) ?_
  refine wk_pure (opd 55 (.extract (.tmp 49) 2) 24) rfl (.int .i64 ((getP (getP (newL 1 2 3) (⟨5, 2, 1, 3, 2, [], []⟩ : Msg)).1 (⟨5, 2, 1, 3, 2, [], []⟩ : Msg)).2.2.2)) (fun _ => x_extract (vs := #[.slice a_85 outs_75.length c_88, .slice a_93 outs_76.length c_96, .int .i64 ((getP (getP (newL 1 2 3) (⟨5, 2, 1, 3, 2, [], []⟩ : Msg)).1 (⟨5, 2, 1, 3, 2, [], []⟩ : Msg)).2.2.2)]) (by kernel_rfl) (by kernel_rfl)) ?_
  refine wk_pure (opd 9 (.assign (.tmp 53)) 33) rfl (.slice a_85 outs_75.length c_88) (fun _ => y_assign (by kernel_rfl)) ?_
  refine wk_pure (opd 10 (.assign (.tmp 54)) 33) rfl (.slice a_93 outs_76.length c_96) (fun _ => y_assign (by kernel_rfl)) ?_
  refine wk_pure (opd 11 (.assign (.tmp 55)) 24) rfl (.int .i64 ((getP (getP (newL 1 2 3) (⟨5, 2, 1, 3, 2, [], []⟩ : Msg)).1 (⟨5, 2, 1, 3, 2, [], []⟩ : Msg)).2.2.2)) (fun _ => y_assign (by kernel_rfl)) ?_
  refine wk_nil ?_
  refine thn_n ?_
  refine g_seq (x := lIN4w2_19) (y := lIN4w2_20) (by kernel_rfl) ?_
  refine g_region (ops := lIR4w2_8) (id := 8) (by kernel_rfl) [(0, .pure), (1, .loud), (2, .pure)] (by kernel_rfl) (by kernel_rfl) ?_
  refine wk_pure (opd 56 (.move (.tmp 3)) 23) rfl (.pointer (some ⟨p_14, 0, none⟩)) (fun _ => y_move (by kernel_rfl)) ?_
  refine wk_call (opd 57 (.call ⟨.value (.func 13), #[.tmp 56], #[23]⟩) 3) rfl 13 #[.pointer (some ⟨p_14, 0, none⟩)] (x_call Try.func13 (by kernel_rfl) (c := (Try.f13.body).getD .skip) (by kernel_rfl) (by kernel_rfl) (by kernel_rfl)) (ahead_p hL_84 (by omega) (fun w_101 sm_102 => ⟨?_, ?_⟩))
  · exact trivial
  have gx_103 : GX [] w_71 γ_72 w_101 γ_72 := GX.same [] γ_72 sm_102
  have hsz_104 : w_101.heap.size = w_71.heap.size := by rw [sm_102.heap]
  refine wk_pure (opd 12 (.assign (.tmp 57)) 3) rfl (.int .i64 ((((getP (getP (newL 1 2 3) (⟨5, 2, 1, 3, 2, [], []⟩ : Msg)).1 (⟨5, 2, 1, 3, 2, [], []⟩ : Msg)).1).held.length : Nat) : Int)) (fun _ => y_assign (by kernel_rfl)) ?_
  refine wk_nil ?_
  refine thn_n ?_
  refine g_seq (x := lIN4w2_21) (y := lIN4w2_22) (by kernel_rfl) ?_
  refine g_region (ops := lIR4w2_9) (id := 9) (by kernel_rfl) [(0, .pure), (1, .loud)] (by kernel_rfl) (by kernel_rfl) ?_
  refine wk_pure (opd 58 (.fieldAddr 32 (.tmp 5) 4) 0) rfl (.pointer (some ⟨b_20, 4, none⟩)) (fun _ => x_fieldAddr (b := b_20) (off := 0) (o := 4) (by kernel_rfl) (by kernel_rfl)) ?_
  have hb_105 : Bk γ_72 w_101 b_20 10402 (.cells #[.int .i64 5, .int .i64 2, .int .i64 1, .int .u32 3, .int .u32 2, .slice none 0 0, .slice none 0 0] 32 (0, 0)) := (Bk.keep (Bk.keep hb_69 gx_77 (by decide)) gx_103 List.not_mem_nil)
  refine wk_store (b := b_20) (off := 4) (cs' := #[.int .i64 5, .int .i64 2, .int .i64 1, .int .u32 3, .int .u32 1, .slice none 0 0, .slice none 0 0]) (vs := #[.int .u32 1]) (opn (.store 27 (.tmp 58) (.const (.int .u32 1))) 0) rfl (by kernel_rfl) (by kernel_rfl) (by kernel_rfl) (by kernel_rfl) hb_105.1 (Nat.le_of_ble_eq_true rfl) (by kernel_rfl) (by kernel_rfl) (fun w_106 e_107 sz_108 hb_109 => ⟨?_, ?_⟩)
  · exact trivial
  have gx_110 : GX [10402] w_101 γ_72 w_106 γ_72 := GX.ext1 e_107 hb_105.2 (fun _ _ => rfl)
  have hk_111 : Bk γ_72 w_106 b_20 10402 (.cells #[.int .i64 5, .int .i64 2, .int .i64 1, .int .u32 3, .int .u32 1, .slice none 0 0, .slice none 0 0] 32 (0, 0)) := ⟨hb_109, hb_105.2⟩
  refine wk_nil ?_
  refine thn_n ?_
  refine g_seq (x := lIN4w2_23) (y := lIN4w2_24) (by kernel_rfl) ?_
  refine g_region (ops := lIR4w2_10) (id := 10) (by kernel_rfl) [(0, .pure), (1, .loud), (2, .loud), (3, .pure), (4, .pure), (5, .pure), (6, .pure), (7, .pure), (8, .pure), (9, .pure)] (by kernel_rfl) (by kernel_rfl) ?_
  refine wk_pure (opd 60 (.move (.tmp 3)) 23) rfl (.pointer (some ⟨p_14, 0, none⟩)) (fun _ => y_move (by kernel_rfl)) ?_
  refine wk_val (opd 61 (.load 32 (.tmp 5)) 32) rfl (.agg #[.int .i64 5, .int .i64 2, .int .i64 1, .int .u32 3, .int .u32 1, .slice none 0 0, .slice none 0 0]) (x_load_agg (b := b_20) (off := 0) (n := 7) (by kernel_rfl) (by kernel_rfl) hk_111.1 (Nat.le_of_ble_eq_true rfl) (by kernel_rfl)) trivial ?_
  have hm_112 : MOk γ_72 w_106 (⟨5, 2, 1, 3, 1, none, 0, 0, 0, [], none, 0, 0, 0, []⟩ : MsgR) := ⟨SlG.nil _ _ _ _ _ _ _ _, SlG.nil _ _ _ _ _ _ _ _, (by show (0 : Int) ≤ 3 ∧ (3 : Int) < 4294967296; omega), (by show (0 : Int) ≤ 1 ∧ (1 : Int) < 4294967296; omega), nr_nil, (by simp), (by simp)⟩
  have hb_113 : LkAt γ_72 w_106 10 p_14 ((getP (getP (newL 1 2 3) (⟨5, 2, 1, 3, 2, [], []⟩ : Msg)).1 (⟨5, 2, 1, 3, 2, [], []⟩ : Msg)).1) := (LkAt.keep (LkAt.keep hL_84 gx_103 List.not_mem_nil List.not_mem_nil List.not_mem_nil List.not_mem_nil) gx_110 (by decide) (by decide) (by decide) (by decide))
  refine wk_call (opd 62 (.call ⟨.value (.func 11), #[.tmp 60, .tmp 61], #[23, 32]⟩) 35) rfl 11 #[.pointer (some ⟨p_14, 0, none⟩), .agg #[.int .i64 5, .int .i64 2, .int .i64 1, .int .u32 3, .int .u32 1, .slice none 0 0, .slice none 0 0]] (x_call Try.func11 (by kernel_rfl) (c := (Try.f11.body).getD .skip) (by kernel_rfl) (by kernel_rfl) (by kernel_rfl)) (get_p (m := (⟨5, 2, 1, 3, 1, none, 0, 0, 0, [], none, 0, 0, 0, []⟩ : MsgR)) hb_113 (by omega) hm_112 (by decide +kernel) (fun w_114 γ_115 v_116 v_117 outs_118 outs_119 gx_120 hM_121 hM_122 hL_123 ho_124 ho_125 => ⟨?_, ?_⟩))
  · exact trivial
  have hsz_126 : w_106.heap.size ≤ w_114.heap.size := gx_120.size
  have hL_127 : LkAt γ_115 w_114 10 p_14 ((getP (getP (getP (newL 1 2 3) (⟨5, 2, 1, 3, 2, [], []⟩ : Msg)).1 (⟨5, 2, 1, 3, 2, [], []⟩ : Msg)).1 (⟨5, 2, 1, 3, 1, [], []⟩ : Msg)).1) := hL_123
  obtain ⟨a_128, b_129, off_130, c_131, ev_134, hs_132, hall_133⟩ := hM_121
  subst ev_134
  have ho_135 : outs_118.map MsgR.abs = (getP (getP (getP (newL 1 2 3) (⟨5, 2, 1, 3, 2, [], []⟩ : Msg)).1 (⟨5, 2, 1, 3, 2, [], []⟩ : Msg)).1 (⟨5, 2, 1, 3, 1, [], []⟩ : Msg)).2.1 := ho_124
  have hlen_outs_118 : outs_118.length = (getP (getP (getP (newL 1 2 3) (⟨5, 2, 1, 3, 2, [], []⟩ : Msg)).1 (⟨5, 2, 1, 3, 2, [], []⟩ : Msg)).1 (⟨5, 2, 1, 3, 1, [], []⟩ : Msg)).2.1.length := by rw [← ho_135, List.length_map]
  have hmany_outs_118 : outs_118.length = 2 := by rw [hlen_outs_118]; decide +kernel
  obtain ⟨a_136, b_137, off_138, c_139, ev_142, hs_140, hall_141⟩ := hM_122
  subst ev_142
  have ho_143 : outs_119.map MsgR.abs = (getP (getP (getP (newL 1 2 3) (⟨5, 2, 1, 3, 2, [], []⟩ : Msg)).1 (⟨5, 2, 1, 3, 2, [], []⟩ : Msg)).1 (⟨5, 2, 1, 3, 1, [], []⟩ : Msg)).2.2.1 := ho_125
  have hlen_outs_119 : outs_119.length = (getP (getP (getP (newL 1 2 3) (⟨5, 2, 1, 3, 2, [], []⟩ : Msg)).1 (⟨5, 2, 1, 3, 2, [], []⟩ : Msg)).1 (⟨5, 2, 1, 3, 1, [], []⟩ : Msg)).2.2.1.length := by rw [← ho_143, List.length_map]
  have hmany_outs_119 : outs_119.length = 1 := by rw [hlen_outs_119]; decide +kernel
  have hnl_outs_119_0 : (outs_119.getD 0 M0).N.length = 1 := by have hq_ : (outs_119.getD 0 M0).abs = (getP (getP (getP (newL 1 2 3) (⟨5, 2, 1, 3, 2, [], []⟩ : Msg)).1 (⟨5, 2, 1, 3, 2, [], []⟩ : Msg)).1 (⟨5, 2, 1, 3, 1, [], []⟩ : Msg)).2.2.1.getD 0 default := (by rw [← abs_getD, ho_143]); have hq2_ := congrArg (fun x_ => (Msg.N x_).length) hq_; exact Eq.trans hq2_ (by decide +kernel)
  refine wk_pure (opd 59 (.move (.tmp 62)) 35) rfl (.tuple #[.slice a_128 outs_118.length c_131, .slice a_136 outs_119.length c_139, .int .i64 ((getP (getP (getP (newL 1 2 3) (⟨5, 2, 1, 3, 2, [], []⟩ : Msg)).1 (⟨5, 2, 1, 3, 2, [], []⟩ : Msg)).1 (⟨5, 2, 1, 3, 1, [], []⟩ : Msg)).2.2.2)]) (fun _ => y_move (by kernel_rfl)) ?_
  refine wk_pure (opd 63 (.extract (.tmp 59) 0) 33) rfl (.slice a_128 outs_118.length c_131) (fun _ => x_extract (vs := #[.slice a_128 outs_118.length c_131, .slice a_136 outs_119.length c_139, .int .i64 ((getP (getP (getP (newL 1 2 3) (⟨5, 2, 1, 3, 2, [], []⟩ : Msg)).1 (⟨5, 2, 1, 3, 2, [], []⟩ : Msg)).1 (⟨5, 2, 1, 3, 1, [], []⟩ : Msg)).2.2.2)]) (by kernel_rfl) (by kernel_rfl)) ?_
  refine wk_pure (opd 64 (.extract (.tmp 59) 1) 33) rfl (.slice a_136 outs_119.length c_139) (fun _ => x_extract (vs := #[.slice a_128 outs_118.length c_131, .slice a_136 outs_119.length c_139, .int .i64 ((getP (getP (getP (newL 1 2 3) (⟨5, 2, 1, 3, 2, [], []⟩ : Msg)).1 (⟨5, 2, 1, 3, 2, [], []⟩ : Msg)).1 (⟨5, 2, 1, 3, 1, [], []⟩ : Msg)).2.2.2)]) (by kernel_rfl) (by kernel_rfl)) ?_
  refine wk_pure (opd 65 (.extract (.tmp 59) 2) 24) rfl (.int .i64 ((getP (getP (getP (newL 1 2 3) (⟨5, 2, 1, 3, 2, [], []⟩ : Msg)).1 (⟨5, 2, 1, 3, 2, [], []⟩ : Msg)).1 (⟨5, 2, 1, 3, 1, [], []⟩ : Msg)).2.2.2)) (fun _ => x_extract (vs := #[.slice a_128 outs_118.length c_131, .slice a_136 outs_119.length c_139, .int .i64 ((getP (getP (getP (newL 1 2 3) (⟨5, 2, 1, 3, 2, [], []⟩ : Msg)).1 (⟨5, 2, 1, 3, 2, [], []⟩ : Msg)).1 (⟨5, 2, 1, 3, 1, [], []⟩ : Msg)).2.2.2)]) (by kernel_rfl) (by kernel_rfl)) ?_
  refine wk_pure (opd 13 (.assign (.tmp 63)) 33) rfl (.slice a_128 outs_118.length c_131) (fun _ => y_assign (by kernel_rfl)) ?_
  refine wk_pure (opd 14 (.assign (.tmp 64)) 33) rfl (.slice a_136 outs_119.length c_139) (fun _ => y_assign (by kernel_rfl)) ?_
  refine wk_pure (opd 15 (.assign (.tmp 65)) 24) rfl (.int .i64 ((getP (getP (getP (newL 1 2 3) (⟨5, 2, 1, 3, 2, [], []⟩ : Msg)).1 (⟨5, 2, 1, 3, 2, [], []⟩ : Msg)).1 (⟨5, 2, 1, 3, 1, [], []⟩ : Msg)).2.2.2)) (fun _ => y_assign (by kernel_rfl)) ?_
  refine wk_nil ?_
  refine thn_n ?_
  refine g_seq (x := lIN4w2_25) (y := lIN4w2_26) (by kernel_rfl) ?_
  refine g_region (ops := lIR4w2_11) (id := 11) (by kernel_rfl) [(0, .pure), (1, .loud)] (by kernel_rfl) (by kernel_rfl) ?_
  refine wk_pure (opd 66 (.fieldAddr 32 (.tmp 5) 4) 0) rfl (.pointer (some ⟨b_20, 4, none⟩)) (fun _ => x_fieldAddr (b := b_20) (off := 0) (o := 4) (by kernel_rfl) (by kernel_rfl)) ?_
  have hb_144 : Bk γ_115 w_114 b_20 10402 (.cells #[.int .i64 5, .int .i64 2, .int .i64 1, .int .u32 3, .int .u32 1, .slice none 0 0, .slice none 0 0] 32 (0, 0)) := (Bk.keep hk_111 gx_120 (by decide))
  refine wk_store (b := b_20) (off := 4) (cs' := #[.int .i64 5, .int .i64 2, .int .i64 1, .int .u32 3, .int .u32 40, .slice none 0 0, .slice none 0 0]) (vs := #[.int .u32 40]) (opn (.store 27 (.tmp 66) (.const (.int .u32 40))) 0) rfl (by kernel_rfl) (by kernel_rfl) (by kernel_rfl) (by kernel_rfl) hb_144.1 (Nat.le_of_ble_eq_true rfl) (by kernel_rfl) (by kernel_rfl) (fun w_145 e_146 sz_147 hb_148 => ⟨?_, ?_⟩)
  · exact trivial
  have gx_149 : GX [10402] w_114 γ_115 w_145 γ_115 := GX.ext1 e_146 hb_144.2 (fun _ _ => rfl)
  have hk_150 : Bk γ_115 w_145 b_20 10402 (.cells #[.int .i64 5, .int .i64 2, .int .i64 1, .int .u32 3, .int .u32 40, .slice none 0 0, .slice none 0 0] 32 (0, 0)) := ⟨hb_148, hb_144.2⟩
  refine wk_nil ?_
  refine thn_n ?_
  refine g_seq (x := lIN4w2_27) (y := lIN4w2_28) (by kernel_rfl) ?_
  refine g_region (ops := lIR4w2_12) (id := 12) (by kernel_rfl) [(0, .pure), (1, .loud), (2, .loud), (3, .pure), (4, .pure), (5, .pure), (6, .pure), (7, .pure), (8, .pure), (9, .pure)] (by kernel_rfl) (by kernel_rfl) ?_
  refine wk_pure (opd 68 (.move (.tmp 3)) 23) rfl (.pointer (some ⟨p_14, 0, none⟩)) (fun _ => y_move (by kernel_rfl)) ?_
  refine wk_val (opd 69 (.load 32 (.tmp 5)) 32) rfl (.agg #[.int .i64 5, .int .i64 2, .int .i64 1, .int .u32 3, .int .u32 40, .slice none 0 0, .slice none 0 0]) (x_load_agg (b := b_20) (off := 0) (n := 7) (by kernel_rfl) (by kernel_rfl) hk_150.1 (Nat.le_of_ble_eq_true rfl) (by kernel_rfl)) trivial ?_
  have hm_151 : MOk γ_115 w_145 (⟨5, 2, 1, 3, 40, none, 0, 0, 0, [], none, 0, 0, 0, []⟩ : MsgR) := ⟨SlG.nil _ _ _ _ _ _ _ _, SlG.nil _ _ _ _ _ _ _ _, (by show (0 : Int) ≤ 3 ∧ (3 : Int) < 4294967296; omega), (by show (0 : Int) ≤ 40 ∧ (40 : Int) < 4294967296; omega), nr_nil, (by simp), (by simp)⟩
  have hb_152 : LkAt γ_115 w_145 10 p_14 ((getP (getP (getP (newL 1 2 3) (⟨5, 2, 1, 3, 2, [], []⟩ : Msg)).1 (⟨5, 2, 1, 3, 2, [], []⟩ : Msg)).1 (⟨5, 2, 1, 3, 1, [], []⟩ : Msg)).1) := (LkAt.keep hL_127 gx_149 (by decide) (by decide) (by decide) (by decide))
  refine wk_call (opd 70 (.call ⟨.value (.func 11), #[.tmp 68, .tmp 69], #[23, 32]⟩) 35) rfl 11 #[.pointer (some ⟨p_14, 0, none⟩), .agg #[.int .i64 5, .int .i64 2, .int .i64 1, .int .u32 3, .int .u32 40, .slice none 0 0, .slice none 0 0]] (x_call Try.func11 (by kernel_rfl) (c := (Try.f11.body).getD .skip) (by kernel_rfl) (by kernel_rfl) (by kernel_rfl)) (get_p (m := (⟨5, 2, 1, 3, 40, none, 0, 0, 0, [], none, 0, 0, 0, []⟩ : MsgR)) hb_152 (by omega) hm_151 (by decide +kernel) (fun w_153 γ_154 v_155 v_156 outs_157 outs_158 gx_159 hM_160 hM_161 hL_162 ho_163 ho_164 => ⟨?_, ?_⟩))
  · exact trivial
  have hsz_165 : w_145.heap.size ≤ w_153.heap.size := gx_159.size
  have hL_166 : LkAt γ_154 w_153 10 p_14 ((getP (getP (getP (getP (newL 1 2 3) (⟨5, 2, 1, 3, 2, [], []⟩ : Msg)).1 (⟨5, 2, 1, 3, 2, [], []⟩ : Msg)).1 (⟨5, 2, 1, 3, 1, [], []⟩ : Msg)).1 (⟨5, 2, 1, 3, 40, [], []⟩ : Msg)).1) := hL_162
  obtain ⟨a_167, b_168, off_169, c_170, ev_173, hs_171, hall_172⟩ := hM_160
  subst ev_173
  have ho_174 : outs_157.map MsgR.abs = (getP (getP (getP (getP (newL 1 2 3) (⟨5, 2, 1, 3, 2, [], []⟩ : Msg)).1 (⟨5, 2, 1, 3, 2, [], []⟩ : Msg)).1 (⟨5, 2, 1, 3, 1, [], []⟩ : Msg)).1 (⟨5, 2, 1, 3, 40, [], []⟩ : Msg)).2.1 := ho_163
  have hlen_outs_157 : outs_157.length = (getP (getP (getP (getP (newL 1 2 3) (⟨5, 2, 1, 3, 2, [], []⟩ : Msg)).1 (⟨5, 2, 1, 3, 2, [], []⟩ : Msg)).1 (⟨5, 2, 1, 3, 1, [], []⟩ : Msg)).1 (⟨5, 2, 1, 3, 40, [], []⟩ : Msg)).2.1.length := by rw [← ho_174, List.length_map]
  have hmany_outs_157 : outs_157.length = 0 := by rw [hlen_outs_157]; decide +kernel
  obtain ⟨a_175, b_176, off_177, c_178, ev_181, hs_179, hall_180⟩ := hM_161
  subst ev_181
  have ho_182 : outs_158.map MsgR.abs = (getP (getP (getP (getP (newL 1 2 3) (⟨5, 2, 1, 3, 2, [], []⟩ : Msg)).1 (⟨5, 2, 1, 3, 2, [], []⟩ : Msg)).1 (⟨5, 2, 1, 3, 1, [], []⟩ : Msg)).1 (⟨5, 2, 1, 3, 40, [], []⟩ : Msg)).2.2.1 := ho_164
  have hlen_outs_158 : outs_158.length = (getP (getP (getP (getP (newL 1 2 3) (⟨5, 2, 1, 3, 2, [], []⟩ : Msg)).1 (⟨5, 2, 1, 3, 2, [], []⟩ : Msg)).1 (⟨5, 2, 1, 3, 1, [], []⟩ : Msg)).1 (⟨5, 2, 1, 3, 40, [], []⟩ : Msg)).2.2.1.length := by rw [← ho_182, List.length_map]
  have hmany_outs_158 : outs_158.length = 0 := by rw [hlen_outs_158]; decide +kernel
  refine wk_pure (opd 67 (.move (.tmp 70)) 35) rfl (.tuple #[.slice a_167 outs_157.length c_170, .slice a_175 outs_158.length c_178, .int .i64 ((getP (getP (getP (getP (newL 1 2 3) (⟨5, 2, 1, 3, 2, [], []⟩ : Msg)).1 (⟨5, 2, 1, 3, 2, [], []⟩ : Msg)).1 (⟨5, 2, 1, 3, 1, [], []⟩ : Msg)).1 (⟨5, 2, 1, 3, 40, [], []⟩ : Msg)).2.2.2)]) (fun _ => y_move (by kernel_rfl)) ?_
  refine wk_pure (opd 71 (.extract (.tmp 67) 0) 33) rfl (.slice a_167 outs_157.length c_170) (fun _ => x_extract (vs := #[.slice a_167 outs_157.length c_170, .slice a_175 outs_158.length c_178, .int .i64 ((getP (getP (getP (getP (newL 1 2 3) (⟨5, 2, 1, 3, 2, [], []⟩ : Msg)).1 (⟨5, 2, 1, 3, 2, [], []⟩ : Msg)).1 (⟨5, 2, 1, 3, 1, [], []⟩ : Msg)).1 (⟨5, 2, 1, 3, 40, [], []⟩ : Msg)).2.2.2)]) (by kernel_rfl) (by kernel_rfl)) ?_
  refine wk_pure (opd 72 (.extract (.tmp 67) 1) 33) rfl (.slice a_175 outs_158.length c_178) (fun _ => x_extract (vs := #[.slice a_167 outs_157.length c_170, .slice a_175 outs_158.length c_178, .int .i64 ((getP (getP (getP (getP (newL 1 2 3) (⟨5, 2, 1, 3, 2, [], []⟩ : Msg)).1 (⟨5, 2, 1, 3, 2, [], []⟩ : Msg)).1 (⟨5, 2, 1, 3, 1, [], []⟩ : Msg)).1 (⟨5, 2, 1, 3, 40, [], []⟩ : Msg)).2.2.2)]) (by kernel_rfl) (by kernel_rfl)) ?_
  refine wk_pure (opd 73 (.extract (.tmp 67) 2) 24) rfl (.int .i64 ((getP (getP (getP (getP (newL 1 2 3) (⟨5, 2, 1, 3, 2, [], []⟩ : Msg)).1 (⟨5, 2, 1, 3, 2, [], []⟩ : Msg)).1 (⟨5, 2, 1, 3, 1, [], []⟩ : Msg)).1 (⟨5, 2, 1, 3, 40, [], []⟩ : Msg)).2.2.2)) (fun _ => x_extract (vs := #[.slice a_167 outs_157.length c_170, .slice a_175 outs_158.length c_178, .int .i64 ((getP (getP (getP (getP (newL 1 2 3) (⟨5, 2, 1, 3, 2, [], []⟩ : Msg)).1 (⟨5, 2, 1, 3, 2, [], []⟩ : Msg)).1 (⟨5, 2, 1, 3, 1, [], []⟩ : Msg)).1 (⟨5, 2, 1, 3, 40, [], []⟩ : Msg)).2.2.2)]) (by kernel_rfl) (by kernel_rfl)) ?_
  refine wk_pure (opd 16 (.assign (.tmp 71)) 33) rfl (.slice a_167 outs_157.length c_170) (fun _ => y_assign (by kernel_rfl)) ?_
  refine wk_pure (opd 17 (.assign (.tmp 72)) 33) rfl (.slice a_175 outs_158.length c_178) (fun _ => y_assign (by kernel_rfl)) ?_
  refine wk_pure (opd 18 (.assign (.tmp 73)) 24) rfl (.int .i64 ((getP (getP (getP (getP (newL 1 2 3) (⟨5, 2, 1, 3, 2, [], []⟩ : Msg)).1 (⟨5, 2, 1, 3, 2, [], []⟩ : Msg)).1 (⟨5, 2, 1, 3, 1, [], []⟩ : Msg)).1 (⟨5, 2, 1, 3, 40, [], []⟩ : Msg)).2.2.2)) (fun _ => y_assign (by kernel_rfl)) ?_
  refine wk_nil ?_
  refine thn_n ?_
  refine g_seq (x := lIN4w2_29) (y := lIN4w2_30) (by kernel_rfl) ?_
  refine g_region (ops := lIR4w2_13) (id := 13) (by kernel_rfl) [(0, .pure), (1, .loud)] (by kernel_rfl) (by kernel_rfl) ?_
  refine wk_pure (opd 74 (.fieldAddr 32 (.tmp 5) 4) 0) rfl (.pointer (some ⟨b_20, 4, none⟩)) (fun _ => x_fieldAddr (b := b_20) (off := 0) (o := 4) (by kernel_rfl) (by kernel_rfl)) ?_
  have hb_183 : Bk γ_154 w_153 b_20 10402 (.cells #[.int .i64 5, .int .i64 2, .int .i64 1, .int .u32 3, .int .u32 40, .slice none 0 0, .slice none 0 0] 32 (0, 0)) := (Bk.keep hk_150 gx_159 (by decide))
  refine wk_store (b := b_20) (off := 4) (cs' := #[.int .i64 5, .int .i64 2, .int .i64 1, .int .u32 3, .int .u32 0, .slice none 0 0, .slice none 0 0]) (vs := #[.int .u32 0]) (opn (.store 27 (.tmp 74) (.const (.int .u32 0))) 0) rfl (by kernel_rfl) (by kernel_rfl) (by kernel_rfl) (by kernel_rfl) hb_183.1 (Nat.le_of_ble_eq_true rfl) (by kernel_rfl) (by kernel_rfl) (fun w_184 e_185 sz_186 hb_187 => ⟨?_, ?_⟩)
  · exact trivial
  have gx_188 : GX [10402] w_153 γ_154 w_184 γ_154 := GX.ext1 e_185 hb_183.2 (fun _ _ => rfl)
  have hk_189 : Bk γ_154 w_184 b_20 10402 (.cells #[.int .i64 5, .int .i64 2, .int .i64 1, .int .u32 3, .int .u32 0, .slice none 0 0, .slice none 0 0] 32 (0, 0)) := ⟨hb_187, hb_183.2⟩
  refine wk_nil ?_
  refine thn_n ?_
  refine g_seq (x := lIN4w2_31) (y := lIN4w2_32) (by kernel_rfl) ?_
  refine g_region (ops := lIR4w2_14) (id := 14) (by kernel_rfl) [(0, .pure), (1, .loud), (2, .loud), (3, .pure), (4, .pure), (5, .pure), (6, .pure), (7, .pure), (8, .pure), (9, .pure)] (by kernel_rfl) (by kernel_rfl) ?_
  refine wk_pure (opd 76 (.move (.tmp 3)) 23) rfl (.pointer (some ⟨p_14, 0, none⟩)) (fun _ => y_move (by kernel_rfl)) ?_
  refine wk_val (opd 77 (.load 32 (.tmp 5)) 32) rfl (.agg #[.int .i64 5, .int .i64 2, .int .i64 1, .int .u32 3, .int .u32 0, .slice none 0 0, .slice none 0 0]) (x_load_agg (b := b_20) (off := 0) (n := 7) (by kernel_rfl) (by kernel_rfl) hk_189.1 (Nat.le_of_ble_eq_true rfl) (by kernel_rfl)) trivial ?_
  have hm_190 : MOk γ_154 w_184 (⟨5, 2, 1, 3, 0, none, 0, 0, 0, [], none, 0, 0, 0, []⟩ : MsgR) := ⟨SlG.nil _ _ _ _ _ _ _ _, SlG.nil _ _ _ _ _ _ _ _, (by show (0 : Int) ≤ 3 ∧ (3 : Int) < 4294967296; omega), (by show (0 : Int) ≤ 0 ∧ (0 : Int) < 4294967296; omega), nr_nil, (by simp), (by simp)⟩
  have hb_191 : LkAt γ_154 w_184 10 p_14 ((getP (getP (getP (getP (newL 1 2 3) (⟨5, 2, 1, 3, 2, [], []⟩ : Msg)).1 (⟨5, 2, 1, 3, 2, [], []⟩ : Msg)).1 (⟨5, 2, 1, 3, 1, [], []⟩ : Msg)).1 (⟨5, 2, 1, 3, 40, [], []⟩ : Msg)).1) := (LkAt.keep hL_166 gx_188 (by decide) (by decide) (by decide) (by decide))
  refine wk_call (opd 78 (.call ⟨.value (.func 11), #[.tmp 76, .tmp 77], #[23, 32]⟩) 35) rfl 11 #[.pointer (some ⟨p_14, 0, none⟩), .agg #[.int .i64 5, .int .i64 2, .int .i64 1, .int .u32 3, .int .u32 0, .slice none 0 0, .slice none 0 0]] (x_call Try.func11 (by kernel_rfl) (c := (Try.f11.body).getD .skip) (by kernel_rfl) (by kernel_rfl) (by kernel_rfl)) (get_p (m := (⟨5, 2, 1, 3, 0, none, 0, 0, 0, [], none, 0, 0, 0, []⟩ : MsgR)) hb_191 (by omega) hm_190 (by decide +kernel) (fun w_192 γ_193 v_194 v_195 outs_196 outs_197 gx_198 hM_199 hM_200 hL_201 ho_202 ho_203 => ⟨?_, ?_⟩))
  · exact trivial
  have hsz_204 : w_184.heap.size ≤ w_192.heap.size := gx_198.size
  have hL_205 : LkAt γ_193 w_192 10 p_14 ((getP (getP (getP (getP (getP (newL 1 2 3) (⟨5, 2, 1, 3, 2, [], []⟩ : Msg)).1 (⟨5, 2, 1, 3, 2, [], []⟩ : Msg)).1 (⟨5, 2, 1, 3, 1, [], []⟩ : Msg)).1 (⟨5, 2, 1, 3, 40, [], []⟩ : Msg)).1 (⟨5, 2, 1, 3, 0, [], []⟩ : Msg)).1) := hL_201
  obtain ⟨a_206, b_207, off_208, c_209, ev_212, hs_210, hall_211⟩ := hM_199
  subst ev_212
  have ho_213 : outs_196.map MsgR.abs = (getP (getP (getP (getP (getP (newL 1 2 3) (⟨5, 2, 1, 3, 2, [], []⟩ : Msg)).1 (⟨5, 2, 1, 3, 2, [], []⟩ : Msg)).1 (⟨5, 2, 1, 3, 1, [], []⟩ : Msg)).1 (⟨5, 2, 1, 3, 40, [], []⟩ : Msg)).1 (⟨5, 2, 1, 3, 0, [], []⟩ : Msg)).2.1 := ho_202
  have hlen_outs_196 : outs_196.length = (getP (getP (getP (getP (getP (newL 1 2 3) (⟨5, 2, 1, 3, 2, [], []⟩ : Msg)).1 (⟨5, 2, 1, 3, 2, [], []⟩ : Msg)).1 (⟨5, 2, 1, 3, 1, [], []⟩ : Msg)).1 (⟨5, 2, 1, 3, 40, [], []⟩ : Msg)).1 (⟨5, 2, 1, 3, 0, [], []⟩ : Msg)).2.1.length := by rw [← ho_213, List.length_map]
  have hmany_outs_196 : outs_196.length = 0 := by rw [hlen_outs_196]; decide +kernel
  obtain ⟨a_214, b_215, off_216, c_217, ev_220, hs_218, hall_219⟩ := hM_200
  subst ev_220
  have ho_221 : outs_197.map MsgR.abs = (getP (getP (getP (getP (getP (newL 1 2 3) (⟨5, 2, 1, 3, 2, [], []⟩ : Msg)).1 (⟨5, 2, 1, 3, 2, [], []⟩ : Msg)).1 (⟨5, 2, 1, 3, 1, [], []⟩ : Msg)).1 (⟨5, 2, 1, 3, 40, [], []⟩ : Msg)).1 (⟨5, 2, 1, 3, 0, [], []⟩ : Msg)).2.2.1 := ho_203
  have hlen_outs_197 : outs_197.length = (getP (getP (getP (getP (getP (newL 1 2 3) (⟨5, 2, 1, 3, 2, [], []⟩ : Msg)).1 (⟨5, 2, 1, 3, 2, [], []⟩ : Msg)).1 (⟨5, 2, 1, 3, 1, [], []⟩ : Msg)).1 (⟨5, 2, 1, 3, 40, [], []⟩ : Msg)).1 (⟨5, 2, 1, 3, 0, [], []⟩ : Msg)).2.2.1.length := by rw [← ho_221, List.length_map]
  have hmany_outs_197 : outs_197.length = 0 := by rw [hlen_outs_197]; decide +kernel
  refine wk_pure (opd 75 (.move (.tmp 78)) 35) rfl (.tuple #[.slice a_206 outs_196.length c_209, .slice a_214 outs_197.length c_217, .int .i64 ((getP (getP (getP (getP (getP (newL 1 2 3) (⟨5, 2, 1, 3, 2, [], []⟩ : Msg)).1 (⟨5, 2, 1, 3, 2, [], []⟩ : Msg)).1 (⟨5, 2, 1, 3, 1, [], []⟩ : Msg)).1 (⟨5, 2, 1, 3, 40, [], []⟩ : Msg)).1 (⟨5, 2, 1, 3, 0, [], []⟩ : Msg)).2.2.2)]) (fun _ => y_move (by kernel_rfl)) ?_
  refine wk_pure (opd 79 (.extract (.tmp 75) 0) 33) rfl (.slice a_206 outs_196.length c_209) (fun _ => x_extract (vs := #[.slice a_206 outs_196.length c_209, .slice a_214 outs_197.length c_217, .int .i64 ((getP (getP (getP (getP (getP (newL 1 2 3) (⟨5, 2, 1, 3, 2, [], []⟩ : Msg)).1 (⟨5, 2, 1, 3, 2, [], []⟩ : Msg)).1 (⟨5, 2, 1, 3, 1, [], []⟩ : Msg)).1 (⟨5, 2, 1, 3, 40, [], []⟩ : Msg)).1 (⟨5, 2, 1, 3, 0, [], []⟩ : Msg)).2.2.2)]) (by kernel_rfl) (by kernel_rfl)) ?_
  refine wk_pure (opd 80 (.extract (.tmp 75) 1) 33) rfl (.slice a_214 outs_197.length c_217) (fun _ => x_extract (vs := #[.slice a_206 outs_196.length c_209, .slice a_214 outs_197.length c_217, .int .i64 ((getP (getP (getP (getP (getP (newL 1 2 3) (⟨5, 2, 1, 3, 2, [], []⟩ : Msg)).1 (⟨5, 2, 1, 3, 2, [], []⟩ : Msg)).1 (⟨5, 2, 1, 3, 1, [], []⟩ : Msg)).1 (⟨5, 2, 1, 3, 40, [], []⟩ : Msg)).1 (⟨5, 2, 1, 3, 0, [], []⟩ : Msg)).2.2.2)]) (by kernel_rfl) (by kernel_rfl)) ?_
  refine wk_pure (opd 81 (.extract (.tmp 75) 2) 24) rfl (.int .i64 ((getP (getP (getP (getP (getP (newL 1 2 3) (⟨5, 2, 1, 3, 2, [], []⟩ : Msg)).1 (⟨5, 2, 1, 3, 2, [], []⟩ : Msg)).1 (⟨5, 2, 1, 3, 1, [], []⟩ : Msg)).1 (⟨5, 2, 1, 3, 40, [], []⟩ : Msg)).1 (⟨5, 2, 1, 3, 0, [], []⟩ : Msg)).2.2.2)) (fun _ => x_extract (vs := #[.slice a_206 outs_196.length c_209, .slice a_214 outs_197.length c_217, .int .i64 ((getP (getP (getP (getP (getP (newL 1 2 3) (⟨5, 2, 1, 3, 2, [], []⟩ : Msg)).1 (⟨5, 2, 1, 3, 2, [], []⟩ : Msg)).1 (⟨5, 2, 1, 3, 1, [], []⟩ : Msg)).1 (⟨5, 2, 1, 3, 40, [], []⟩ : Msg)).1 (⟨5, 2, 1, 3, 0, [], []⟩ : Msg)).2.2.2)]) (by kernel_rfl) (by kernel_rfl)) ?_
  refine wk_pure (opd 19 (.assign (.tmp 79)) 33) rfl (.slice a_206 outs_196.length c_209) (fun _ => y_assign (by kernel_rfl)) ?_
  refine wk_pure (opd 20 (.assign (.tmp 80)) 33) rfl (.slice a_214 outs_197.length c_217) (fun _ => y_assign (by kernel_rfl)) ?_
  refine wk_pure (opd 21 (.assign (.tmp 81)) 24) rfl (.int .i64 ((getP (getP (getP (getP (getP (newL 1 2 3) (⟨5, 2, 1, 3, 2, [], []⟩ : Msg)).1 (⟨5, 2, 1, 3, 2, [], []⟩ : Msg)).1 (⟨5, 2, 1, 3, 1, [], []⟩ : Msg)).1 (⟨5, 2, 1, 3, 40, [], []⟩ : Msg)).1 (⟨5, 2, 1, 3, 0, [], []⟩ : Msg)).2.2.2)) (fun _ => y_assign (by kernel_rfl)) ?_
  refine wk_nil ?_
  refine thn_n ?_
  refine g_seq (x := lIN4w2_33) (y := lIN4w2_34) (by kernel_rfl) ?_
  refine g_region (ops := lIR4w2_15) (id := 15) (by kernel_rfl) [(0, .pure), (1, .loud)] (by kernel_rfl) (by kernel_rfl) ?_
  refine wk_pure (opd 82 (.fieldAddr 32 (.tmp 5) 3) 0) rfl (.pointer (some ⟨b_20, 3, none⟩)) (fun _ => x_fieldAddr (b := b_20) (off := 0) (o := 3) (by kernel_rfl) (by kernel_rfl)) ?_
  have hb_222 : Bk γ_193 w_192 b_20 10402 (.cells #[.int .i64 5, .int .i64 2, .int .i64 1, .int .u32 3, .int .u32 0, .slice none 0 0, .slice none 0 0] 32 (0, 0)) := (Bk.keep hk_189 gx_198 (by decide))
  refine wk_store (b := b_20) (off := 3) (cs' := #[.int .i64 5, .int .i64 2, .int .i64 1, .int .u32 4, .int .u32 0, .slice none 0 0, .slice none 0 0]) (vs := #[.int .u32 4]) (opn (.store 27 (.tmp 82) (.const (.int .u32 4))) 0) rfl (by kernel_rfl) (by kernel_rfl) (by kernel_rfl) (by kernel_rfl) hb_222.1 (Nat.le_of_ble_eq_true rfl) (by kernel_rfl) (by kernel_rfl) (fun w_223 e_224 sz_225 hb_226 => ⟨?_, ?_⟩)
  · exact trivial
  have gx_227 : GX [10402] w_192 γ_193 w_223 γ_193 := GX.ext1 e_224 hb_222.2 (fun _ _ => rfl)
  have hk_228 : Bk γ_193 w_223 b_20 10402 (.cells #[.int .i64 5, .int .i64 2, .int .i64 1, .int .u32 4, .int .u32 0, .slice none 0 0, .slice none 0 0] 32 (0, 0)) := ⟨hb_226, hb_222.2⟩
  refine wk_nil ?_
  refine thn_n ?_
  refine g_seq (x := lIN4w2_35) (y := lIN4w2_36) (by kernel_rfl) ?_
  refine g_region (ops := lIR4w2_16) (id := 16) (by kernel_rfl) [(0, .pure), (1, .loud), (2, .loud), (3, .pure), (4, .pure), (5, .pure), (6, .pure), (7, .pure), (8, .pure), (9, .pure)] (by kernel_rfl) (by kernel_rfl) ?_
  refine wk_pure (opd 84 (.move (.tmp 3)) 23) rfl (.pointer (some ⟨p_14, 0, none⟩)) (fun _ => y_move (by kernel_rfl)) ?_
  refine wk_val (opd 85 (.load 32 (.tmp 5)) 32) rfl (.agg #[.int .i64 5, .int .i64 2, .int .i64 1, .int .u32 4, .int .u32 0, .slice none 0 0, .slice none 0 0]) (x_load_agg (b := b_20) (off := 0) (n := 7) (by kernel_rfl) (by kernel_rfl) hk_228.1 (Nat.le_of_ble_eq_true rfl) (by kernel_rfl)) trivial ?_
  have hm_229 : MOk γ_193 w_223 (⟨5, 2, 1, 4, 0, none, 0, 0, 0, [], none, 0, 0, 0, []⟩ : MsgR) := ⟨SlG.nil _ _ _ _ _ _ _ _, SlG.nil _ _ _ _ _ _ _ _, (by show (0 : Int) ≤ 4 ∧ (4 : Int) < 4294967296; omega), (by show (0 : Int) ≤ 0 ∧ (0 : Int) < 4294967296; omega), nr_nil, (by simp), (by simp)⟩
  have hb_230 : LkAt γ_193 w_223 10 p_14 ((getP (getP (getP (getP (getP (newL 1 2 3) (⟨5, 2, 1, 3, 2, [], []⟩ : Msg)).1 (⟨5, 2, 1, 3, 2, [], []⟩ : Msg)).1 (⟨5, 2, 1, 3, 1, [], []⟩ : Msg)).1 (⟨5, 2, 1, 3, 40, [], []⟩ : Msg)).1 (⟨5, 2, 1, 3, 0, [], []⟩ : Msg)).1) := (LkAt.keep hL_205 gx_227 (by decide) (by decide) (by decide) (by decide))
  refine wk_call (opd 86 (.call ⟨.value (.func 11), #[.tmp 84, .tmp 85], #[23, 32]⟩) 35) rfl 11 #[.pointer (some ⟨p_14, 0, none⟩), .agg #[.int .i64 5, .int .i64 2, .int .i64 1, .int .u32 4, .int .u32 0, .slice none 0 0, .slice none 0 0]] (x_call Try.func11 (by kernel_rfl) (c := (Try.f11.body).getD .skip) (by kernel_rfl) (by kernel_rfl) (by kernel_rfl)) (get_p (m := (⟨5, 2, 1, 4, 0, none, 0, 0, 0, [], none, 0, 0, 0, []⟩ : MsgR)) hb_230 (by omega) hm_229 (by decide +kernel) (fun w_231 γ_232 v_233 v_234 outs_235 outs_236 gx_237 hM_238 hM_239 hL_240 ho_241 ho_242 => ⟨?_, ?_⟩))
  · exact trivial
  have hsz_243 : w_223.heap.size ≤ w_231.heap.size := gx_237.size
  have hL_244 : LkAt γ_232 w_231 10 p_14 ((getP (getP (getP (getP (getP (getP (newL 1 2 3) (⟨5, 2, 1, 3, 2, [], []⟩ : Msg)).1 (⟨5, 2, 1, 3, 2, [], []⟩ : Msg)).1 (⟨5, 2, 1, 3, 1, [], []⟩ : Msg)).1 (⟨5, 2, 1, 3, 40, [], []⟩ : Msg)).1 (⟨5, 2, 1, 3, 0, [], []⟩ : Msg)).1 (⟨5, 2, 1, 4, 0, [], []⟩ : Msg)).1) := hL_240
  obtain ⟨a_245, b_246, off_247, c_248, ev_251, hs_249, hall_250⟩ := hM_238
  subst ev_251
  have ho_252 : outs_235.map MsgR.abs = (getP (getP (getP (getP (getP (getP (newL 1 2 3) (⟨5, 2, 1, 3, 2, [], []⟩ : Msg)).1 (⟨5, 2, 1, 3, 2, [], []⟩ : Msg)).1 (⟨5, 2, 1, 3, 1, [], []⟩ : Msg)).1 (⟨5, 2, 1, 3, 40, [], []⟩ : Msg)).1 (⟨5, 2, 1, 3, 0, [], []⟩ : Msg)).1 (⟨5, 2, 1, 4, 0, [], []⟩ : Msg)).2.1 := ho_241
  have hlen_outs_235 : outs_235.length = (getP (getP (getP (getP (getP (getP (newL 1 2 3) (⟨5, 2, 1, 3, 2, [], []⟩ : Msg)).1 (⟨5, 2, 1, 3, 2, [], []⟩ : Msg)).1 (⟨5, 2, 1, 3, 1, [], []⟩ : Msg)).1 (⟨5, 2, 1, 3, 40, [], []⟩ : Msg)).1 (⟨5, 2, 1, 3, 0, [], []⟩ : Msg)).1 (⟨5, 2, 1, 4, 0, [], []⟩ : Msg)).2.1.length := by rw [← ho_252, List.length_map]
  have hmany_outs_235 : outs_235.length = 0 := by rw [hlen_outs_235]; decide +kernel
  obtain ⟨a_253, b_254, off_255, c_256, ev_259, hs_257, hall_258⟩ := hM_239
  subst ev_259
  have ho_260 : outs_236.map MsgR.abs = (getP (getP (getP (getP (getP (getP (newL 1 2 3) (⟨5, 2, 1, 3, 2, [], []⟩ : Msg)).1 (⟨5, 2, 1, 3, 2, [], []⟩ : Msg)).1 (⟨5, 2, 1, 3, 1, [], []⟩ : Msg)).1 (⟨5, 2, 1, 3, 40, [], []⟩ : Msg)).1 (⟨5, 2, 1, 3, 0, [], []⟩ : Msg)).1 (⟨5, 2, 1, 4, 0, [], []⟩ : Msg)).2.2.1 := ho_242
  have hlen_outs_236 : outs_236.length = (getP (getP (getP (getP (getP (getP (newL 1 2 3) (⟨5, 2, 1, 3, 2, [], []⟩ : Msg)).1 (⟨5, 2, 1, 3, 2, [], []⟩ : Msg)).1 (⟨5, 2, 1, 3, 1, [], []⟩ : Msg)).1 (⟨5, 2, 1, 3, 40, [], []⟩ : Msg)).1 (⟨5, 2, 1, 3, 0, [], []⟩ : Msg)).1 (⟨5, 2, 1, 4, 0, [], []⟩ : Msg)).2.2.1.length := by rw [← ho_260, List.length_map]
  have hmany_outs_236 : outs_236.length = 0 := by rw [hlen_outs_236]; decide +kernel
  refine wk_pure (opd 83 (.move (.tmp 86)) 35) rfl (.tuple #[.slice a_245 outs_235.length c_248, .slice a_253 outs_236.length c_256, .int .i64 ((getP (getP (getP (getP (getP (getP (newL 1 2 3) (⟨5, 2, 1, 3, 2, [], []⟩ : Msg)).1 (⟨5, 2, 1, 3, 2, [], []⟩ : Msg)).1 (⟨5, 2, 1, 3, 1, [], []⟩ : Msg)).1 (⟨5, 2, 1, 3, 40, [], []⟩ : Msg)).1 (⟨5, 2, 1, 3, 0, [], []⟩ : Msg)).1 (⟨5, 2, 1, 4, 0, [], []⟩ : Msg)).2.2.2)]) (fun _ => y_move (by kernel_rfl)) ?_
  refine wk_pure (opd 87 (.extract (.tmp 83) 0) 33) rfl (.slice a_245 outs_235.length c_248) (fun _ => x_extract (vs := #[.slice a_245 outs_235.length c_248, .slice a_253 outs_236.length c_256, .int .i64 ((getP (getP (getP (getP (getP (getP (newL 1 2 3) (⟨5, 2, 1, 3, 2, [], []⟩ : Msg)).1 (⟨5, 2, 1, 3, 2, [], []⟩ : Msg)).1 (⟨5, 2, 1, 3, 1, [], []⟩ : Msg)).1 (⟨5, 2, 1, 3, 40, [], []⟩ : Msg)).1 (⟨5, 2, 1, 3, 0, [], []⟩ : Msg)).1 (⟨5, 2, 1, 4, 0, [], []⟩ : Msg)).2.2.2)]) (by kernel_rfl) (by kernel_rfl)) ?_
  refine wk_pure (opd 88 (.extract (.tmp 83) 1) 33) rfl (.slice a_253 outs_236.length c_256) (fun _ => x_extract (vs := #[.slice a_245 outs_235.length c_248, .slice a_253 outs_236.length c_256, .int .i64 ((getP (getP (getP (getP (getP (getP (newL 1 2 3) (⟨5, 2, 1, 3, 2, [], []⟩ : Msg)).1 (⟨5, 2, 1, 3, 2, [], []⟩ : Msg)).1 (⟨5, 2, 1, 3, 1, [], []⟩ : Msg)).1 (⟨5, 2, 1, 3, 40, [], []⟩ : Msg)).1 (⟨5, 2, 1, 3, 0, [], []⟩ : Msg)).1 (⟨5, 2, 1, 4, 0, [], []⟩ : Msg)).2.2.2)]) (by kernel_rfl) (by kernel_rfl)) ?_
  refine wk_pure (opd 89 (.extract (.tmp 83) 2) 24) rfl (.int .i64 ((getP (getP (getP (getP (getP (getP (newL 1 2 3) (⟨5, 2, 1, 3, 2, [], []⟩ : Msg)).1 (⟨5, 2, 1, 3, 2, [], []⟩ : Msg)).1 (⟨5, 2, 1, 3, 1, [], []⟩ : Msg)).1 (⟨5, 2, 1, 3, 40, [], []⟩ : Msg)).1 (⟨5, 2, 1, 3, 0, [], []⟩ : Msg)).1 (⟨5, 2, 1, 4, 0, [], []⟩ : Msg)).2.2.2)) (fun _ => x_extract (vs := #[.slice a_245 outs_235.length c_248, .slice a_253 outs_236.length c_256, .int .i64 ((getP (getP (getP (getP (getP (getP (newL 1 2 3) (⟨5, 2, 1, 3, 2, [], []⟩ : Msg)).1 (⟨5, 2, 1, 3, 2, [], []⟩ : Msg)).1 (⟨5, 2, 1, 3, 1, [], []⟩ : Msg)).1 (⟨5, 2, 1, 3, 40, [], []⟩ : Msg)).1 (⟨5, 2, 1, 3, 0, [], []⟩ : Msg)).1 (⟨5, 2, 1, 4, 0, [], []⟩ : Msg)).2.2.2)]) (by kernel_rfl) (by kernel_rfl)) ?_
  refine wk_pure (opd 22 (.assign (.tmp 87)) 33) rfl (.slice a_245 outs_235.length c_248) (fun _ => y_assign (by kernel_rfl)) ?_
  refine wk_pure (opd 23 (.assign (.tmp 88)) 33) rfl (.slice a_253 outs_236.length c_256) (fun _ => y_assign (by kernel_rfl)) ?_
  refine wk_pure (opd 24 (.assign (.tmp 89)) 24) rfl (.int .i64 ((getP (getP (getP (getP (getP (getP (newL 1 2 3) (⟨5, 2, 1, 3, 2, [], []⟩ : Msg)).1 (⟨5, 2, 1, 3, 2, [], []⟩ : Msg)).1 (⟨5, 2, 1, 3, 1, [], []⟩ : Msg)).1 (⟨5, 2, 1, 3, 40, [], []⟩ : Msg)).1 (⟨5, 2, 1, 3, 0, [], []⟩ : Msg)).1 (⟨5, 2, 1, 4, 0, [], []⟩ : Msg)).2.2.2)) (fun _ => y_assign (by kernel_rfl)) ?_
  refine wk_nil ?_
  refine thn_n ?_
  refine g_seq (x := lIN4w2_37) (y := lIN4w2_38) (by kernel_rfl) ?_
  refine g_region (ops := lIR4w2_17) (id := 17) (by kernel_rfl) [(0, .pure), (1, .loud)] (by kernel_rfl) (by kernel_rfl) ?_
  refine wk_pure (opd 90 (.fieldAddr 32 (.tmp 5) 1) 0) rfl (.pointer (some ⟨b_20, 1, none⟩)) (fun _ => x_fieldAddr (b := b_20) (off := 0) (o := 1) (by kernel_rfl) (by kernel_rfl)) ?_
  have hb_261 : Bk γ_232 w_231 b_20 10402 (.cells #[.int .i64 5, .int .i64 2, .int .i64 1, .int .u32 4, .int .u32 0, .slice none 0 0, .slice none 0 0] 32 (0, 0)) := (Bk.keep hk_228 gx_237 (by decide))
  refine wk_store (b := b_20) (off := 1) (cs' := #[.int .i64 5, .int .i64 3, .int .i64 1, .int .u32 4, .int .u32 0, .slice none 0 0, .slice none 0 0]) (vs := #[.int .i64 3]) (opn (.store 3 (.tmp 90) (.const (.int .i64 3))) 0) rfl (by kernel_rfl) (by kernel_rfl) (by kernel_rfl) (by kernel_rfl) hb_261.1 (Nat.le_of_ble_eq_true rfl) (by kernel_rfl) (by kernel_rfl) (fun w_262 e_263 sz_264 hb_265 => ⟨?_, ?_⟩)
  · exact trivial
  have gx_266 : GX [10402] w_231 γ_232 w_262 γ_232 := GX.ext1 e_263 hb_261.2 (fun _ _ => rfl)
  have hk_267 : Bk γ_232 w_262 b_20 10402 (.cells #[.int .i64 5, .int .i64 3, .int .i64 1, .int .u32 4, .int .u32 0, .slice none 0 0, .slice none 0 0] 32 (0, 0)) := ⟨hb_265, hb_261.2⟩
  refine wk_nil ?_
  refine thn_n ?_
  refine g_seq (x := lIN4w2_39) (y := lIN4w2_40) (by kernel_rfl) ?_
  refine g_region (ops := lIR4w2_18) (id := 18) (by kernel_rfl) [(0, .pure), (1, .loud), (2, .loud), (3, .pure), (4, .pure), (5, .pure), (6, .pure), (7, .pure), (8, .pure), (9, .pure)] (by kernel_rfl) (by kernel_rfl) ?_
  refine wk_pure (opd 92 (.move (.tmp 3)) 23) rfl (.pointer (some ⟨p_14, 0, none⟩)) (fun _ => y_move (by kernel_rfl)) ?_
  refine wk_val (opd 93 (.load 32 (.tmp 5)) 32) rfl (.agg #[.int .i64 5, .int .i64 3, .int .i64 1, .int .u32 4, .int .u32 0, .slice none 0 0, .slice none 0 0]) (x_load_agg (b := b_20) (off := 0) (n := 7) (by kernel_rfl) (by kernel_rfl) hk_267.1 (Nat.le_of_ble_eq_true rfl) (by kernel_rfl)) trivial ?_
  have hm_268 : MOk γ_232 w_262 (⟨5, 3, 1, 4, 0, none, 0, 0, 0, [], none, 0, 0, 0, []⟩ : MsgR) := ⟨SlG.nil _ _ _ _ _ _ _ _, SlG.nil _ _ _ _ _ _ _ _, (by show (0 : Int) ≤ 4 ∧ (4 : Int) < 4294967296; omega), (by show (0 : Int) ≤ 0 ∧ (0 : Int) < 4294967296; omega), nr_nil, (by simp), (by simp)⟩
  have hb_269 : LkAt γ_232 w_262 10 p_14 ((getP (getP (getP (getP (getP (getP (newL 1 2 3) (⟨5, 2, 1, 3, 2, [], []⟩ : Msg)).1 (⟨5, 2, 1, 3, 2, [], []⟩ : Msg)).1 (⟨5, 2, 1, 3, 1, [], []⟩ : Msg)).1 (⟨5, 2, 1, 3, 40, [], []⟩ : Msg)).1 (⟨5, 2, 1, 3, 0, [], []⟩ : Msg)).1 (⟨5, 2, 1, 4, 0, [], []⟩ : Msg)).1) := (LkAt.keep hL_244 gx_266 (by decide) (by decide) (by decide) (by decide))
  refine wk_call (opd 94 (.call ⟨.value (.func 11), #[.tmp 92, .tmp 93], #[23, 32]⟩) 35) rfl 11 #[.pointer (some ⟨p_14, 0, none⟩), .agg #[.int .i64 5, .int .i64 3, .int .i64 1, .int .u32 4, .int .u32 0, .slice none 0 0, .slice none 0 0]] (x_call Try.func11 (by kernel_rfl) (c := (Try.f11.body).getD .skip) (by kernel_rfl) (by kernel_rfl) (by kernel_rfl)) (get_p (m := (⟨5, 3, 1, 4, 0, none, 0, 0, 0, [], none, 0, 0, 0, []⟩ : MsgR)) hb_269 (by omega) hm_268 (by decide +kernel) (fun w_270 γ_271 v_272 v_273 outs_274 outs_275 gx_276 hM_277 hM_278 hL_279 ho_280 ho_281 => ⟨?_, ?_⟩))
  · exact trivial
  have hsz_282 : w_262.heap.size ≤ w_270.heap.size := gx_276.size
  have hL_283 : LkAt γ_271 w_270 10 p_14 ((getP (getP (getP (getP (getP (getP (getP (newL 1 2 3) (⟨5, 2, 1, 3, 2, [], []⟩ : Msg)).1 (⟨5, 2, 1, 3, 2, [], []⟩ : Msg)).1 (⟨5, 2, 1, 3, 1, [], []⟩ : Msg)).1 (⟨5, 2, 1, 3, 40, [], []⟩ : Msg)).1 (⟨5, 2, 1, 3, 0, [], []⟩ : Msg)).1 (⟨5, 2, 1, 4, 0, [], []⟩ : Msg)).1 (⟨5, 3, 1, 4, 0, [], []⟩ : Msg)).1) := hL_279
  obtain ⟨a_284, b_285, off_286, c_287, ev_290, hs_288, hall_289⟩ := hM_277
  subst ev_290
  have ho_291 : outs_274.map MsgR.abs = (getP (getP (getP (getP (getP (getP (getP (newL 1 2 3) (⟨5, 2, 1, 3, 2, [], []⟩ : Msg)).1 (⟨5, 2, 1, 3, 2, [], []⟩ : Msg)).1 (⟨5, 2, 1, 3, 1, [], []⟩ : Msg)).1 (⟨5, 2, 1, 3, 40, [], []⟩ : Msg)).1 (⟨5, 2, 1, 3, 0, [], []⟩ : Msg)).1 (⟨5, 2, 1, 4, 0, [], []⟩ : Msg)).1 (⟨5, 3, 1, 4, 0, [], []⟩ : Msg)).2.1 := ho_280
  have hlen_outs_274 : outs_274.length = (getP (getP (getP (getP (getP (getP (getP (newL 1 2 3) (⟨5, 2, 1, 3, 2, [], []⟩ : Msg)).1 (⟨5, 2, 1, 3, 2, [], []⟩ : Msg)).1 (⟨5, 2, 1, 3, 1, [], []⟩ : Msg)).1 (⟨5, 2, 1, 3, 40, [], []⟩ : Msg)).1 (⟨5, 2, 1, 3, 0, [], []⟩ : Msg)).1 (⟨5, 2, 1, 4, 0, [], []⟩ : Msg)).1 (⟨5, 3, 1, 4, 0, [], []⟩ : Msg)).2.1.length := by rw [← ho_291, List.length_map]
  have hmany_outs_274 : outs_274.length = 0 := by rw [hlen_outs_274]; decide +kernel
  obtain ⟨a_292, b_293, off_294, c_295, ev_298, hs_296, hall_297⟩ := hM_278
  subst ev_298
  have ho_299 : outs_275.map MsgR.abs = (getP (getP (getP (getP (getP (getP (getP (newL 1 2 3) (⟨5, 2, 1, 3, 2, [], []⟩ : Msg)).1 (⟨5, 2, 1, 3, 2, [], []⟩ : Msg)).1 (⟨5, 2, 1, 3, 1, [], []⟩ : Msg)).1 (⟨5, 2, 1, 3, 40, [], []⟩ : Msg)).1 (⟨5, 2, 1, 3, 0, [], []⟩ : Msg)).1 (⟨5, 2, 1, 4, 0, [], []⟩ : Msg)).1 (⟨5, 3, 1, 4, 0, [], []⟩ : Msg)).2.2.1 := ho_281
  have hlen_outs_275 : outs_275.length = (getP (getP (getP (getP (getP (getP (getP (newL 1 2 3) (⟨5, 2, 1, 3, 2, [], []⟩ : Msg)).1 (⟨5, 2, 1, 3, 2, [], []⟩ : Msg)).1 (⟨5, 2, 1, 3, 1, [], []⟩ : Msg)).1 (⟨5, 2, 1, 3, 40, [], []⟩ : Msg)).1 (⟨5, 2, 1, 3, 0, [], []⟩ : Msg)).1 (⟨5, 2, 1, 4, 0, [], []⟩ : Msg)).1 (⟨5, 3, 1, 4, 0, [], []⟩ : Msg)).2.2.1.length := by rw [← ho_299, List.length_map]
  have hmany_outs_275 : outs_275.length = 0 := by rw [hlen_outs_275]; decide +kernel
  refine wk_pure (opd 91 (.move (.tmp 94)) 35) rfl (.tuple #[.slice a_284 outs_274.length c_287, .slice a_292 outs_275.length c_295, .int .i64 ((getP (getP (getP (getP (getP (getP (getP (newL 1 2 3) (⟨5, 2, 1, 3, 2, [], []⟩ : Msg)).1 (⟨5, 2, 1, 3, 2, [], []⟩ : Msg)).1 (⟨5, 2, 1, 3, 1, [], []⟩ : Msg)).1 (⟨5, 2, 1, 3, 40, [], []⟩ : Msg)).1 (⟨5, 2, 1, 3, 0, [], []⟩ : Msg)).1 (⟨5, 2, 1, 4, 0, [], []⟩ : Msg)).1 (⟨5, 3, 1, 4, 0, [], []⟩ : Msg)).2.2.2)]) (fun _ => y_move (by kernel_rfl)) ?_
  refine wk_pure (opd 95 (.extract (.tmp 91) 0) 33) rfl (.slice a_284 outs_274.length c_287) (fun _ => x_extract (vs := #[.slice a_284 outs_274.length c_287, .slice a_292 outs_275.length c_295, .int .i64 ((getP (getP (getP (getP (getP (getP (getP (newL 1 2 3) (⟨5, 2, 1, 3, 2, [], []⟩ : Msg)).1 (⟨5, 2, 1, 3, 2, [], []⟩ : Msg)).1 (⟨5, 2, 1, 3, 1, [], []⟩ : Msg)).1 (⟨5, 2, 1, 3, 40, [], []⟩ : Msg)).1 (⟨5, 2, 1, 3, 0, [], []⟩ : Msg)).1 (⟨5, 2, 1, 4, 0, [], []⟩ : Msg)).1 (⟨5, 3, 1, 4, 0, [], []⟩ : Msg)).2.2.2)]) (by kernel_rfl) (by kernel_rfl)) ?_
  refine wk_pure (opd 96 (.extract (.tmp 91) 1) 33) rfl (.slice a_292 outs_275.length c_295) (fun _ => x_extract (vs := #[.slice a_284 outs_274.length c_287, .slice a_292 outs_275.length c_295, .int .i64 ((getP (getP (getP (getP (getP (getP (getP (newL 1 2 3) (⟨5, 2, 1, 3, 2, [], []⟩ : Msg)).1 (⟨5, 2, 1, 3, 2, [], []⟩ : Msg)).1 (⟨5, 2, 1, 3, 1, [], []⟩ : Msg)).1 (⟨5, 2, 1, 3, 40, [], []⟩ : Msg)).1 (⟨5, 2, 1, 3, 0, [], []⟩ : Msg)).1 (⟨5, 2, 1, 4, 0, [], []⟩ : Msg)).1 (⟨5, 3, 1, 4, 0, [], []⟩ : Msg)).2.2.2)]) (by kernel_rfl) (by kernel_rfl)) ?_
  refine wk_pure (opd 97 (.extract (.tmp 91) 2) 24) rfl (.int .i64 ((getP (getP (getP (getP (getP (getP (getP (newL 1 2 3) (⟨5, 2, 1, 3, 2, [], []⟩ : Msg)).1 (⟨5, 2, 1, 3, 2, [], []⟩ : Msg)).1 (⟨5, 2, 1, 3, 1, [], []⟩ : Msg)).1 (⟨5, 2, 1, 3, 40, [], []⟩ : Msg)).1 (⟨5, 2, 1, 3, 0, [], []⟩ : Msg)).1 (⟨5, 2, 1, 4, 0, [], []⟩ : Msg)).1 (⟨5, 3, 1, 4, 0, [], []⟩ : Msg)).2.2.2)) (fun _ => x_extract (vs := #[.slice a_284 outs_274.length c_287, .slice a_292 outs_275.length c_295, .int .i64 ((getP (getP (getP (getP (getP (getP (getP (newL 1 2 3) (⟨5, 2, 1, 3, 2, [], []⟩ : Msg)).1 (⟨5, 2, 1, 3, 2, [], []⟩ : Msg)).1 (⟨5, 2, 1, 3, 1, [], []⟩ : Msg)).1 (⟨5, 2, 1, 3, 40, [], []⟩ : Msg)).1 (⟨5, 2, 1, 3, 0, [], []⟩ : Msg)).1 (⟨5, 2, 1, 4, 0, [], []⟩ : Msg)).1 (⟨5, 3, 1, 4, 0, [], []⟩ : Msg)).2.2.2)]) (by kernel_rfl) (by kernel_rfl)) ?_
  refine wk_pure (opd 25 (.assign (.tmp 95)) 33) rfl (.slice a_284 outs_274.length c_287) (fun _ => y_assign (by kernel_rfl)) ?_
  refine wk_pure (opd 26 (.assign (.tmp 96)) 33) rfl (.slice a_292 outs_275.length c_295) (fun _ => y_assign (by kernel_rfl)) ?_
  refine wk_pure (opd 27 (.assign (.tmp 97)) 24) rfl (.int .i64 ((getP (getP (getP (getP (getP (getP (getP (newL 1 2 3) (⟨5, 2, 1, 3, 2, [], []⟩ : Msg)).1 (⟨5, 2, 1, 3, 2, [], []⟩ : Msg)).1 (⟨5, 2, 1, 3, 1, [], []⟩ : Msg)).1 (⟨5, 2, 1, 3, 40, [], []⟩ : Msg)).1 (⟨5, 2, 1, 3, 0, [], []⟩ : Msg)).1 (⟨5, 2, 1, 4, 0, [], []⟩ : Msg)).1 (⟨5, 3, 1, 4, 0, [], []⟩ : Msg)).2.2.2)) (fun _ => y_assign (by kernel_rfl)) ?_
  refine wk_nil ?_
  refine thn_n ?_
  refine g_seq (x := lIN4w2_41) (y := lIN4w2_42) (by kernel_rfl) ?_
  refine g_region (ops := lIR4w2_19) (id := 19) (by kernel_rfl) [(0, .pure), (1, .loud), (2, .pure), (3, .loud), (4, .pure), (5, .pure), (6, .pure), (7, .pure), (8, .pure), (9, .pure), (10, .pure)] (by kernel_rfl) (by kernel_rfl) ?_
  refine wk_pure (opd 99 (.move (.tmp 3)) 23) rfl (.pointer (some ⟨p_14, 0, none⟩)) (fun _ => y_move (by kernel_rfl)) ?_
  refine wk_buildSlice (e := 2) (cs := #[.int .i64 1]) (opd 100 (.buildSlice 29 1 #[(0, .const (.int .i64 1))]) 29) rfl (by kernel_rfl) (fun w_300 b_301 eq_302 e_303 sz_304 hb_305 => ⟨?_, ?_⟩)
  · exact trivial
  obtain ⟨γ_306, hg_307, hn_308⟩ := cls_new γ_271 w_270.heap.size 0
  have gx_309 : GX [] w_270 γ_271 w_300 γ_306 := GX.ext0 [] e_303 hg_307
  have hk_310 : Bk γ_306 w_300 b_301 0 (.cells #[.int .i64 1] 2 (0, 0)) := ⟨hb_305, hn_308 _ (by omega)⟩
  refine wk_pure (opd 101 (.build 32 #[(0, .const (.int .i64 1)), (1, .const (.int .i64 2)), (2, .const (.int .i64 1)), (3, .const (.int .u32 3)), (5, .tmp 100)]) 32) rfl (.agg #[.int .i64 1, .int .i64 2, .int .i64 1, .int .u32 3, .int .u32 0, .slice (some ⟨b_301, 0, none⟩) 1 1, .slice none 0 0]) (fun _ => x_build (by kernel_rfl)) ?_
  have hm_311 : MOk γ_306 w_300 (⟨1, 2, 1, 3, 0, (some ⟨b_301, 0, none⟩), b_301, 0, 1, [1], none, 0, 0, 0, []⟩ : MsgR) := ⟨⟨SlE.of_cells hk_310.1 encI_len (by kernel_rfl), .inr ⟨Bk.lt hk_310, hk_310.2⟩⟩, SlG.nil _ _ _ _ _ _ _ _, (by show (0 : Int) ≤ 3 ∧ (3 : Int) < 4294967296; omega), (by show (0 : Int) ≤ 0 ∧ (0 : Int) < 4294967296; omega), (nr_one (by omega)), (by simp), (by simp)⟩
  have hb_312 : LkAt γ_306 w_300 10 p_14 ((getP (getP (getP (getP (getP (getP (getP (newL 1 2 3) (⟨5, 2, 1, 3, 2, [], []⟩ : Msg)).1 (⟨5, 2, 1, 3, 2, [], []⟩ : Msg)).1 (⟨5, 2, 1, 3, 1, [], []⟩ : Msg)).1 (⟨5, 2, 1, 3, 40, [], []⟩ : Msg)).1 (⟨5, 2, 1, 3, 0, [], []⟩ : Msg)).1 (⟨5, 2, 1, 4, 0, [], []⟩ : Msg)).1 (⟨5, 3, 1, 4, 0, [], []⟩ : Msg)).1) := (LkAt.keep hL_283 gx_309 List.not_mem_nil List.not_mem_nil List.not_mem_nil List.not_mem_nil)
  refine wk_call (opd 102 (.call ⟨.value (.func 11), #[.tmp 99, .tmp 101], #[23, 32]⟩) 35) rfl 11 #[.pointer (some ⟨p_14, 0, none⟩), .agg #[.int .i64 1, .int .i64 2, .int .i64 1, .int .u32 3, .int .u32 0, .slice (some ⟨b_301, 0, none⟩) 1 1, .slice none 0 0]] (x_call Try.func11 (by kernel_rfl) (c := (Try.f11.body).getD .skip) (by kernel_rfl) (by kernel_rfl) (by kernel_rfl)) (get_p (m := (⟨1, 2, 1, 3, 0, (some ⟨b_301, 0, none⟩), b_301, 0, 1, [1], none, 0, 0, 0, []⟩ : MsgR)) hb_312 (by omega) hm_311 (by decide +kernel) (fun w_313 γ_314 v_315 v_316 outs_317 outs_318 gx_319 hM_320 hM_321 hL_322 ho_323 ho_324 => ⟨?_, ?_⟩))
  · exact trivial
  have hsz_325 : w_300.heap.size ≤ w_313.heap.size := gx_319.size
  have hL_326 : LkAt γ_314 w_313 10 p_14 ((getP (getP (getP (getP (getP (getP (getP (getP (newL 1 2 3) (⟨5, 2, 1, 3, 2, [], []⟩ : Msg)).1 (⟨5, 2, 1, 3, 2, [], []⟩ : Msg)).1 (⟨5, 2, 1, 3, 1, [], []⟩ : Msg)).1 (⟨5, 2, 1, 3, 40, [], []⟩ : Msg)).1 (⟨5, 2, 1, 3, 0, [], []⟩ : Msg)).1 (⟨5, 2, 1, 4, 0, [], []⟩ : Msg)).1 (⟨5, 3, 1, 4, 0, [], []⟩ : Msg)).1 (⟨1, 2, 1, 3, 0, [1], []⟩ : Msg)).1) := hL_322
  obtain ⟨a_327, b_328, off_329, c_330, ev_333, hs_331, hall_332⟩ := hM_320
  subst ev_333
  have ho_334 : outs_317.map MsgR.abs = (getP (getP (getP (getP (getP (getP (getP (getP (newL 1 2 3) (⟨5, 2, 1, 3, 2, [], []⟩ : Msg)).1 (⟨5, 2, 1, 3, 2, [], []⟩ : Msg)).1 (⟨5, 2, 1, 3, 1, [], []⟩ : Msg)).1 (⟨5, 2, 1, 3, 40, [], []⟩ : Msg)).1 (⟨5, 2, 1, 3, 0, [], []⟩ : Msg)).1 (⟨5, 2, 1, 4, 0, [], []⟩ : Msg)).1 (⟨5, 3, 1, 4, 0, [], []⟩ : Msg)).1 (⟨1, 2, 1, 3, 0, [1], []⟩ : Msg)).2.1 := ho_323
  have hlen_outs_317 : outs_317.length = (getP (getP (getP (getP (getP (getP (getP (getP (newL 1 2 3) (⟨5, 2, 1, 3, 2, [], []⟩ : Msg)).1 (⟨5, 2, 1, 3, 2, [], []⟩ : Msg)).1 (⟨5, 2, 1, 3, 1, [], []⟩ : Msg)).1 (⟨5, 2, 1, 3, 40, [], []⟩ : Msg)).1 (⟨5, 2, 1, 3, 0, [], []⟩ : Msg)).1 (⟨5, 2, 1, 4, 0, [], []⟩ : Msg)).1 (⟨5, 3, 1, 4, 0, [], []⟩ : Msg)).1 (⟨1, 2, 1, 3, 0, [1], []⟩ : Msg)).2.1.length := by rw [← ho_334, List.length_map]
  have hmany_outs_317 : outs_317.length = 0 := by rw [hlen_outs_317]; decide +kernel
  obtain ⟨a_335, b_336, off_337, c_338, ev_341, hs_339, hall_340⟩ := hM_321
  subst ev_341
  have ho_342 : outs_318.map MsgR.abs = (getP (getP (getP (getP (getP (getP (getP (getP (newL 1 2 3) (⟨5, 2, 1, 3, 2, [], []⟩ : Msg)).1 (⟨5, 2, 1, 3, 2, [], []⟩ : Msg)).1 (⟨5, 2, 1, 3, 1, [], []⟩ : Msg)).1 (⟨5, 2, 1, 3, 40, [], []⟩ : Msg)).1 (⟨5, 2, 1, 3, 0, [], []⟩ : Msg)).1 (⟨5, 2, 1, 4, 0, [], []⟩ : Msg)).1 (⟨5, 3, 1, 4, 0, [], []⟩ : Msg)).1 (⟨1, 2, 1, 3, 0, [1], []⟩ : Msg)).2.2.1 := ho_324
  have hlen_outs_318 : outs_318.length = (getP (getP (getP (getP (getP (getP (getP (getP (newL 1 2 3) (⟨5, 2, 1, 3, 2, [], []⟩ : Msg)).1 (⟨5, 2, 1, 3, 2, [], []⟩ : Msg)).1 (⟨5, 2, 1, 3, 1, [], []⟩ : Msg)).1 (⟨5, 2, 1, 3, 40, [], []⟩ : Msg)).1 (⟨5, 2, 1, 3, 0, [], []⟩ : Msg)).1 (⟨5, 2, 1, 4, 0, [], []⟩ : Msg)).1 (⟨5, 3, 1, 4, 0, [], []⟩ : Msg)).1 (⟨1, 2, 1, 3, 0, [1], []⟩ : Msg)).2.2.1.length := by rw [← ho_342, List.length_map]
  have hmany_outs_318 : outs_318.length = 0 := by rw [hlen_outs_318]; decide +kernel
  refine wk_pure (opd 98 (.move (.tmp 102)) 35) rfl (.tuple #[.slice a_327 outs_317.length c_330, .slice a_335 outs_318.length c_338, .int .i64 ((getP (getP (getP (getP (getP (getP (getP (getP (newL 1 2 3) (⟨5, 2, 1, 3, 2, [], []⟩ : Msg)).1 (⟨5, 2, 1, 3, 2, [], []⟩ : Msg)).1 (⟨5, 2, 1, 3, 1, [], []⟩ : Msg)).1 (⟨5, 2, 1, 3, 40, [], []⟩ : Msg)).1 (⟨5, 2, 1, 3, 0, [], []⟩ : Msg)).1 (⟨5, 2, 1, 4, 0, [], []⟩ : Msg)).1 (⟨5, 3, 1, 4, 0, [], []⟩ : Msg)).1 (⟨1, 2, 1, 3, 0, [1], []⟩ : Msg)).2.2.2)]) (fun _ => y_move (by kernel_rfl)) ?_
  refine wk_pure (opd 103 (.extract (.tmp 98) 0) 33) rfl (.slice a_327 outs_317.length c_330) (fun _ => x_extract (vs := #[.slice a_327 outs_317.length c_330, .slice a_335 outs_318.length c_338, .int .i64 ((getP (getP (getP (getP (getP (getP (getP (getP (newL 1 2 3) (⟨5, 2, 1, 3, 2, [], []⟩ : Msg)).1 (⟨5, 2, 1, 3, 2, [], []⟩ : Msg)).1 (⟨5, 2, 1, 3, 1, [], []⟩ : Msg)).1 (⟨5, 2, 1, 3, 40, [], []⟩ : Msg)).1 (⟨5, 2, 1, 3, 0, [], []⟩ : Msg)).1 (⟨5, 2, 1, 4, 0, [], []⟩ : Msg)).1 (⟨5, 3, 1, 4, 0, [], []⟩ : Msg)).1 (⟨1, 2, 1, 3, 0, [1], []⟩ : Msg)).2.2.2)]) (by kernel_rfl) (by kernel_rfl)) ?_
  refine wk_pure (opd 104 (.extract (.tmp 98) 1) 33) rfl (.slice a_335 outs_318.length c_338) (fun _ => x_extract (vs := #[.slice a_327 outs_317.length c_330, .slice a_335 outs_318.length c_338, .int .i64 ((getP (getP (getP (getP (getP (getP (getP (getP (newL 1 2 3) (⟨5, 2, 1, 3, 2, [], []⟩ : Msg)).1 (⟨5, 2, 1, 3, 2, [], []⟩ : Msg)).1 (⟨5, 2, 1, 3, 1, [], []⟩ : Msg)).1 (⟨5, 2, 1, 3, 40, [], []⟩ : Msg)).1 (⟨5, 2, 1, 3, 0, [], []⟩ : Msg)).1 (⟨5, 2, 1, 4, 0, [], []⟩ : Msg)).1 (⟨5, 3, 1, 4, 0, [], []⟩ : Msg)).1 (⟨1, 2, 1, 3, 0, [1], []⟩ : Msg)).2.2.2)]) (by kernel_rfl) (by kernel_rfl)) ?_
  refine wk_pure (opd 105 (.extract (.tmp 98) 2) 24) rfl (.int .i64 ((getP (getP (getP (getP (getP (getP (getP (getP (newL 1 2 3) (⟨5, 2, 1, 3, 2, [], []⟩ : Msg)).1 (⟨5, 2, 1, 3, 2, [], []⟩ : Msg)).1 (⟨5, 2, 1, 3, 1, [], []⟩ : Msg)).1 (⟨5, 2, 1, 3, 40, [], []⟩ : Msg)).1 (⟨5, 2, 1, 3, 0, [], []⟩ : Msg)).1 (⟨5, 2, 1, 4, 0, [], []⟩ : Msg)).1 (⟨5, 3, 1, 4, 0, [], []⟩ : Msg)).1 (⟨1, 2, 1, 3, 0, [1], []⟩ : Msg)).2.2.2)) (fun _ => x_extract (vs := #[.slice a_327 outs_317.length c_330, .slice a_335 outs_318.length c_338, .int .i64 ((getP (getP (getP (getP (getP (getP (getP (getP (newL 1 2 3) (⟨5, 2, 1, 3, 2, [], []⟩ : Msg)).1 (⟨5, 2, 1, 3, 2, [], []⟩ : Msg)).1 (⟨5, 2, 1, 3, 1, [], []⟩ : Msg)).1 (⟨5, 2, 1, 3, 40, [], []⟩ : Msg)).1 (⟨5, 2, 1, 3, 0, [], []⟩ : Msg)).1 (⟨5, 2, 1, 4, 0, [], []⟩ : Msg)).1 (⟨5, 3, 1, 4, 0, [], []⟩ : Msg)).1 (⟨1, 2, 1, 3, 0, [1], []⟩ : Msg)).2.2.2)]) (by kernel_rfl) (by kernel_rfl)) ?_
  refine wk_pure (opd 28 (.assign (.tmp 103)) 33) rfl (.slice a_327 outs_317.length c_330) (fun _ => y_assign (by kernel_rfl)) ?_
  refine wk_pure (opd 29 (.assign (.tmp 104)) 33) rfl (.slice a_335 outs_318.length c_338) (fun _ => y_assign (by kernel_rfl)) ?_
  refine wk_pure (opd 30 (.assign (.tmp 105)) 24) rfl (.int .i64 ((getP (getP (getP (getP (getP (getP (getP (getP (newL 1 2 3) (⟨5, 2, 1, 3, 2, [], []⟩ : Msg)).1 (⟨5, 2, 1, 3, 2, [], []⟩ : Msg)).1 (⟨5, 2, 1, 3, 1, [], []⟩ : Msg)).1 (⟨5, 2, 1, 3, 40, [], []⟩ : Msg)).1 (⟨5, 2, 1, 3, 0, [], []⟩ : Msg)).1 (⟨5, 2, 1, 4, 0, [], []⟩ : Msg)).1 (⟨5, 3, 1, 4, 0, [], []⟩ : Msg)).1 (⟨1, 2, 1, 3, 0, [1], []⟩ : Msg)).2.2.2)) (fun _ => y_assign (by kernel_rfl)) ?_
  refine wk_nil ?_
  refine thn_n ?_
  refine g_seq (x := lIN4w2_43) (y := lIN4w2_44) (by kernel_rfl) ?_
  refine g_region (ops := lIR4w2_20) (id := 20) (by kernel_rfl) [(0, .pure), (1, .pure), (2, .pure), (3, .pure), (4, .pure), (5, .pure), (6, .pure), (7, .pure), (8, .pure), (9, .pure), (10, .pure), (11, .pure), (12, .pure), (13, .pure), (14, .pure), (15, .pure), (16, .pure), (17, .pure), (18, .pure), (19, .pure), (20, .loud), (21, .pure), (22, .pure), (23, .pure), (24, .pure), (25, .pure), (26, .pure), (27, .loud), (28, .pure), (29, .loud), (30, .pure), (31, .pure), (32, .pure), (33, .pure), (34, .pure), (35, .pure), (36, .pure), (37, .pure), (38, .pure), (39, .pure), (40, .pure), (41, .pure), (42, .pure), (43, .pure), (44, .pure), (45, .pure), (46, .pure), (47, .pure), (48, .pure), (49, .pure), (50, .pure), (51, .pure), (52, .pure), (53, .pure), (54, .pure), (55, .pure), (56, .pure), (57, .pure), (58, .pure), (59, .pure), (60, .pure), (61, .pure), (62, .pure), (63, .loud), (64, .pure), (65, .loud), (66, .pure), (67, .pure), (68, .pure), (69, .pure), (70, .pure), (71, .pure), (72, .pure), (73, .pure), (74, .pure), (75, .pure), (76, .pure), (77, .pure), (78, .pure), (79, .pure), (80, .pure), (81, .pure), (82, .pure), (83, .pure), (84, .pure), (85, .pure), (86, .pure), (87, .pure), (88, .pure), (89, .pure), (90, .pure), (91, .pure), (92, .pure), (93, .pure), (94, .pure), (95, .loud), (96, .pure), (97, .pure), (98, .pure), (99, .pure), (100, .pure), (101, .loud), (102, .pure), (103, .pure), (104, .pure)] (by kernel_rfl) (by kernel_rfl) ?_
  refine wk_pure (opd 106 (.move (.tmp 2)) 24) rfl (.int .i64 1) (fun _ => y_move (by kernel_rfl)) ?_
  refine wk_pure (opd 107 (.binOp .eql 24 (.tmp 106) (.const (.int .i64 1)) 24) 4) rfl (.bool true) (fun _ => y_eql (k := .i64) (a := 1) (b := 1) (by kernel_rfl) (by kernel_rfl) (by decide)) ?_
  refine wk_pure (opd 108 (.move (.tmp 107)) 4) rfl (.bool true) (fun _ => y_move (by kernel_rfl)) ?_
  refine wk_pure (opg 109 (.move (.tmp 8)) 24 2 true) (by kernel_rfl) (.int .i64 ((getP (newL 1 2 3) (⟨5, 2, 1, 3, 2, [], []⟩ : Msg)).2.2.2)) (fun _ => y_move (by kernel_rfl)) ?_
  refine wk_pure (opg 110 (.binOp .eql 24 (.tmp 109) (.const (.int .i64 0)) 24) 4 2 true) (by kernel_rfl) (.bool true) (fun _ => y_eql (k := .i64) (a := ((getP (newL 1 2 3) (⟨5, 2, 1, 3, 2, [], []⟩ : Msg)).2.2.2)) (b := 0) (by kernel_rfl) (by kernel_rfl) (decide_eq_true (by decide +kernel))) ?_
  refine wk_pure (opd 111 (.pick (.tmp 108) (.tmp 110) (.const (.bool false))) 4) rfl (.bool true) (fun _ => y_pick_t (by kernel_rfl) (by kernel_rfl)) ?_
  refine wk_pure (opd 112 (.move (.tmp 111)) 4) rfl (.bool true) (fun _ => y_move (by kernel_rfl)) ?_
  refine wk_pure (opg 113 (.move (.tmp 6)) 33 6 true) (by kernel_rfl) (.slice a_53 outs_43.length c_56) (fun _ => y_move (by kernel_rfl)) ?_
  refine wk_pure (opg 114 (.call ⟨.builtin .len, #[.tmp 113], #[33]⟩) 3 6 true) (by kernel_rfl) (.int .i64 ((outs_43.length : Nat) : Int)) (fun _ => x_len (a := a_53) (n := outs_43.length) (c := c_56) (by kernel_rfl) (by kernel_rfl)) ?_
  refine wk_pure (opg 115 (.binOp .eql 3 (.tmp 114) (.const (.int .i64 0)) 3) 4 6 true) (by kernel_rfl) (.bool true) (fun _ => y_eql (k := .i64) (a := ((outs_43.length : Nat) : Int)) (b := 0) (by kernel_rfl) (by kernel_rfl) (decide_eq_true (by rw [hlen_outs_43]; decide +kernel))) ?_
  refine wk_pure (opd 116 (.pick (.tmp 112) (.tmp 115) (.const (.bool false))) 4) rfl (.bool true) (fun _ => y_pick_t (by kernel_rfl) (by kernel_rfl)) ?_
  refine wk_pure (opd 117 (.move (.tmp 116)) 4) rfl (.bool true) (fun _ => y_move (by kernel_rfl)) ?_
  refine wk_pure (opg 118 (.move (.tmp 7)) 33 11 true) (by kernel_rfl) (.slice a_61 outs_44.length c_64) (fun _ => y_move (by kernel_rfl)) ?_
  refine wk_pure (opg 119 (.call ⟨.builtin .len, #[.tmp 118], #[33]⟩) 3 11 true) (by kernel_rfl) (.int .i64 ((outs_44.length : Nat) : Int)) (fun _ => x_len (a := a_61) (n := outs_44.length) (c := c_64) (by kernel_rfl) (by kernel_rfl)) ?_
  refine wk_pure (opg 120 (.binOp .eql 3 (.tmp 119) (.const (.int .i64 1)) 3) 4 11 true) (by kernel_rfl) (.bool true) (fun _ => y_eql (k := .i64) (a := ((outs_44.length : Nat) : Int)) (b := 1) (by kernel_rfl) (by kernel_rfl) (decide_eq_true (by rw [hlen_outs_44]; decide +kernel))) ?_
  refine wk_pure (opd 121 (.pick (.tmp 117) (.tmp 120) (.const (.bool false))) 4) rfl (.bool true) (fun _ => y_pick_t (by kernel_rfl) (by kernel_rfl)) ?_
  refine wk_pure (opd 122 (.move (.tmp 121)) 4) rfl (.bool true) (fun _ => y_move (by kernel_rfl)) ?_
  refine wk_pure (opg 123 (.move (.tmp 7)) 33 16 true) (by kernel_rfl) (.slice a_61 outs_44.length c_64) (fun _ => y_move (by kernel_rfl)) ?_
  have hb_343 : SlG γ_314 w_313 0 7 a_61 b_62 off_63 encM outs_44 := (SlG.keep (SlG.keep (SlG.keep (SlG.keep (SlG.keep (SlG.keep (SlG.keep (SlG.keep (SlG.keep (SlG.keep (SlG.keep (SlG.keep (SlG.keep (SlG.keep hs_65 gx_77 (by decide)) gx_103 List.not_mem_nil) gx_110 (by decide)) gx_120 (by decide)) gx_149 (by decide)) gx_159 (by decide)) gx_188 (by decide)) gx_198 (by decide)) gx_227 (by decide)) gx_237 (by decide)) gx_266 (by decide)) gx_276 (by decide)) gx_309 List.not_mem_nil) gx_319 (by decide))
  refine wk_pure (opg 124 (.indexAddr 33 (.tmp 123) (.const (.int .i64 0))) 0 16 true) (by kernel_rfl) (.pointer (some ⟨b_62, off_63 + (0 * 7 + 0), none⟩)) (fun _ => y_ptr (x_indexN (a := a_61) (b := b_62) (off := off_63) (n := outs_44.length) (c := c_64) (k := .i64) (i := 0) (e := 32) (sz := 7) (sz' := 7) (by kernel_rfl) hb_343.1 (by kernel_rfl) (by kernel_rfl) rfl (by rw [hlen_outs_44]; decide +kernel) _) (by omega)) ?_
  refine wk_pure (opg 125 (.fieldAddr 32 (.tmp 124) 0) 0 16 true) (by kernel_rfl) (.pointer (some ⟨b_62, off_63 + (0 * 7 + 0), none⟩)) (fun _ => y_ptr (x_fieldAddr (b := b_62) (off := (off_63 + (0 * 7 + 0))) (o := 0) (by kernel_rfl) (by kernel_rfl)) (by omega)) ?_
  refine wk_val (opg 126 (.load 3 (.tmp 125)) 3 16 true) (by kernel_rfl) (.int .i64 ((outs_44.getD 0 M0).kind)) (x_load_c (b := b_62) (off := (off_63 + (0 * 7 + 0))) (by kernel_rfl) (by kernel_rfl) (SlE.get hb_343.1 encM_len M0 0 0 (by omega) rfl)) trivial ?_
  refine wk_pure (opg 127 (.binOp .eql 3 (.tmp 126) (.const (.int .i64 1)) 3) 4 16 true) (by kernel_rfl) (.bool true) (fun _ => y_eql (k := .i64) (a := ((outs_44.getD 0 M0).kind)) (b := 1) (by kernel_rfl) (by kernel_rfl) (decide_eq_true (by have hq_ : (outs_44.getD 0 M0).abs = (getP (newL 1 2 3) (⟨5, 2, 1, 3, 2, [], []⟩ : Msg)).2.2.1.getD 0 default := (by rw [← abs_getD, ho_68]); have hq2_ := congrArg Msg.kind hq_; have hq3_ : (outs_44.getD 0 M0).kind = ((getP (newL 1 2 3) (⟨5, 2, 1, 3, 2, [], []⟩ : Msg)).2.2.1.getD 0 default).kind := hq2_; exact hq3_.trans (by decide +kernel)))) ?_
  refine wk_pure (opd 128 (.pick (.tmp 122) (.tmp 127) (.const (.bool false))) 4) rfl (.bool true) (fun _ => y_pick_t (by kernel_rfl) (by kernel_rfl)) ?_
  refine wk_pure (opd 129 (.move (.tmp 128)) 4) rfl (.bool true) (fun _ => y_move (by kernel_rfl)) ?_
  refine wk_pure (opg 130 (.move (.tmp 7)) 33 23 true) (by kernel_rfl) (.slice a_61 outs_44.length c_64) (fun _ => y_move (by kernel_rfl)) ?_
  refine wk_pure (opg 131 (.indexAddr 33 (.tmp 130) (.const (.int .i64 0))) 0 23 true) (by kernel_rfl) (.pointer (some ⟨b_62, off_63 + (0 * 7 + 0), none⟩)) (fun _ => y_ptr (x_indexN (a := a_61) (b := b_62) (off := off_63) (n := outs_44.length) (c := c_64) (k := .i64) (i := 0) (e := 32) (sz := 7) (sz' := 7) (by kernel_rfl) hb_343.1 (by kernel_rfl) (by kernel_rfl) rfl (by rw [hlen_outs_44]; decide +kernel) _) (by omega)) ?_
  refine wk_pure (opg 132 (.fieldAddr 32 (.tmp 131) 5) 0 23 true) (by kernel_rfl) (.pointer (some ⟨b_62, off_63 + (0 * 7 + 5), none⟩)) (fun _ => y_ptr (x_fieldAddr (b := b_62) (off := (off_63 + (0 * 7 + 0))) (o := 5) (by kernel_rfl) (by kernel_rfl)) (by omega)) ?_
  refine wk_val (opg 133 (.load 29 (.tmp 132)) 29 23 true) (by kernel_rfl) (.slice ((outs_44.getD 0 M0).na) ((outs_44.getD 0 M0).N.length) ((outs_44.getD 0 M0).nc)) (x_load_c (b := b_62) (off := (off_63 + (0 * 7 + 5))) (by kernel_rfl) (by kernel_rfl) (SlE.get hb_343.1 encM_len M0 0 5 (by omega) rfl)) trivial ?_
  have hb_344 : AllOk γ_314 w_313 outs_44 := (AllOk.keep (AllOk.keep (AllOk.keep (AllOk.keep (AllOk.keep (AllOk.keep (AllOk.keep (AllOk.keep (AllOk.keep (AllOk.keep (AllOk.keep (AllOk.keep (AllOk.keep (AllOk.keep hall_66 gx_77 (by decide)) gx_103 List.not_mem_nil) gx_110 (by decide)) gx_120 (by decide)) gx_149 (by decide)) gx_159 (by decide)) gx_188 (by decide)) gx_198 (by decide)) gx_227 (by decide)) gx_237 (by decide)) gx_266 (by decide)) gx_276 (by decide)) gx_309 List.not_mem_nil) gx_319 (by decide))
  refine wk_pure (opg 134 (.indexAddr 29 (.tmp 133) (.const (.int .i64 0))) 0 23 true) (by kernel_rfl) (.pointer (some ⟨(outs_44.getD 0 M0).nb, ((outs_44.getD 0 M0).noff) + (0 * 1 + 0), none⟩)) (fun _ => y_ptr (x_indexN (a := (outs_44.getD 0 M0).na) (b := (outs_44.getD 0 M0).nb) (off := ((outs_44.getD 0 M0).noff)) (n := ((outs_44.getD 0 M0).N.length)) (c := ((outs_44.getD 0 M0).nc)) (k := .i64) (i := 0) (e := 2) (sz := 1) (sz' := 1) (by kernel_rfl) (AllOk.get hb_344 (by rw [hlen_outs_44]; decide +kernel : 0 < outs_44.length)).n.1 (by kernel_rfl) (by kernel_rfl) rfl (by have hq_ : (outs_44.getD 0 M0).abs = (getP (newL 1 2 3) (⟨5, 2, 1, 3, 2, [], []⟩ : Msg)).2.2.1.getD 0 default := (by rw [← abs_getD, ho_68]); have hq2_ := congrArg Msg.N hq_; have hq3_ : (outs_44.getD 0 M0).N = ((getP (newL 1 2 3) (⟨5, 2, 1, 3, 2, [], []⟩ : Msg)).2.2.1.getD 0 default).N := hq2_; rw [hq3_]; decide +kernel) _) (by omega)) ?_
  refine wk_val (opg 135 (.load 2 (.tmp 134)) 2 23 true) (by kernel_rfl) (.int .i64 (((outs_44.getD 0 M0).N).getD 0 0)) (x_load_c (b := (outs_44.getD 0 M0).nb) (off := (((outs_44.getD 0 M0).noff) + (0 * 1 + 0))) (by kernel_rfl) (by kernel_rfl) (SlE.get (AllOk.get hb_344 (by rw [hlen_outs_44]; decide +kernel : 0 < outs_44.length)).n.1 encI_len 0 0 0 (by omega) rfl)) trivial ?_
  refine wk_pure (opg 136 (.binOp .eql 2 (.tmp 135) (.const (.int .i64 0)) 2) 4 23 true) (by kernel_rfl) (.bool true) (fun _ => y_eql (k := .i64) (a := (((outs_44.getD 0 M0).N).getD 0 0)) (b := 0) (by kernel_rfl) (by kernel_rfl) (decide_eq_true (by have hq_ : (outs_44.getD 0 M0).abs = (getP (newL 1 2 3) (⟨5, 2, 1, 3, 2, [], []⟩ : Msg)).2.2.1.getD 0 default := (by rw [← abs_getD, ho_68]); have hq2_ := congrArg Msg.N hq_; have hq3_ : (outs_44.getD 0 M0).N = ((getP (newL 1 2 3) (⟨5, 2, 1, 3, 2, [], []⟩ : Msg)).2.2.1.getD 0 default).N := hq2_; exact Eq.trans (congrArg (fun l_ : List Int => ((l_.getD 0 0) : Int)) hq3_) (by decide +kernel)))) ?_
  refine wk_pure (opd 137 (.pick (.tmp 129) (.tmp 136) (.const (.bool false))) 4) rfl (.bool true) (fun _ => y_pick_t (by kernel_rfl) (by kernel_rfl)) ?_
  refine wk_pure (opd 138 (.move (.tmp 137)) 4) rfl (.bool true) (fun _ => y_move (by kernel_rfl)) ?_
  refine wk_pure (opg 139 (.move (.tmp 11)) 24 32 true) (by kernel_rfl) (.int .i64 ((getP (getP (newL 1 2 3) (⟨5, 2, 1, 3, 2, [], []⟩ : Msg)).1 (⟨5, 2, 1, 3, 2, [], []⟩ : Msg)).2.2.2)) (fun _ => y_move (by kernel_rfl)) ?_
  refine wk_pure (opg 140 (.binOp .eql 24 (.tmp 139) (.const (.int .i64 8)) 24) 4 32 true) (by kernel_rfl) (.bool true) (fun _ => y_eql (k := .i64) (a := ((getP (getP (newL 1 2 3) (⟨5, 2, 1, 3, 2, [], []⟩ : Msg)).1 (⟨5, 2, 1, 3, 2, [], []⟩ : Msg)).2.2.2)) (b := 8) (by kernel_rfl) (by kernel_rfl) (decide_eq_true (by decide +kernel))) ?_
  refine wk_pure (opd 141 (.pick (.tmp 138) (.tmp 140) (.const (.bool false))) 4) rfl (.bool true) (fun _ => y_pick_t (by kernel_rfl) (by kernel_rfl)) ?_
  refine wk_pure (opd 142 (.move (.tmp 141)) 4) rfl (.bool true) (fun _ => y_move (by kernel_rfl)) ?_
  refine wk_pure (opg 143 (.move (.tmp 10)) 33 36 true) (by kernel_rfl) (.slice a_93 outs_76.length c_96) (fun _ => y_move (by kernel_rfl)) ?_
  refine wk_pure (opg 144 (.call ⟨.builtin .len, #[.tmp 143], #[33]⟩) 3 36 true) (by kernel_rfl) (.int .i64 ((outs_76.length : Nat) : Int)) (fun _ => x_len (a := a_93) (n := outs_76.length) (c := c_96) (by kernel_rfl) (by kernel_rfl)) ?_
  refine wk_pure (opg 145 (.binOp .eql 3 (.tmp 144) (.const (.int .i64 1)) 3) 4 36 true) (by kernel_rfl) (.bool true) (fun _ => y_eql (k := .i64) (a := ((outs_76.length : Nat) : Int)) (b := 1) (by kernel_rfl) (by kernel_rfl) (decide_eq_true (by rw [hlen_outs_76]; decide +kernel))) ?_
  refine wk_pure (opd 146 (.pick (.tmp 142) (.tmp 145) (.const (.bool false))) 4) rfl (.bool true) (fun _ => y_pick_t (by kernel_rfl) (by kernel_rfl)) ?_
  refine wk_pure (opd 147 (.move (.tmp 146)) 4) rfl (.bool true) (fun _ => y_move (by kernel_rfl)) ?_
  refine wk_pure (opg 148 (.move (.tmp 12)) 3 41 true) (by kernel_rfl) (.int .i64 ((((getP (getP (newL 1 2 3) (⟨5, 2, 1, 3, 2, [], []⟩ : Msg)).1 (⟨5, 2, 1, 3, 2, [], []⟩ : Msg)).1).held.length : Nat) : Int)) (fun _ => y_move (by kernel_rfl)) ?_
  refine wk_pure (opg 149 (.binOp .eql 3 (.tmp 148) (.const (.int .i64 1)) 3) 4 41 true) (by kernel_rfl) (.bool true) (fun _ => y_eql (k := .i64) (a := ((((getP (getP (newL 1 2 3) (⟨5, 2, 1, 3, 2, [], []⟩ : Msg)).1 (⟨5, 2, 1, 3, 2, [], []⟩ : Msg)).1).held.length : Nat) : Int)) (b := 1) (by kernel_rfl) (by kernel_rfl) (decide_eq_true (by decide +kernel))) ?_
  refine wk_pure (opd 150 (.pick (.tmp 147) (.tmp 149) (.const (.bool false))) 4) rfl (.bool true) (fun _ => y_pick_t (by kernel_rfl) (by kernel_rfl)) ?_
  refine wk_pure (opd 151 (.move (.tmp 150)) 4) rfl (.bool true) (fun _ => y_move (by kernel_rfl)) ?_
  refine wk_pure (opg 152 (.move (.tmp 15)) 24 45 true) (by kernel_rfl) (.int .i64 ((getP (getP (getP (newL 1 2 3) (⟨5, 2, 1, 3, 2, [], []⟩ : Msg)).1 (⟨5, 2, 1, 3, 2, [], []⟩ : Msg)).1 (⟨5, 2, 1, 3, 1, [], []⟩ : Msg)).2.2.2)) (fun _ => y_move (by kernel_rfl)) ?_
  refine wk_pure (opg 153 (.binOp .eql 24 (.tmp 152) (.const (.int .i64 0)) 24) 4 45 true) (by kernel_rfl) (.bool true) (fun _ => y_eql (k := .i64) (a := ((getP (getP (getP (newL 1 2 3) (⟨5, 2, 1, 3, 2, [], []⟩ : Msg)).1 (⟨5, 2, 1, 3, 2, [], []⟩ : Msg)).1 (⟨5, 2, 1, 3, 1, [], []⟩ : Msg)).2.2.2)) (b := 0) (by kernel_rfl) (by kernel_rfl) (decide_eq_true (by decide +kernel))) ?_
  refine wk_pure (opd 154 (.pick (.tmp 151) (.tmp 153) (.const (.bool false))) 4) rfl (.bool true) (fun _ => y_pick_t (by kernel_rfl) (by kernel_rfl)) ?_
  refine wk_pure (opd 155 (.move (.tmp 154)) 4) rfl (.bool true) (fun _ => y_move (by kernel_rfl)) ?_
  refine wk_pure (opg 156 (.move (.tmp 13)) 33 49 true) (by kernel_rfl) (.slice a_128 outs_118.length c_131) (fun _ => y_move (by kernel_rfl)) ?_
  refine wk_pure (opg 157 (.call ⟨.builtin .len, #[.tmp 156], #[33]⟩) 3 49 true) (by kernel_rfl) (.int .i64 ((outs_118.length : Nat) : Int)) (fun _ => x_len (a := a_128) (n := outs_118.length) (c := c_131) (by kernel_rfl) (by kernel_rfl)) ?_
  refine wk_pure (opg 158 (.binOp .eql 3 (.tmp 157) (.const (.int .i64 2)) 3) 4 49 true) (by kernel_rfl) (.bool true) (fun _ => y_eql (k := .i64) (a := ((outs_118.length : Nat) : Int)) (b := 2) (by kernel_rfl) (by kernel_rfl) (decide_eq_true (by rw [hlen_outs_118]; decide +kernel))) ?_
  refine wk_pure (opd 159 (.pick (.tmp 155) (.tmp 158) (.const (.bool false))) 4) rfl (.bool true) (fun _ => y_pick_t (by kernel_rfl) (by kernel_rfl)) ?_
  refine wk_pure (opd 160 (.move (.tmp 159)) 4) rfl (.bool true) (fun _ => y_move (by kernel_rfl)) ?_
  refine wk_pure (opg 161 (.move (.tmp 14)) 33 54 true) (by kernel_rfl) (.slice a_136 outs_119.length c_139) (fun _ => y_move (by kernel_rfl)) ?_
  refine wk_pure (opg 162 (.call ⟨.builtin .len, #[.tmp 161], #[33]⟩) 3 54 true) (by kernel_rfl) (.int .i64 ((outs_119.length : Nat) : Int)) (fun _ => x_len (a := a_136) (n := outs_119.length) (c := c_139) (by kernel_rfl) (by kernel_rfl)) ?_
  refine wk_pure (opg 163 (.binOp .eql 3 (.tmp 162) (.const (.int .i64 1)) 3) 4 54 true) (by kernel_rfl) (.bool true) (fun _ => y_eql (k := .i64) (a := ((outs_119.length : Nat) : Int)) (b := 1) (by kernel_rfl) (by kernel_rfl) (decide_eq_true (by rw [hlen_outs_119]; decide +kernel))) ?_
  refine wk_pure (opd 164 (.pick (.tmp 160) (.tmp 163) (.const (.bool false))) 4) rfl (.bool true) (fun _ => y_pick_t (by kernel_rfl) (by kernel_rfl)) ?_
  refine wk_pure (opd 165 (.move (.tmp 164)) 4) rfl (.bool true) (fun _ => y_move (by kernel_rfl)) ?_
  refine wk_pure (opg 166 (.move (.tmp 14)) 33 59 true) (by kernel_rfl) (.slice a_136 outs_119.length c_139) (fun _ => y_move (by kernel_rfl)) ?_
  have hb_345 : SlG γ_314 w_313 0 7 a_136 b_137 off_138 encM outs_119 := (SlG.keep (SlG.keep (SlG.keep (SlG.keep (SlG.keep (SlG.keep (SlG.keep (SlG.keep (SlG.keep (SlG.keep hs_140 gx_149 (by decide)) gx_159 (by decide)) gx_188 (by decide)) gx_198 (by decide)) gx_227 (by decide)) gx_237 (by decide)) gx_266 (by decide)) gx_276 (by decide)) gx_309 List.not_mem_nil) gx_319 (by decide))
  refine wk_pure (opg 167 (.indexAddr 33 (.tmp 166) (.const (.int .i64 0))) 0 59 true) (by kernel_rfl) (.pointer (some ⟨b_137, off_138 + (0 * 7 + 0), none⟩)) (fun _ => y_ptr (x_indexN (a := a_136) (b := b_137) (off := off_138) (n := outs_119.length) (c := c_139) (k := .i64) (i := 0) (e := 32) (sz := 7) (sz' := 7) (by kernel_rfl) hb_345.1 (by kernel_rfl) (by kernel_rfl) rfl (by rw [hlen_outs_119]; decide +kernel) _) (by omega)) ?_
  refine wk_pure (opg 168 (.fieldAddr 32 (.tmp 167) 5) 0 59 true) (by kernel_rfl) (.pointer (some ⟨b_137, off_138 + (0 * 7 + 5), none⟩)) (fun _ => y_ptr (x_fieldAddr (b := b_137) (off := (off_138 + (0 * 7 + 0))) (o := 5) (by kernel_rfl) (by kernel_rfl)) (by omega)) ?_
  refine wk_val (opg 169 (.load 29 (.tmp 168)) 29 59 true) (by kernel_rfl) (.slice ((outs_119.getD 0 M0).na) ((outs_119.getD 0 M0).N.length) ((outs_119.getD 0 M0).nc)) (x_load_c (b := b_137) (off := (off_138 + (0 * 7 + 5))) (by kernel_rfl) (by kernel_rfl) (SlE.get hb_345.1 encM_len M0 0 5 (by omega) rfl)) trivial ?_
  have hb_346 : AllOk γ_314 w_313 outs_119 := (AllOk.keep (AllOk.keep (AllOk.keep (AllOk.keep (AllOk.keep (AllOk.keep (AllOk.keep (AllOk.keep (AllOk.keep (AllOk.keep hall_141 gx_149 (by decide)) gx_159 (by decide)) gx_188 (by decide)) gx_198 (by decide)) gx_227 (by decide)) gx_237 (by decide)) gx_266 (by decide)) gx_276 (by decide)) gx_309 List.not_mem_nil) gx_319 (by decide))
  refine wk_pure (opg 170 (.indexAddr 29 (.tmp 169) (.const (.int .i64 0))) 0 59 true) (by kernel_rfl) (.pointer (some ⟨(outs_119.getD 0 M0).nb, ((outs_119.getD 0 M0).noff) + (0 * 1 + 0), none⟩)) (fun _ => y_ptr (x_indexN (a := (outs_119.getD 0 M0).na) (b := (outs_119.getD 0 M0).nb) (off := ((outs_119.getD 0 M0).noff)) (n := ((outs_119.getD 0 M0).N.length)) (c := ((outs_119.getD 0 M0).nc)) (k := .i64) (i := 0) (e := 2) (sz := 1) (sz' := 1) (by kernel_rfl) (AllOk.get hb_346 (by rw [hlen_outs_119]; decide +kernel : 0 < outs_119.length)).n.1 (by kernel_rfl) (by kernel_rfl) rfl (by have hq_ : (outs_119.getD 0 M0).abs = (getP (getP (getP (newL 1 2 3) (⟨5, 2, 1, 3, 2, [], []⟩ : Msg)).1 (⟨5, 2, 1, 3, 2, [], []⟩ : Msg)).1 (⟨5, 2, 1, 3, 1, [], []⟩ : Msg)).2.2.1.getD 0 default := (by rw [← abs_getD, ho_143]); have hq2_ := congrArg Msg.N hq_; have hq3_ : (outs_119.getD 0 M0).N = ((getP (getP (getP (newL 1 2 3) (⟨5, 2, 1, 3, 2, [], []⟩ : Msg)).1 (⟨5, 2, 1, 3, 2, [], []⟩ : Msg)).1 (⟨5, 2, 1, 3, 1, [], []⟩ : Msg)).2.2.1.getD 0 default).N := hq2_; rw [hq3_]; decide +kernel) _) (by omega)) ?_
  refine wk_val (opg 171 (.load 2 (.tmp 170)) 2 59 true) (by kernel_rfl) (.int .i64 (((outs_119.getD 0 M0).N).getD 0 0)) (x_load_c (b := (outs_119.getD 0 M0).nb) (off := (((outs_119.getD 0 M0).noff) + (0 * 1 + 0))) (by kernel_rfl) (by kernel_rfl) (SlE.get (AllOk.get hb_346 (by rw [hlen_outs_119]; decide +kernel : 0 < outs_119.length)).n.1 encI_len 0 0 0 (by omega) rfl)) trivial ?_
  refine wk_pure (opg 172 (.binOp .eql 2 (.tmp 171) (.const (.int .i64 2)) 2) 4 59 true) (by kernel_rfl) (.bool true) (fun _ => y_eql (k := .i64) (a := (((outs_119.getD 0 M0).N).getD 0 0)) (b := 2) (by kernel_rfl) (by kernel_rfl) (decide_eq_true (by have hq_ : (outs_119.getD 0 M0).abs = (getP (getP (getP (newL 1 2 3) (⟨5, 2, 1, 3, 2, [], []⟩ : Msg)).1 (⟨5, 2, 1, 3, 2, [], []⟩ : Msg)).1 (⟨5, 2, 1, 3, 1, [], []⟩ : Msg)).2.2.1.getD 0 default := (by rw [← abs_getD, ho_143]); have hq2_ := congrArg Msg.N hq_; have hq3_ : (outs_119.getD 0 M0).N = ((getP (getP (getP (newL 1 2 3) (⟨5, 2, 1, 3, 2, [], []⟩ : Msg)).1 (⟨5, 2, 1, 3, 2, [], []⟩ : Msg)).1 (⟨5, 2, 1, 3, 1, [], []⟩ : Msg)).2.2.1.getD 0 default).N := hq2_; exact Eq.trans (congrArg (fun l_ : List Int => ((l_.getD 0 0) : Int)) hq3_) (by decide +kernel)))) ?_
  refine wk_pure (opd 173 (.pick (.tmp 165) (.tmp 172) (.const (.bool false))) 4) rfl (.bool true) (fun _ => y_pick_t (by kernel_rfl) (by kernel_rfl)) ?_
  refine wk_pure (opd 174 (.move (.tmp 173)) 4) rfl (.bool true) (fun _ => y_move (by kernel_rfl)) ?_
  refine wk_pure (opg 175 (.move (.tmp 18)) 24 68 true) (by kernel_rfl) (.int .i64 ((getP (getP (getP (getP (newL 1 2 3) (⟨5, 2, 1, 3, 2, [], []⟩ : Msg)).1 (⟨5, 2, 1, 3, 2, [], []⟩ : Msg)).1 (⟨5, 2, 1, 3, 1, [], []⟩ : Msg)).1 (⟨5, 2, 1, 3, 40, [], []⟩ : Msg)).2.2.2)) (fun _ => y_move (by kernel_rfl)) ?_
  refine wk_pure (opg 176 (.binOp .eql 24 (.tmp 175) (.const (.int .i64 6)) 24) 4 68 true) (by kernel_rfl) (.bool true) (fun _ => y_eql (k := .i64) (a := ((getP (getP (getP (getP (newL 1 2 3) (⟨5, 2, 1, 3, 2, [], []⟩ : Msg)).1 (⟨5, 2, 1, 3, 2, [], []⟩ : Msg)).1 (⟨5, 2, 1, 3, 1, [], []⟩ : Msg)).1 (⟨5, 2, 1, 3, 40, [], []⟩ : Msg)).2.2.2)) (b := 6) (by kernel_rfl) (by kernel_rfl) (decide_eq_true (by decide +kernel))) ?_
  refine wk_pure (opd 177 (.pick (.tmp 174) (.tmp 176) (.const (.bool false))) 4) rfl (.bool true) (fun _ => y_pick_t (by kernel_rfl) (by kernel_rfl)) ?_
  refine wk_pure (opd 178 (.move (.tmp 177)) 4) rfl (.bool true) (fun _ => y_move (by kernel_rfl)) ?_
  refine wk_pure (opg 179 (.move (.tmp 17)) 33 72 true) (by kernel_rfl) (.slice a_175 outs_158.length c_178) (fun _ => y_move (by kernel_rfl)) ?_
  refine wk_pure (opg 180 (.call ⟨.builtin .len, #[.tmp 179], #[33]⟩) 3 72 true) (by kernel_rfl) (.int .i64 ((outs_158.length : Nat) : Int)) (fun _ => x_len (a := a_175) (n := outs_158.length) (c := c_178) (by kernel_rfl) (by kernel_rfl)) ?_
  refine wk_pure (opg 181 (.binOp .eql 3 (.tmp 180) (.const (.int .i64 0)) 3) 4 72 true) (by kernel_rfl) (.bool true) (fun _ => y_eql (k := .i64) (a := ((outs_158.length : Nat) : Int)) (b := 0) (by kernel_rfl) (by kernel_rfl) (decide_eq_true (by rw [hlen_outs_158]; decide +kernel))) ?_
  refine wk_pure (opd 182 (.pick (.tmp 178) (.tmp 181) (.const (.bool false))) 4) rfl (.bool true) (fun _ => y_pick_t (by kernel_rfl) (by kernel_rfl)) ?_
  refine wk_pure (opd 183 (.move (.tmp 182)) 4) rfl (.bool true) (fun _ => y_move (by kernel_rfl)) ?_
  refine wk_pure (opg 184 (.move (.tmp 21)) 24 77 true) (by kernel_rfl) (.int .i64 ((getP (getP (getP (getP (getP (newL 1 2 3) (⟨5, 2, 1, 3, 2, [], []⟩ : Msg)).1 (⟨5, 2, 1, 3, 2, [], []⟩ : Msg)).1 (⟨5, 2, 1, 3, 1, [], []⟩ : Msg)).1 (⟨5, 2, 1, 3, 40, [], []⟩ : Msg)).1 (⟨5, 2, 1, 3, 0, [], []⟩ : Msg)).2.2.2)) (fun _ => y_move (by kernel_rfl)) ?_
  refine wk_pure (opg 185 (.binOp .eql 24 (.tmp 184) (.const (.int .i64 3)) 24) 4 77 true) (by kernel_rfl) (.bool true) (fun _ => y_eql (k := .i64) (a := ((getP (getP (getP (getP (getP (newL 1 2 3) (⟨5, 2, 1, 3, 2, [], []⟩ : Msg)).1 (⟨5, 2, 1, 3, 2, [], []⟩ : Msg)).1 (⟨5, 2, 1, 3, 1, [], []⟩ : Msg)).1 (⟨5, 2, 1, 3, 40, [], []⟩ : Msg)).1 (⟨5, 2, 1, 3, 0, [], []⟩ : Msg)).2.2.2)) (b := 3) (by kernel_rfl) (by kernel_rfl) (decide_eq_true (by decide +kernel))) ?_
  refine wk_pure (opd 186 (.pick (.tmp 183) (.tmp 185) (.const (.bool false))) 4) rfl (.bool true) (fun _ => y_pick_t (by kernel_rfl) (by kernel_rfl)) ?_
  refine wk_pure (opd 187 (.move (.tmp 186)) 4) rfl (.bool true) (fun _ => y_move (by kernel_rfl)) ?_
  refine wk_pure (opg 188 (.move (.tmp 24)) 24 81 true) (by kernel_rfl) (.int .i64 ((getP (getP (getP (getP (getP (getP (newL 1 2 3) (⟨5, 2, 1, 3, 2, [], []⟩ : Msg)).1 (⟨5, 2, 1, 3, 2, [], []⟩ : Msg)).1 (⟨5, 2, 1, 3, 1, [], []⟩ : Msg)).1 (⟨5, 2, 1, 3, 40, [], []⟩ : Msg)).1 (⟨5, 2, 1, 3, 0, [], []⟩ : Msg)).1 (⟨5, 2, 1, 4, 0, [], []⟩ : Msg)).2.2.2)) (fun _ => y_move (by kernel_rfl)) ?_
  refine wk_pure (opg 189 (.binOp .eql 24 (.tmp 188) (.const (.int .i64 8)) 24) 4 81 true) (by kernel_rfl) (.bool true) (fun _ => y_eql (k := .i64) (a := ((getP (getP (getP (getP (getP (getP (newL 1 2 3) (⟨5, 2, 1, 3, 2, [], []⟩ : Msg)).1 (⟨5, 2, 1, 3, 2, [], []⟩ : Msg)).1 (⟨5, 2, 1, 3, 1, [], []⟩ : Msg)).1 (⟨5, 2, 1, 3, 40, [], []⟩ : Msg)).1 (⟨5, 2, 1, 3, 0, [], []⟩ : Msg)).1 (⟨5, 2, 1, 4, 0, [], []⟩ : Msg)).2.2.2)) (b := 8) (by kernel_rfl) (by kernel_rfl) (decide_eq_true (by decide +kernel))) ?_
  refine wk_pure (opd 190 (.pick (.tmp 187) (.tmp 189) (.const (.bool false))) 4) rfl (.bool true) (fun _ => y_pick_t (by kernel_rfl) (by kernel_rfl)) ?_
  refine wk_pure (opd 191 (.move (.tmp 190)) 4) rfl (.bool true) (fun _ => y_move (by kernel_rfl)) ?_
  refine wk_pure (opg 192 (.move (.tmp 27)) 24 85 true) (by kernel_rfl) (.int .i64 ((getP (getP (getP (getP (getP (getP (getP (newL 1 2 3) (⟨5, 2, 1, 3, 2, [], []⟩ : Msg)).1 (⟨5, 2, 1, 3, 2, [], []⟩ : Msg)).1 (⟨5, 2, 1, 3, 1, [], []⟩ : Msg)).1 (⟨5, 2, 1, 3, 40, [], []⟩ : Msg)).1 (⟨5, 2, 1, 3, 0, [], []⟩ : Msg)).1 (⟨5, 2, 1, 4, 0, [], []⟩ : Msg)).1 (⟨5, 3, 1, 4, 0, [], []⟩ : Msg)).2.2.2)) (fun _ => y_move (by kernel_rfl)) ?_
  refine wk_pure (opg 193 (.binOp .eql 24 (.tmp 192) (.const (.int .i64 1)) 24) 4 85 true) (by kernel_rfl) (.bool true) (fun _ => y_eql (k := .i64) (a := ((getP (getP (getP (getP (getP (getP (getP (newL 1 2 3) (⟨5, 2, 1, 3, 2, [], []⟩ : Msg)).1 (⟨5, 2, 1, 3, 2, [], []⟩ : Msg)).1 (⟨5, 2, 1, 3, 1, [], []⟩ : Msg)).1 (⟨5, 2, 1, 3, 40, [], []⟩ : Msg)).1 (⟨5, 2, 1, 3, 0, [], []⟩ : Msg)).1 (⟨5, 2, 1, 4, 0, [], []⟩ : Msg)).1 (⟨5, 3, 1, 4, 0, [], []⟩ : Msg)).2.2.2)) (b := 1) (by kernel_rfl) (by kernel_rfl) (decide_eq_true (by decide +kernel))) ?_
  refine wk_pure (opd 194 (.pick (.tmp 191) (.tmp 193) (.const (.bool false))) 4) rfl (.bool true) (fun _ => y_pick_t (by kernel_rfl) (by kernel_rfl)) ?_
  refine wk_pure (opd 195 (.move (.tmp 194)) 4) rfl (.bool true) (fun _ => y_move (by kernel_rfl)) ?_
  refine wk_pure (opg 196 (.move (.tmp 30)) 24 89 true) (by kernel_rfl) (.int .i64 ((getP (getP (getP (getP (getP (getP (getP (getP (newL 1 2 3) (⟨5, 2, 1, 3, 2, [], []⟩ : Msg)).1 (⟨5, 2, 1, 3, 2, [], []⟩ : Msg)).1 (⟨5, 2, 1, 3, 1, [], []⟩ : Msg)).1 (⟨5, 2, 1, 3, 40, [], []⟩ : Msg)).1 (⟨5, 2, 1, 3, 0, [], []⟩ : Msg)).1 (⟨5, 2, 1, 4, 0, [], []⟩ : Msg)).1 (⟨5, 3, 1, 4, 0, [], []⟩ : Msg)).1 (⟨1, 2, 1, 3, 0, [1], []⟩ : Msg)).2.2.2)) (fun _ => y_move (by kernel_rfl)) ?_
  refine wk_pure (opg 197 (.binOp .eql 24 (.tmp 196) (.const (.int .i64 3)) 24) 4 89 true) (by kernel_rfl) (.bool true) (fun _ => y_eql (k := .i64) (a := ((getP (getP (getP (getP (getP (getP (getP (getP (newL 1 2 3) (⟨5, 2, 1, 3, 2, [], []⟩ : Msg)).1 (⟨5, 2, 1, 3, 2, [], []⟩ : Msg)).1 (⟨5, 2, 1, 3, 1, [], []⟩ : Msg)).1 (⟨5, 2, 1, 3, 40, [], []⟩ : Msg)).1 (⟨5, 2, 1, 3, 0, [], []⟩ : Msg)).1 (⟨5, 2, 1, 4, 0, [], []⟩ : Msg)).1 (⟨5, 3, 1, 4, 0, [], []⟩ : Msg)).1 (⟨1, 2, 1, 3, 0, [1], []⟩ : Msg)).2.2.2)) (b := 3) (by kernel_rfl) (by kernel_rfl) (decide_eq_true (by decide +kernel))) ?_
  refine wk_pure (opd 198 (.pick (.tmp 195) (.tmp 197) (.const (.bool false))) 4) rfl (.bool true) (fun _ => y_pick_t (by kernel_rfl) (by kernel_rfl)) ?_
  refine wk_pure (opd 199 (.move (.tmp 198)) 4) rfl (.bool true) (fun _ => y_move (by kernel_rfl)) ?_
  refine wk_pure (opg 200 (.move (.tmp 3)) 23 93 true) (by kernel_rfl) (.pointer (some ⟨p_14, 0, none⟩)) (fun _ => y_move (by kernel_rfl)) ?_
  refine wk_call (opg 201 (.call ⟨.value (.func 14), #[.tmp 200], #[23]⟩) 27 93 true) (by kernel_rfl) 14 #[.pointer (some ⟨p_14, 0, none⟩)] (x_call Try.func14 (by kernel_rfl) (c := (Try.f14.body).getD .skip) (by kernel_rfl) (by kernel_rfl) (by kernel_rfl)) (next_p hL_326 (by omega) (fun w_347 sm_348 => ⟨?_, ?_⟩))
  · exact trivial
  have gx_349 : GX [] w_313 γ_314 w_347 γ_314 := GX.same [] γ_314 sm_348
  have hsz_350 : w_347.heap.size = w_313.heap.size := by rw [sm_348.heap]
  refine wk_pure (opg 202 (.binOp .eql 27 (.tmp 201) (.const (.int .u32 3)) 27) 4 93 true) (by kernel_rfl) (.bool true) (fun _ => y_eql (k := .u32) (a := (((getP (getP (getP (getP (getP (getP (getP (getP (newL 1 2 3) (⟨5, 2, 1, 3, 2, [], []⟩ : Msg)).1 (⟨5, 2, 1, 3, 2, [], []⟩ : Msg)).1 (⟨5, 2, 1, 3, 1, [], []⟩ : Msg)).1 (⟨5, 2, 1, 3, 40, [], []⟩ : Msg)).1 (⟨5, 2, 1, 3, 0, [], []⟩ : Msg)).1 (⟨5, 2, 1, 4, 0, [], []⟩ : Msg)).1 (⟨5, 3, 1, 4, 0, [], []⟩ : Msg)).1 (⟨1, 2, 1, 3, 0, [1], []⟩ : Msg)).1).next)) (b := 3) (by kernel_rfl) (by kernel_rfl) (decide_eq_true (by decide +kernel))) ?_
  refine wk_pure (opd 203 (.pick (.tmp 199) (.tmp 202) (.const (.bool false))) 4) rfl (.bool true) (fun _ => y_pick_t (by kernel_rfl) (by kernel_rfl)) ?_
  refine wk_pure (opd 204 (.move (.tmp 203)) 4) rfl (.bool true) (fun _ => y_move (by kernel_rfl)) ?_
  refine wk_pure (opg 205 (.move (.tmp 3)) 23 98 true) (by kernel_rfl) (.pointer (some ⟨p_14, 0, none⟩)) (fun _ => y_move (by kernel_rfl)) ?_
  refine wk_pure (opg 206 (.build 32 #[(0, .const (.int .i64 1))]) 32 98 true) (by kernel_rfl) (.agg #[.int .i64 1, .int .i64 0, .int .i64 0, .int .u32 0, .int .u32 0, .slice none 0 0, .slice none 0 0]) (fun _ => x_build (by kernel_rfl)) ?_
  have hm_351 : MOk γ_314 w_347 (⟨1, 0, 0, 0, 0, none, 0, 0, 0, [], none, 0, 0, 0, []⟩ : MsgR) := ⟨SlG.nil _ _ _ _ _ _ _ _, SlG.nil _ _ _ _ _ _ _ _, (by show (0 : Int) ≤ 0 ∧ (0 : Int) < 4294967296; omega), (by show (0 : Int) ≤ 0 ∧ (0 : Int) < 4294967296; omega), nr_nil, (by simp), (by simp)⟩
  have hb_352 : LkAt γ_314 w_347 10 p_14 ((getP (getP (getP (getP (getP (getP (getP (getP (newL 1 2 3) (⟨5, 2, 1, 3, 2, [], []⟩ : Msg)).1 (⟨5, 2, 1, 3, 2, [], []⟩ : Msg)).1 (⟨5, 2, 1, 3, 1, [], []⟩ : Msg)).1 (⟨5, 2, 1, 3, 40, [], []⟩ : Msg)).1 (⟨5, 2, 1, 3, 0, [], []⟩ : Msg)).1 (⟨5, 2, 1, 4, 0, [], []⟩ : Msg)).1 (⟨5, 3, 1, 4, 0, [], []⟩ : Msg)).1 (⟨1, 2, 1, 3, 0, [1], []⟩ : Msg)).1) := (LkAt.keep hL_326 gx_349 List.not_mem_nil List.not_mem_nil List.not_mem_nil List.not_mem_nil)
  refine wk_call (opg 207 (.call ⟨.value (.func 9), #[.tmp 205, .tmp 206], #[23, 32]⟩) 24 98 true) (by kernel_rfl) 9 #[.pointer (some ⟨p_14, 0, none⟩), .agg #[.int .i64 1, .int .i64 0, .int .i64 0, .int .u32 0, .int .u32 0, .slice none 0 0, .slice none 0 0]] (x_call Try.func9 (by kernel_rfl) (c := (Try.f9.body).getD .skip) (by kernel_rfl) (by kernel_rfl) (by kernel_rfl)) (push_p (m := (⟨1, 0, 0, 0, 0, none, 0, 0, 0, [], none, 0, 0, 0, []⟩ : MsgR)) hb_352 (by omega) hm_351 (fun w_353 γ_354 gx_355 hL_356 => ⟨?_, ?_⟩))
  · exact trivial
  have hsz_357 : w_347.heap.size ≤ w_353.heap.size := gx_355.size
  have hL_358 : LkAt γ_354 w_353 10 p_14 ((pushP (getP (getP (getP (getP (getP (getP (getP (getP (newL 1 2 3) (⟨5, 2, 1, 3, 2, [], []⟩ : Msg)).1 (⟨5, 2, 1, 3, 2, [], []⟩ : Msg)).1 (⟨5, 2, 1, 3, 1, [], []⟩ : Msg)).1 (⟨5, 2, 1, 3, 40, [], []⟩ : Msg)).1 (⟨5, 2, 1, 3, 0, [], []⟩ : Msg)).1 (⟨5, 2, 1, 4, 0, [], []⟩ : Msg)).1 (⟨5, 3, 1, 4, 0, [], []⟩ : Msg)).1 (⟨1, 2, 1, 3, 0, [1], []⟩ : Msg)).1 (⟨1, 0, 0, 0, 0, [], []⟩ : Msg)).1) := hL_356
  refine wk_pure (opg 208 (.binOp .eql 24 (.tmp 207) (.const (.int .i64 1)) 24) 4 98 true) (by kernel_rfl) (.bool true) (fun _ => y_eql (k := .i64) (a := ((pushP (getP (getP (getP (getP (getP (getP (getP (getP (newL 1 2 3) (⟨5, 2, 1, 3, 2, [], []⟩ : Msg)).1 (⟨5, 2, 1, 3, 2, [], []⟩ : Msg)).1 (⟨5, 2, 1, 3, 1, [], []⟩ : Msg)).1 (⟨5, 2, 1, 3, 40, [], []⟩ : Msg)).1 (⟨5, 2, 1, 3, 0, [], []⟩ : Msg)).1 (⟨5, 2, 1, 4, 0, [], []⟩ : Msg)).1 (⟨5, 3, 1, 4, 0, [], []⟩ : Msg)).1 (⟨1, 2, 1, 3, 0, [1], []⟩ : Msg)).1 (⟨1, 0, 0, 0, 0, [], []⟩ : Msg)).2)) (b := 1) (by kernel_rfl) (by kernel_rfl) (decide_eq_true (by decide +kernel))) ?_
  refine wk_pure (opd 209 (.pick (.tmp 204) (.tmp 208) (.const (.bool false))) 4) rfl (.bool true) (fun _ => y_pick_t (by kernel_rfl) (by kernel_rfl)) ?_
  refine wk_pure (opd 0 (.assign (.tmp 209)) 4) rfl (.bool true) (fun _ => y_assign (by kernel_rfl)) ?_
  refine wk_nil ?_
  refine thn_n ?_
  refine g_ret (by kernel_rfl) ?_
  refine ends1_r (v := .bool true) rfl (by kernel_rfl) ?_
  exact hK _ (GX.ext (GX.trans (GX.then_same (GX.trans (GX.then0 (GX.trans (GX.thenNew (GX.trans (GX.thenNew (GX.trans (GX.thenNew (GX.trans (GX.thenNew (GX.trans (GX.thenNew (GX.then_same (GX.trans (GX.trans (GX.thenNew (GX.then0 (GX.trans (GX.then_same (GX.then0 (GX.refl [10, 11, 12] _ _) e_2 hg_4) sm_9) gx_15 (fun _ h_ => absurd h_ List.not_mem_nil)) e_22 hg_27) e_32 (by intro y_ hy_; simp only [List.mem_cons, List.not_mem_nil, or_false] at hy_; omega) (fun _ _ => rfl)) gx_45 (fun _ h_ => h_)) gx_77 (fun _ h_ => h_)) sm_102) e_107 (by intro y_ hy_; simp only [List.mem_cons, List.not_mem_nil, or_false] at hy_; omega) (fun _ _ => rfl)) gx_120 (fun _ h_ => h_)) e_146 (by intro y_ hy_; simp only [List.mem_cons, List.not_mem_nil, or_false] at hy_; omega) (fun _ _ => rfl)) gx_159 (fun _ h_ => h_)) e_185 (by intro y_ hy_; simp only [List.mem_cons, List.not_mem_nil, or_false] at hy_; omega) (fun _ _ => rfl)) gx_198 (fun _ h_ => h_)) e_224 (by intro y_ hy_; simp only [List.mem_cons, List.not_mem_nil, or_false] at hy_; omega) (fun _ _ => rfl)) gx_237 (fun _ h_ => h_)) e_263 (by intro y_ hy_; simp only [List.mem_cons, List.not_mem_nil, or_false] at hy_; omega) (fun _ _ => rfl)) gx_276 (fun _ h_ => h_)) e_303 hg_307) gx_319 (fun _ h_ => h_)) sm_348) gx_355 (by intro c_ hc_; simp only [List.mem_cons, List.not_mem_nil, or_false] at hc_ ⊢; omega)) (fun _ _ => by show 0 ∉ [10, 11, 12]; decide))

end Go.Proofs.Ytpcdldakilkldaa
