/-
  Links: contracts of functions, step by step (I).
-/
import Derived.Test.YtpcdldakilkldaaLP
set_option linter.unusedSimpArgs false
set_option linter.unusedVariables false
namespace Go.Proofs.Ytpcdldakilkldaa
open Go Go.Wk

theorem nr_nil : ∀ i, (-9223372036854775808 : Int) ≤ ([] : List Int).getD i 0 ∧ ([] : List Int).getD i 0 ≤ 9223372036854775807 := by intro i; simp
theorem nr_one {x : Int} (h : -9223372036854775808 ≤ x ∧ x ≤ 9223372036854775807) : ∀ i, -9223372036854775808 ≤ [x].getD i 0 ∧ [x].getD i 0 ≤ 9223372036854775807 := by
  intro i
  match i with
  | 0 => exact h
  | i + 1 => simp

noncomputable def lIN1_0 : Code := (Try.f7.body).getD .skip
noncomputable def lIN1_1 : Code := s1 lIN1_0
noncomputable def lIN1_2 : Code := s2 lIN1_0
noncomputable def lIR1_0 : Array Oper := rops lIN1_1
noncomputable def lIN1_3 : Code := s1 lIN1_2
noncomputable def lIN1_4 : Code := s2 lIN1_2
noncomputable def lIR1_1 : Array Oper := rops lIN1_3
noncomputable def lIN1_5 : Code := s1 lIN1_4
noncomputable def lIN1_6 : Code := s2 lIN1_4
noncomputable def lIN1_7 : Code := s1 lIN1_5
noncomputable def lIN1_8 : Code := s2 lIN1_5
noncomputable def lIR1_2 : Array Oper := rops lIN1_7
noncomputable def lIN1_9 : Code := s1 lIN1_8
noncomputable def lIN1_10 : Code := s2 lIN1_8
noncomputable def lIN1_11 : Code := s1 lIN1_6
noncomputable def lIN1_12 : Code := s2 lIN1_6
noncomputable def lIR1_4 : Array Oper := rops lIN1_11
noncomputable def lIN1_13 : Code := s1 lIN1_12
noncomputable def lIN1_14 : Code := s2 lIN1_12
noncomputable def lIR1_5 : Array Oper := rops lIN1_13
noncomputable def lIN1_15 : Code := s1 lIN1_14
noncomputable def lIN1_16 : Code := s2 lIN1_14
noncomputable def lIR1_6 : Array Oper := rops lIN1_15
theorem awake_c {w : World} {K : Value → World → Prop} (hK : ∀ w', Ext [] w w' → K (.bool true) w') : CallsV Try.prog 7 #[] w K := by
  refine callsV_of (c := lIN1_0) Try.func7 (by kernel_rfl) (n := 81) (by kernel_rfl) ?_
  refine g_seq (x := lIN1_1) (y := lIN1_2) (by kernel_rfl) ?_
  refine g_region (ops := lIR1_0) (id := 0) (by kernel_rfl) [pu 0] (by kernel_rfl) (by kernel_rfl) ?_
  refine wpa 0 (.const (.bool false)) 4 (.bool false) ?_
  refine wk_nil ?_
  refine thn_n ?_
  refine g_seq (x := lIN1_3) (y := lIN1_4) (by kernel_rfl) ?_
  refine g_region (ops := lIR1_1) (id := 1) (by kernel_rfl) [lo 0, pu 1, pu 2, pu 3, pu 4, pu 5] (by kernel_rfl) (by kernel_rfl) ?_
  refine wkc 7 8 #[.const (.int .i64 1), .const (.int .i64 2), .const (.int .u32 3)] #[3, 3, 27] 25 #[.int .i64 1, .int .i64 2, .int .u32 3] Try.func8 (newL_p (γ := (fun _ => 0)) (own := 1) (peer := 2) (view := 3) 10 (by omega) (by omega) (by omega) (by omega) (fun w_1 γ_2 p_3 gx_4 hL_5 lo_6 => ⟨?_, ?_⟩))
  · exact trivial
  have hsz_7 := gx_4.size
  have hL_8 : LkAt γ_2 w_1 10 p_3 (newL 1 2 3) := hL_5
  refine wpm 6 (.tmp 7) 25 (.tuple #[.pointer (some ⟨p_3, 0, none⟩), .int .i64 0]) ?_
  refine wk_pure (opd 8 (.extract (.tmp 6) 0) 23) rfl (.pointer (some ⟨p_3, 0, none⟩)) (fun _ => x_extract (vs := #[.pointer (some ⟨p_3, 0, none⟩), .int .i64 0]) (by kernel_rfl) (by kernel_rfl)) ?_
  refine wk_pure (opd 9 (.extract (.tmp 6) 1) 24) rfl (.int .i64 0) (fun _ => x_extract (vs := #[.pointer (some ⟨p_3, 0, none⟩), .int .i64 0]) (by kernel_rfl) (by kernel_rfl)) ?_
  refine wpa 1 (.tmp 8) 23 (.pointer (some ⟨p_3, 0, none⟩)) ?_
  refine wpa 2 (.tmp 9) 24 (.int .i64 0) ?_
  refine wk_nil ?_
  refine thn_n ?_
  refine g_seq (x := lIN1_5) (y := lIN1_6) (by kernel_rfl) ?_
  refine g_seq (x := lIN1_7) (y := lIN1_8) (by kernel_rfl) ?_
  refine g_region (ops := lIR1_2) (id := 2) (by kernel_rfl) [pu 0, pu 1, pu 2, pu 3, pu 4, pu 5] (by kernel_rfl) (by kernel_rfl) ?_
  refine wpm 10 (.tmp 2) 24 (.int .i64 0) ?_
  refine wk_pure (opd 11 (.binOp .neq 24 (.tmp 10) (.const (.int .i64 0)) 24) 4) rfl (.bool false) (fun _ => y_neq (k := .i64) (a := 0) (b := 0) (by kernel_rfl) (by kernel_rfl) (by decide)) ?_
  refine wpm 12 (.tmp 11) 4 (.bool false) ?_
  refine wk_pure (opg 13 (.move (.tmp 1)) 23 2 false) (by kernel_rfl) (.pointer (some ⟨p_3, 0, none⟩)) (fun _ => y_move (by kernel_rfl)) ?_
  refine wk_pure (opg 14 (.binOp .eql 23 (.tmp 13) (.const (.pointer none)) 23) 4 2 false) (by kernel_rfl) (.bool false) (fun _ => x_ptr_eql_nil (a := some ⟨p_3, 0, none⟩) (e := 61) (by kernel_rfl) (by kernel_rfl) (by kernel_rfl)) ?_
  refine wpk 15 (.tmp 12) (.const (.bool true)) (.tmp 14) 4 (.bool false) ?_
  refine wk_nil ?_
  refine thn_n ?_
  refine g_cond_f (o := .tmp 15) (x := lIN1_9) (y := lIN1_10) (by kernel_rfl) (by kernel_rfl) ?_
  refine g_skip (by kernel_rfl) ?_
  refine thn_n ?_
  refine g_seq (x := lIN1_11) (y := lIN1_12) (by kernel_rfl) ?_
  refine g_region (ops := lIR1_4) (id := 4) (by kernel_rfl) [pu 0, lo 1, pu 2, lo 3, pu 4] (by kernel_rfl) (by kernel_rfl) ?_
  refine wpm 16 (.tmp 1) 23 (.pointer (some ⟨p_3, 0, none⟩)) ?_
  refine wk_buildSlice (e := 2) (cs := #[.int .i64 9]) (opd 17 (.buildSlice 29 1 #[(0, .const (.int .i64 9))]) 29) rfl (by kernel_rfl) (fun w_9 b_10 eq_11 e_12 sz_13 hb_14 => ⟨?_, ?_⟩)
  · exact trivial
  obtain ⟨γ_15, hg_16, hn_17⟩ := cls_new γ_2 w_1.heap.size 0
  have gx_18 := GX.ext0 [] e_12 hg_16
  have hk_19 : Bk γ_15 w_9 b_10 0 (.cells #[.int .i64 9] 2 (0, 0)) := ⟨hb_14, hn_17 _ (by omega)⟩
  refine wk_pure (opd 18 (.build 32 #[(0, .const (.int .i64 5)), (5, .tmp 17)]) 32) rfl (.agg #[.int .i64 5, .int .i64 0, .int .i64 0, .int .u32 0, .int .u32 0, .slice (some ⟨b_10, 0, none⟩) 1 1, .slice none 0 0]) (fun _ => x_build (by kernel_rfl)) ?_
  have hm_20 : MOk γ_15 w_9 (⟨5, 0, 0, 0, 0, (some ⟨b_10, 0, none⟩), b_10, 0, 1, [9], none, 0, 0, 0, []⟩ : MsgR) := ⟨⟨SlE.of_cells hk_19.1 encI_len (by kernel_rfl), .inr ⟨Bk.lt hk_19, hk_19.2⟩⟩, SlG.nil _ _ _ _ _ _ _ _, (by show (0 : Int) ≤ 0 ∧ (0 : Int) < 4294967296; omega), (by show (0 : Int) ≤ 0 ∧ (0 : Int) < 4294967296; omega), (nr_one (by omega)), (by simp), (by simp)⟩
  have hb_21 := (LkAt.keep hL_8 gx_18 ni0 ni0 ni0 ni0)
  refine wkc 19 9 #[.tmp 16, .tmp 18] #[23, 32] 24 #[.pointer (some ⟨p_3, 0, none⟩), .agg #[.int .i64 5, .int .i64 0, .int .i64 0, .int .u32 0, .int .u32 0, .slice (some ⟨b_10, 0, none⟩) 1 1, .slice none 0 0]] Try.func9 (push_p (m := (⟨5, 0, 0, 0, 0, (some ⟨b_10, 0, none⟩), b_10, 0, 1, [9], none, 0, 0, 0, []⟩ : MsgR)) hb_21 (by omega) hm_20 (fun w_22 γ_23 gx_24 hL_25 => ⟨?_, ?_⟩))
  · exact trivial
  have hsz_26 := gx_24.size
  have hL_27 : LkAt γ_23 w_22 10 p_3 ((pushP (newL 1 2 3) (⟨5, 0, 0, 0, 0, [9], []⟩ : Msg)).1) := hL_25
  refine wpa 3 (.tmp 19) 24 (.int .i64 ((pushP (newL 1 2 3) (⟨5, 0, 0, 0, 0, [9], []⟩ : Msg)).2)) ?_
  refine wk_nil ?_
  refine thn_n ?_
  refine g_seq (x := lIN1_13) (y := lIN1_14) (by kernel_rfl) ?_
  refine g_region (ops := lIR1_5) (id := 5) (by kernel_rfl) [pu 0, lo 1, pu 2, lo 3, pu 4, pu 5] (by kernel_rfl) (by kernel_rfl) ?_
  refine wpm 20 (.tmp 1) 23 (.pointer (some ⟨p_3, 0, none⟩)) ?_
  refine wkc 21 10 #[.tmp 20, .const (.int .i64 0)] #[23, 2] 33 #[.pointer (some ⟨p_3, 0, none⟩), .int .i64 0] Try.func10 (tick_p (now := 0) hL_27 (by omega) (by omega) (fun w_28 γ_29 v_30 outs_31 gx_32 hM_33 hL_34 ho_35 => ⟨?_, ?_⟩))
  · exact trivial
  have hsz_36 := gx_32.size
  have hL_37 : LkAt γ_29 w_28 10 p_3 ((tickP (pushP (newL 1 2 3) (⟨5, 0, 0, 0, 0, [9], []⟩ : Msg)).1 0).1) := hL_34
  obtain ⟨a_38, b_39, off_40, c_41, ev_44, hs_42, hall_43⟩ := hM_33
  subst ev_44
  have ho_45 : outs_31.map MsgR.abs = (tickP (pushP (newL 1 2 3) (⟨5, 0, 0, 0, 0, [9], []⟩ : Msg)).1 0).2 := ho_35
  have hlen_outs_31 : outs_31.length = (tickP (pushP (newL 1 2 3) (⟨5, 0, 0, 0, 0, [9], []⟩ : Msg)).1 0).2.length := by rw [← ho_45, List.length_map]
  have hmany_outs_31 : outs_31.length = 1 := by rw [hlen_outs_31]; decide +kernel
  have hnl_outs_31_0 : (outs_31.getD 0 M0).N.length = 1 := by have hq_ : (outs_31.getD 0 M0).abs = (tickP (pushP (newL 1 2 3) (⟨5, 0, 0, 0, 0, [9], []⟩ : Msg)).1 0).2.getD 0 default := (by rw [← abs_getD, ho_45]); have hq2_ := congrArg (fun x_ => (Msg.N x_).length) hq_; exact Eq.trans hq2_ (by decide +kernel)
  refine wpm 22 (.tmp 1) 23 (.pointer (some ⟨p_3, 0, none⟩)) ?_
  refine wkc 23 10 #[.tmp 22, .const (.int .i64 0)] #[23, 2] 33 #[.pointer (some ⟨p_3, 0, none⟩), .int .i64 0] Try.func10 (tick_p (now := 0) hL_37 (by omega) (by omega) (fun w_46 γ_47 v_48 outs_49 gx_50 hM_51 hL_52 ho_53 => ⟨?_, ?_⟩))
  · exact trivial
  have hsz_54 := gx_50.size
  have hL_55 : LkAt γ_47 w_46 10 p_3 ((tickP (tickP (pushP (newL 1 2 3) (⟨5, 0, 0, 0, 0, [9], []⟩ : Msg)).1 0).1 0).1) := hL_52
  obtain ⟨a_56, b_57, off_58, c_59, ev_62, hs_60, hall_61⟩ := hM_51
  subst ev_62
  have ho_63 : outs_49.map MsgR.abs = (tickP (tickP (pushP (newL 1 2 3) (⟨5, 0, 0, 0, 0, [9], []⟩ : Msg)).1 0).1 0).2 := ho_53
  have hlen_outs_49 : outs_49.length = (tickP (tickP (pushP (newL 1 2 3) (⟨5, 0, 0, 0, 0, [9], []⟩ : Msg)).1 0).1 0).2.length := by rw [← ho_63, List.length_map]
  have hmany_outs_49 : outs_49.length = 0 := by rw [hlen_outs_49]; decide +kernel
  refine wpa 4 (.tmp 21) 33 (.slice a_38 outs_31.length c_41) ?_
  refine wpa 5 (.tmp 23) 33 (.slice a_56 outs_49.length c_59) ?_
  refine wk_nil ?_
  refine thn_n ?_
  refine g_seq (x := lIN1_15) (y := lIN1_16) (by kernel_rfl) ?_
  refine g_region (ops := lIR1_6) (id := 6) (by kernel_rfl) [pu 0, pu 1, pu 2, pu 3, pu 4, pu 5, pu 6, pu 7, pu 8, pu 9, pu 10, lo 11, pu 12, pu 13, pu 14, pu 15, pu 16, pu 17, lo 18, pu 19, pu 20, pu 21, pu 22, pu 23, pu 24, lo 25, pu 26, pu 27, pu 28, pu 29, pu 30, pu 31, lo 32, pu 33, pu 34, pu 35, pu 36, pu 37, pu 38, lo 39, pu 40, pu 41, pu 42, pu 43, pu 44, pu 45, pu 46, pu 47, pu 48, lo 49, pu 50, pu 51, pu 52, pu 53, lo 54, pu 55, pu 56, pu 57] (by kernel_rfl) (by kernel_rfl) ?_
  refine wpm 24 (.tmp 3) 24 (.int .i64 ((pushP (newL 1 2 3) (⟨5, 0, 0, 0, 0, [9], []⟩ : Msg)).2)) ?_
  refine wk_pure (opd 25 (.binOp .eql 24 (.tmp 24) (.const (.int .i64 0)) 24) 4) rfl (.bool true) (fun _ => y_eql (k := .i64) (a := ((pushP (newL 1 2 3) (⟨5, 0, 0, 0, 0, [9], []⟩ : Msg)).2)) (b := 0) (by kernel_rfl) (by kernel_rfl) (decide_eq_true (by decide +kernel))) ?_
  refine wpm 26 (.tmp 25) 4 (.bool true) ?_
  refine wk_pure (opg 27 (.move (.tmp 4)) 33 2 true) (by kernel_rfl) (.slice a_38 outs_31.length c_41) (fun _ => y_move (by kernel_rfl)) ?_
  refine wk_pure (opg 28 (.call ⟨.builtin .len, #[.tmp 27], #[33]⟩) 3 2 true) (by kernel_rfl) (.int .i64 ((outs_31.length : Nat) : Int)) (fun _ => x_len (a := a_38) (n := outs_31.length) (c := c_41) (by kernel_rfl) (by kernel_rfl)) ?_
  refine wk_pure (opg 29 (.binOp .eql 3 (.tmp 28) (.const (.int .i64 1)) 3) 4 2 true) (by kernel_rfl) (.bool true) (fun _ => y_eql (k := .i64) (a := ((outs_31.length : Nat) : Int)) (b := 1) (by kernel_rfl) (by kernel_rfl) (decide_eq_true (by rw [hlen_outs_31]; decide +kernel))) ?_
  refine wpt 30 (.tmp 26) (.tmp 29) (.const (.bool false)) 4 (.bool true) ?_
  refine wpm 31 (.tmp 30) 4 (.bool true) ?_
  refine wk_pure (opg 32 (.move (.tmp 4)) 33 7 true) (by kernel_rfl) (.slice a_38 outs_31.length c_41) (fun _ => y_move (by kernel_rfl)) ?_
  have hb_64 := (SlG.keep hs_42 gx_50 ni2)
  refine wk_pure (opg 33 (.indexAddr 33 (.tmp 32) (.const (.int .i64 0))) 0 7 true) (by kernel_rfl) (.pointer (some ⟨b_39, off_40 + (0 * 7 + 0), none⟩)) (fun _ => y_ptr (x_indexN (a := a_38) (b := b_39) (off := off_40) (n := outs_31.length) (c := c_41) (k := .i64) (i := 0) (e := 32) (sz := 7) (sz' := 7) (by kernel_rfl) hb_64.1 (by kernel_rfl) (by kernel_rfl) rfl (by rw [hlen_outs_31]; decide +kernel) _) (by omega)) ?_
  refine wk_pure (opg 34 (.fieldAddr 32 (.tmp 33) 4) 0 7 true) (by kernel_rfl) (.pointer (some ⟨b_39, off_40 + (0 * 7 + 4), none⟩)) (fun _ => y_ptr (x_fieldAddr (b := b_39) (off := (off_40 + (0 * 7 + 0))) (o := 4) (by kernel_rfl) (by kernel_rfl)) (by omega)) ?_
  refine wk_val (opg 35 (.load 27 (.tmp 34)) 27 7 true) (by kernel_rfl) (.int .u32 ((outs_31.getD 0 M0).seq)) (x_load_c (b := b_39) (off := (off_40 + (0 * 7 + 4))) (by kernel_rfl) (by kernel_rfl) (SlE.get hb_64.1 encM_len M0 0 4 (by omega) rfl)) trivial ?_
  refine wk_pure (opg 36 (.binOp .eql 27 (.tmp 35) (.const (.int .u32 1)) 27) 4 7 true) (by kernel_rfl) (.bool true) (fun _ => y_eql (k := .u32) (a := ((outs_31.getD 0 M0).seq)) (b := 1) (by kernel_rfl) (by kernel_rfl) (decide_eq_true (by have hq_ : (outs_31.getD 0 M0).abs = (tickP (pushP (newL 1 2 3) (⟨5, 0, 0, 0, 0, [9], []⟩ : Msg)).1 0).2.getD 0 default := (by rw [← abs_getD, ho_45]); have hq2_ := congrArg Msg.seq hq_; have hq3_ : (outs_31.getD 0 M0).seq = ((tickP (pushP (newL 1 2 3) (⟨5, 0, 0, 0, 0, [9], []⟩ : Msg)).1 0).2.getD 0 default).seq := hq2_; exact hq3_.trans (by decide +kernel)))) ?_
  refine wpt 37 (.tmp 31) (.tmp 36) (.const (.bool false)) 4 (.bool true) ?_
  refine wpm 38 (.tmp 37) 4 (.bool true) ?_
  refine wk_pure (opg 39 (.move (.tmp 4)) 33 14 true) (by kernel_rfl) (.slice a_38 outs_31.length c_41) (fun _ => y_move (by kernel_rfl)) ?_
  refine wk_pure (opg 40 (.indexAddr 33 (.tmp 39) (.const (.int .i64 0))) 0 14 true) (by kernel_rfl) (.pointer (some ⟨b_39, off_40 + (0 * 7 + 0), none⟩)) (fun _ => y_ptr (x_indexN (a := a_38) (b := b_39) (off := off_40) (n := outs_31.length) (c := c_41) (k := .i64) (i := 0) (e := 32) (sz := 7) (sz' := 7) (by kernel_rfl) hb_64.1 (by kernel_rfl) (by kernel_rfl) rfl (by rw [hlen_outs_31]; decide +kernel) _) (by omega)) ?_
  refine wk_pure (opg 41 (.fieldAddr 32 (.tmp 40) 1) 0 14 true) (by kernel_rfl) (.pointer (some ⟨b_39, off_40 + (0 * 7 + 1), none⟩)) (fun _ => y_ptr (x_fieldAddr (b := b_39) (off := (off_40 + (0 * 7 + 0))) (o := 1) (by kernel_rfl) (by kernel_rfl)) (by omega)) ?_
  refine wk_val (opg 42 (.load 3 (.tmp 41)) 3 14 true) (by kernel_rfl) (.int .i64 ((outs_31.getD 0 M0).frm)) (x_load_c (b := b_39) (off := (off_40 + (0 * 7 + 1))) (by kernel_rfl) (by kernel_rfl) (SlE.get hb_64.1 encM_len M0 0 1 (by omega) rfl)) trivial ?_
  refine wk_pure (opg 43 (.binOp .eql 3 (.tmp 42) (.const (.int .i64 1)) 3) 4 14 true) (by kernel_rfl) (.bool true) (fun _ => y_eql (k := .i64) (a := ((outs_31.getD 0 M0).frm)) (b := 1) (by kernel_rfl) (by kernel_rfl) (decide_eq_true (by have hq_ : (outs_31.getD 0 M0).abs = (tickP (pushP (newL 1 2 3) (⟨5, 0, 0, 0, 0, [9], []⟩ : Msg)).1 0).2.getD 0 default := (by rw [← abs_getD, ho_45]); have hq2_ := congrArg Msg.frm hq_; have hq3_ : (outs_31.getD 0 M0).frm = ((tickP (pushP (newL 1 2 3) (⟨5, 0, 0, 0, 0, [9], []⟩ : Msg)).1 0).2.getD 0 default).frm := hq2_; exact hq3_.trans (by decide +kernel)))) ?_
  refine wpt 44 (.tmp 38) (.tmp 43) (.const (.bool false)) 4 (.bool true) ?_
  refine wpm 45 (.tmp 44) 4 (.bool true) ?_
  refine wk_pure (opg 46 (.move (.tmp 4)) 33 21 true) (by kernel_rfl) (.slice a_38 outs_31.length c_41) (fun _ => y_move (by kernel_rfl)) ?_
  refine wk_pure (opg 47 (.indexAddr 33 (.tmp 46) (.const (.int .i64 0))) 0 21 true) (by kernel_rfl) (.pointer (some ⟨b_39, off_40 + (0 * 7 + 0), none⟩)) (fun _ => y_ptr (x_indexN (a := a_38) (b := b_39) (off := off_40) (n := outs_31.length) (c := c_41) (k := .i64) (i := 0) (e := 32) (sz := 7) (sz' := 7) (by kernel_rfl) hb_64.1 (by kernel_rfl) (by kernel_rfl) rfl (by rw [hlen_outs_31]; decide +kernel) _) (by omega)) ?_
  refine wk_pure (opg 48 (.fieldAddr 32 (.tmp 47) 2) 0 21 true) (by kernel_rfl) (.pointer (some ⟨b_39, off_40 + (0 * 7 + 2), none⟩)) (fun _ => y_ptr (x_fieldAddr (b := b_39) (off := (off_40 + (0 * 7 + 0))) (o := 2) (by kernel_rfl) (by kernel_rfl)) (by omega)) ?_
  refine wk_val (opg 49 (.load 3 (.tmp 48)) 3 21 true) (by kernel_rfl) (.int .i64 ((outs_31.getD 0 M0).to)) (x_load_c (b := b_39) (off := (off_40 + (0 * 7 + 2))) (by kernel_rfl) (by kernel_rfl) (SlE.get hb_64.1 encM_len M0 0 2 (by omega) rfl)) trivial ?_
  refine wk_pure (opg 50 (.binOp .eql 3 (.tmp 49) (.const (.int .i64 2)) 3) 4 21 true) (by kernel_rfl) (.bool true) (fun _ => y_eql (k := .i64) (a := ((outs_31.getD 0 M0).to)) (b := 2) (by kernel_rfl) (by kernel_rfl) (decide_eq_true (by have hq_ : (outs_31.getD 0 M0).abs = (tickP (pushP (newL 1 2 3) (⟨5, 0, 0, 0, 0, [9], []⟩ : Msg)).1 0).2.getD 0 default := (by rw [← abs_getD, ho_45]); have hq2_ := congrArg Msg.to hq_; have hq3_ : (outs_31.getD 0 M0).to = ((tickP (pushP (newL 1 2 3) (⟨5, 0, 0, 0, 0, [9], []⟩ : Msg)).1 0).2.getD 0 default).to := hq2_; exact hq3_.trans (by decide +kernel)))) ?_
  refine wpt 51 (.tmp 45) (.tmp 50) (.const (.bool false)) 4 (.bool true) ?_
  refine wpm 52 (.tmp 51) 4 (.bool true) ?_
  refine wk_pure (opg 53 (.move (.tmp 4)) 33 28 true) (by kernel_rfl) (.slice a_38 outs_31.length c_41) (fun _ => y_move (by kernel_rfl)) ?_
  refine wk_pure (opg 54 (.indexAddr 33 (.tmp 53) (.const (.int .i64 0))) 0 28 true) (by kernel_rfl) (.pointer (some ⟨b_39, off_40 + (0 * 7 + 0), none⟩)) (fun _ => y_ptr (x_indexN (a := a_38) (b := b_39) (off := off_40) (n := outs_31.length) (c := c_41) (k := .i64) (i := 0) (e := 32) (sz := 7) (sz' := 7) (by kernel_rfl) hb_64.1 (by kernel_rfl) (by kernel_rfl) rfl (by rw [hlen_outs_31]; decide +kernel) _) (by omega)) ?_
  refine wk_pure (opg 55 (.fieldAddr 32 (.tmp 54) 3) 0 28 true) (by kernel_rfl) (.pointer (some ⟨b_39, off_40 + (0 * 7 + 3), none⟩)) (fun _ => y_ptr (x_fieldAddr (b := b_39) (off := (off_40 + (0 * 7 + 0))) (o := 3) (by kernel_rfl) (by kernel_rfl)) (by omega)) ?_
  refine wk_val (opg 56 (.load 27 (.tmp 55)) 27 28 true) (by kernel_rfl) (.int .u32 ((outs_31.getD 0 M0).view)) (x_load_c (b := b_39) (off := (off_40 + (0 * 7 + 3))) (by kernel_rfl) (by kernel_rfl) (SlE.get hb_64.1 encM_len M0 0 3 (by omega) rfl)) trivial ?_
  refine wk_pure (opg 57 (.binOp .eql 27 (.tmp 56) (.const (.int .u32 3)) 27) 4 28 true) (by kernel_rfl) (.bool true) (fun _ => y_eql (k := .u32) (a := ((outs_31.getD 0 M0).view)) (b := 3) (by kernel_rfl) (by kernel_rfl) (decide_eq_true (by have hq_ : (outs_31.getD 0 M0).abs = (tickP (pushP (newL 1 2 3) (⟨5, 0, 0, 0, 0, [9], []⟩ : Msg)).1 0).2.getD 0 default := (by rw [← abs_getD, ho_45]); have hq2_ := congrArg Msg.view hq_; have hq3_ : (outs_31.getD 0 M0).view = ((tickP (pushP (newL 1 2 3) (⟨5, 0, 0, 0, 0, [9], []⟩ : Msg)).1 0).2.getD 0 default).view := hq2_; exact hq3_.trans (by decide +kernel)))) ?_
  refine wpt 58 (.tmp 52) (.tmp 57) (.const (.bool false)) 4 (.bool true) ?_
  refine wpm 59 (.tmp 58) 4 (.bool true) ?_
  refine wk_pure (opg 60 (.move (.tmp 4)) 33 35 true) (by kernel_rfl) (.slice a_38 outs_31.length c_41) (fun _ => y_move (by kernel_rfl)) ?_
  refine wk_pure (opg 61 (.indexAddr 33 (.tmp 60) (.const (.int .i64 0))) 0 35 true) (by kernel_rfl) (.pointer (some ⟨b_39, off_40 + (0 * 7 + 0), none⟩)) (fun _ => y_ptr (x_indexN (a := a_38) (b := b_39) (off := off_40) (n := outs_31.length) (c := c_41) (k := .i64) (i := 0) (e := 32) (sz := 7) (sz' := 7) (by kernel_rfl) hb_64.1 (by kernel_rfl) (by kernel_rfl) rfl (by rw [hlen_outs_31]; decide +kernel) _) (by omega)) ?_
  refine wk_pure (opg 62 (.fieldAddr 32 (.tmp 61) 0) 0 35 true) (by kernel_rfl) (.pointer (some ⟨b_39, off_40 + (0 * 7 + 0), none⟩)) (fun _ => y_ptr (x_fieldAddr (b := b_39) (off := (off_40 + (0 * 7 + 0))) (o := 0) (by kernel_rfl) (by kernel_rfl)) (by omega)) ?_
  refine wk_val (opg 63 (.load 3 (.tmp 62)) 3 35 true) (by kernel_rfl) (.int .i64 ((outs_31.getD 0 M0).kind)) (x_load_c (b := b_39) (off := (off_40 + (0 * 7 + 0))) (by kernel_rfl) (by kernel_rfl) (SlE.get hb_64.1 encM_len M0 0 0 (by omega) rfl)) trivial ?_
  refine wk_pure (opg 64 (.binOp .eql 3 (.tmp 63) (.const (.int .i64 5)) 3) 4 35 true) (by kernel_rfl) (.bool true) (fun _ => y_eql (k := .i64) (a := ((outs_31.getD 0 M0).kind)) (b := 5) (by kernel_rfl) (by kernel_rfl) (decide_eq_true (by have hq_ : (outs_31.getD 0 M0).abs = (tickP (pushP (newL 1 2 3) (⟨5, 0, 0, 0, 0, [9], []⟩ : Msg)).1 0).2.getD 0 default := (by rw [← abs_getD, ho_45]); have hq2_ := congrArg Msg.kind hq_; have hq3_ : (outs_31.getD 0 M0).kind = ((tickP (pushP (newL 1 2 3) (⟨5, 0, 0, 0, 0, [9], []⟩ : Msg)).1 0).2.getD 0 default).kind := hq2_; exact hq3_.trans (by decide +kernel)))) ?_
  refine wpt 65 (.tmp 59) (.tmp 64) (.const (.bool false)) 4 (.bool true) ?_
  refine wpm 66 (.tmp 65) 4 (.bool true) ?_
  refine wk_pure (opg 67 (.move (.tmp 5)) 33 42 true) (by kernel_rfl) (.slice a_56 outs_49.length c_59) (fun _ => y_move (by kernel_rfl)) ?_
  refine wk_pure (opg 68 (.call ⟨.builtin .len, #[.tmp 67], #[33]⟩) 3 42 true) (by kernel_rfl) (.int .i64 ((outs_49.length : Nat) : Int)) (fun _ => x_len (a := a_56) (n := outs_49.length) (c := c_59) (by kernel_rfl) (by kernel_rfl)) ?_
  refine wk_pure (opg 69 (.binOp .eql 3 (.tmp 68) (.const (.int .i64 0)) 3) 4 42 true) (by kernel_rfl) (.bool true) (fun _ => y_eql (k := .i64) (a := ((outs_49.length : Nat) : Int)) (b := 0) (by kernel_rfl) (by kernel_rfl) (decide_eq_true (by rw [hlen_outs_49]; decide +kernel))) ?_
  refine wpt 70 (.tmp 66) (.tmp 69) (.const (.bool false)) 4 (.bool true) ?_
  refine wpm 71 (.tmp 70) 4 (.bool true) ?_
  refine wk_pure (opg 72 (.move (.tmp 1)) 23 47 true) (by kernel_rfl) (.pointer (some ⟨p_3, 0, none⟩)) (fun _ => y_move (by kernel_rfl)) ?_
  refine wk_call (opg 73 (.call ⟨.value (.func 12), #[.tmp 72], #[23]⟩) 3 47 true) (by kernel_rfl) 12 #[.pointer (some ⟨p_3, 0, none⟩)] (x_call Try.func12 (by kernel_rfl) (c := (Try.f12.body).getD .skip) (by kernel_rfl) (by kernel_rfl) (by kernel_rfl)) (waiting_p hL_55 (by omega) (fun w_65 sm_66 => ⟨?_, ?_⟩))
  · exact trivial
  have gx_67 := GX.same [] γ_47 sm_66
  have hsz_68 : w_65.heap.size = w_46.heap.size := by rw [sm_66.heap]
  refine wk_pure (opg 74 (.binOp .eql 3 (.tmp 73) (.const (.int .i64 1)) 3) 4 47 true) (by kernel_rfl) (.bool true) (fun _ => y_eql (k := .i64) (a := ((((tickP (tickP (pushP (newL 1 2 3) (⟨5, 0, 0, 0, 0, [9], []⟩ : Msg)).1 0).1 0).1).out.length : Nat) : Int)) (b := 1) (by kernel_rfl) (by kernel_rfl) (decide_eq_true (by decide +kernel))) ?_
  refine wpt 75 (.tmp 71) (.tmp 74) (.const (.bool false)) 4 (.bool true) ?_
  refine wpm 76 (.tmp 75) 4 (.bool true) ?_
  refine wk_pure (opg 77 (.move (.tmp 1)) 23 52 true) (by kernel_rfl) (.pointer (some ⟨p_3, 0, none⟩)) (fun _ => y_move (by kernel_rfl)) ?_
  have hb_69 := (LkAt.keep hL_55 gx_67 ni0 ni0 ni0 ni0)
  refine wk_call (opg 78 (.call ⟨.value (.func 14), #[.tmp 77], #[23]⟩) 27 52 true) (by kernel_rfl) 14 #[.pointer (some ⟨p_3, 0, none⟩)] (x_call Try.func14 (by kernel_rfl) (c := (Try.f14.body).getD .skip) (by kernel_rfl) (by kernel_rfl) (by kernel_rfl)) (next_p hb_69 (by omega) (fun w_70 sm_71 => ⟨?_, ?_⟩))
  · exact trivial
  have gx_72 := GX.same [] γ_47 sm_71
  have hsz_73 : w_70.heap.size = w_65.heap.size := by rw [sm_71.heap]
  refine wk_pure (opg 79 (.binOp .eql 27 (.tmp 78) (.const (.int .u32 1)) 27) 4 52 true) (by kernel_rfl) (.bool true) (fun _ => y_eql (k := .u32) (a := (((tickP (tickP (pushP (newL 1 2 3) (⟨5, 0, 0, 0, 0, [9], []⟩ : Msg)).1 0).1 0).1).next)) (b := 1) (by kernel_rfl) (by kernel_rfl) (decide_eq_true (by decide +kernel))) ?_
  refine wpt 80 (.tmp 76) (.tmp 79) (.const (.bool false)) 4 (.bool true) ?_
  refine wpa 0 (.tmp 80) 4 (.bool true) ?_
  refine wk_nil ?_
  refine thn_n ?_
  refine g_ret (by kernel_rfl) ?_
  refine ends1_r (v := .bool true) rfl (by kernel_rfl) ?_
  exact hK _ (GX.ext (GX.then_same (GX.then_same (GX.trans (GX.trans (GX.trans (GX.then0 (GX.trans (GX.refl [10, 11, 12] _ _) gx_4 (fun _ h_ => absurd h_ List.not_mem_nil)) e_12 hg_16) gx_24 (by intro c_ hc_; simp only [List.mem_cons, List.not_mem_nil, or_false] at hc_ ⊢; omega)) gx_32 (by intro c_ hc_; simp only [List.mem_cons, List.not_mem_nil, or_false] at hc_ ⊢; omega)) gx_50 (by intro c_ hc_; simp only [List.mem_cons, List.not_mem_nil, or_false] at hc_ ⊢; omega)) sm_66) sm_71) (fun _ _ => by show 0 ∉ [10, 11, 12]; decide))

end Go.Proofs.Ytpcdldakilkldaa
