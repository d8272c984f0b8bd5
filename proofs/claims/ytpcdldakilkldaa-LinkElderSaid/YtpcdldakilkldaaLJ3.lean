/-
  Links: contracts of functions, step by step (J3).
-/
import Derived.Test.YtpcdldakilkldaaLQ
set_option linter.unusedSimpArgs false
set_option linter.unusedVariables false
namespace Go.Proofs.Ytpcdldakilkldaa
open Go Go.Wk

noncomputable def lJ3N6w4_0 : Code := (Try.f6.body).getD .skip
noncomputable def lJ3N6w4_1 : Code := s1 lJ3N6w4_0
noncomputable def lJ3N6w4_2 : Code := s2 lJ3N6w4_0
noncomputable def lJ3R6w4_0 : Array Oper := rops lJ3N6w4_1
noncomputable def lJ3N6w4_3 : Code := s1 lJ3N6w4_2
noncomputable def lJ3N6w4_4 : Code := s2 lJ3N6w4_2
noncomputable def lJ3N6w4_5 : Code := s1 lJ3N6w4_3
noncomputable def lJ3N6w4_6 : Code := s2 lJ3N6w4_3
noncomputable def lJ3R6w4_1 : Array Oper := rops lJ3N6w4_5
noncomputable def lJ3N6w4_7 : Code := s1 lJ3N6w4_6
noncomputable def lJ3N6w4_8 : Code := s2 lJ3N6w4_6
noncomputable def lJ3N6w4_9 : Code := s1 lJ3N6w4_4
noncomputable def lJ3N6w4_10 : Code := s2 lJ3N6w4_4
noncomputable def lJ3N6w4_11 : Code := s1 lJ3N6w4_9
noncomputable def lJ3N6w4_12 : Code := s2 lJ3N6w4_9
noncomputable def lJ3R6w4_3 : Array Oper := rops lJ3N6w4_11
noncomputable def lJ3N6w4_13 : Code := s1 lJ3N6w4_12
noncomputable def lJ3N6w4_14 : Code := s2 lJ3N6w4_12
noncomputable def lJ3N6w4_15 : Code := s1 lJ3N6w4_10
noncomputable def lJ3N6w4_16 : Code := s2 lJ3N6w4_10
noncomputable def lJ3R6w4_5 : Array Oper := rops lJ3N6w4_15
noncomputable def lJ3N6w4_17 : Code := s1 lJ3N6w4_16
noncomputable def lJ3N6w4_18 : Code := s2 lJ3N6w4_16
noncomputable def lJ3R6w4_6 : Array Oper := rops lJ3N6w4_17
noncomputable def lJ3N6w4_19 : Code := s1 lJ3N6w4_18
noncomputable def lJ3N6w4_20 : Code := s2 lJ3N6w4_18
noncomputable def lJ3N6w4_21 : Code := s1 lJ3N6w4_19
noncomputable def lJ3N6w4_22 : Code := s2 lJ3N6w4_19
noncomputable def lJ3R6w4_7 : Array Oper := rops lJ3N6w4_21
noncomputable def lJ3N6w4_23 : Code := s1 lJ3N6w4_22
noncomputable def lJ3N6w4_24 : Code := s1 lJ3N6w4_23
noncomputable def lJ3N6w4_25 : Code := s1 lJ3N6w4_24
noncomputable def lJ3N6w4_26 : Code := s2 lJ3N6w4_24
noncomputable def lJ3N6w4_27 : Code := s1 lJ3N6w4_25
noncomputable def lJ3N6w4_28 : Code := s2 lJ3N6w4_25
noncomputable def lJ3R6w4_8 : Array Oper := rops lJ3N6w4_27
noncomputable def lJ3N6w4_29 : Code := s1 lJ3N6w4_28
noncomputable def lJ3N6w4_30 : Code := s2 lJ3N6w4_28
noncomputable def lJ3N6w4_31 : Code := s1 lJ3N6w4_26
noncomputable def lJ3N6w4_32 : Code := s2 lJ3N6w4_26
noncomputable def lJ3N6w4_33 : Code := s1 lJ3N6w4_31
noncomputable def lJ3N6w4_34 : Code := s1 lJ3N6w4_33
noncomputable def lJ3N6w4_35 : Code := s2 lJ3N6w4_33
noncomputable def lJ3R6w4_10 : Array Oper := rops lJ3N6w4_34
noncomputable def lJ3N6w4_36 : Code := s1 lJ3N6w4_35
noncomputable def lJ3N6w4_37 : Code := s2 lJ3N6w4_35
noncomputable def lJ3N6w4_38 : Code := s1 lJ3N6w4_36
noncomputable def lJ3N6w4_39 : Code := s2 lJ3N6w4_36
noncomputable def lJ3R6w4_11 : Array Oper := rops lJ3N6w4_38
noncomputable def lJ3N6w4_40 : Code := s1 lJ3N6w4_39
noncomputable def lJ3N6w4_41 : Code := s2 lJ3N6w4_39
noncomputable def lJ3N6w4_42 : Code := s1 lJ3N6w4_37
noncomputable def lJ3N6w4_43 : Code := s2 lJ3N6w4_37
noncomputable def lJ3R6w4_13 : Array Oper := rops lJ3N6w4_42
noncomputable def lJ3N6w4_44 : Code := s1 lJ3N6w4_43
noncomputable def lJ3N6w4_45 : Code := s2 lJ3N6w4_43
noncomputable def lJ3N6w4_46 : Code := s1 lJ3N6w4_44
noncomputable def lJ3N6w4_47 : Code := s2 lJ3N6w4_44
noncomputable def lJ3R6w4_14 : Array Oper := rops lJ3N6w4_46
noncomputable def lJ3N6w4_48 : Code := s1 lJ3N6w4_47
noncomputable def lJ3N6w4_49 : Code := s2 lJ3N6w4_47
noncomputable def lJ3N6w4_50 : Code := s1 lJ3N6w4_48
noncomputable def lJ3N6w4_51 : Code := s2 lJ3N6w4_48
noncomputable def lJ3R6w4_15 : Array Oper := rops lJ3N6w4_50
noncomputable def lJ3N6w4_52 : Code := s1 lJ3N6w4_45
noncomputable def lJ3N6w4_53 : Code := s2 lJ3N6w4_45
noncomputable def lJ3R6w4_16 : Array Oper := rops lJ3N6w4_52
noncomputable def lJ3N6w4_54 : Code := s1 lJ3N6w4_53
noncomputable def lJ3N6w4_55 : Code := s2 lJ3N6w4_53
noncomputable def lJ3N6w4_56 : Code := s1 lJ3N6w4_54
noncomputable def lJ3N6w4_57 : Code := s2 lJ3N6w4_54
noncomputable def lJ3R6w4_17 : Array Oper := rops lJ3N6w4_56
noncomputable def lJ3N6w4_58 : Code := s1 lJ3N6w4_57
noncomputable def lJ3N6w4_59 : Code := s2 lJ3N6w4_57
noncomputable def lJ3N6w4_60 : Code := s1 lJ3N6w4_58
noncomputable def lJ3N6w4_61 : Code := s2 lJ3N6w4_58
noncomputable def lJ3R6w4_18 : Array Oper := rops lJ3N6w4_60
noncomputable def lJ3N6w4_62 : Code := s1 lJ3N6w4_61
noncomputable def lJ3N6w4_63 : Code := s2 lJ3N6w4_61
noncomputable def lJ3N6w4_64 : Code := s1 lJ3N6w4_55
noncomputable def lJ3N6w4_65 : Code := s2 lJ3N6w4_55
noncomputable def lJ3R6w4_27 : Array Oper := rops lJ3N6w4_64
noncomputable def lJ3N6w4_66 : Code := s1 lJ3N6w4_65
noncomputable def lJ3N6w4_67 : Code := s2 lJ3N6w4_65
noncomputable def lJ3R6w4_9 : Array Oper := rops lJ3N6w4_32
noncomputable def lJ3N6w4_68 : Code := s1 lJ3N6w4_59
noncomputable def lJ3N6w4_69 : Code := s2 lJ3N6w4_59
noncomputable def lJ3R6w4_20 : Array Oper := rops lJ3N6w4_68
noncomputable def lJ3N6w4_70 : Code := s1 lJ3N6w4_69
noncomputable def lJ3N6w4_71 : Code := s2 lJ3N6w4_69
noncomputable def lJ3N6w4_72 : Code := s1 lJ3N6w4_70
noncomputable def lJ3N6w4_73 : Code := s2 lJ3N6w4_70
noncomputable def lJ3R6w4_21 : Array Oper := rops lJ3N6w4_72
noncomputable def lJ3N6w4_74 : Code := s1 lJ3N6w4_73
noncomputable def lJ3N6w4_75 : Code := s2 lJ3N6w4_73
noncomputable def lJ3N6w4_76 : Code := s1 lJ3N6w4_71
noncomputable def lJ3N6w4_77 : Code := s2 lJ3N6w4_71
noncomputable def lJ3R6w4_23 : Array Oper := rops lJ3N6w4_76
noncomputable def lJ3N6w4_78 : Code := s1 lJ3N6w4_77
noncomputable def lJ3N6w4_79 : Code := s2 lJ3N6w4_77
noncomputable def lJ3R6w4_24 : Array Oper := rops lJ3N6w4_78
noncomputable def lJ3N6w4_80 : Code := s1 lJ3N6w4_79
noncomputable def lJ3N6w4_81 : Code := s2 lJ3N6w4_79
noncomputable def lJ3R6w4_25 : Array Oper := rops lJ3N6w4_80
noncomputable def lJ3N6w4_82 : Code := s1 lJ3N6w4_81
noncomputable def lJ3N6w4_83 : Code := s2 lJ3N6w4_81
noncomputable def lJ3N6w4_84 : Code := s1 lJ3N6w4_20
noncomputable def lJ3N6w4_85 : Code := s2 lJ3N6w4_20
noncomputable def lJ3R6w4_29 : Array Oper := rops lJ3N6w4_84
set_option maxHeartbeats 4000000 in
theorem linkElder_3 {m : MsgR} {a : Option Addr} {b off c : Nat} {L : List ActR} {w : World} (hm : MIn (fun _ => 0) w m) (hs : SlG (fun _ => 0) w 0 10 a b off encA L) (hA : AllA (fun _ => 0) w L) (hl : L.length ≤ 50) (hN : m.N.length ≤ 10) (hW : m.W.length ≤ 10) (hne : m.frm = 1 ∧ m.to = 0 ∧ m.view ≠ 7) {K : Value → World → Prop} (hK : ∀ w', Ext [] w w' → K (.bool true) w') : CallsV Try.prog 6 #[.agg #[.int .i64 m.kind, .int .i64 m.frm, .int .i64 m.to, .int .u32 m.view, .int .u32 m.seq, .slice m.na m.N.length m.nc, .slice m.wa m.W.length m.wc], .slice a L.length c] w K := by
  refine callsV_of (c := lJ3N6w4_0) Try.func6 (by kernel_rfl) (n := 175) (by kernel_rfl) ?_
  have hmv := hm.v0
  have hms := hm.s0
  refine g_seq (x := lJ3N6w4_1) (y := lJ3N6w4_2) (by kernel_rfl) ?_
  refine g_region (ops := lJ3R6w4_0) (id := 0) (by kernel_rfl) [(0, .loud), (1, .pure)] (by kernel_rfl) (by kernel_rfl) ?_
  refine wk_box (cs := #[.int .i64 m.kind, .int .i64 m.frm, .int .i64 m.to, .int .u32 m.view, .int .u32 m.seq, .slice m.na m.N.length m.nc, .slice m.wa m.W.length m.wc]) (opd 2 (.box 32 (.tmp 0)) 0) rfl (by kernel_rfl) (fun w_2 b_1 eq_4 e_3 sz_5 hb_6 => ⟨?_, ?_⟩)
  · exact trivial
  obtain ⟨γ_7, hg_8, hn_9⟩ := cls_new (fun _ => 0) w.heap.size 10601
  have gx_10 : GX [] w (fun _ => 0) w_2 γ_7 := GX.ext0 [] e_3 hg_8
  have hk_11 : Bk γ_7 w_2 b_1 10601 (.cells #[.int .i64 m.kind, .int .i64 m.frm, .int .i64 m.to, .int .u32 m.view, .int .u32 m.seq, .slice m.na m.N.length m.nc, .slice m.wa m.W.length m.wc] 32 (0, 0)) := ⟨hb_6, hn_9 _ (by omega)⟩
  refine wk_pure (opd 4 (.assign (.const (.bool false))) 4) rfl (.bool false) (fun _ => y_assign (by kernel_rfl)) ?_
  refine wk_nil ?_
  refine thn_n ?_
  refine g_seq (x := lJ3N6w4_3) (y := lJ3N6w4_4) (by kernel_rfl) ?_
  refine g_seq (x := lJ3N6w4_5) (y := lJ3N6w4_6) (by kernel_rfl) ?_
  refine g_region (ops := lJ3R6w4_1) (id := 1) (by kernel_rfl) [(0, .loud), (1, .pure)] (by kernel_rfl) (by kernel_rfl) ?_
  refine wk_call (opd 20 (.call ⟨.value (.func 7), #[], #[]⟩) 4) rfl 7 #[] (x_call Try.func7 (by kernel_rfl) (c := (Try.f7.body).getD .skip) (by kernel_rfl) (by kernel_rfl) (by kernel_rfl)) (awake_c (fun w_12 e_13 => ⟨?_, ?_⟩))
  · exact trivial
  obtain ⟨γ_14, hg_15, hn_16⟩ := cls_new γ_7 w_2.heap.size 10602
  have gx_17 : GX [] w_2 γ_7 w_12 γ_14 := GX.ext0 [] e_13 hg_15
  have hsz_18 : w_2.heap.size ≤ w_12.heap.size := e_13.size
  refine wk_pure (opd 21 (.unOp .not 4 (.tmp 20)) 4) rfl (.bool false) (fun _ => y_not (p := true) (by kernel_rfl) rfl) ?_
  refine wk_nil ?_
  refine thn_n ?_
  refine g_cond_f (o := .tmp 21) (x := lJ3N6w4_7) (y := lJ3N6w4_8) (by kernel_rfl) (by kernel_rfl) ?_
  refine g_skip (by kernel_rfl) ?_
  refine thn_n ?_
  refine g_seq (x := lJ3N6w4_9) (y := lJ3N6w4_10) (by kernel_rfl) ?_
  refine g_seq (x := lJ3N6w4_11) (y := lJ3N6w4_12) (by kernel_rfl) ?_
  refine g_region (ops := lJ3R6w4_3) (id := 3) (by kernel_rfl) [(0, .pure), (1, .pure), (2, .pure), (3, .pure), (4, .pure), (5, .loud), (6, .pure), (7, .pure), (8, .pure), (9, .pure), (10, .pure), (11, .loud), (12, .pure), (13, .pure), (14, .pure), (15, .pure), (16, .pure), (17, .loud), (18, .pure), (19, .pure), (20, .pure), (21, .loud), (22, .pure), (23, .pure), (24, .pure), (25, .pure), (26, .loud), (27, .pure), (28, .pure), (29, .pure)] (by kernel_rfl) (by kernel_rfl) ?_
  refine wk_pure (opd 22 (.move (.tmp 1)) 40) rfl (.slice a L.length c) (fun _ => y_move (by kernel_rfl)) ?_
  refine wk_pure (opd 23 (.call ⟨.builtin .len, #[.tmp 22], #[40]⟩) 3) rfl (.int .i64 ((L.length : Nat) : Int)) (fun _ => x_len (a := a) (n := L.length) (c := c) (by kernel_rfl) (by kernel_rfl)) ?_
  refine wk_pure (opd 24 (.binOp .gtr 3 (.tmp 23) (.const (.int .i64 50)) 3) 4) rfl (.bool false) (fun _ => y_gtr (k := .i64) (a := ((L.length : Nat) : Int)) (b := 50) (by kernel_rfl) (by kernel_rfl) (decide_eq_false (by omega))) ?_
  refine wk_pure (opd 25 (.move (.tmp 24)) 4) rfl (.bool false) (fun _ => y_move (by kernel_rfl)) ?_
  refine wk_pure (opg 26 (.fieldAddr 32 (.tmp 2) 5) 0 3 false) (by kernel_rfl) (.pointer (some ⟨b_1, 5, none⟩)) (fun _ => x_fieldAddr (b := b_1) (off := 0) (o := 5) (by kernel_rfl) (by kernel_rfl)) ?_
  have hb_19 : Bk γ_14 w_12 b_1 10601 (.cells #[.int .i64 m.kind, .int .i64 m.frm, .int .i64 m.to, .int .u32 m.view, .int .u32 m.seq, .slice m.na m.N.length m.nc, .slice m.wa m.W.length m.wc] 32 (0, 0)) := (Bk.keep hk_11 gx_17 List.not_mem_nil)
  refine wk_val (opg 27 (.load 29 (.tmp 26)) 29 3 false) (by kernel_rfl) (.slice m.na m.N.length m.nc) (x_load (b := b_1) (off := 5) (by kernel_rfl) (by kernel_rfl) hb_19.1 (by kernel_rfl)) trivial ?_
  refine wk_pure (opg 28 (.call ⟨.builtin .len, #[.tmp 27], #[29]⟩) 3 3 false) (by kernel_rfl) (.int .i64 ((m.N.length : Nat) : Int)) (fun _ => x_len (a := m.na) (n := m.N.length) (c := m.nc) (by kernel_rfl) (by kernel_rfl)) ?_
  refine wk_pure (opg 29 (.binOp .gtr 3 (.tmp 28) (.const (.int .i64 10)) 3) 4 3 false) (by kernel_rfl) (.bool false) (fun _ => y_gtr (k := .i64) (a := ((m.N.length : Nat) : Int)) (b := 10) (by kernel_rfl) (by kernel_rfl) (decide_eq_false (by omega))) ?_
  refine wk_pure (opd 30 (.pick (.tmp 25) (.const (.bool true)) (.tmp 29)) 4) rfl (.bool false) (fun _ => y_pick_f (by kernel_rfl) (by kernel_rfl)) ?_
  refine wk_pure (opd 31 (.move (.tmp 30)) 4) rfl (.bool false) (fun _ => y_move (by kernel_rfl)) ?_
  refine wk_pure (opg 32 (.fieldAddr 32 (.tmp 2) 6) 0 9 false) (by kernel_rfl) (.pointer (some ⟨b_1, 6, none⟩)) (fun _ => x_fieldAddr (b := b_1) (off := 0) (o := 6) (by kernel_rfl) (by kernel_rfl)) ?_
  refine wk_val (opg 33 (.load 30 (.tmp 32)) 30 9 false) (by kernel_rfl) (.slice m.wa m.W.length m.wc) (x_load (b := b_1) (off := 6) (by kernel_rfl) (by kernel_rfl) hb_19.1 (by kernel_rfl)) trivial ?_
  refine wk_pure (opg 34 (.call ⟨.builtin .len, #[.tmp 33], #[30]⟩) 3 9 false) (by kernel_rfl) (.int .i64 ((m.W.length : Nat) : Int)) (fun _ => x_len (a := m.wa) (n := m.W.length) (c := m.wc) (by kernel_rfl) (by kernel_rfl)) ?_
  refine wk_pure (opg 35 (.binOp .gtr 3 (.tmp 34) (.const (.int .i64 10)) 3) 4 9 false) (by kernel_rfl) (.bool false) (fun _ => y_gtr (k := .i64) (a := ((m.W.length : Nat) : Int)) (b := 10) (by kernel_rfl) (by kernel_rfl) (decide_eq_false (by omega))) ?_
  refine wk_pure (opd 36 (.pick (.tmp 31) (.const (.bool true)) (.tmp 35)) 4) rfl (.bool false) (fun _ => y_pick_f (by kernel_rfl) (by kernel_rfl)) ?_
  refine wk_pure (opd 37 (.move (.tmp 36)) 4) rfl (.bool false) (fun _ => y_move (by kernel_rfl)) ?_
  refine wk_pure (opg 38 (.fieldAddr 32 (.tmp 2) 1) 0 15 false) (by kernel_rfl) (.pointer (some ⟨b_1, 1, none⟩)) (fun _ => x_fieldAddr (b := b_1) (off := 0) (o := 1) (by kernel_rfl) (by kernel_rfl)) ?_
  refine wk_val (opg 39 (.load 3 (.tmp 38)) 3 15 false) (by kernel_rfl) (.int .i64 m.frm) (x_load (b := b_1) (off := 1) (by kernel_rfl) (by kernel_rfl) hb_19.1 (by kernel_rfl)) trivial ?_
  refine wk_pure (opg 40 (.binOp .eql 3 (.tmp 39) (.const (.int .i64 1)) 3) 4 15 false) (by kernel_rfl) (.bool true) (fun _ => y_eql (k := .i64) (a := m.frm) (b := 1) (by kernel_rfl) (by kernel_rfl) (decide_eq_true (by omega))) ?_
  refine wk_pure (opg 41 (.move (.tmp 40)) 4 15 false) (by kernel_rfl) (.bool true) (fun _ => y_move (by kernel_rfl)) ?_
  refine wk_pure (opg 42 (.fieldAddr 32 (.tmp 2) 2) 0 19 true) (by kernel_rfl) (.pointer (some ⟨b_1, 2, none⟩)) (fun _ => x_fieldAddr (b := b_1) (off := 0) (o := 2) (by kernel_rfl) (by kernel_rfl)) ?_
  refine wk_val (opg 43 (.load 3 (.tmp 42)) 3 19 true) (by kernel_rfl) (.int .i64 m.to) (x_load (b := b_1) (off := 2) (by kernel_rfl) (by kernel_rfl) hb_19.1 (by kernel_rfl)) trivial ?_
  refine wk_pure (opg 44 (.binOp .eql 3 (.tmp 43) (.const (.int .i64 0)) 3) 4 19 true) (by kernel_rfl) (.bool true) (fun _ => y_eql (k := .i64) (a := m.to) (b := 0) (by kernel_rfl) (by kernel_rfl) (decide_eq_true (by omega))) ?_
  refine wk_pure (opg 45 (.pick (.tmp 41) (.tmp 44) (.const (.bool false))) 4 15 false) (by kernel_rfl) (.bool true) (fun _ => y_pick_t (by kernel_rfl) (by kernel_rfl)) ?_
  refine wk_pure (opg 46 (.move (.tmp 45)) 4 15 false) (by kernel_rfl) (.bool true) (fun _ => y_move (by kernel_rfl)) ?_
  refine wk_pure (opg 47 (.fieldAddr 32 (.tmp 2) 3) 0 24 true) (by kernel_rfl) (.pointer (some ⟨b_1, 3, none⟩)) (fun _ => x_fieldAddr (b := b_1) (off := 0) (o := 3) (by kernel_rfl) (by kernel_rfl)) ?_
  refine wk_val (opg 48 (.load 27 (.tmp 47)) 27 24 true) (by kernel_rfl) (.int .u32 m.view) (x_load (b := b_1) (off := 3) (by kernel_rfl) (by kernel_rfl) hb_19.1 (by kernel_rfl)) trivial ?_
  refine wk_pure (opg 49 (.binOp .eql 27 (.tmp 48) (.const (.int .u32 7)) 27) 4 24 true) (by kernel_rfl) (.bool false) (fun _ => y_eql (k := .u32) (a := m.view) (b := 7) (by kernel_rfl) (by kernel_rfl) (decide_eq_false (by omega))) ?_
  refine wk_pure (opg 50 (.pick (.tmp 46) (.tmp 49) (.const (.bool false))) 4 15 false) (by kernel_rfl) (.bool false) (fun _ => y_pick_t (by kernel_rfl) (by kernel_rfl)) ?_
  refine wk_pure (opd 51 (.pick (.tmp 37) (.const (.bool true)) (.tmp 50)) 4) rfl (.bool false) (fun _ => y_pick_f (by kernel_rfl) (by kernel_rfl)) ?_
  refine wk_nil ?_
  refine thn_n ?_
  refine g_cond_f (o := .tmp 51) (x := lJ3N6w4_13) (y := lJ3N6w4_14) (by kernel_rfl) (by kernel_rfl) ?_
  refine g_skip (by kernel_rfl) ?_
  refine thn_n ?_
  refine g_seq (x := lJ3N6w4_15) (y := lJ3N6w4_16) (by kernel_rfl) ?_
  refine g_region (ops := lJ3R6w4_5) (id := 5) (by kernel_rfl) [(0, .loud), (1, .pure), (2, .pure), (3, .pure), (4, .pure), (5, .pure)] (by kernel_rfl) (by kernel_rfl) ?_
  refine wk_call (opd 53 (.call ⟨.value (.func 8), #[.const (.int .i64 0), .const (.int .i64 1), .const (.int .u32 7)], #[3, 3, 27]⟩) 25) rfl 8 #[.int .i64 0, .int .i64 1, .int .u32 7] (x_call Try.func8 (by kernel_rfl) (c := (Try.f8.body).getD .skip) (by kernel_rfl) (by kernel_rfl) (by kernel_rfl)) (newL_p (γ := γ_14) (own := 0) (peer := 1) (view := 7) 10 (by omega) (by omega) (by omega) (by omega) (fun w_20 γ_21 p_22 gx_23 hL_24 lo_25 => ⟨?_, ?_⟩))
  · exact trivial
  have hsz_26 : w_12.heap.size ≤ w_20.heap.size := gx_23.size
  have hL_27 : LkAt γ_21 w_20 10 p_22 (newL 0 1 7) := hL_24
  refine wk_pure (opd 52 (.move (.tmp 53)) 25) rfl (.tuple #[.pointer (some ⟨p_22, 0, none⟩), .int .i64 0]) (fun _ => y_move (by kernel_rfl)) ?_
  refine wk_pure (opd 54 (.extract (.tmp 52) 0) 23) rfl (.pointer (some ⟨p_22, 0, none⟩)) (fun _ => x_extract (vs := #[.pointer (some ⟨p_22, 0, none⟩), .int .i64 0]) (by kernel_rfl) (by kernel_rfl)) ?_
  refine wk_pure (opd 55 (.extract (.tmp 52) 1) 24) rfl (.int .i64 0) (fun _ => x_extract (vs := #[.pointer (some ⟨p_22, 0, none⟩), .int .i64 0]) (by kernel_rfl) (by kernel_rfl)) ?_
  refine wk_pure (opd 5 (.assign (.tmp 54)) 23) rfl (.pointer (some ⟨p_22, 0, none⟩)) (fun _ => y_assign (by kernel_rfl)) ?_
  refine wk_pure (opd 6 (.assign (.tmp 55)) 24) rfl (.int .i64 0) (fun _ => y_assign (by kernel_rfl)) ?_
  refine wk_nil ?_
  refine thn_n ?_
  refine g_seq (x := lJ3N6w4_17) (y := lJ3N6w4_18) (by kernel_rfl) ?_
  refine g_region (ops := lJ3R6w4_6) (id := 6) (by kernel_rfl) [(0, .loud), (1, .pure), (2, .pure), (3, .pure), (4, .pure), (5, .pure)] (by kernel_rfl) (by kernel_rfl) ?_
  refine wk_call (opd 57 (.call ⟨.value (.func 8), #[.const (.int .i64 0), .const (.int .i64 1), .const (.int .u32 7)], #[3, 3, 27]⟩) 25) rfl 8 #[.int .i64 0, .int .i64 1, .int .u32 7] (x_call Try.func8 (by kernel_rfl) (c := (Try.f8.body).getD .skip) (by kernel_rfl) (by kernel_rfl) (by kernel_rfl)) (newL_p (γ := γ_21) (own := 0) (peer := 1) (view := 7) 20 (by omega) (by omega) (by omega) (by omega) (fun w_28 γ_29 p_30 gx_31 hL_32 lo_33 => ⟨?_, ?_⟩))
  · exact trivial
  have hsz_34 : w_20.heap.size ≤ w_28.heap.size := gx_31.size
  have hL_35 : LkAt γ_29 w_28 20 p_30 (newL 0 1 7) := hL_32
  refine wk_pure (opd 56 (.move (.tmp 57)) 25) rfl (.tuple #[.pointer (some ⟨p_30, 0, none⟩), .int .i64 0]) (fun _ => y_move (by kernel_rfl)) ?_
  refine wk_pure (opd 58 (.extract (.tmp 56) 0) 23) rfl (.pointer (some ⟨p_30, 0, none⟩)) (fun _ => x_extract (vs := #[.pointer (some ⟨p_30, 0, none⟩), .int .i64 0]) (by kernel_rfl) (by kernel_rfl)) ?_
  refine wk_pure (opd 59 (.extract (.tmp 56) 1) 24) rfl (.int .i64 0) (fun _ => x_extract (vs := #[.pointer (some ⟨p_30, 0, none⟩), .int .i64 0]) (by kernel_rfl) (by kernel_rfl)) ?_
  refine wk_pure (opd 7 (.assign (.tmp 58)) 23) rfl (.pointer (some ⟨p_30, 0, none⟩)) (fun _ => y_assign (by kernel_rfl)) ?_
  refine wk_pure (opd 8 (.assign (.tmp 59)) 24) rfl (.int .i64 0) (fun _ => y_assign (by kernel_rfl)) ?_
  refine wk_nil ?_
  refine thn_n ?_
  refine g_seq (x := lJ3N6w4_19) (y := lJ3N6w4_20) (by kernel_rfl) ?_
  refine g_seq (x := lJ3N6w4_21) (y := lJ3N6w4_22) (by kernel_rfl) ?_
  refine g_region (ops := lJ3R6w4_7) (id := 7) (by kernel_rfl) [(0, .pure)] (by kernel_rfl) (by kernel_rfl) ?_
  refine wk_pure (opd 9 (.assign (.const (.int .i64 0))) 3) rfl (.int .i64 0) (fun _ => y_assign (by kernel_rfl)) ?_
  refine wk_nil ?_
  refine thn_n ?_
  refine g_block (x := lJ3N6w4_23) (id := 0) (by kernel_rfl) ?_
  have hb_36 : MIn γ_29 w_28 m := (MIn.keep (MIn.keep (MIn.keep (MIn.keep hm gx_10 List.not_mem_nil) gx_17 List.not_mem_nil) gx_23 List.not_mem_nil) gx_31 List.not_mem_nil)
  have hb_37 : SlG γ_29 w_28 0 10 a b off encA L := (SlG.keep (SlG.keep (SlG.keep (SlG.keep hs gx_10 List.not_mem_nil) gx_17 List.not_mem_nil) gx_23 List.not_mem_nil) gx_31 List.not_mem_nil)
  have hb_38 : AllA γ_29 w_28 L := (AllA.keep (AllA.keep (AllA.keep (AllA.keep hA gx_10 List.not_mem_nil) gx_17 List.not_mem_nil) gx_23 List.not_mem_nil) gx_31 List.not_mem_nil)
  have hb_39 : Bk γ_29 w_28 b_1 10601 (.cells #[.int .i64 m.kind, .int .i64 m.frm, .int .i64 m.to, .int .u32 m.view, .int .u32 m.seq, .slice m.na m.N.length m.nc, .slice m.wa m.W.length m.wc] 32 (0, 0)) := (Bk.keep (Bk.keep hb_19 gx_23 List.not_mem_nil) gx_31 List.not_mem_nil)
  have hb_40 : LkAt γ_29 w_28 10 p_22 (newL 0 1 7) := (LkAt.keep hL_27 gx_31 List.not_mem_nil List.not_mem_nil List.not_mem_nil List.not_mem_nil)
  refine g_loop (x := lJ3N6w4_24) (by kernel_rfl) (fun m_ ρ_ w_ => ∃ (i : Nat) (s : Lk) (γ_ : Nat → Nat), m_ = L.length - i ∧ (i ≤ L.length) ∧ (s.own = 0) ∧ (s.peer = 1) ∧ (s.view = 7) ∧ (s.held.length ≤ i) ∧ ρ_ 1 = .slice a L.length c ∧ ρ_ 2 = .pointer (some ⟨b_1, 0, none⟩) ∧ ρ_ 5 = .pointer (some ⟨p_22, 0, none⟩) ∧ ρ_ 7 = .pointer (some ⟨p_30, 0, none⟩) ∧ ρ_ 9 = .int .i64 ((i : Nat) : Int) ∧ MIn γ_ w_ m ∧ SlG γ_ w_ 0 10 a b off encA L ∧ AllA γ_ w_ L ∧ Bk γ_ w_ b_1 10601 (.cells #[.int .i64 m.kind, .int .i64 m.frm, .int .i64 m.to, .int .u32 m.view, .int .u32 m.seq, .slice m.na m.N.length m.nc, .slice m.wa m.W.length m.wc] 32 (0, 0)) ∧ LkAt γ_ w_ 10 p_22 s ∧ LkAt γ_ w_ 20 p_30 s ∧ GX [10, 11, 12, 20, 21, 22] w (fun _ => 0) w_ γ_) (L.length - 0) ?_ ?_
  · exact ⟨0, (newL 0 1 7), _, rfl, by omega, by rfl, by rfl, by rfl, by exact Nat.le_refl _, (by kernel_rfl), (by kernel_rfl), (by kernel_rfl), (by kernel_rfl), (by kernel_rfl), hb_36, hb_37, hb_38, hb_39, hb_40, hL_35, (GX.trans (GX.trans (GX.then0 (GX.then0 (GX.refl [10, 11, 12, 20, 21, 22] _ _) e_3 hg_8) e_13 hg_15) gx_23 (fun _ h_ => absurd h_ List.not_mem_nil)) gx_31 (fun _ h_ => absurd h_ List.not_mem_nil))⟩
  · intro m_41 ρ_42 w_43 hI
    obtain ⟨i, s, γ_45, hm_m_41, hi, hso, hsp, hsv, hsh, f_46, f_47, f_48, f_49, f_50, hr_51, hr_52, hr_53, hr_54, hr_55, hr_56, hE_44⟩ := hI
    have hs_w_43 := hE_44.size
    refine g_seq (x := lJ3N6w4_25) (y := lJ3N6w4_26) (by kernel_rfl) ?_
    refine g_seq (x := lJ3N6w4_27) (y := lJ3N6w4_28) (by kernel_rfl) ?_
    refine g_region (ops := lJ3R6w4_8) (id := 8) (by kernel_rfl) [(0, .pure), (1, .pure), (2, .pure), (3, .pure)] (by kernel_rfl) (by kernel_rfl) ?_
    refine wk_pure (opd 60 (.move (.tmp 9)) 3) rfl (.int .i64 ((i : Nat) : Int)) (fun _ => y_move (Eq.trans (by kernel_rfl) f_50)) ?_
    refine wk_pure (opd 61 (.move (.tmp 1)) 40) rfl (.slice a L.length c) (fun _ => y_move (Eq.trans (by kernel_rfl) f_46)) ?_
    refine wk_pure (opd 62 (.call ⟨.builtin .len, #[.tmp 61], #[40]⟩) 3) rfl (.int .i64 ((L.length : Nat) : Int)) (fun _ => x_len (a := a) (n := L.length) (c := c) (by kernel_rfl) (by kernel_rfl)) ?_
    by_cases h_57 : (((i : Nat) : Int) : Int) < ((L.length : Nat) : Int)
    · refine wk_pure (opd 63 (.binOp .lss 3 (.tmp 60) (.tmp 62) 3) 4) rfl (.bool true) (fun _ => y_lss (k := .i64) (a := ((i : Nat) : Int)) (b := ((L.length : Nat) : Int)) (by kernel_rfl) (by kernel_rfl) (decide_eq_true h_57)) ?_
      refine wk_nil ?_
      refine thn_n ?_
      refine g_cond_t (o := .tmp 63) (x := lJ3N6w4_29) (y := lJ3N6w4_30) (by kernel_rfl) (by kernel_rfl) ?_
      refine g_skip (by kernel_rfl) ?_
      refine thn_n ?_
      refine g_seq (x := lJ3N6w4_31) (y := lJ3N6w4_32) (by kernel_rfl) ?_
      refine g_block (x := lJ3N6w4_33) (id := 1) (by kernel_rfl) ?_
      refine g_seq (x := lJ3N6w4_34) (y := lJ3N6w4_35) (by kernel_rfl) ?_
      refine g_region (ops := lJ3R6w4_10) (id := 10) (by kernel_rfl) [(0, .pure), (1, .loud), (2, .loud), (3, .pure), (4, .pure), (5, .pure), (6, .pure), (7, .pure), (8, .pure), (9, .pure)] (by kernel_rfl) (by kernel_rfl) ?_
      refine wk_pure (opd 67 (.move (.tmp 5)) 23) rfl (.pointer (some ⟨p_22, 0, none⟩)) (fun _ => y_move (Eq.trans (by kernel_rfl) f_48)) ?_
      refine wk_val (opd 68 (.load 32 (.tmp 2)) 32) rfl (.agg #[.int .i64 m.kind, .int .i64 m.frm, .int .i64 m.to, .int .u32 m.view, .int .u32 m.seq, .slice m.na m.N.length m.nc, .slice m.wa m.W.length m.wc]) (x_load_agg (b := b_1) (off := 0) (n := 7) (by kernel_rfl) (Eq.trans (by kernel_rfl) f_47) hr_54.1 (Nat.le_of_ble_eq_true rfl) (by kernel_rfl)) trivial ?_
      have hA_58 := AllA.get hr_53 (by omega : i < L.length); have hA_58_v := hA_58.1.v0; have hA_58_s := hA_58.1.s0; have hA_58_n := hA_58.2
      obtain ⟨e_59, he_60, hq_61⟩ := get_elder (l := s) (m := (⟨m.kind, m.frm, m.to, m.view, m.seq, m.N, m.W⟩ : Msg)) (by show ¬ (m.frm = s.peer ∧ m.to = s.own ∧ m.view = s.view); rw [hso, hsp, hsv]; omega)
      refine wk_call (opd 69 (.call ⟨.value (.func 11), #[.tmp 67, .tmp 68], #[23, 32]⟩) 35) rfl 11 #[.pointer (some ⟨p_22, 0, none⟩), .agg #[.int .i64 m.kind, .int .i64 m.frm, .int .i64 m.to, .int .u32 m.view, .int .u32 m.seq, .slice m.na m.N.length m.nc, .slice m.wa m.W.length m.wc]] (x_call Try.func11 (by kernel_rfl) (c := (Try.f11.body).getD .skip) (by kernel_rfl) (by kernel_rfl) (by kernel_rfl)) (get_q (m := m) hq_61 rfl hr_55 (by omega) (MIn.ok hr_51 (by omega) (by omega)) (by omega) (fun w_62 γ_63 v_64 v_65 outs_66 outs_67 gx_68 hM_69 hM_70 hL_71 ho_72 ho_73 => ⟨?_, ?_⟩))
      · exact trivial
      have hsz_74 : w_43.heap.size ≤ w_62.heap.size := gx_68.size
      have hL_75 : LkAt γ_63 w_62 10 p_22 s := hL_71
      obtain ⟨a_76, b_77, off_78, c_79, ev_82, hs_80, hall_81⟩ := hM_69
      subst ev_82
      have hlen_outs_66 : outs_66.length = ([] : List Msg).length := by rw [← ho_72, List.length_map]
      obtain ⟨a_83, b_84, off_85, c_86, ev_89, hs_87, hall_88⟩ := hM_70
      subst ev_89
      have hlen_outs_67 : outs_67.length = ([] : List Msg).length := by rw [← ho_73, List.length_map]
      refine wk_pure (opd 66 (.move (.tmp 69)) 35) rfl (.tuple #[.slice a_76 outs_66.length c_79, .slice a_83 outs_67.length c_86, .int .i64 e_59]) (fun _ => y_move (by kernel_rfl)) ?_
      refine wk_pure (opd 70 (.extract (.tmp 66) 0) 33) rfl (.slice a_76 outs_66.length c_79) (fun _ => x_extract (vs := #[.slice a_76 outs_66.length c_79, .slice a_83 outs_67.length c_86, .int .i64 e_59]) (by kernel_rfl) (by kernel_rfl)) ?_
      refine wk_pure (opd 71 (.extract (.tmp 66) 1) 33) rfl (.slice a_83 outs_67.length c_86) (fun _ => x_extract (vs := #[.slice a_76 outs_66.length c_79, .slice a_83 outs_67.length c_86, .int .i64 e_59]) (by kernel_rfl) (by kernel_rfl)) ?_
      refine wk_pure (opd 72 (.extract (.tmp 66) 2) 24) rfl (.int .i64 e_59) (fun _ => x_extract (vs := #[.slice a_76 outs_66.length c_79, .slice a_83 outs_67.length c_86, .int .i64 e_59]) (by kernel_rfl) (by kernel_rfl)) ?_
      refine wk_pure (opd 10 (.assign (.tmp 70)) 33) rfl (.slice a_76 outs_66.length c_79) (fun _ => y_assign (by kernel_rfl)) ?_
      refine wk_pure (opd 11 (.assign (.tmp 71)) 33) rfl (.slice a_83 outs_67.length c_86) (fun _ => y_assign (by kernel_rfl)) ?_
      refine wk_pure (opd 12 (.assign (.tmp 72)) 24) rfl (.int .i64 e_59) (fun _ => y_assign (by kernel_rfl)) ?_
      refine wk_nil ?_
      refine thn_n ?_
      refine g_seq (x := lJ3N6w4_36) (y := lJ3N6w4_37) (by kernel_rfl) ?_
      refine g_seq (x := lJ3N6w4_38) (y := lJ3N6w4_39) (by kernel_rfl) ?_
      refine g_region (ops := lJ3R6w4_11) (id := 11) (by kernel_rfl) [(0, .pure), (1, .pure), (2, .pure), (3, .pure), (4, .pure), (5, .pure), (6, .pure), (7, .pure), (8, .pure), (9, .pure), (10, .pure), (11, .pure)] (by kernel_rfl) (by kernel_rfl) ?_
      refine wk_pure (opd 73 (.move (.tmp 10)) 33) rfl (.slice a_76 outs_66.length c_79) (fun _ => y_move (by kernel_rfl)) ?_
      refine wk_pure (opd 74 (.call ⟨.builtin .len, #[.tmp 73], #[33]⟩) 3) rfl (.int .i64 ((outs_66.length : Nat) : Int)) (fun _ => x_len (a := a_76) (n := outs_66.length) (c := c_79) (by kernel_rfl) (by kernel_rfl)) ?_
      refine wk_pure (opd 75 (.binOp .neq 3 (.tmp 74) (.const (.int .i64 0)) 3) 4) rfl (.bool false) (fun _ => y_neq (k := .i64) (a := ((outs_66.length : Nat) : Int)) (b := 0) (by kernel_rfl) (by kernel_rfl) (decide_eq_false (by first | omega | (rw [hlen_outs_66]; decide) | (intro h_; exact h_ rfl)))) ?_
      refine wk_pure (opd 76 (.move (.tmp 75)) 4) rfl (.bool false) (fun _ => y_move (by kernel_rfl)) ?_
      refine wk_pure (opg 77 (.move (.tmp 11)) 33 3 false) (by kernel_rfl) (.slice a_83 outs_67.length c_86) (fun _ => y_move (by kernel_rfl)) ?_
      refine wk_pure (opg 78 (.call ⟨.builtin .len, #[.tmp 77], #[33]⟩) 3 3 false) (by kernel_rfl) (.int .i64 ((outs_67.length : Nat) : Int)) (fun _ => x_len (a := a_83) (n := outs_67.length) (c := c_86) (by kernel_rfl) (by kernel_rfl)) ?_
      refine wk_pure (opg 79 (.binOp .neq 3 (.tmp 78) (.const (.int .i64 0)) 3) 4 3 false) (by kernel_rfl) (.bool false) (fun _ => y_neq (k := .i64) (a := ((outs_67.length : Nat) : Int)) (b := 0) (by kernel_rfl) (by kernel_rfl) (decide_eq_false (by first | omega | (rw [hlen_outs_67]; decide) | (intro h_; exact h_ rfl)))) ?_
      refine wk_pure (opd 80 (.pick (.tmp 76) (.const (.bool true)) (.tmp 79)) 4) rfl (.bool false) (fun _ => y_pick_f (by kernel_rfl) (by kernel_rfl)) ?_
      refine wk_pure (opd 81 (.move (.tmp 80)) 4) rfl (.bool false) (fun _ => y_move (by kernel_rfl)) ?_
      refine wk_pure (opg 82 (.move (.tmp 12)) 24 8 false) (by kernel_rfl) (.int .i64 e_59) (fun _ => y_move (by kernel_rfl)) ?_
      refine wk_pure (opg 83 (.binOp .eql 24 (.tmp 82) (.const (.int .i64 0)) 24) 4 8 false) (by kernel_rfl) (.bool false) (fun _ => y_eql (k := .i64) (a := e_59) (b := 0) (by kernel_rfl) (by kernel_rfl) (decide_eq_false (by first | omega | (intro h_; exact h_ rfl)))) ?_
      refine wk_pure (opd 84 (.pick (.tmp 81) (.const (.bool true)) (.tmp 83)) 4) rfl (.bool false) (fun _ => y_pick_f (by kernel_rfl) (by kernel_rfl)) ?_
      refine wk_nil ?_
      refine thn_n ?_
      refine g_cond_f (o := .tmp 84) (x := lJ3N6w4_40) (y := lJ3N6w4_41) (by kernel_rfl) (by kernel_rfl) ?_
      refine g_skip (by kernel_rfl) ?_
      refine thn_n ?_
      refine g_seq (x := lJ3N6w4_42) (y := lJ3N6w4_43) (by kernel_rfl) ?_
      refine g_region (ops := lJ3R6w4_13) (id := 13) (by kernel_rfl) [(0, .pure), (1, .pure), (2, .pure), (3, .pure), (4, .loud), (5, .loud), (6, .loud)] (by kernel_rfl) (by kernel_rfl) ?_
      refine wk_pure (opd 85 (.move (.tmp 1)) 40) rfl (.slice a L.length c) (fun _ => y_move (Eq.trans (by kernel_rfl) f_46)) ?_
      refine wk_pure (opd 86 (.move (.tmp 9)) 3) rfl (.int .i64 ((i : Nat) : Int)) (fun _ => y_move (Eq.trans (by kernel_rfl) f_50)) ?_
      have hb_90 : SlG γ_63 w_62 0 10 a b off encA L := (SlG.keep hr_52 gx_68 (by decide))
      refine wk_pure (opd 87 (.indexAddr 40 (.tmp 85) (.tmp 86)) 0) rfl (.pointer (some ⟨b, off + (i * 10 + 0), none⟩)) (fun _ => y_ptr (x_indexN (a := a) (b := b) (off := off) (n := L.length) (c := c) (k := .i64) (i := ((i : Nat) : Int)) (e := 48) (sz := 10) (sz' := 10) (by kernel_rfl) hb_90.1 (by kernel_rfl) (by kernel_rfl) rfl (by omega) _) (by omega)) ?_
      refine wk_pure (opd 88 (.fieldAddr 48 (.tmp 87) 2) 0) rfl (.pointer (some ⟨b, off + (i * 10 + 2), none⟩)) (fun _ => y_ptr (x_fieldAddr (b := b) (off := (off + (i * 10 + 0))) (o := 2) (by kernel_rfl) (by kernel_rfl)) (by omega)) ?_
      refine wk_val (opd 89 (.load 32 (.tmp 88)) 32) rfl (.agg #[.int .i64 ((L.getD i A0).m.kind), .int .i64 ((L.getD i A0).m.frm), .int .i64 ((L.getD i A0).m.to), .int .u32 ((L.getD i A0).m.view), .int .u32 ((L.getD i A0).m.seq), .slice ((L.getD i A0).m.na) ((L.getD i A0).m.N.length) ((L.getD i A0).m.nc), .slice ((L.getD i A0).m.wa) ((L.getD i A0).m.W.length) ((L.getD i A0).m.wc)]) (x_load_cs (b := b) (off := (off + (i * 10 + 2))) (n := 7) (vs := [.int .i64 ((L.getD i A0).m.kind), .int .i64 ((L.getD i A0).m.frm), .int .i64 ((L.getD i A0).m.to), .int .u32 ((L.getD i A0).m.view), .int .u32 ((L.getD i A0).m.seq), .slice ((L.getD i A0).m.na) ((L.getD i A0).m.N.length) ((L.getD i A0).m.nc), .slice ((L.getD i A0).m.wa) ((L.getD i A0).m.W.length) ((L.getD i A0).m.wc)]) (by kernel_rfl) (by kernel_rfl) rfl (SlE.getN hb_90.1 encA_len A0 i 2 (by omega) rfl)) trivial ?_
      refine wk_alloc (z := #[.int .i64 0, .int .i64 0, .int .i64 0, .int .u32 0, .int .u32 0, .slice none 0 0, .slice none 0 0]) (opd 13 (.alloc 32) 0) rfl (by kernel_rfl) (fun w_92 b_91 eq_94 e_93 sz_95 hb_96 => ⟨?_, ?_⟩)
      · exact trivial
      obtain ⟨γ_97, hg_98, hn_99⟩ := cls_new γ_63 w_62.heap.size 10603
      have gx_100 : GX [] w_62 γ_63 w_92 γ_97 := GX.ext0 [] e_93 hg_98
      have hk_101 : Bk γ_97 w_92 b_91 10603 (.cells #[.int .i64 0, .int .i64 0, .int .i64 0, .int .u32 0, .int .u32 0, .slice none 0 0, .slice none 0 0] 32 (0, 0)) := ⟨hb_96, hn_99 _ (by omega)⟩
      refine wk_store (b := b_91) (off := 0) (cs' := #[.int .i64 ((L.getD i A0).m.kind), .int .i64 ((L.getD i A0).m.frm), .int .i64 ((L.getD i A0).m.to), .int .u32 ((L.getD i A0).m.view), .int .u32 ((L.getD i A0).m.seq), .slice ((L.getD i A0).m.na) ((L.getD i A0).m.N.length) ((L.getD i A0).m.nc), .slice ((L.getD i A0).m.wa) ((L.getD i A0).m.W.length) ((L.getD i A0).m.wc)]) (vs := #[.int .i64 ((L.getD i A0).m.kind), .int .i64 ((L.getD i A0).m.frm), .int .i64 ((L.getD i A0).m.to), .int .u32 ((L.getD i A0).m.view), .int .u32 ((L.getD i A0).m.seq), .slice ((L.getD i A0).m.na) ((L.getD i A0).m.N.length) ((L.getD i A0).m.nc), .slice ((L.getD i A0).m.wa) ((L.getD i A0).m.W.length) ((L.getD i A0).m.wc)]) (opn (.store 32 (.tmp 13) (.tmp 89)) 0) rfl (by kernel_rfl) (by kernel_rfl) (by kernel_rfl) (by kernel_rfl) hk_101.1 (Nat.le_of_ble_eq_true rfl) (by kernel_rfl) (by kernel_rfl) (fun w_102 e_103 sz_104 hb_105 => ⟨?_, ?_⟩)
      · exact trivial
      have gx_106 : GX [10603] w_92 γ_97 w_102 γ_97 := GX.ext1 e_103 hk_101.2 (fun _ _ => rfl)
      have hk_107 : Bk γ_97 w_102 b_91 10603 (.cells #[.int .i64 ((L.getD i A0).m.kind), .int .i64 ((L.getD i A0).m.frm), .int .i64 ((L.getD i A0).m.to), .int .u32 ((L.getD i A0).m.view), .int .u32 ((L.getD i A0).m.seq), .slice ((L.getD i A0).m.na) ((L.getD i A0).m.N.length) ((L.getD i A0).m.nc), .slice ((L.getD i A0).m.wa) ((L.getD i A0).m.W.length) ((L.getD i A0).m.wc)] 32 (0, 0)) := ⟨hb_105, hk_101.2⟩
      refine wk_nil ?_
      refine thn_n ?_
      refine g_seq (x := lJ3N6w4_44) (y := lJ3N6w4_45) (by kernel_rfl) ?_
      refine g_seq (x := lJ3N6w4_46) (y := lJ3N6w4_47) (by kernel_rfl) ?_
      refine g_region (ops := lJ3R6w4_14) (id := 14) (by kernel_rfl) [(0, .pure), (1, .loud), (2, .pure), (3, .pure), (4, .pure), (5, .pure), (6, .loud), (7, .pure), (8, .pure), (9, .pure)] (by kernel_rfl) (by kernel_rfl) ?_
      refine wk_pure (opd 90 (.fieldAddr 32 (.tmp 13) 5) 0) rfl (.pointer (some ⟨b_91, 5, none⟩)) (fun _ => x_fieldAddr (b := b_91) (off := 0) (o := 5) (by kernel_rfl) (by kernel_rfl)) ?_
      refine wk_val (opd 91 (.load 29 (.tmp 90)) 29) rfl (.slice ((L.getD i A0).m.na) ((L.getD i A0).m.N.length) ((L.getD i A0).m.nc)) (x_load (b := b_91) (off := 5) (by kernel_rfl) (by kernel_rfl) hk_107.1 (by kernel_rfl)) trivial ?_
      refine wk_pure (opd 92 (.call ⟨.builtin .len, #[.tmp 91], #[29]⟩) 3) rfl (.int .i64 (((L.getD i A0).m.N.length : Nat) : Int)) (fun _ => x_len (a := (L.getD i A0).m.na) (n := ((L.getD i A0).m.N.length)) (c := ((L.getD i A0).m.nc)) (by kernel_rfl) (by kernel_rfl)) ?_
      by_cases h_108 : (10 : Int) < (((L.getD i A0).m.N.length : Nat) : Int)
      · refine wk_pure (opd 93 (.binOp .gtr 3 (.tmp 92) (.const (.int .i64 10)) 3) 4) rfl (.bool true) (fun _ => y_gtr (k := .i64) (a := (((L.getD i A0).m.N.length : Nat) : Int)) (b := 10) (by kernel_rfl) (by kernel_rfl) (decide_eq_true h_108)) ?_
        refine wk_pure (opd 94 (.move (.tmp 93)) 4) rfl (.bool true) (fun _ => y_move (by kernel_rfl)) ?_
        refine wk_skp (some 95) (by kernel_rfl) ?_
        refine wk_skp (some 96) (by kernel_rfl) ?_
        refine wk_skp (some 97) (by kernel_rfl) ?_
        refine wk_skp (some 98) (by kernel_rfl) ?_
        refine wk_pure (opd 99 (.pick (.tmp 94) (.const (.bool true)) (.tmp 98)) 4) rfl (.bool true) (fun _ => y_pick_t (by kernel_rfl) (by kernel_rfl)) ?_
        refine wk_nil ?_
        refine thn_n ?_
        refine g_cond_t (o := .tmp 99) (x := lJ3N6w4_48) (y := lJ3N6w4_49) (by kernel_rfl) (by kernel_rfl) ?_
        refine g_seq (x := lJ3N6w4_50) (y := lJ3N6w4_51) (by kernel_rfl) ?_
        refine g_region (ops := lJ3R6w4_15) (id := 15) (by kernel_rfl) [(0, .pure)] (by kernel_rfl) (by kernel_rfl) ?_
        refine wk_pure (opd 4 (.assign (.const (.bool true))) 4) rfl (.bool true) (fun _ => y_assign (by kernel_rfl)) ?_
        refine wk_nil ?_
        refine thn_n ?_
        refine g_ret (by kernel_rfl) ?_
        refine thn_r ?_
        refine blk_r ?_
        refine thn_r ?_
        refine thn_r ?_
        refine blk_r ?_
        refine thn_r ?_
        refine ends1_r (v := .bool true) rfl (by kernel_rfl) ?_
        exact hK _ (GX.ext (GX.thenNew (GX.then0 (GX.trans hE_44 gx_68 (by intro c_ hc_; simp only [List.mem_cons, List.not_mem_nil, or_false] at hc_ ⊢; omega)) e_93 hg_98) e_103 (by intro y_ hy_; simp only [List.mem_cons, List.not_mem_nil, or_false] at hy_; omega) (fun _ _ => rfl)) (fun _ _ => by show 0 ∉ [10, 11, 12, 20, 21, 22]; decide))
      · refine wk_pure (opd 93 (.binOp .gtr 3 (.tmp 92) (.const (.int .i64 10)) 3) 4) rfl (.bool false) (fun _ => y_gtr (k := .i64) (a := (((L.getD i A0).m.N.length : Nat) : Int)) (b := 10) (by kernel_rfl) (by kernel_rfl) (decide_eq_false h_108)) ?_
        refine wk_pure (opd 94 (.move (.tmp 93)) 4) rfl (.bool false) (fun _ => y_move (by kernel_rfl)) ?_
        refine wk_pure (opg 95 (.fieldAddr 32 (.tmp 13) 6) 0 4 false) (by kernel_rfl) (.pointer (some ⟨b_91, 6, none⟩)) (fun _ => x_fieldAddr (b := b_91) (off := 0) (o := 6) (by kernel_rfl) (by kernel_rfl)) ?_
        refine wk_val (opg 96 (.load 30 (.tmp 95)) 30 4 false) (by kernel_rfl) (.slice ((L.getD i A0).m.wa) ((L.getD i A0).m.W.length) ((L.getD i A0).m.wc)) (x_load (b := b_91) (off := 6) (by kernel_rfl) (by kernel_rfl) hk_107.1 (by kernel_rfl)) trivial ?_
        refine wk_pure (opg 97 (.call ⟨.builtin .len, #[.tmp 96], #[30]⟩) 3 4 false) (by kernel_rfl) (.int .i64 (((L.getD i A0).m.W.length : Nat) : Int)) (fun _ => x_len (a := (L.getD i A0).m.wa) (n := ((L.getD i A0).m.W.length)) (c := ((L.getD i A0).m.wc)) (by kernel_rfl) (by kernel_rfl)) ?_
        by_cases h_109 : (10 : Int) < (((L.getD i A0).m.W.length : Nat) : Int)
        · refine wk_pure (opg 98 (.binOp .gtr 3 (.tmp 97) (.const (.int .i64 10)) 3) 4 4 false) (by kernel_rfl) (.bool true) (fun _ => y_gtr (k := .i64) (a := (((L.getD i A0).m.W.length : Nat) : Int)) (b := 10) (by kernel_rfl) (by kernel_rfl) (decide_eq_true h_109)) ?_
          refine wk_pure (opd 99 (.pick (.tmp 94) (.const (.bool true)) (.tmp 98)) 4) rfl (.bool true) (fun _ => y_pick_f (by kernel_rfl) (by kernel_rfl)) ?_
          refine wk_nil ?_
          refine thn_n ?_
          refine g_cond_t (o := .tmp 99) (x := lJ3N6w4_48) (y := lJ3N6w4_49) (by kernel_rfl) (by kernel_rfl) ?_
          refine g_seq (x := lJ3N6w4_50) (y := lJ3N6w4_51) (by kernel_rfl) ?_
          refine g_region (ops := lJ3R6w4_15) (id := 15) (by kernel_rfl) [(0, .pure)] (by kernel_rfl) (by kernel_rfl) ?_
          refine wk_pure (opd 4 (.assign (.const (.bool true))) 4) rfl (.bool true) (fun _ => y_assign (by kernel_rfl)) ?_
          refine wk_nil ?_
          refine thn_n ?_
          refine g_ret (by kernel_rfl) ?_
          refine thn_r ?_
          refine blk_r ?_
          refine thn_r ?_
          refine thn_r ?_
          refine blk_r ?_
          refine thn_r ?_
          refine ends1_r (v := .bool true) rfl (by kernel_rfl) ?_
          exact hK _ (GX.ext (GX.thenNew (GX.then0 (GX.trans hE_44 gx_68 (by intro c_ hc_; simp only [List.mem_cons, List.not_mem_nil, or_false] at hc_ ⊢; omega)) e_93 hg_98) e_103 (by intro y_ hy_; simp only [List.mem_cons, List.not_mem_nil, or_false] at hy_; omega) (fun _ _ => rfl)) (fun _ _ => by show 0 ∉ [10, 11, 12, 20, 21, 22]; decide))
        · refine wk_pure (opg 98 (.binOp .gtr 3 (.tmp 97) (.const (.int .i64 10)) 3) 4 4 false) (by kernel_rfl) (.bool false) (fun _ => y_gtr (k := .i64) (a := (((L.getD i A0).m.W.length : Nat) : Int)) (b := 10) (by kernel_rfl) (by kernel_rfl) (decide_eq_false h_109)) ?_
          refine wk_pure (opd 99 (.pick (.tmp 94) (.const (.bool true)) (.tmp 98)) 4) rfl (.bool false) (fun _ => y_pick_f (by kernel_rfl) (by kernel_rfl)) ?_
          refine wk_nil ?_
          refine thn_n ?_
          refine g_cond_f (o := .tmp 99) (x := lJ3N6w4_48) (y := lJ3N6w4_49) (by kernel_rfl) (by kernel_rfl) ?_
          refine g_skip (by kernel_rfl) ?_
          refine thn_n ?_
          refine g_seq (x := lJ3N6w4_52) (y := lJ3N6w4_53) (by kernel_rfl) ?_
          refine g_region (ops := lJ3R6w4_16) (id := 16) (by kernel_rfl) [(0, .pure), (1, .loud), (2, .pure), (3, .loud), (4, .pure), (5, .loud)] (by kernel_rfl) (by kernel_rfl) ?_
          refine wk_pure (opd 100 (.fieldAddr 32 (.tmp 13) 1) 0) rfl (.pointer (some ⟨b_91, 1, none⟩)) (fun _ => x_fieldAddr (b := b_91) (off := 0) (o := 1) (by kernel_rfl) (by kernel_rfl)) ?_
          refine wk_store (b := b_91) (off := 1) (cs' := #[.int .i64 ((L.getD i A0).m.kind), .int .i64 1, .int .i64 ((L.getD i A0).m.to), .int .u32 ((L.getD i A0).m.view), .int .u32 ((L.getD i A0).m.seq), .slice ((L.getD i A0).m.na) ((L.getD i A0).m.N.length) ((L.getD i A0).m.nc), .slice ((L.getD i A0).m.wa) ((L.getD i A0).m.W.length) ((L.getD i A0).m.wc)]) (vs := #[.int .i64 1]) (opn (.store 3 (.tmp 100) (.const (.int .i64 1))) 0) rfl (by kernel_rfl) (by kernel_rfl) (by kernel_rfl) (by kernel_rfl) hk_107.1 (Nat.le_of_ble_eq_true rfl) (by kernel_rfl) (by kernel_rfl) (fun w_110 e_111 sz_112 hb_113 => ⟨?_, ?_⟩)
          · exact trivial
          have gx_114 : GX [10603] w_102 γ_97 w_110 γ_97 := GX.ext1 e_111 hk_107.2 (fun _ _ => rfl)
          have hk_115 : Bk γ_97 w_110 b_91 10603 (.cells #[.int .i64 ((L.getD i A0).m.kind), .int .i64 1, .int .i64 ((L.getD i A0).m.to), .int .u32 ((L.getD i A0).m.view), .int .u32 ((L.getD i A0).m.seq), .slice ((L.getD i A0).m.na) ((L.getD i A0).m.N.length) ((L.getD i A0).m.nc), .slice ((L.getD i A0).m.wa) ((L.getD i A0).m.W.length) ((L.getD i A0).m.wc)] 32 (0, 0)) := ⟨hb_113, hk_107.2⟩
          refine wk_pure (opd 101 (.fieldAddr 32 (.tmp 13) 2) 0) rfl (.pointer (some ⟨b_91, 2, none⟩)) (fun _ => x_fieldAddr (b := b_91) (off := 0) (o := 2) (by kernel_rfl) (by kernel_rfl)) ?_
          refine wk_store (b := b_91) (off := 2) (cs' := #[.int .i64 ((L.getD i A0).m.kind), .int .i64 1, .int .i64 0, .int .u32 ((L.getD i A0).m.view), .int .u32 ((L.getD i A0).m.seq), .slice ((L.getD i A0).m.na) ((L.getD i A0).m.N.length) ((L.getD i A0).m.nc), .slice ((L.getD i A0).m.wa) ((L.getD i A0).m.W.length) ((L.getD i A0).m.wc)]) (vs := #[.int .i64 0]) (opn (.store 3 (.tmp 101) (.const (.int .i64 0))) 0) rfl (by kernel_rfl) (by kernel_rfl) (by kernel_rfl) (by kernel_rfl) hk_115.1 (Nat.le_of_ble_eq_true rfl) (by kernel_rfl) (by kernel_rfl) (fun w_116 e_117 sz_118 hb_119 => ⟨?_, ?_⟩)
          · exact trivial
          have gx_120 : GX [10603] w_110 γ_97 w_116 γ_97 := GX.ext1 e_117 hk_115.2 (fun _ _ => rfl)
          have hk_121 : Bk γ_97 w_116 b_91 10603 (.cells #[.int .i64 ((L.getD i A0).m.kind), .int .i64 1, .int .i64 0, .int .u32 ((L.getD i A0).m.view), .int .u32 ((L.getD i A0).m.seq), .slice ((L.getD i A0).m.na) ((L.getD i A0).m.N.length) ((L.getD i A0).m.nc), .slice ((L.getD i A0).m.wa) ((L.getD i A0).m.W.length) ((L.getD i A0).m.wc)] 32 (0, 0)) := ⟨hb_119, hk_115.2⟩
          refine wk_pure (opd 102 (.fieldAddr 32 (.tmp 13) 3) 0) rfl (.pointer (some ⟨b_91, 3, none⟩)) (fun _ => x_fieldAddr (b := b_91) (off := 0) (o := 3) (by kernel_rfl) (by kernel_rfl)) ?_
          refine wk_store (b := b_91) (off := 3) (cs' := #[.int .i64 ((L.getD i A0).m.kind), .int .i64 1, .int .i64 0, .int .u32 7, .int .u32 ((L.getD i A0).m.seq), .slice ((L.getD i A0).m.na) ((L.getD i A0).m.N.length) ((L.getD i A0).m.nc), .slice ((L.getD i A0).m.wa) ((L.getD i A0).m.W.length) ((L.getD i A0).m.wc)]) (vs := #[.int .u32 7]) (opn (.store 27 (.tmp 102) (.const (.int .u32 7))) 0) rfl (by kernel_rfl) (by kernel_rfl) (by kernel_rfl) (by kernel_rfl) hk_121.1 (Nat.le_of_ble_eq_true rfl) (by kernel_rfl) (by kernel_rfl) (fun w_122 e_123 sz_124 hb_125 => ⟨?_, ?_⟩)
          · exact trivial
          have gx_126 : GX [10603] w_116 γ_97 w_122 γ_97 := GX.ext1 e_123 hk_121.2 (fun _ _ => rfl)
          have hk_127 : Bk γ_97 w_122 b_91 10603 (.cells #[.int .i64 ((L.getD i A0).m.kind), .int .i64 1, .int .i64 0, .int .u32 7, .int .u32 ((L.getD i A0).m.seq), .slice ((L.getD i A0).m.na) ((L.getD i A0).m.N.length) ((L.getD i A0).m.nc), .slice ((L.getD i A0).m.wa) ((L.getD i A0).m.W.length) ((L.getD i A0).m.wc)] 32 (0, 0)) := ⟨hb_125, hk_121.2⟩
          refine wk_nil ?_
          refine thn_n ?_
          refine g_seq (x := lJ3N6w4_54) (y := lJ3N6w4_55) (by kernel_rfl) ?_
          refine g_seq (x := lJ3N6w4_56) (y := lJ3N6w4_57) (by kernel_rfl) ?_
          refine g_region (ops := lJ3R6w4_17) (id := 17) (by kernel_rfl) [(0, .pure), (1, .pure), (2, .pure), (3, .pure), (4, .loud), (5, .pure)] (by kernel_rfl) (by kernel_rfl) ?_
          refine wk_pure (opd 103 (.move (.tmp 1)) 40) rfl (.slice a L.length c) (fun _ => y_move (Eq.trans (by kernel_rfl) f_46)) ?_
          refine wk_pure (opd 104 (.move (.tmp 9)) 3) rfl (.int .i64 ((i : Nat) : Int)) (fun _ => y_move (Eq.trans (by kernel_rfl) f_50)) ?_
          have hb_128 : SlG γ_97 w_122 0 10 a b off encA L := (SlG.keep (SlG.keep (SlG.keep (SlG.keep (SlG.keep hb_90 gx_100 List.not_mem_nil) gx_106 (by decide)) gx_114 (by decide)) gx_120 (by decide)) gx_126 (by decide))
          refine wk_pure (opd 105 (.indexAddr 40 (.tmp 103) (.tmp 104)) 0) rfl (.pointer (some ⟨b, off + (i * 10 + 0), none⟩)) (fun _ => y_ptr (x_indexN (a := a) (b := b) (off := off) (n := L.length) (c := c) (k := .i64) (i := ((i : Nat) : Int)) (e := 48) (sz := 10) (sz' := 10) (by kernel_rfl) hb_128.1 (by kernel_rfl) (by kernel_rfl) rfl (by omega) _) (by omega)) ?_
          refine wk_pure (opd 106 (.fieldAddr 48 (.tmp 105) 0) 0) rfl (.pointer (some ⟨b, off + (i * 10 + 0), none⟩)) (fun _ => y_ptr (x_fieldAddr (b := b) (off := (off + (i * 10 + 0))) (o := 0) (by kernel_rfl) (by kernel_rfl)) (by omega)) ?_
          refine wk_val (opd 107 (.load 3 (.tmp 106)) 3) rfl (.int .i64 ((L.getD i A0).op)) (x_load_c (b := b) (off := (off + (i * 10 + 0))) (by kernel_rfl) (by kernel_rfl) (SlE.get hb_128.1 encA_len A0 i 0 (by omega) rfl)) trivial ?_
          by_cases h_129 : (((L.getD i A0).op) : Int) = 0
          · refine wk_pure (opd 108 (.binOp .eql 3 (.tmp 107) (.const (.int .i64 0)) 3) 4) rfl (.bool true) (fun _ => y_eql (k := .i64) (a := ((L.getD i A0).op)) (b := 0) (by kernel_rfl) (by kernel_rfl) (decide_eq_true h_129)) ?_
            refine wk_nil ?_
            refine thn_n ?_
            refine g_cond_t (o := .tmp 108) (x := lJ3N6w4_58) (y := lJ3N6w4_59) (by kernel_rfl) (by kernel_rfl) ?_
            refine g_seq (x := lJ3N6w4_60) (y := lJ3N6w4_61) (by kernel_rfl) ?_
            refine g_draw (ops := lJ3R6w4_18) (id := 18) (by kernel_rfl) (fun w w' => GC [10, 10 + 1, 20, 20 + 1] γ_97 w w') [(0, .pure), (3, .pure), (1, .stab), (4, .stab), (2, .loud), (5, .loud), (6, .pure)] (by kernel_rfl) (by kernel_rfl) (fun _ => (GX.refl _ _ _).gc) (fun w_130 sm_131 => ?_)
            have gx_132 : GX [] w_122 γ_97 w_130 γ_97 := GX.same [] γ_97 sm_131
            have hsz_133 : w_130.heap.size = w_122.heap.size := by rw [sm_131.heap]
            refine wk_pure (opd 109 (.move (.tmp 5)) 23) rfl (.pointer (some ⟨p_22, 0, none⟩)) (fun _ => y_move (Eq.trans (by kernel_rfl) f_48)) ?_
            refine wk_pure (opd 112 (.move (.tmp 7)) 23) rfl (.pointer (some ⟨p_30, 0, none⟩)) (fun _ => y_move (Eq.trans (by kernel_rfl) f_49)) ?_
            refine wk_stab (opd 110 (.load 32 (.tmp 13)) 32) rfl (.agg #[.int .i64 ((L.getD i A0).m.kind), .int .i64 1, .int .i64 0, .int .u32 7, .int .u32 ((L.getD i A0).m.seq), .slice ((L.getD i A0).m.na) ((L.getD i A0).m.N.length) ((L.getD i A0).m.nc), .slice ((L.getD i A0).m.wa) ((L.getD i A0).m.W.length) ((L.getD i A0).m.wc)]) (fun w'_ g_ => x_load_agg (b := b_91) (off := 0) (n := 7) (by kernel_rfl) (by kernel_rfl) (GC.bk g_ (Bk.keep hk_127 gx_132 List.not_mem_nil) (by simp only [List.mem_cons, List.not_mem_nil, or_false]; omega)) (Nat.le_of_ble_eq_true rfl) (by kernel_rfl)) ?_
            refine wk_stab (opd 113 (.load 32 (.tmp 13)) 32) rfl (.agg #[.int .i64 ((L.getD i A0).m.kind), .int .i64 1, .int .i64 0, .int .u32 7, .int .u32 ((L.getD i A0).m.seq), .slice ((L.getD i A0).m.na) ((L.getD i A0).m.N.length) ((L.getD i A0).m.nc), .slice ((L.getD i A0).m.wa) ((L.getD i A0).m.W.length) ((L.getD i A0).m.wc)]) (fun w'_ g_ => x_load_agg (b := b_91) (off := 0) (n := 7) (by kernel_rfl) (by kernel_rfl) (GC.bk g_ (Bk.keep hk_127 gx_132 List.not_mem_nil) (by simp only [List.mem_cons, List.not_mem_nil, or_false]; omega)) (Nat.le_of_ble_eq_true rfl) (by kernel_rfl)) ?_
            have hb_135 : AllA γ_97 w_130 L := (AllA.keep (AllA.keep (AllA.keep (AllA.keep (AllA.keep (AllA.keep (AllA.keep hr_53 gx_68 (by decide)) gx_100 List.not_mem_nil) gx_106 (by decide)) gx_114 (by decide)) gx_120 (by decide)) gx_126 (by decide)) gx_132 List.not_mem_nil)
            have hA_134 := AllA.get hb_135 (by omega : i < L.length); have hA_134_v := hA_134.1.v0; have hA_134_s := hA_134.1.s0; have hA_134_n := hA_134.2
            have hm_136 : MOk γ_97 w_130 (⟨((L.getD i A0).m.kind), 1, 0, 7, ((L.getD i A0).m.seq), ((L.getD i A0).m.na), (L.getD i A0).m.nb, ((L.getD i A0).m.noff), ((L.getD i A0).m.nc), ((L.getD i A0).m.N), ((L.getD i A0).m.wa), (L.getD i A0).m.wb, ((L.getD i A0).m.woff), ((L.getD i A0).m.wc), ((L.getD i A0).m.W)⟩ : MsgR) := ⟨(AllA.get hb_135 (by omega : i < L.length)).1.n, (AllA.get hb_135 (by omega : i < L.length)).1.w, (by show (0 : Int) ≤ 7 ∧ (7 : Int) < 4294967296; omega), (by show (0 : Int) ≤ ((L.getD i A0).m.seq) ∧ (((L.getD i A0).m.seq) : Int) < 4294967296; omega), ((MIn.ok (AllA.get hb_135 (by omega : i < L.length)).1 (by omega) (by omega))).nr, ((MIn.ok (AllA.get hb_135 (by omega : i < L.length)).1 (by omega) (by omega))).nl, ((MIn.ok (AllA.get hb_135 (by omega : i < L.length)).1 (by omega) (by omega))).wl⟩
            obtain ⟨l_137, e_138, hq_139⟩ : ∃ l_ e_, pushP s (⟨((L.getD i A0).m.kind), 1, 0, 7, ((L.getD i A0).m.seq), ((L.getD i A0).m.N), ((L.getD i A0).m.W)⟩ : Msg) = (l_, e_) := ⟨_, _, rfl⟩
            have hk_l_137 := push_keeps hq_139
            have hb_140 : LkAt γ_97 w_130 10 p_22 s := (LkAt.keep (LkAt.keep (LkAt.keep (LkAt.keep (LkAt.keep (LkAt.keep hL_75 gx_100 List.not_mem_nil List.not_mem_nil List.not_mem_nil List.not_mem_nil) gx_106 (by decide) (by decide) (by decide) (by decide)) gx_114 (by decide) (by decide) (by decide) (by decide)) gx_120 (by decide) (by decide) (by decide) (by decide)) gx_126 (by decide) (by decide) (by decide) (by decide)) gx_132 List.not_mem_nil List.not_mem_nil List.not_mem_nil List.not_mem_nil)
            refine wk_call (opd 111 (.call ⟨.value (.func 9), #[.tmp 109, .tmp 110], #[23, 32]⟩) 24) rfl 9 #[.pointer (some ⟨p_22, 0, none⟩), .agg #[.int .i64 ((L.getD i A0).m.kind), .int .i64 1, .int .i64 0, .int .u32 7, .int .u32 ((L.getD i A0).m.seq), .slice ((L.getD i A0).m.na) ((L.getD i A0).m.N.length) ((L.getD i A0).m.nc), .slice ((L.getD i A0).m.wa) ((L.getD i A0).m.W.length) ((L.getD i A0).m.wc)]] (x_call Try.func9 (by kernel_rfl) (c := (Try.f9.body).getD .skip) (by kernel_rfl) (by kernel_rfl) (by kernel_rfl)) (push_q (m := (⟨((L.getD i A0).m.kind), 1, 0, 7, ((L.getD i A0).m.seq), ((L.getD i A0).m.na), (L.getD i A0).m.nb, ((L.getD i A0).m.noff), ((L.getD i A0).m.nc), ((L.getD i A0).m.N), ((L.getD i A0).m.wa), (L.getD i A0).m.wb, ((L.getD i A0).m.woff), ((L.getD i A0).m.wc), ((L.getD i A0).m.W)⟩ : MsgR)) hq_139 rfl hb_140 (by omega) hm_136 (fun w_141 γ_142 gx_143 hL_144 => ⟨?_, ?_⟩))
            · exact (GX.trans (GX.refl [10, 10 + 1, 20, 20 + 1] _ _) gx_143 (by intro c_ hc_; simp only [List.mem_cons, List.not_mem_nil, or_false] at hc_ ⊢; omega)).gc
            have hsz_145 : w_130.heap.size ≤ w_141.heap.size := gx_143.size
            have hL_146 : LkAt γ_142 w_141 10 p_22 l_137 := hL_144
            have hb_148 : AllA γ_142 w_141 L := (AllA.keep hb_135 gx_143 (by decide))
            have hA_147 := AllA.get hb_148 (by omega : i < L.length); have hA_147_v := hA_147.1.v0; have hA_147_s := hA_147.1.s0; have hA_147_n := hA_147.2
            have hb_149 : SlG γ_142 w_141 0 1 ((L.getD i A0).m.na) (L.getD i A0).m.nb ((L.getD i A0).m.noff) encI ((L.getD i A0).m.N) := (SlG.keep (AllA.get hb_135 (by omega : i < L.length)).1.n gx_143 (by decide))
            have hb_150 : SlG γ_142 w_141 0 2 ((L.getD i A0).m.wa) (L.getD i A0).m.wb ((L.getD i A0).m.woff) encW ((L.getD i A0).m.W) := (SlG.keep (AllA.get hb_135 (by omega : i < L.length)).1.w gx_143 (by decide))
            have hm_151 : MOk γ_142 w_141 (⟨((L.getD i A0).m.kind), 1, 0, 7, ((L.getD i A0).m.seq), ((L.getD i A0).m.na), (L.getD i A0).m.nb, ((L.getD i A0).m.noff), ((L.getD i A0).m.nc), ((L.getD i A0).m.N), ((L.getD i A0).m.wa), (L.getD i A0).m.wb, ((L.getD i A0).m.woff), ((L.getD i A0).m.wc), ((L.getD i A0).m.W)⟩ : MsgR) := ⟨hb_149, hb_150, (by show (0 : Int) ≤ 7 ∧ (7 : Int) < 4294967296; omega), (by show (0 : Int) ≤ ((L.getD i A0).m.seq) ∧ (((L.getD i A0).m.seq) : Int) < 4294967296; omega), ((MIn.ok (AllA.get hb_148 (by omega : i < L.length)).1 (by omega) (by omega))).nr, ((MIn.ok (AllA.get hb_148 (by omega : i < L.length)).1 (by omega) (by omega))).nl, ((MIn.ok (AllA.get hb_148 (by omega : i < L.length)).1 (by omega) (by omega))).wl⟩
            have hb_152 : LkAt γ_142 w_141 20 p_30 s := (LkAt.keep (LkAt.keep (LkAt.keep (LkAt.keep (LkAt.keep (LkAt.keep (LkAt.keep (LkAt.keep hr_56 gx_68 (by decide) (by decide) (by decide) (by decide)) gx_100 List.not_mem_nil List.not_mem_nil List.not_mem_nil List.not_mem_nil) gx_106 (by decide) (by decide) (by decide) (by decide)) gx_114 (by decide) (by decide) (by decide) (by decide)) gx_120 (by decide) (by decide) (by decide) (by decide)) gx_126 (by decide) (by decide) (by decide) (by decide)) gx_132 List.not_mem_nil List.not_mem_nil List.not_mem_nil List.not_mem_nil) gx_143 (by decide) (by decide) (by decide) (by decide))
            refine wk_call (opd 114 (.call ⟨.value (.func 9), #[.tmp 112, .tmp 113], #[23, 32]⟩) 24) rfl 9 #[.pointer (some ⟨p_30, 0, none⟩), .agg #[.int .i64 ((L.getD i A0).m.kind), .int .i64 1, .int .i64 0, .int .u32 7, .int .u32 ((L.getD i A0).m.seq), .slice ((L.getD i A0).m.na) ((L.getD i A0).m.N.length) ((L.getD i A0).m.nc), .slice ((L.getD i A0).m.wa) ((L.getD i A0).m.W.length) ((L.getD i A0).m.wc)]] (x_call Try.func9 (by kernel_rfl) (c := (Try.f9.body).getD .skip) (by kernel_rfl) (by kernel_rfl) (by kernel_rfl)) (push_q (m := (⟨((L.getD i A0).m.kind), 1, 0, 7, ((L.getD i A0).m.seq), ((L.getD i A0).m.na), (L.getD i A0).m.nb, ((L.getD i A0).m.noff), ((L.getD i A0).m.nc), ((L.getD i A0).m.N), ((L.getD i A0).m.wa), (L.getD i A0).m.wb, ((L.getD i A0).m.woff), ((L.getD i A0).m.wc), ((L.getD i A0).m.W)⟩ : MsgR)) hq_139 rfl hb_152 (by omega) hm_151 (fun w_153 γ_154 gx_155 hL_156 => ⟨?_, ?_⟩))
            · exact (GX.trans (GX.trans (GX.refl [10, 10 + 1, 20, 20 + 1] _ _) gx_143 (by intro c_ hc_; simp only [List.mem_cons, List.not_mem_nil, or_false] at hc_ ⊢; omega)) gx_155 (by intro c_ hc_; simp only [List.mem_cons, List.not_mem_nil, or_false] at hc_ ⊢; omega)).gc
            have hsz_157 : w_141.heap.size ≤ w_153.heap.size := gx_155.size
            have hL_158 : LkAt γ_154 w_153 20 p_30 l_137 := hL_156
            refine wk_pure (opd 115 (.binOp .neq 24 (.tmp 111) (.tmp 114) 24) 4) rfl (.bool false) (fun _ => y_neq (k := .i64) (a := e_138) (b := e_138) (by kernel_rfl) (by kernel_rfl) (decide_eq_false (by first | omega | (intro h_; exact h_ rfl)))) ?_
            refine wk_nil ?_
            refine thn_n ?_
            refine g_cond_f (o := .tmp 115) (x := lJ3N6w4_62) (y := lJ3N6w4_63) (by kernel_rfl) (by kernel_rfl) ?_
            refine g_skip (by kernel_rfl) ?_
            refine thn_n ?_
            refine g_seq (x := lJ3N6w4_64) (y := lJ3N6w4_65) (by kernel_rfl) ?_
            refine g_region (ops := lJ3R6w4_27) (id := 27) (by kernel_rfl) [(0, .pure), (1, .loud), (2, .pure), (3, .loud), (4, .pure), (5, .pure), (6, .pure), (7, .loud), (8, .pure), (9, .loud), (10, .pure), (11, .pure), (12, .pure), (13, .pure), (14, .loud), (15, .pure), (16, .loud), (17, .pure), (18, .pure)] (by kernel_rfl) (by kernel_rfl) ?_
            refine wk_pure (opd 156 (.move (.tmp 5)) 23) rfl (.pointer (some ⟨p_22, 0, none⟩)) (fun _ => y_move (Eq.trans (by kernel_rfl) f_48)) ?_
            have hb_159 : LkAt γ_154 w_153 10 p_22 l_137 := (LkAt.keep hL_146 gx_155 (by decide) (by decide) (by decide) (by decide))
            refine wk_call (opd 157 (.call ⟨.value (.func 12), #[.tmp 156], #[23]⟩) 3) rfl 12 #[.pointer (some ⟨p_22, 0, none⟩)] (x_call Try.func12 (by kernel_rfl) (c := (Try.f12.body).getD .skip) (by kernel_rfl) (by kernel_rfl) (by kernel_rfl)) (waiting_p hb_159 (by omega) (fun w_160 sm_161 => ⟨?_, ?_⟩))
            · exact trivial
            have gx_162 : GX [] w_153 γ_154 w_160 γ_154 := GX.same [] γ_154 sm_161
            have hsz_163 : w_160.heap.size = w_153.heap.size := by rw [sm_161.heap]
            refine wk_pure (opd 158 (.move (.tmp 7)) 23) rfl (.pointer (some ⟨p_30, 0, none⟩)) (fun _ => y_move (Eq.trans (by kernel_rfl) f_49)) ?_
            have hb_164 : LkAt γ_154 w_160 20 p_30 l_137 := (LkAt.keep hL_158 gx_162 List.not_mem_nil List.not_mem_nil List.not_mem_nil List.not_mem_nil)
            refine wk_call (opd 159 (.call ⟨.value (.func 12), #[.tmp 158], #[23]⟩) 3) rfl 12 #[.pointer (some ⟨p_30, 0, none⟩)] (x_call Try.func12 (by kernel_rfl) (c := (Try.f12.body).getD .skip) (by kernel_rfl) (by kernel_rfl) (by kernel_rfl)) (waiting_p hb_164 (by omega) (fun w_165 sm_166 => ⟨?_, ?_⟩))
            · exact trivial
            have gx_167 : GX [] w_160 γ_154 w_165 γ_154 := GX.same [] γ_154 sm_166
            have hsz_168 : w_165.heap.size = w_160.heap.size := by rw [sm_166.heap]
            refine wk_pure (opd 160 (.binOp .neq 3 (.tmp 157) (.tmp 159) 3) 4) rfl (.bool false) (fun _ => y_neq (k := .i64) (a := ((l_137.out.length : Nat) : Int)) (b := ((l_137.out.length : Nat) : Int)) (by kernel_rfl) (by kernel_rfl) (decide_eq_false (by first | omega | (intro h_; exact h_ rfl)))) ?_
            refine wk_pure (opd 161 (.move (.tmp 160)) 4) rfl (.bool false) (fun _ => y_move (by kernel_rfl)) ?_
            refine wk_pure (opg 162 (.move (.tmp 5)) 23 5 false) (by kernel_rfl) (.pointer (some ⟨p_22, 0, none⟩)) (fun _ => y_move (Eq.trans (by kernel_rfl) f_48)) ?_
            have hb_169 : LkAt γ_154 w_165 10 p_22 l_137 := (LkAt.keep (LkAt.keep hb_159 gx_162 List.not_mem_nil List.not_mem_nil List.not_mem_nil List.not_mem_nil) gx_167 List.not_mem_nil List.not_mem_nil List.not_mem_nil List.not_mem_nil)
            refine wk_call (opg 163 (.call ⟨.value (.func 13), #[.tmp 162], #[23]⟩) 3 5 false) (by kernel_rfl) 13 #[.pointer (some ⟨p_22, 0, none⟩)] (x_call Try.func13 (by kernel_rfl) (c := (Try.f13.body).getD .skip) (by kernel_rfl) (by kernel_rfl) (by kernel_rfl)) (ahead_p hb_169 (by omega) (fun w_170 sm_171 => ⟨?_, ?_⟩))
            · exact trivial
            have gx_172 : GX [] w_165 γ_154 w_170 γ_154 := GX.same [] γ_154 sm_171
            have hsz_173 : w_170.heap.size = w_165.heap.size := by rw [sm_171.heap]
            refine wk_pure (opg 164 (.move (.tmp 7)) 23 5 false) (by kernel_rfl) (.pointer (some ⟨p_30, 0, none⟩)) (fun _ => y_move (Eq.trans (by kernel_rfl) f_49)) ?_
            have hb_174 : LkAt γ_154 w_170 20 p_30 l_137 := (LkAt.keep (LkAt.keep hb_164 gx_167 List.not_mem_nil List.not_mem_nil List.not_mem_nil List.not_mem_nil) gx_172 List.not_mem_nil List.not_mem_nil List.not_mem_nil List.not_mem_nil)
            refine wk_call (opg 165 (.call ⟨.value (.func 13), #[.tmp 164], #[23]⟩) 3 5 false) (by kernel_rfl) 13 #[.pointer (some ⟨p_30, 0, none⟩)] (x_call Try.func13 (by kernel_rfl) (c := (Try.f13.body).getD .skip) (by kernel_rfl) (by kernel_rfl) (by kernel_rfl)) (ahead_p hb_174 (by omega) (fun w_175 sm_176 => ⟨?_, ?_⟩))
            · exact trivial
            have gx_177 : GX [] w_170 γ_154 w_175 γ_154 := GX.same [] γ_154 sm_176
            have hsz_178 : w_175.heap.size = w_170.heap.size := by rw [sm_176.heap]
            refine wk_pure (opg 166 (.binOp .neq 3 (.tmp 163) (.tmp 165) 3) 4 5 false) (by kernel_rfl) (.bool false) (fun _ => y_neq (k := .i64) (a := ((l_137.held.length : Nat) : Int)) (b := ((l_137.held.length : Nat) : Int)) (by kernel_rfl) (by kernel_rfl) (decide_eq_false (by first | omega | (intro h_; exact h_ rfl)))) ?_
            refine wk_pure (opd 167 (.pick (.tmp 161) (.const (.bool true)) (.tmp 166)) 4) rfl (.bool false) (fun _ => y_pick_f (by kernel_rfl) (by kernel_rfl)) ?_
            refine wk_pure (opd 168 (.move (.tmp 167)) 4) rfl (.bool false) (fun _ => y_move (by kernel_rfl)) ?_
            refine wk_pure (opg 169 (.move (.tmp 5)) 23 12 false) (by kernel_rfl) (.pointer (some ⟨p_22, 0, none⟩)) (fun _ => y_move (Eq.trans (by kernel_rfl) f_48)) ?_
            have hb_179 : LkAt γ_154 w_175 10 p_22 l_137 := (LkAt.keep (LkAt.keep hb_169 gx_172 List.not_mem_nil List.not_mem_nil List.not_mem_nil List.not_mem_nil) gx_177 List.not_mem_nil List.not_mem_nil List.not_mem_nil List.not_mem_nil)
            refine wk_call (opg 170 (.call ⟨.value (.func 14), #[.tmp 169], #[23]⟩) 27 12 false) (by kernel_rfl) 14 #[.pointer (some ⟨p_22, 0, none⟩)] (x_call Try.func14 (by kernel_rfl) (c := (Try.f14.body).getD .skip) (by kernel_rfl) (by kernel_rfl) (by kernel_rfl)) (next_p hb_179 (by omega) (fun w_180 sm_181 => ⟨?_, ?_⟩))
            · exact trivial
            have gx_182 : GX [] w_175 γ_154 w_180 γ_154 := GX.same [] γ_154 sm_181
            have hsz_183 : w_180.heap.size = w_175.heap.size := by rw [sm_181.heap]
            refine wk_pure (opg 171 (.move (.tmp 7)) 23 12 false) (by kernel_rfl) (.pointer (some ⟨p_30, 0, none⟩)) (fun _ => y_move (Eq.trans (by kernel_rfl) f_49)) ?_
            have hb_184 : LkAt γ_154 w_180 20 p_30 l_137 := (LkAt.keep (LkAt.keep hb_174 gx_177 List.not_mem_nil List.not_mem_nil List.not_mem_nil List.not_mem_nil) gx_182 List.not_mem_nil List.not_mem_nil List.not_mem_nil List.not_mem_nil)
            refine wk_call (opg 172 (.call ⟨.value (.func 14), #[.tmp 171], #[23]⟩) 27 12 false) (by kernel_rfl) 14 #[.pointer (some ⟨p_30, 0, none⟩)] (x_call Try.func14 (by kernel_rfl) (c := (Try.f14.body).getD .skip) (by kernel_rfl) (by kernel_rfl) (by kernel_rfl)) (next_p hb_184 (by omega) (fun w_185 sm_186 => ⟨?_, ?_⟩))
            · exact trivial
            have gx_187 : GX [] w_180 γ_154 w_185 γ_154 := GX.same [] γ_154 sm_186
            have hsz_188 : w_185.heap.size = w_180.heap.size := by rw [sm_186.heap]
            refine wk_pure (opg 173 (.binOp .neq 27 (.tmp 170) (.tmp 172) 27) 4 12 false) (by kernel_rfl) (.bool false) (fun _ => y_neq (k := .u32) (a := l_137.next) (b := l_137.next) (by kernel_rfl) (by kernel_rfl) (decide_eq_false (by first | omega | (intro h_; exact h_ rfl)))) ?_
            refine wk_pure (opd 174 (.pick (.tmp 168) (.const (.bool true)) (.tmp 173)) 4) rfl (.bool false) (fun _ => y_pick_f (by kernel_rfl) (by kernel_rfl)) ?_
            refine wk_nil ?_
            refine thn_n ?_
            refine g_cond_f (o := .tmp 174) (x := lJ3N6w4_66) (y := lJ3N6w4_67) (by kernel_rfl) (by kernel_rfl) ?_
            refine g_skip (by kernel_rfl) ?_
            refine blk_n ?_
            refine thn_n ?_
            refine g_region (ops := lJ3R6w4_9) (id := 9) (by kernel_rfl) [(0, .pure), (1, .pure), (2, .pure)] (by kernel_rfl) (by kernel_rfl) ?_
            refine wk_pure (opd 64 (.move (.tmp 9)) 3) rfl (.int .i64 ((i : Nat) : Int)) (fun _ => y_move (Eq.trans (by kernel_rfl) f_50)) ?_
            refine wk_pure (opd 65 (.binOp .add 3 (.tmp 64) (.const (.int .i64 1)) 3) 3) rfl (.int .i64 ((i + 1 : Nat) : Int)) (fun _ => y_add (k := .i64) (a := ((i : Nat) : Int)) (b := 1) (by kernel_rfl) (by kernel_rfl) (i64_to (by omega) (by omega))) ?_
            refine wk_pure (opd 9 (.assign (.tmp 65)) 3) rfl (.int .i64 ((i + 1 : Nat) : Int)) (fun _ => y_assign (by kernel_rfl)) ?_
            refine wk_nil ?_
            refine thn_n ?_
            have hb_189 : MIn γ_154 w_185 m := (MIn.keep (MIn.keep (MIn.keep (MIn.keep (MIn.keep (MIn.keep (MIn.keep (MIn.keep (MIn.keep (MIn.keep (MIn.keep (MIn.keep (MIn.keep (MIn.keep (MIn.keep hr_51 gx_68 (by decide)) gx_100 List.not_mem_nil) gx_106 (by decide)) gx_114 (by decide)) gx_120 (by decide)) gx_126 (by decide)) gx_132 List.not_mem_nil) gx_143 (by decide)) gx_155 (by decide)) gx_162 List.not_mem_nil) gx_167 List.not_mem_nil) gx_172 List.not_mem_nil) gx_177 List.not_mem_nil) gx_182 List.not_mem_nil) gx_187 List.not_mem_nil)
            have hb_190 : SlG γ_154 w_185 0 10 a b off encA L := (SlG.keep (SlG.keep (SlG.keep (SlG.keep (SlG.keep (SlG.keep (SlG.keep (SlG.keep (SlG.keep hb_128 gx_132 List.not_mem_nil) gx_143 (by decide)) gx_155 (by decide)) gx_162 List.not_mem_nil) gx_167 List.not_mem_nil) gx_172 List.not_mem_nil) gx_177 List.not_mem_nil) gx_182 List.not_mem_nil) gx_187 List.not_mem_nil)
            have hb_191 : AllA γ_154 w_185 L := (AllA.keep (AllA.keep (AllA.keep (AllA.keep (AllA.keep (AllA.keep (AllA.keep hb_148 gx_155 (by decide)) gx_162 List.not_mem_nil) gx_167 List.not_mem_nil) gx_172 List.not_mem_nil) gx_177 List.not_mem_nil) gx_182 List.not_mem_nil) gx_187 List.not_mem_nil)
            have hb_192 : Bk γ_154 w_185 b_1 10601 (.cells #[.int .i64 m.kind, .int .i64 m.frm, .int .i64 m.to, .int .u32 m.view, .int .u32 m.seq, .slice m.na m.N.length m.nc, .slice m.wa m.W.length m.wc] 32 (0, 0)) := (Bk.keep (Bk.keep (Bk.keep (Bk.keep (Bk.keep (Bk.keep (Bk.keep (Bk.keep (Bk.keep (Bk.keep (Bk.keep (Bk.keep (Bk.keep (Bk.keep (Bk.keep hr_54 gx_68 (by decide)) gx_100 List.not_mem_nil) gx_106 (by decide)) gx_114 (by decide)) gx_120 (by decide)) gx_126 (by decide)) gx_132 List.not_mem_nil) gx_143 (by decide)) gx_155 (by decide)) gx_162 List.not_mem_nil) gx_167 List.not_mem_nil) gx_172 List.not_mem_nil) gx_177 List.not_mem_nil) gx_182 List.not_mem_nil) gx_187 List.not_mem_nil)
            have hb_193 : LkAt γ_154 w_185 10 p_22 l_137 := (LkAt.keep (LkAt.keep hb_179 gx_182 List.not_mem_nil List.not_mem_nil List.not_mem_nil List.not_mem_nil) gx_187 List.not_mem_nil List.not_mem_nil List.not_mem_nil List.not_mem_nil)
            have hb_194 : LkAt γ_154 w_185 20 p_30 l_137 := (LkAt.keep hb_184 gx_187 List.not_mem_nil List.not_mem_nil List.not_mem_nil List.not_mem_nil)
            exact ⟨_, (by omega), ⟨(i + 1), l_137, _, rfl, by omega, by omega, by omega, by omega, by omega, (Eq.trans (by kernel_rfl) f_46), (Eq.trans (by kernel_rfl) f_47), (Eq.trans (by kernel_rfl) f_48), (Eq.trans (by kernel_rfl) f_49), (by kernel_rfl), hb_189, hb_190, hb_191, hb_192, hb_193, hb_194, (GX.then_same (GX.then_same (GX.then_same (GX.then_same (GX.then_same (GX.then_same (GX.trans (GX.trans (GX.then_same (GX.thenNew (GX.thenNew (GX.thenNew (GX.thenNew (GX.then0 (GX.trans hE_44 gx_68 (by intro c_ hc_; simp only [List.mem_cons, List.not_mem_nil, or_false] at hc_ ⊢; omega)) e_93 hg_98) e_103 (by intro y_ hy_; simp only [List.mem_cons, List.not_mem_nil, or_false] at hy_; omega) (fun _ _ => rfl)) e_111 (by intro y_ hy_; simp only [List.mem_cons, List.not_mem_nil, or_false] at hy_; omega) (fun _ _ => rfl)) e_117 (by intro y_ hy_; simp only [List.mem_cons, List.not_mem_nil, or_false] at hy_; omega) (fun _ _ => rfl)) e_123 (by intro y_ hy_; simp only [List.mem_cons, List.not_mem_nil, or_false] at hy_; omega) (fun _ _ => rfl)) sm_131) gx_143 (by intro c_ hc_; simp only [List.mem_cons, List.not_mem_nil, or_false] at hc_ ⊢; omega)) gx_155 (by intro c_ hc_; simp only [List.mem_cons, List.not_mem_nil, or_false] at hc_ ⊢; omega)) sm_161) sm_166) sm_171) sm_176) sm_181) sm_186)⟩⟩
          · refine wk_pure (opd 108 (.binOp .eql 3 (.tmp 107) (.const (.int .i64 0)) 3) 4) rfl (.bool false) (fun _ => y_eql (k := .i64) (a := ((L.getD i A0).op)) (b := 0) (by kernel_rfl) (by kernel_rfl) (decide_eq_false h_129)) ?_
            refine wk_nil ?_
            refine thn_n ?_
            refine g_cond_f (o := .tmp 108) (x := lJ3N6w4_58) (y := lJ3N6w4_59) (by kernel_rfl) (by kernel_rfl) ?_
            refine g_seq (x := lJ3N6w4_68) (y := lJ3N6w4_69) (by kernel_rfl) ?_
            refine g_region (ops := lJ3R6w4_20) (id := 20) (by kernel_rfl) [(0, .pure), (1, .pure), (2, .pure), (3, .pure), (4, .loud), (5, .pure)] (by kernel_rfl) (by kernel_rfl) ?_
            refine wk_pure (opd 116 (.move (.tmp 1)) 40) rfl (.slice a L.length c) (fun _ => y_move (Eq.trans (by kernel_rfl) f_46)) ?_
            refine wk_pure (opd 117 (.move (.tmp 9)) 3) rfl (.int .i64 ((i : Nat) : Int)) (fun _ => y_move (Eq.trans (by kernel_rfl) f_50)) ?_
            refine wk_pure (opd 118 (.indexAddr 40 (.tmp 116) (.tmp 117)) 0) rfl (.pointer (some ⟨b, off + (i * 10 + 0), none⟩)) (fun _ => y_ptr (x_indexN (a := a) (b := b) (off := off) (n := L.length) (c := c) (k := .i64) (i := ((i : Nat) : Int)) (e := 48) (sz := 10) (sz' := 10) (by kernel_rfl) hb_128.1 (by kernel_rfl) (by kernel_rfl) rfl (by omega) _) (by omega)) ?_
            refine wk_pure (opd 119 (.fieldAddr 48 (.tmp 118) 0) 0) rfl (.pointer (some ⟨b, off + (i * 10 + 0), none⟩)) (fun _ => y_ptr (x_fieldAddr (b := b) (off := (off + (i * 10 + 0))) (o := 0) (by kernel_rfl) (by kernel_rfl)) (by omega)) ?_
            refine wk_val (opd 120 (.load 3 (.tmp 119)) 3) rfl (.int .i64 ((L.getD i A0).op)) (x_load_c (b := b) (off := (off + (i * 10 + 0))) (by kernel_rfl) (by kernel_rfl) (SlE.get hb_128.1 encA_len A0 i 0 (by omega) rfl)) trivial ?_
            by_cases h_195 : (((L.getD i A0).op) : Int) = 1
            · refine wk_pure (opd 121 (.binOp .eql 3 (.tmp 120) (.const (.int .i64 1)) 3) 4) rfl (.bool true) (fun _ => y_eql (k := .i64) (a := ((L.getD i A0).op)) (b := 1) (by kernel_rfl) (by kernel_rfl) (decide_eq_true h_195)) ?_
              refine wk_nil ?_
              refine thn_n ?_
              refine g_cond_t (o := .tmp 121) (x := lJ3N6w4_70) (y := lJ3N6w4_71) (by kernel_rfl) (by kernel_rfl) ?_
              refine g_seq (x := lJ3N6w4_72) (y := lJ3N6w4_73) (by kernel_rfl) ?_
              refine g_draw (ops := lJ3R6w4_21) (id := 21) (by kernel_rfl) (fun w w' => GC [10, 10 + 1, 20, 20 + 1] γ_97 w w') [(0, .pure), (1, .pure), (2, .pure), (3, .pure), (4, .pure), (8, .pure), (9, .pure), (10, .pure), (11, .pure), (12, .pure), (5, .stab), (13, .stab), (6, .loud), (7, .pure), (14, .loud), (15, .pure), (16, .pure)] (by kernel_rfl) (by kernel_rfl) (fun _ => (GX.refl _ _ _).gc) (fun w_196 sm_197 => ?_)
              have gx_198 : GX [] w_122 γ_97 w_196 γ_97 := GX.same [] γ_97 sm_197
              have hsz_199 : w_196.heap.size = w_122.heap.size := by rw [sm_197.heap]
              refine wk_pure (opd 122 (.move (.tmp 5)) 23) rfl (.pointer (some ⟨p_22, 0, none⟩)) (fun _ => y_move (Eq.trans (by kernel_rfl) f_48)) ?_
              refine wk_pure (opd 123 (.move (.tmp 1)) 40) rfl (.slice a L.length c) (fun _ => y_move (Eq.trans (by kernel_rfl) f_46)) ?_
              refine wk_pure (opd 124 (.move (.tmp 9)) 3) rfl (.int .i64 ((i : Nat) : Int)) (fun _ => y_move (Eq.trans (by kernel_rfl) f_50)) ?_
              have hb_200 : SlG γ_97 w_196 0 10 a b off encA L := (SlG.keep hb_128 gx_198 List.not_mem_nil)
              refine wk_pure (opd 125 (.indexAddr 40 (.tmp 123) (.tmp 124)) 0) rfl (.pointer (some ⟨b, off + (i * 10 + 0), none⟩)) (fun _ => y_ptr (x_indexN (a := a) (b := b) (off := off) (n := L.length) (c := c) (k := .i64) (i := ((i : Nat) : Int)) (e := 48) (sz := 10) (sz' := 10) (by kernel_rfl) hb_200.1 (by kernel_rfl) (by kernel_rfl) rfl (by omega) _) (by omega)) ?_
              refine wk_pure (opd 126 (.fieldAddr 48 (.tmp 125) 3) 0) rfl (.pointer (some ⟨b, off + (i * 10 + 9), none⟩)) (fun _ => y_ptr (x_fieldAddr (b := b) (off := (off + (i * 10 + 0))) (o := 9) (by kernel_rfl) (by kernel_rfl)) (by omega)) ?_
              refine wk_pure (opd 130 (.move (.tmp 7)) 23) rfl (.pointer (some ⟨p_30, 0, none⟩)) (fun _ => y_move (Eq.trans (by kernel_rfl) f_49)) ?_
              refine wk_pure (opd 131 (.move (.tmp 1)) 40) rfl (.slice a L.length c) (fun _ => y_move (Eq.trans (by kernel_rfl) f_46)) ?_
              refine wk_pure (opd 132 (.move (.tmp 9)) 3) rfl (.int .i64 ((i : Nat) : Int)) (fun _ => y_move (Eq.trans (by kernel_rfl) f_50)) ?_
              refine wk_pure (opd 133 (.indexAddr 40 (.tmp 131) (.tmp 132)) 0) rfl (.pointer (some ⟨b, off + (i * 10 + 0), none⟩)) (fun _ => y_ptr (x_indexN (a := a) (b := b) (off := off) (n := L.length) (c := c) (k := .i64) (i := ((i : Nat) : Int)) (e := 48) (sz := 10) (sz' := 10) (by kernel_rfl) hb_200.1 (by kernel_rfl) (by kernel_rfl) rfl (by omega) _) (by omega)) ?_
              refine wk_pure (opd 134 (.fieldAddr 48 (.tmp 133) 3) 0) rfl (.pointer (some ⟨b, off + (i * 10 + 9), none⟩)) (fun _ => y_ptr (x_fieldAddr (b := b) (off := (off + (i * 10 + 0))) (o := 9) (by kernel_rfl) (by kernel_rfl)) (by omega)) ?_
              refine wk_stab (opd 127 (.load 2 (.tmp 126)) 2) rfl (.int .i64 ((L.getD i A0).now)) (fun w'_ g_ => x_load_c (b := b) (off := (off + (i * 10 + 9))) (by kernel_rfl) (by kernel_rfl) (SlE.get (GC.sl g_ hb_200 (by simp only [List.mem_cons, List.not_mem_nil, or_false]; omega)) encA_len A0 i 9 (by omega) rfl)) ?_
              refine wk_stab (opd 135 (.load 2 (.tmp 134)) 2) rfl (.int .i64 ((L.getD i A0).now)) (fun w'_ g_ => x_load_c (b := b) (off := (off + (i * 10 + 9))) (by kernel_rfl) (by kernel_rfl) (SlE.get (GC.sl g_ hb_200 (by simp only [List.mem_cons, List.not_mem_nil, or_false]; omega)) encA_len A0 i 9 (by omega) rfl)) ?_
              have hb_202 : AllA γ_97 w_196 L := (AllA.keep (AllA.keep (AllA.keep (AllA.keep (AllA.keep (AllA.keep (AllA.keep hr_53 gx_68 (by decide)) gx_100 List.not_mem_nil) gx_106 (by decide)) gx_114 (by decide)) gx_120 (by decide)) gx_126 (by decide)) gx_198 List.not_mem_nil)
              have hA_201 := AllA.get hb_202 (by omega : i < L.length); have hA_201_v := hA_201.1.v0; have hA_201_s := hA_201.1.s0; have hA_201_n := hA_201.2
              obtain ⟨l_203, po_204, hq_205⟩ : ∃ l_ e_, tickP s ((L.getD i A0).now) = (l_, e_) := ⟨_, _, rfl⟩
              have hk_l_203 := tick_keeps hq_205
              have hb_206 : LkAt γ_97 w_196 10 p_22 s := (LkAt.keep (LkAt.keep (LkAt.keep (LkAt.keep (LkAt.keep (LkAt.keep hL_75 gx_100 List.not_mem_nil List.not_mem_nil List.not_mem_nil List.not_mem_nil) gx_106 (by decide) (by decide) (by decide) (by decide)) gx_114 (by decide) (by decide) (by decide) (by decide)) gx_120 (by decide) (by decide) (by decide) (by decide)) gx_126 (by decide) (by decide) (by decide) (by decide)) gx_198 List.not_mem_nil List.not_mem_nil List.not_mem_nil List.not_mem_nil)
              refine wk_call (opd 128 (.call ⟨.value (.func 10), #[.tmp 122, .tmp 127], #[23, 2]⟩) 33) rfl 10 #[.pointer (some ⟨p_22, 0, none⟩), .int .i64 ((L.getD i A0).now)] (x_call Try.func10 (by kernel_rfl) (c := (Try.f10.body).getD .skip) (by kernel_rfl) (by kernel_rfl) (by kernel_rfl)) (tick_q (now := ((L.getD i A0).now)) hq_205 hb_206 (by omega) (by omega) (fun w_207 γ_208 v_209 outs_210 gx_211 hM_212 hL_213 ho_214 => ⟨?_, ?_⟩))
              · exact (GX.trans (GX.refl [10, 10 + 1, 20, 20 + 1] _ _) gx_211 (by intro c_ hc_; simp only [List.mem_cons, List.not_mem_nil, or_false] at hc_ ⊢; omega)).gc
              have hsz_215 : w_196.heap.size ≤ w_207.heap.size := gx_211.size
              have hL_216 : LkAt γ_208 w_207 10 p_22 l_203 := hL_213
              obtain ⟨a_217, b_218, off_219, c_220, ev_223, hs_221, hall_222⟩ := hM_212
              subst ev_223
              have hlen_outs_210 : outs_210.length = po_204.length := by rw [← ho_214, List.length_map]
              refine wk_pure (opd 129 (.call ⟨.builtin .len, #[.tmp 128], #[33]⟩) 3) rfl (.int .i64 ((outs_210.length : Nat) : Int)) (fun _ => x_len (a := a_217) (n := outs_210.length) (c := c_220) (by kernel_rfl) (by kernel_rfl)) ?_
              have hb_225 : AllA γ_208 w_207 L := (AllA.keep hb_202 gx_211 (by decide))
              have hA_224 := AllA.get hb_225 (by omega : i < L.length); have hA_224_v := hA_224.1.v0; have hA_224_s := hA_224.1.s0; have hA_224_n := hA_224.2
              have hb_226 : LkAt γ_208 w_207 20 p_30 s := (LkAt.keep (LkAt.keep (LkAt.keep (LkAt.keep (LkAt.keep (LkAt.keep (LkAt.keep (LkAt.keep hr_56 gx_68 (by decide) (by decide) (by decide) (by decide)) gx_100 List.not_mem_nil List.not_mem_nil List.not_mem_nil List.not_mem_nil) gx_106 (by decide) (by decide) (by decide) (by decide)) gx_114 (by decide) (by decide) (by decide) (by decide)) gx_120 (by decide) (by decide) (by decide) (by decide)) gx_126 (by decide) (by decide) (by decide) (by decide)) gx_198 List.not_mem_nil List.not_mem_nil List.not_mem_nil List.not_mem_nil) gx_211 (by decide) (by decide) (by decide) (by decide))
              refine wk_call (opd 136 (.call ⟨.value (.func 10), #[.tmp 130, .tmp 135], #[23, 2]⟩) 33) rfl 10 #[.pointer (some ⟨p_30, 0, none⟩), .int .i64 ((L.getD i A0).now)] (x_call Try.func10 (by kernel_rfl) (c := (Try.f10.body).getD .skip) (by kernel_rfl) (by kernel_rfl) (by kernel_rfl)) (tick_q (now := ((L.getD i A0).now)) hq_205 hb_226 (by omega) (by omega) (fun w_227 γ_228 v_229 outs_230 gx_231 hM_232 hL_233 ho_234 => ⟨?_, ?_⟩))
              · exact (GX.trans (GX.trans (GX.refl [10, 10 + 1, 20, 20 + 1] _ _) gx_211 (by intro c_ hc_; simp only [List.mem_cons, List.not_mem_nil, or_false] at hc_ ⊢; omega)) gx_231 (by intro c_ hc_; simp only [List.mem_cons, List.not_mem_nil, or_false] at hc_ ⊢; omega)).gc
              have hsz_235 : w_207.heap.size ≤ w_227.heap.size := gx_231.size
              have hL_236 : LkAt γ_228 w_227 20 p_30 l_203 := hL_233
              obtain ⟨a_237, b_238, off_239, c_240, ev_243, hs_241, hall_242⟩ := hM_232
              subst ev_243
              have hlen_outs_230 : outs_230.length = po_204.length := by rw [← ho_234, List.length_map]
              refine wk_pure (opd 137 (.call ⟨.builtin .len, #[.tmp 136], #[33]⟩) 3) rfl (.int .i64 ((outs_230.length : Nat) : Int)) (fun _ => x_len (a := a_237) (n := outs_230.length) (c := c_240) (by kernel_rfl) (by kernel_rfl)) ?_
              refine wk_pure (opd 138 (.binOp .neq 3 (.tmp 129) (.tmp 137) 3) 4) rfl (.bool false) (fun _ => y_neq (k := .i64) (a := ((outs_210.length : Nat) : Int)) (b := ((outs_230.length : Nat) : Int)) (by kernel_rfl) (by kernel_rfl) (decide_eq_false (by first | omega | (rw [hlen_outs_210]; decide) | (intro h_; exact h_ rfl)))) ?_
              refine wk_nil ?_
              refine thn_n ?_
              refine g_cond_f (o := .tmp 138) (x := lJ3N6w4_74) (y := lJ3N6w4_75) (by kernel_rfl) (by kernel_rfl) ?_
              refine g_skip (by kernel_rfl) ?_
              refine thn_n ?_
              refine g_seq (x := lJ3N6w4_64) (y := lJ3N6w4_65) (by kernel_rfl) ?_
              refine g_region (ops := lJ3R6w4_27) (id := 27) (by kernel_rfl) [(0, .pure), (1, .loud), (2, .pure), (3, .loud), (4, .pure), (5, .pure), (6, .pure), (7, .loud), (8, .pure), (9, .loud), (10, .pure), (11, .pure), (12, .pure), (13, .pure), (14, .loud), (15, .pure), (16, .loud), (17, .pure), (18, .pure)] (by kernel_rfl) (by kernel_rfl) ?_
              refine wk_pure (opd 156 (.move (.tmp 5)) 23) rfl (.pointer (some ⟨p_22, 0, none⟩)) (fun _ => y_move (Eq.trans (by kernel_rfl) f_48)) ?_
              have hb_244 : LkAt γ_228 w_227 10 p_22 l_203 := (LkAt.keep hL_216 gx_231 (by decide) (by decide) (by decide) (by decide))
              refine wk_call (opd 157 (.call ⟨.value (.func 12), #[.tmp 156], #[23]⟩) 3) rfl 12 #[.pointer (some ⟨p_22, 0, none⟩)] (x_call Try.func12 (by kernel_rfl) (c := (Try.f12.body).getD .skip) (by kernel_rfl) (by kernel_rfl) (by kernel_rfl)) (waiting_p hb_244 (by omega) (fun w_245 sm_246 => ⟨?_, ?_⟩))
              · exact trivial
              have gx_247 : GX [] w_227 γ_228 w_245 γ_228 := GX.same [] γ_228 sm_246
              have hsz_248 : w_245.heap.size = w_227.heap.size := by rw [sm_246.heap]
              refine wk_pure (opd 158 (.move (.tmp 7)) 23) rfl (.pointer (some ⟨p_30, 0, none⟩)) (fun _ => y_move (Eq.trans (by kernel_rfl) f_49)) ?_
              have hb_249 : LkAt γ_228 w_245 20 p_30 l_203 := (LkAt.keep hL_236 gx_247 List.not_mem_nil List.not_mem_nil List.not_mem_nil List.not_mem_nil)
              refine wk_call (opd 159 (.call ⟨.value (.func 12), #[.tmp 158], #[23]⟩) 3) rfl 12 #[.pointer (some ⟨p_30, 0, none⟩)] (x_call Try.func12 (by kernel_rfl) (c := (Try.f12.body).getD .skip) (by kernel_rfl) (by kernel_rfl) (by kernel_rfl)) (waiting_p hb_249 (by omega) (fun w_250 sm_251 => ⟨?_, ?_⟩))
              · exact trivial
              have gx_252 : GX [] w_245 γ_228 w_250 γ_228 := GX.same [] γ_228 sm_251
              have hsz_253 : w_250.heap.size = w_245.heap.size := by rw [sm_251.heap]
              refine wk_pure (opd 160 (.binOp .neq 3 (.tmp 157) (.tmp 159) 3) 4) rfl (.bool false) (fun _ => y_neq (k := .i64) (a := ((l_203.out.length : Nat) : Int)) (b := ((l_203.out.length : Nat) : Int)) (by kernel_rfl) (by kernel_rfl) (decide_eq_false (by first | omega | (intro h_; exact h_ rfl)))) ?_
              refine wk_pure (opd 161 (.move (.tmp 160)) 4) rfl (.bool false) (fun _ => y_move (by kernel_rfl)) ?_
              refine wk_pure (opg 162 (.move (.tmp 5)) 23 5 false) (by kernel_rfl) (.pointer (some ⟨p_22, 0, none⟩)) (fun _ => y_move (Eq.trans (by kernel_rfl) f_48)) ?_
              have hb_254 : LkAt γ_228 w_250 10 p_22 l_203 := (LkAt.keep (LkAt.keep hb_244 gx_247 List.not_mem_nil List.not_mem_nil List.not_mem_nil List.not_mem_nil) gx_252 List.not_mem_nil List.not_mem_nil List.not_mem_nil List.not_mem_nil)
              refine wk_call (opg 163 (.call ⟨.value (.func 13), #[.tmp 162], #[23]⟩) 3 5 false) (by kernel_rfl) 13 #[.pointer (some ⟨p_22, 0, none⟩)] (x_call Try.func13 (by kernel_rfl) (c := (Try.f13.body).getD .skip) (by kernel_rfl) (by kernel_rfl) (by kernel_rfl)) (ahead_p hb_254 (by omega) (fun w_255 sm_256 => ⟨?_, ?_⟩))
              · exact trivial
              have gx_257 : GX [] w_250 γ_228 w_255 γ_228 := GX.same [] γ_228 sm_256
              have hsz_258 : w_255.heap.size = w_250.heap.size := by rw [sm_256.heap]
              refine wk_pure (opg 164 (.move (.tmp 7)) 23 5 false) (by kernel_rfl) (.pointer (some ⟨p_30, 0, none⟩)) (fun _ => y_move (Eq.trans (by kernel_rfl) f_49)) ?_
              have hb_259 : LkAt γ_228 w_255 20 p_30 l_203 := (LkAt.keep (LkAt.keep hb_249 gx_252 List.not_mem_nil List.not_mem_nil List.not_mem_nil List.not_mem_nil) gx_257 List.not_mem_nil List.not_mem_nil List.not_mem_nil List.not_mem_nil)
              refine wk_call (opg 165 (.call ⟨.value (.func 13), #[.tmp 164], #[23]⟩) 3 5 false) (by kernel_rfl) 13 #[.pointer (some ⟨p_30, 0, none⟩)] (x_call Try.func13 (by kernel_rfl) (c := (Try.f13.body).getD .skip) (by kernel_rfl) (by kernel_rfl) (by kernel_rfl)) (ahead_p hb_259 (by omega) (fun w_260 sm_261 => ⟨?_, ?_⟩))
              · exact trivial
              have gx_262 : GX [] w_255 γ_228 w_260 γ_228 := GX.same [] γ_228 sm_261
              have hsz_263 : w_260.heap.size = w_255.heap.size := by rw [sm_261.heap]
              refine wk_pure (opg 166 (.binOp .neq 3 (.tmp 163) (.tmp 165) 3) 4 5 false) (by kernel_rfl) (.bool false) (fun _ => y_neq (k := .i64) (a := ((l_203.held.length : Nat) : Int)) (b := ((l_203.held.length : Nat) : Int)) (by kernel_rfl) (by kernel_rfl) (decide_eq_false (by first | omega | (intro h_; exact h_ rfl)))) ?_
              refine wk_pure (opd 167 (.pick (.tmp 161) (.const (.bool true)) (.tmp 166)) 4) rfl (.bool false) (fun _ => y_pick_f (by kernel_rfl) (by kernel_rfl)) ?_
              refine wk_pure (opd 168 (.move (.tmp 167)) 4) rfl (.bool false) (fun _ => y_move (by kernel_rfl)) ?_
              refine wk_pure (opg 169 (.move (.tmp 5)) 23 12 false) (by kernel_rfl) (.pointer (some ⟨p_22, 0, none⟩)) (fun _ => y_move (Eq.trans (by kernel_rfl) f_48)) ?_
              have hb_264 : LkAt γ_228 w_260 10 p_22 l_203 := (LkAt.keep (LkAt.keep hb_254 gx_257 List.not_mem_nil List.not_mem_nil List.not_mem_nil List.not_mem_nil) gx_262 List.not_mem_nil List.not_mem_nil List.not_mem_nil List.not_mem_nil)
              refine wk_call (opg 170 (.call ⟨.value (.func 14), #[.tmp 169], #[23]⟩) 27 12 false) (by kernel_rfl) 14 #[.pointer (some ⟨p_22, 0, none⟩)] (x_call Try.func14 (by kernel_rfl) (c := (Try.f14.body).getD .skip) (by kernel_rfl) (by kernel_rfl) (by kernel_rfl)) (next_p hb_264 (by omega) (fun w_265 sm_266 => ⟨?_, ?_⟩))
              · exact trivial
              have gx_267 : GX [] w_260 γ_228 w_265 γ_228 := GX.same [] γ_228 sm_266
              have hsz_268 : w_265.heap.size = w_260.heap.size := by rw [sm_266.heap]
              refine wk_pure (opg 171 (.move (.tmp 7)) 23 12 false) (by kernel_rfl) (.pointer (some ⟨p_30, 0, none⟩)) (fun _ => y_move (Eq.trans (by kernel_rfl) f_49)) ?_
              have hb_269 : LkAt γ_228 w_265 20 p_30 l_203 := (LkAt.keep (LkAt.keep hb_259 gx_262 List.not_mem_nil List.not_mem_nil List.not_mem_nil List.not_mem_nil) gx_267 List.not_mem_nil List.not_mem_nil List.not_mem_nil List.not_mem_nil)
              refine wk_call (opg 172 (.call ⟨.value (.func 14), #[.tmp 171], #[23]⟩) 27 12 false) (by kernel_rfl) 14 #[.pointer (some ⟨p_30, 0, none⟩)] (x_call Try.func14 (by kernel_rfl) (c := (Try.f14.body).getD .skip) (by kernel_rfl) (by kernel_rfl) (by kernel_rfl)) (next_p hb_269 (by omega) (fun w_270 sm_271 => ⟨?_, ?_⟩))
              · exact trivial
              have gx_272 : GX [] w_265 γ_228 w_270 γ_228 := GX.same [] γ_228 sm_271
              have hsz_273 : w_270.heap.size = w_265.heap.size := by rw [sm_271.heap]
              refine wk_pure (opg 173 (.binOp .neq 27 (.tmp 170) (.tmp 172) 27) 4 12 false) (by kernel_rfl) (.bool false) (fun _ => y_neq (k := .u32) (a := l_203.next) (b := l_203.next) (by kernel_rfl) (by kernel_rfl) (decide_eq_false (by first | omega | (intro h_; exact h_ rfl)))) ?_
              refine wk_pure (opd 174 (.pick (.tmp 168) (.const (.bool true)) (.tmp 173)) 4) rfl (.bool false) (fun _ => y_pick_f (by kernel_rfl) (by kernel_rfl)) ?_
              refine wk_nil ?_
              refine thn_n ?_
              refine g_cond_f (o := .tmp 174) (x := lJ3N6w4_66) (y := lJ3N6w4_67) (by kernel_rfl) (by kernel_rfl) ?_
              refine g_skip (by kernel_rfl) ?_
              refine blk_n ?_
              refine thn_n ?_
              refine g_region (ops := lJ3R6w4_9) (id := 9) (by kernel_rfl) [(0, .pure), (1, .pure), (2, .pure)] (by kernel_rfl) (by kernel_rfl) ?_
              refine wk_pure (opd 64 (.move (.tmp 9)) 3) rfl (.int .i64 ((i : Nat) : Int)) (fun _ => y_move (Eq.trans (by kernel_rfl) f_50)) ?_
              refine wk_pure (opd 65 (.binOp .add 3 (.tmp 64) (.const (.int .i64 1)) 3) 3) rfl (.int .i64 ((i + 1 : Nat) : Int)) (fun _ => y_add (k := .i64) (a := ((i : Nat) : Int)) (b := 1) (by kernel_rfl) (by kernel_rfl) (i64_to (by omega) (by omega))) ?_
              refine wk_pure (opd 9 (.assign (.tmp 65)) 3) rfl (.int .i64 ((i + 1 : Nat) : Int)) (fun _ => y_assign (by kernel_rfl)) ?_
              refine wk_nil ?_
              refine thn_n ?_
              have hb_274 : MIn γ_228 w_270 m := (MIn.keep (MIn.keep (MIn.keep (MIn.keep (MIn.keep (MIn.keep (MIn.keep (MIn.keep (MIn.keep (MIn.keep (MIn.keep (MIn.keep (MIn.keep (MIn.keep (MIn.keep hr_51 gx_68 (by decide)) gx_100 List.not_mem_nil) gx_106 (by decide)) gx_114 (by decide)) gx_120 (by decide)) gx_126 (by decide)) gx_198 List.not_mem_nil) gx_211 (by decide)) gx_231 (by decide)) gx_247 List.not_mem_nil) gx_252 List.not_mem_nil) gx_257 List.not_mem_nil) gx_262 List.not_mem_nil) gx_267 List.not_mem_nil) gx_272 List.not_mem_nil)
              have hb_275 : SlG γ_228 w_270 0 10 a b off encA L := (SlG.keep (SlG.keep (SlG.keep (SlG.keep (SlG.keep (SlG.keep (SlG.keep (SlG.keep hb_200 gx_211 (by decide)) gx_231 (by decide)) gx_247 List.not_mem_nil) gx_252 List.not_mem_nil) gx_257 List.not_mem_nil) gx_262 List.not_mem_nil) gx_267 List.not_mem_nil) gx_272 List.not_mem_nil)
              have hb_276 : AllA γ_228 w_270 L := (AllA.keep (AllA.keep (AllA.keep (AllA.keep (AllA.keep (AllA.keep (AllA.keep hb_225 gx_231 (by decide)) gx_247 List.not_mem_nil) gx_252 List.not_mem_nil) gx_257 List.not_mem_nil) gx_262 List.not_mem_nil) gx_267 List.not_mem_nil) gx_272 List.not_mem_nil)
              have hb_277 : Bk γ_228 w_270 b_1 10601 (.cells #[.int .i64 m.kind, .int .i64 m.frm, .int .i64 m.to, .int .u32 m.view, .int .u32 m.seq, .slice m.na m.N.length m.nc, .slice m.wa m.W.length m.wc] 32 (0, 0)) := (Bk.keep (Bk.keep (Bk.keep (Bk.keep (Bk.keep (Bk.keep (Bk.keep (Bk.keep (Bk.keep (Bk.keep (Bk.keep (Bk.keep (Bk.keep (Bk.keep (Bk.keep hr_54 gx_68 (by decide)) gx_100 List.not_mem_nil) gx_106 (by decide)) gx_114 (by decide)) gx_120 (by decide)) gx_126 (by decide)) gx_198 List.not_mem_nil) gx_211 (by decide)) gx_231 (by decide)) gx_247 List.not_mem_nil) gx_252 List.not_mem_nil) gx_257 List.not_mem_nil) gx_262 List.not_mem_nil) gx_267 List.not_mem_nil) gx_272 List.not_mem_nil)
              have hb_278 : LkAt γ_228 w_270 10 p_22 l_203 := (LkAt.keep (LkAt.keep hb_264 gx_267 List.not_mem_nil List.not_mem_nil List.not_mem_nil List.not_mem_nil) gx_272 List.not_mem_nil List.not_mem_nil List.not_mem_nil List.not_mem_nil)
              have hb_279 : LkAt γ_228 w_270 20 p_30 l_203 := (LkAt.keep hb_269 gx_272 List.not_mem_nil List.not_mem_nil List.not_mem_nil List.not_mem_nil)
              exact ⟨_, (by omega), ⟨(i + 1), l_203, _, rfl, by omega, by omega, by omega, by omega, by omega, (Eq.trans (by kernel_rfl) f_46), (Eq.trans (by kernel_rfl) f_47), (Eq.trans (by kernel_rfl) f_48), (Eq.trans (by kernel_rfl) f_49), (by kernel_rfl), hb_274, hb_275, hb_276, hb_277, hb_278, hb_279, (GX.then_same (GX.then_same (GX.then_same (GX.then_same (GX.then_same (GX.then_same (GX.trans (GX.trans (GX.then_same (GX.thenNew (GX.thenNew (GX.thenNew (GX.thenNew (GX.then0 (GX.trans hE_44 gx_68 (by intro c_ hc_; simp only [List.mem_cons, List.not_mem_nil, or_false] at hc_ ⊢; omega)) e_93 hg_98) e_103 (by intro y_ hy_; simp only [List.mem_cons, List.not_mem_nil, or_false] at hy_; omega) (fun _ _ => rfl)) e_111 (by intro y_ hy_; simp only [List.mem_cons, List.not_mem_nil, or_false] at hy_; omega) (fun _ _ => rfl)) e_117 (by intro y_ hy_; simp only [List.mem_cons, List.not_mem_nil, or_false] at hy_; omega) (fun _ _ => rfl)) e_123 (by intro y_ hy_; simp only [List.mem_cons, List.not_mem_nil, or_false] at hy_; omega) (fun _ _ => rfl)) sm_197) gx_211 (by intro c_ hc_; simp only [List.mem_cons, List.not_mem_nil, or_false] at hc_ ⊢; omega)) gx_231 (by intro c_ hc_; simp only [List.mem_cons, List.not_mem_nil, or_false] at hc_ ⊢; omega)) sm_246) sm_251) sm_256) sm_261) sm_266) sm_271)⟩⟩
            · refine wk_pure (opd 121 (.binOp .eql 3 (.tmp 120) (.const (.int .i64 1)) 3) 4) rfl (.bool false) (fun _ => y_eql (k := .i64) (a := ((L.getD i A0).op)) (b := 1) (by kernel_rfl) (by kernel_rfl) (decide_eq_false h_195)) ?_
              refine wk_nil ?_
              refine thn_n ?_
              refine g_cond_f (o := .tmp 121) (x := lJ3N6w4_70) (y := lJ3N6w4_71) (by kernel_rfl) (by kernel_rfl) ?_
              refine g_seq (x := lJ3N6w4_76) (y := lJ3N6w4_77) (by kernel_rfl) ?_
              refine g_region (ops := lJ3R6w4_23) (id := 23) (by kernel_rfl) [(0, .pure), (1, .loud), (2, .loud), (3, .pure), (4, .pure), (5, .pure), (6, .pure), (7, .pure), (8, .pure), (9, .pure)] (by kernel_rfl) (by kernel_rfl) ?_
              refine wk_pure (opd 140 (.move (.tmp 5)) 23) rfl (.pointer (some ⟨p_22, 0, none⟩)) (fun _ => y_move (Eq.trans (by kernel_rfl) f_48)) ?_
              refine wk_val (opd 141 (.load 32 (.tmp 13)) 32) rfl (.agg #[.int .i64 ((L.getD i A0).m.kind), .int .i64 1, .int .i64 0, .int .u32 7, .int .u32 ((L.getD i A0).m.seq), .slice ((L.getD i A0).m.na) ((L.getD i A0).m.N.length) ((L.getD i A0).m.nc), .slice ((L.getD i A0).m.wa) ((L.getD i A0).m.W.length) ((L.getD i A0).m.wc)]) (x_load_agg (b := b_91) (off := 0) (n := 7) (by kernel_rfl) (by kernel_rfl) hk_127.1 (Nat.le_of_ble_eq_true rfl) (by kernel_rfl)) trivial ?_
              have hb_281 : AllA γ_97 w_122 L := (AllA.keep (AllA.keep (AllA.keep (AllA.keep (AllA.keep (AllA.keep hr_53 gx_68 (by decide)) gx_100 List.not_mem_nil) gx_106 (by decide)) gx_114 (by decide)) gx_120 (by decide)) gx_126 (by decide))
              have hA_280 := AllA.get hb_281 (by omega : i < L.length); have hA_280_v := hA_280.1.v0; have hA_280_s := hA_280.1.s0; have hA_280_n := hA_280.2
              have hm_282 : MOk γ_97 w_122 (⟨((L.getD i A0).m.kind), 1, 0, 7, ((L.getD i A0).m.seq), ((L.getD i A0).m.na), (L.getD i A0).m.nb, ((L.getD i A0).m.noff), ((L.getD i A0).m.nc), ((L.getD i A0).m.N), ((L.getD i A0).m.wa), (L.getD i A0).m.wb, ((L.getD i A0).m.woff), ((L.getD i A0).m.wc), ((L.getD i A0).m.W)⟩ : MsgR) := ⟨(AllA.get hb_281 (by omega : i < L.length)).1.n, (AllA.get hb_281 (by omega : i < L.length)).1.w, (by show (0 : Int) ≤ 7 ∧ (7 : Int) < 4294967296; omega), (by show (0 : Int) ≤ ((L.getD i A0).m.seq) ∧ (((L.getD i A0).m.seq) : Int) < 4294967296; omega), ((MIn.ok (AllA.get hb_281 (by omega : i < L.length)).1 (by omega) (by omega))).nr, ((MIn.ok (AllA.get hb_281 (by omega : i < L.length)).1 (by omega) (by omega))).nl, ((MIn.ok (AllA.get hb_281 (by omega : i < L.length)).1 (by omega) (by omega))).wl⟩
              obtain ⟨l_283, po_284, pa_285, e_286, hq_287⟩ : ∃ l_ o_ a_ e_, getP s (⟨((L.getD i A0).m.kind), 1, 0, 7, ((L.getD i A0).m.seq), ((L.getD i A0).m.N), ((L.getD i A0).m.W)⟩ : Msg) = (l_, o_, a_, e_) := ⟨_, _, _, _, rfl⟩
              have hk_l_283 := get_keeps hq_287
              have hb_288 : LkAt γ_97 w_122 10 p_22 s := (LkAt.keep (LkAt.keep (LkAt.keep (LkAt.keep (LkAt.keep hL_75 gx_100 List.not_mem_nil List.not_mem_nil List.not_mem_nil List.not_mem_nil) gx_106 (by decide) (by decide) (by decide) (by decide)) gx_114 (by decide) (by decide) (by decide) (by decide)) gx_120 (by decide) (by decide) (by decide) (by decide)) gx_126 (by decide) (by decide) (by decide) (by decide))
              refine wk_call (opd 142 (.call ⟨.value (.func 11), #[.tmp 140, .tmp 141], #[23, 32]⟩) 35) rfl 11 #[.pointer (some ⟨p_22, 0, none⟩), .agg #[.int .i64 ((L.getD i A0).m.kind), .int .i64 1, .int .i64 0, .int .u32 7, .int .u32 ((L.getD i A0).m.seq), .slice ((L.getD i A0).m.na) ((L.getD i A0).m.N.length) ((L.getD i A0).m.nc), .slice ((L.getD i A0).m.wa) ((L.getD i A0).m.W.length) ((L.getD i A0).m.wc)]] (x_call Try.func11 (by kernel_rfl) (c := (Try.f11.body).getD .skip) (by kernel_rfl) (by kernel_rfl) (by kernel_rfl)) (get_q (m := (⟨((L.getD i A0).m.kind), 1, 0, 7, ((L.getD i A0).m.seq), ((L.getD i A0).m.na), (L.getD i A0).m.nb, ((L.getD i A0).m.noff), ((L.getD i A0).m.nc), ((L.getD i A0).m.N), ((L.getD i A0).m.wa), (L.getD i A0).m.wb, ((L.getD i A0).m.woff), ((L.getD i A0).m.wc), ((L.getD i A0).m.W)⟩ : MsgR)) hq_287 rfl hb_288 (by omega) hm_282 (by omega) (fun w_289 γ_290 v_291 v_292 outs_293 outs_294 gx_295 hM_296 hM_297 hL_298 ho_299 ho_300 => ⟨?_, ?_⟩))
              · exact trivial
              have hsz_301 : w_122.heap.size ≤ w_289.heap.size := gx_295.size
              have hL_302 : LkAt γ_290 w_289 10 p_22 l_283 := hL_298
              obtain ⟨a_303, b_304, off_305, c_306, ev_309, hs_307, hall_308⟩ := hM_296
              subst ev_309
              have hlen_outs_293 : outs_293.length = po_284.length := by rw [← ho_299, List.length_map]
              obtain ⟨a_310, b_311, off_312, c_313, ev_316, hs_314, hall_315⟩ := hM_297
              subst ev_316
              have hlen_outs_294 : outs_294.length = pa_285.length := by rw [← ho_300, List.length_map]
              refine wk_pure (opd 139 (.move (.tmp 142)) 35) rfl (.tuple #[.slice a_303 outs_293.length c_306, .slice a_310 outs_294.length c_313, .int .i64 e_286]) (fun _ => y_move (by kernel_rfl)) ?_
              refine wk_pure (opd 143 (.extract (.tmp 139) 0) 33) rfl (.slice a_303 outs_293.length c_306) (fun _ => x_extract (vs := #[.slice a_303 outs_293.length c_306, .slice a_310 outs_294.length c_313, .int .i64 e_286]) (by kernel_rfl) (by kernel_rfl)) ?_
              refine wk_pure (opd 144 (.extract (.tmp 139) 1) 33) rfl (.slice a_310 outs_294.length c_313) (fun _ => x_extract (vs := #[.slice a_303 outs_293.length c_306, .slice a_310 outs_294.length c_313, .int .i64 e_286]) (by kernel_rfl) (by kernel_rfl)) ?_
              refine wk_pure (opd 145 (.extract (.tmp 139) 2) 24) rfl (.int .i64 e_286) (fun _ => x_extract (vs := #[.slice a_303 outs_293.length c_306, .slice a_310 outs_294.length c_313, .int .i64 e_286]) (by kernel_rfl) (by kernel_rfl)) ?_
              refine wk_pure (opd 14 (.assign (.tmp 143)) 33) rfl (.slice a_303 outs_293.length c_306) (fun _ => y_assign (by kernel_rfl)) ?_
              refine wk_pure (opd 15 (.assign (.tmp 144)) 33) rfl (.slice a_310 outs_294.length c_313) (fun _ => y_assign (by kernel_rfl)) ?_
              refine wk_pure (opd 16 (.assign (.tmp 145)) 24) rfl (.int .i64 e_286) (fun _ => y_assign (by kernel_rfl)) ?_
              refine wk_nil ?_
              refine thn_n ?_
              refine g_seq (x := lJ3N6w4_78) (y := lJ3N6w4_79) (by kernel_rfl) ?_
              refine g_region (ops := lJ3R6w4_24) (id := 24) (by kernel_rfl) [(0, .pure), (1, .loud), (2, .loud), (3, .pure), (4, .pure), (5, .pure), (6, .pure), (7, .pure), (8, .pure), (9, .pure)] (by kernel_rfl) (by kernel_rfl) ?_
              refine wk_pure (opd 147 (.move (.tmp 7)) 23) rfl (.pointer (some ⟨p_30, 0, none⟩)) (fun _ => y_move (Eq.trans (by kernel_rfl) f_49)) ?_
              have hb_317 : Bk γ_290 w_289 b_91 10603 (.cells #[.int .i64 ((L.getD i A0).m.kind), .int .i64 1, .int .i64 0, .int .u32 7, .int .u32 ((L.getD i A0).m.seq), .slice ((L.getD i A0).m.na) ((L.getD i A0).m.N.length) ((L.getD i A0).m.nc), .slice ((L.getD i A0).m.wa) ((L.getD i A0).m.W.length) ((L.getD i A0).m.wc)] 32 (0, 0)) := (Bk.keep hk_127 gx_295 (by decide))
              refine wk_val (opd 148 (.load 32 (.tmp 13)) 32) rfl (.agg #[.int .i64 ((L.getD i A0).m.kind), .int .i64 1, .int .i64 0, .int .u32 7, .int .u32 ((L.getD i A0).m.seq), .slice ((L.getD i A0).m.na) ((L.getD i A0).m.N.length) ((L.getD i A0).m.nc), .slice ((L.getD i A0).m.wa) ((L.getD i A0).m.W.length) ((L.getD i A0).m.wc)]) (x_load_agg (b := b_91) (off := 0) (n := 7) (by kernel_rfl) (by kernel_rfl) hb_317.1 (Nat.le_of_ble_eq_true rfl) (by kernel_rfl)) trivial ?_
              have hb_319 : AllA γ_290 w_289 L := (AllA.keep hb_281 gx_295 (by decide))
              have hA_318 := AllA.get hb_319 (by omega : i < L.length); have hA_318_v := hA_318.1.v0; have hA_318_s := hA_318.1.s0; have hA_318_n := hA_318.2
              have hb_320 : SlG γ_290 w_289 0 1 ((L.getD i A0).m.na) (L.getD i A0).m.nb ((L.getD i A0).m.noff) encI ((L.getD i A0).m.N) := (SlG.keep (AllA.get hb_281 (by omega : i < L.length)).1.n gx_295 (by decide))
              have hb_321 : SlG γ_290 w_289 0 2 ((L.getD i A0).m.wa) (L.getD i A0).m.wb ((L.getD i A0).m.woff) encW ((L.getD i A0).m.W) := (SlG.keep (AllA.get hb_281 (by omega : i < L.length)).1.w gx_295 (by decide))
              have hm_322 : MOk γ_290 w_289 (⟨((L.getD i A0).m.kind), 1, 0, 7, ((L.getD i A0).m.seq), ((L.getD i A0).m.na), (L.getD i A0).m.nb, ((L.getD i A0).m.noff), ((L.getD i A0).m.nc), ((L.getD i A0).m.N), ((L.getD i A0).m.wa), (L.getD i A0).m.wb, ((L.getD i A0).m.woff), ((L.getD i A0).m.wc), ((L.getD i A0).m.W)⟩ : MsgR) := ⟨hb_320, hb_321, (by show (0 : Int) ≤ 7 ∧ (7 : Int) < 4294967296; omega), (by show (0 : Int) ≤ ((L.getD i A0).m.seq) ∧ (((L.getD i A0).m.seq) : Int) < 4294967296; omega), ((MIn.ok (AllA.get hb_319 (by omega : i < L.length)).1 (by omega) (by omega))).nr, ((MIn.ok (AllA.get hb_319 (by omega : i < L.length)).1 (by omega) (by omega))).nl, ((MIn.ok (AllA.get hb_319 (by omega : i < L.length)).1 (by omega) (by omega))).wl⟩
              have hb_323 : LkAt γ_290 w_289 20 p_30 s := (LkAt.keep (LkAt.keep (LkAt.keep (LkAt.keep (LkAt.keep (LkAt.keep (LkAt.keep hr_56 gx_68 (by decide) (by decide) (by decide) (by decide)) gx_100 List.not_mem_nil List.not_mem_nil List.not_mem_nil List.not_mem_nil) gx_106 (by decide) (by decide) (by decide) (by decide)) gx_114 (by decide) (by decide) (by decide) (by decide)) gx_120 (by decide) (by decide) (by decide) (by decide)) gx_126 (by decide) (by decide) (by decide) (by decide)) gx_295 (by decide) (by decide) (by decide) (by decide))
              refine wk_call (opd 149 (.call ⟨.value (.func 11), #[.tmp 147, .tmp 148], #[23, 32]⟩) 35) rfl 11 #[.pointer (some ⟨p_30, 0, none⟩), .agg #[.int .i64 ((L.getD i A0).m.kind), .int .i64 1, .int .i64 0, .int .u32 7, .int .u32 ((L.getD i A0).m.seq), .slice ((L.getD i A0).m.na) ((L.getD i A0).m.N.length) ((L.getD i A0).m.nc), .slice ((L.getD i A0).m.wa) ((L.getD i A0).m.W.length) ((L.getD i A0).m.wc)]] (x_call Try.func11 (by kernel_rfl) (c := (Try.f11.body).getD .skip) (by kernel_rfl) (by kernel_rfl) (by kernel_rfl)) (get_q (m := (⟨((L.getD i A0).m.kind), 1, 0, 7, ((L.getD i A0).m.seq), ((L.getD i A0).m.na), (L.getD i A0).m.nb, ((L.getD i A0).m.noff), ((L.getD i A0).m.nc), ((L.getD i A0).m.N), ((L.getD i A0).m.wa), (L.getD i A0).m.wb, ((L.getD i A0).m.woff), ((L.getD i A0).m.wc), ((L.getD i A0).m.W)⟩ : MsgR)) hq_287 rfl hb_323 (by omega) hm_322 (by omega) (fun w_324 γ_325 v_326 v_327 outs_328 outs_329 gx_330 hM_331 hM_332 hL_333 ho_334 ho_335 => ⟨?_, ?_⟩))
              · exact trivial
              have hsz_336 : w_289.heap.size ≤ w_324.heap.size := gx_330.size
              have hL_337 : LkAt γ_325 w_324 20 p_30 l_283 := hL_333
              obtain ⟨a_338, b_339, off_340, c_341, ev_344, hs_342, hall_343⟩ := hM_331
              subst ev_344
              have hlen_outs_328 : outs_328.length = po_284.length := by rw [← ho_334, List.length_map]
              obtain ⟨a_345, b_346, off_347, c_348, ev_351, hs_349, hall_350⟩ := hM_332
              subst ev_351
              have hlen_outs_329 : outs_329.length = pa_285.length := by rw [← ho_335, List.length_map]
              refine wk_pure (opd 146 (.move (.tmp 149)) 35) rfl (.tuple #[.slice a_338 outs_328.length c_341, .slice a_345 outs_329.length c_348, .int .i64 e_286]) (fun _ => y_move (by kernel_rfl)) ?_
              refine wk_pure (opd 150 (.extract (.tmp 146) 0) 33) rfl (.slice a_338 outs_328.length c_341) (fun _ => x_extract (vs := #[.slice a_338 outs_328.length c_341, .slice a_345 outs_329.length c_348, .int .i64 e_286]) (by kernel_rfl) (by kernel_rfl)) ?_
              refine wk_pure (opd 151 (.extract (.tmp 146) 1) 33) rfl (.slice a_345 outs_329.length c_348) (fun _ => x_extract (vs := #[.slice a_338 outs_328.length c_341, .slice a_345 outs_329.length c_348, .int .i64 e_286]) (by kernel_rfl) (by kernel_rfl)) ?_
              refine wk_pure (opd 152 (.extract (.tmp 146) 2) 24) rfl (.int .i64 e_286) (fun _ => x_extract (vs := #[.slice a_338 outs_328.length c_341, .slice a_345 outs_329.length c_348, .int .i64 e_286]) (by kernel_rfl) (by kernel_rfl)) ?_
              refine wk_pure (opd 17 (.assign (.tmp 150)) 33) rfl (.slice a_338 outs_328.length c_341) (fun _ => y_assign (by kernel_rfl)) ?_
              refine wk_pure (opd 18 (.assign (.tmp 151)) 33) rfl (.slice a_345 outs_329.length c_348) (fun _ => y_assign (by kernel_rfl)) ?_
              refine wk_pure (opd 19 (.assign (.tmp 152)) 24) rfl (.int .i64 e_286) (fun _ => y_assign (by kernel_rfl)) ?_
              refine wk_nil ?_
              refine thn_n ?_
              refine g_seq (x := lJ3N6w4_80) (y := lJ3N6w4_81) (by kernel_rfl) ?_
              refine g_region (ops := lJ3R6w4_25) (id := 25) (by kernel_rfl) [(0, .pure), (1, .pure), (2, .pure)] (by kernel_rfl) (by kernel_rfl) ?_
              refine wk_pure (opd 153 (.move (.tmp 16)) 24) rfl (.int .i64 e_286) (fun _ => y_move (by kernel_rfl)) ?_
              refine wk_pure (opd 154 (.move (.tmp 19)) 24) rfl (.int .i64 e_286) (fun _ => y_move (by kernel_rfl)) ?_
              refine wk_pure (opd 155 (.binOp .neq 24 (.tmp 153) (.tmp 154) 24) 4) rfl (.bool false) (fun _ => y_neq (k := .i64) (a := e_286) (b := e_286) (by kernel_rfl) (by kernel_rfl) (decide_eq_false (by first | omega | (intro h_; exact h_ rfl)))) ?_
              refine wk_nil ?_
              refine thn_n ?_
              refine g_cond_f (o := .tmp 155) (x := lJ3N6w4_82) (y := lJ3N6w4_83) (by kernel_rfl) (by kernel_rfl) ?_
              refine g_skip (by kernel_rfl) ?_
              refine thn_n ?_
              refine g_seq (x := lJ3N6w4_64) (y := lJ3N6w4_65) (by kernel_rfl) ?_
              refine g_region (ops := lJ3R6w4_27) (id := 27) (by kernel_rfl) [(0, .pure), (1, .loud), (2, .pure), (3, .loud), (4, .pure), (5, .pure), (6, .pure), (7, .loud), (8, .pure), (9, .loud), (10, .pure), (11, .pure), (12, .pure), (13, .pure), (14, .loud), (15, .pure), (16, .loud), (17, .pure), (18, .pure)] (by kernel_rfl) (by kernel_rfl) ?_
              refine wk_pure (opd 156 (.move (.tmp 5)) 23) rfl (.pointer (some ⟨p_22, 0, none⟩)) (fun _ => y_move (Eq.trans (by kernel_rfl) f_48)) ?_
              have hb_352 : LkAt γ_325 w_324 10 p_22 l_283 := (LkAt.keep hL_302 gx_330 (by decide) (by decide) (by decide) (by decide))
              refine wk_call (opd 157 (.call ⟨.value (.func 12), #[.tmp 156], #[23]⟩) 3) rfl 12 #[.pointer (some ⟨p_22, 0, none⟩)] (x_call Try.func12 (by kernel_rfl) (c := (Try.f12.body).getD .skip) (by kernel_rfl) (by kernel_rfl) (by kernel_rfl)) (waiting_p hb_352 (by omega) (fun w_353 sm_354 => ⟨?_, ?_⟩))
              · exact trivial
              have gx_355 : GX [] w_324 γ_325 w_353 γ_325 := GX.same [] γ_325 sm_354
              have hsz_356 : w_353.heap.size = w_324.heap.size := by rw [sm_354.heap]
              refine wk_pure (opd 158 (.move (.tmp 7)) 23) rfl (.pointer (some ⟨p_30, 0, none⟩)) (fun _ => y_move (Eq.trans (by kernel_rfl) f_49)) ?_
              have hb_357 : LkAt γ_325 w_353 20 p_30 l_283 := (LkAt.keep hL_337 gx_355 List.not_mem_nil List.not_mem_nil List.not_mem_nil List.not_mem_nil)
              refine wk_call (opd 159 (.call ⟨.value (.func 12), #[.tmp 158], #[23]⟩) 3) rfl 12 #[.pointer (some ⟨p_30, 0, none⟩)] (x_call Try.func12 (by kernel_rfl) (c := (Try.f12.body).getD .skip) (by kernel_rfl) (by kernel_rfl) (by kernel_rfl)) (waiting_p hb_357 (by omega) (fun w_358 sm_359 => ⟨?_, ?_⟩))
              · exact trivial
              have gx_360 : GX [] w_353 γ_325 w_358 γ_325 := GX.same [] γ_325 sm_359
              have hsz_361 : w_358.heap.size = w_353.heap.size := by rw [sm_359.heap]
              refine wk_pure (opd 160 (.binOp .neq 3 (.tmp 157) (.tmp 159) 3) 4) rfl (.bool false) (fun _ => y_neq (k := .i64) (a := ((l_283.out.length : Nat) : Int)) (b := ((l_283.out.length : Nat) : Int)) (by kernel_rfl) (by kernel_rfl) (decide_eq_false (by first | omega | (intro h_; exact h_ rfl)))) ?_
              refine wk_pure (opd 161 (.move (.tmp 160)) 4) rfl (.bool false) (fun _ => y_move (by kernel_rfl)) ?_
              refine wk_pure (opg 162 (.move (.tmp 5)) 23 5 false) (by kernel_rfl) (.pointer (some ⟨p_22, 0, none⟩)) (fun _ => y_move (Eq.trans (by kernel_rfl) f_48)) ?_
              have hb_362 : LkAt γ_325 w_358 10 p_22 l_283 := (LkAt.keep (LkAt.keep hb_352 gx_355 List.not_mem_nil List.not_mem_nil List.not_mem_nil List.not_mem_nil) gx_360 List.not_mem_nil List.not_mem_nil List.not_mem_nil List.not_mem_nil)
              refine wk_call (opg 163 (.call ⟨.value (.func 13), #[.tmp 162], #[23]⟩) 3 5 false) (by kernel_rfl) 13 #[.pointer (some ⟨p_22, 0, none⟩)] (x_call Try.func13 (by kernel_rfl) (c := (Try.f13.body).getD .skip) (by kernel_rfl) (by kernel_rfl) (by kernel_rfl)) (ahead_p hb_362 (by omega) (fun w_363 sm_364 => ⟨?_, ?_⟩))
              · exact trivial
              have gx_365 : GX [] w_358 γ_325 w_363 γ_325 := GX.same [] γ_325 sm_364
              have hsz_366 : w_363.heap.size = w_358.heap.size := by rw [sm_364.heap]
              refine wk_pure (opg 164 (.move (.tmp 7)) 23 5 false) (by kernel_rfl) (.pointer (some ⟨p_30, 0, none⟩)) (fun _ => y_move (Eq.trans (by kernel_rfl) f_49)) ?_
              have hb_367 : LkAt γ_325 w_363 20 p_30 l_283 := (LkAt.keep (LkAt.keep hb_357 gx_360 List.not_mem_nil List.not_mem_nil List.not_mem_nil List.not_mem_nil) gx_365 List.not_mem_nil List.not_mem_nil List.not_mem_nil List.not_mem_nil)
              refine wk_call (opg 165 (.call ⟨.value (.func 13), #[.tmp 164], #[23]⟩) 3 5 false) (by kernel_rfl) 13 #[.pointer (some ⟨p_30, 0, none⟩)] (x_call Try.func13 (by kernel_rfl) (c := (Try.f13.body).getD .skip) (by kernel_rfl) (by kernel_rfl) (by kernel_rfl)) (ahead_p hb_367 (by omega) (fun w_368 sm_369 => ⟨?_, ?_⟩))
              · exact trivial
              have gx_370 : GX [] w_363 γ_325 w_368 γ_325 := GX.same [] γ_325 sm_369
              have hsz_371 : w_368.heap.size = w_363.heap.size := by rw [sm_369.heap]
              refine wk_pure (opg 166 (.binOp .neq 3 (.tmp 163) (.tmp 165) 3) 4 5 false) (by kernel_rfl) (.bool false) (fun _ => y_neq (k := .i64) (a := ((l_283.held.length : Nat) : Int)) (b := ((l_283.held.length : Nat) : Int)) (by kernel_rfl) (by kernel_rfl) (decide_eq_false (by first | omega | (intro h_; exact h_ rfl)))) ?_
              refine wk_pure (opd 167 (.pick (.tmp 161) (.const (.bool true)) (.tmp 166)) 4) rfl (.bool false) (fun _ => y_pick_f (by kernel_rfl) (by kernel_rfl)) ?_
              refine wk_pure (opd 168 (.move (.tmp 167)) 4) rfl (.bool false) (fun _ => y_move (by kernel_rfl)) ?_
              refine wk_pure (opg 169 (.move (.tmp 5)) 23 12 false) (by kernel_rfl) (.pointer (some ⟨p_22, 0, none⟩)) (fun _ => y_move (Eq.trans (by kernel_rfl) f_48)) ?_
              have hb_372 : LkAt γ_325 w_368 10 p_22 l_283 := (LkAt.keep (LkAt.keep hb_362 gx_365 List.not_mem_nil List.not_mem_nil List.not_mem_nil List.not_mem_nil) gx_370 List.not_mem_nil List.not_mem_nil List.not_mem_nil List.not_mem_nil)
              refine wk_call (opg 170 (.call ⟨.value (.func 14), #[.tmp 169], #[23]⟩) 27 12 false) (by kernel_rfl) 14 #[.pointer (some ⟨p_22, 0, none⟩)] (x_call Try.func14 (by kernel_rfl) (c := (Try.f14.body).getD .skip) (by kernel_rfl) (by kernel_rfl) (by kernel_rfl)) (next_p hb_372 (by omega) (fun w_373 sm_374 => ⟨?_, ?_⟩))
              · exact trivial
              have gx_375 : GX [] w_368 γ_325 w_373 γ_325 := GX.same [] γ_325 sm_374
              have hsz_376 : w_373.heap.size = w_368.heap.size := by rw [sm_374.heap]
              refine wk_pure (opg 171 (.move (.tmp 7)) 23 12 false) (by kernel_rfl) (.pointer (some ⟨p_30, 0, none⟩)) (fun _ => y_move (Eq.trans (by kernel_rfl) f_49)) ?_
              have hb_377 : LkAt γ_325 w_373 20 p_30 l_283 := (LkAt.keep (LkAt.keep hb_367 gx_370 List.not_mem_nil List.not_mem_nil List.not_mem_nil List.not_mem_nil) gx_375 List.not_mem_nil List.not_mem_nil List.not_mem_nil List.not_mem_nil)
              refine wk_call (opg 172 (.call ⟨.value (.func 14), #[.tmp 171], #[23]⟩) 27 12 false) (by kernel_rfl) 14 #[.pointer (some ⟨p_30, 0, none⟩)] (x_call Try.func14 (by kernel_rfl) (c := (Try.f14.body).getD .skip) (by kernel_rfl) (by kernel_rfl) (by kernel_rfl)) (next_p hb_377 (by omega) (fun w_378 sm_379 => ⟨?_, ?_⟩))
              · exact trivial
              have gx_380 : GX [] w_373 γ_325 w_378 γ_325 := GX.same [] γ_325 sm_379
              have hsz_381 : w_378.heap.size = w_373.heap.size := by rw [sm_379.heap]
              refine wk_pure (opg 173 (.binOp .neq 27 (.tmp 170) (.tmp 172) 27) 4 12 false) (by kernel_rfl) (.bool false) (fun _ => y_neq (k := .u32) (a := l_283.next) (b := l_283.next) (by kernel_rfl) (by kernel_rfl) (decide_eq_false (by first | omega | (intro h_; exact h_ rfl)))) ?_
              refine wk_pure (opd 174 (.pick (.tmp 168) (.const (.bool true)) (.tmp 173)) 4) rfl (.bool false) (fun _ => y_pick_f (by kernel_rfl) (by kernel_rfl)) ?_
              refine wk_nil ?_
              refine thn_n ?_
              refine g_cond_f (o := .tmp 174) (x := lJ3N6w4_66) (y := lJ3N6w4_67) (by kernel_rfl) (by kernel_rfl) ?_
              refine g_skip (by kernel_rfl) ?_
              refine blk_n ?_
              refine thn_n ?_
              refine g_region (ops := lJ3R6w4_9) (id := 9) (by kernel_rfl) [(0, .pure), (1, .pure), (2, .pure)] (by kernel_rfl) (by kernel_rfl) ?_
              refine wk_pure (opd 64 (.move (.tmp 9)) 3) rfl (.int .i64 ((i : Nat) : Int)) (fun _ => y_move (Eq.trans (by kernel_rfl) f_50)) ?_
              refine wk_pure (opd 65 (.binOp .add 3 (.tmp 64) (.const (.int .i64 1)) 3) 3) rfl (.int .i64 ((i + 1 : Nat) : Int)) (fun _ => y_add (k := .i64) (a := ((i : Nat) : Int)) (b := 1) (by kernel_rfl) (by kernel_rfl) (i64_to (by omega) (by omega))) ?_
              refine wk_pure (opd 9 (.assign (.tmp 65)) 3) rfl (.int .i64 ((i + 1 : Nat) : Int)) (fun _ => y_assign (by kernel_rfl)) ?_
              refine wk_nil ?_
              refine thn_n ?_
              have hb_382 : MIn γ_325 w_378 m := (MIn.keep (MIn.keep (MIn.keep (MIn.keep (MIn.keep (MIn.keep (MIn.keep (MIn.keep (MIn.keep (MIn.keep (MIn.keep (MIn.keep (MIn.keep (MIn.keep hr_51 gx_68 (by decide)) gx_100 List.not_mem_nil) gx_106 (by decide)) gx_114 (by decide)) gx_120 (by decide)) gx_126 (by decide)) gx_295 (by decide)) gx_330 (by decide)) gx_355 List.not_mem_nil) gx_360 List.not_mem_nil) gx_365 List.not_mem_nil) gx_370 List.not_mem_nil) gx_375 List.not_mem_nil) gx_380 List.not_mem_nil)
              have hb_383 : SlG γ_325 w_378 0 10 a b off encA L := (SlG.keep (SlG.keep (SlG.keep (SlG.keep (SlG.keep (SlG.keep (SlG.keep (SlG.keep hb_128 gx_295 (by decide)) gx_330 (by decide)) gx_355 List.not_mem_nil) gx_360 List.not_mem_nil) gx_365 List.not_mem_nil) gx_370 List.not_mem_nil) gx_375 List.not_mem_nil) gx_380 List.not_mem_nil)
              have hb_384 : AllA γ_325 w_378 L := (AllA.keep (AllA.keep (AllA.keep (AllA.keep (AllA.keep (AllA.keep (AllA.keep hb_319 gx_330 (by decide)) gx_355 List.not_mem_nil) gx_360 List.not_mem_nil) gx_365 List.not_mem_nil) gx_370 List.not_mem_nil) gx_375 List.not_mem_nil) gx_380 List.not_mem_nil)
              have hb_385 : Bk γ_325 w_378 b_1 10601 (.cells #[.int .i64 m.kind, .int .i64 m.frm, .int .i64 m.to, .int .u32 m.view, .int .u32 m.seq, .slice m.na m.N.length m.nc, .slice m.wa m.W.length m.wc] 32 (0, 0)) := (Bk.keep (Bk.keep (Bk.keep (Bk.keep (Bk.keep (Bk.keep (Bk.keep (Bk.keep (Bk.keep (Bk.keep (Bk.keep (Bk.keep (Bk.keep (Bk.keep hr_54 gx_68 (by decide)) gx_100 List.not_mem_nil) gx_106 (by decide)) gx_114 (by decide)) gx_120 (by decide)) gx_126 (by decide)) gx_295 (by decide)) gx_330 (by decide)) gx_355 List.not_mem_nil) gx_360 List.not_mem_nil) gx_365 List.not_mem_nil) gx_370 List.not_mem_nil) gx_375 List.not_mem_nil) gx_380 List.not_mem_nil)
              have hb_386 : LkAt γ_325 w_378 10 p_22 l_283 := (LkAt.keep (LkAt.keep hb_372 gx_375 List.not_mem_nil List.not_mem_nil List.not_mem_nil List.not_mem_nil) gx_380 List.not_mem_nil List.not_mem_nil List.not_mem_nil List.not_mem_nil)
              have hb_387 : LkAt γ_325 w_378 20 p_30 l_283 := (LkAt.keep hb_377 gx_380 List.not_mem_nil List.not_mem_nil List.not_mem_nil List.not_mem_nil)
              exact ⟨_, (by omega), ⟨(i + 1), l_283, _, rfl, by omega, by omega, by omega, by omega, by omega, (Eq.trans (by kernel_rfl) f_46), (Eq.trans (by kernel_rfl) f_47), (Eq.trans (by kernel_rfl) f_48), (Eq.trans (by kernel_rfl) f_49), (by kernel_rfl), hb_382, hb_383, hb_384, hb_385, hb_386, hb_387, (GX.then_same (GX.then_same (GX.then_same (GX.then_same (GX.then_same (GX.then_same (GX.trans (GX.trans (GX.thenNew (GX.thenNew (GX.thenNew (GX.thenNew (GX.then0 (GX.trans hE_44 gx_68 (by intro c_ hc_; simp only [List.mem_cons, List.not_mem_nil, or_false] at hc_ ⊢; omega)) e_93 hg_98) e_103 (by intro y_ hy_; simp only [List.mem_cons, List.not_mem_nil, or_false] at hy_; omega) (fun _ _ => rfl)) e_111 (by intro y_ hy_; simp only [List.mem_cons, List.not_mem_nil, or_false] at hy_; omega) (fun _ _ => rfl)) e_117 (by intro y_ hy_; simp only [List.mem_cons, List.not_mem_nil, or_false] at hy_; omega) (fun _ _ => rfl)) e_123 (by intro y_ hy_; simp only [List.mem_cons, List.not_mem_nil, or_false] at hy_; omega) (fun _ _ => rfl)) gx_295 (by intro c_ hc_; simp only [List.mem_cons, List.not_mem_nil, or_false] at hc_ ⊢; omega)) gx_330 (by intro c_ hc_; simp only [List.mem_cons, List.not_mem_nil, or_false] at hc_ ⊢; omega)) sm_354) sm_359) sm_364) sm_369) sm_374) sm_379)⟩⟩
    · refine wk_pure (opd 63 (.binOp .lss 3 (.tmp 60) (.tmp 62) 3) 4) rfl (.bool false) (fun _ => y_lss (k := .i64) (a := ((i : Nat) : Int)) (b := ((L.length : Nat) : Int)) (by kernel_rfl) (by kernel_rfl) (decide_eq_false h_57)) ?_
      refine wk_nil ?_
      refine thn_n ?_
      refine g_cond_f (o := .tmp 63) (x := lJ3N6w4_29) (y := lJ3N6w4_30) (by kernel_rfl) (by kernel_rfl) ?_
      refine g_exit (id := 0) (by kernel_rfl) ?_
      refine thn_e ?_
      refine thn_e ?_
      refine blk_hit ?_
      refine thn_n ?_
      refine g_seq (x := lJ3N6w4_84) (y := lJ3N6w4_85) (by kernel_rfl) ?_
      refine g_region (ops := lJ3R6w4_29) (id := 29) (by kernel_rfl) [(0, .pure)] (by kernel_rfl) (by kernel_rfl) ?_
      refine wk_pure (opd 4 (.assign (.const (.bool true))) 4) rfl (.bool true) (fun _ => y_assign (by kernel_rfl)) ?_
      refine wk_nil ?_
      refine thn_n ?_
      refine g_ret (by kernel_rfl) ?_
      refine ends1_r (v := .bool true) rfl (by kernel_rfl) ?_
      exact hK _ (GX.ext hE_44 (fun _ _ => by show 0 ∉ [10, 11, 12, 20, 21, 22]; decide))

end Go.Proofs.Ytpcdldakilkldaa
