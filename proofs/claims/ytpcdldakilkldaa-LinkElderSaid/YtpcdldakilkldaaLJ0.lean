/-
  Links: contracts of functions, step by step (J0).
-/
import Derived.Test.YtpcdldakilkldaaLQ
set_option linter.unusedSimpArgs false
set_option linter.unusedVariables false
namespace Go.Proofs.Ytpcdldakilkldaa
open Go Go.Wk

noncomputable def lJ0N6w1_0 : Code := (Try.f6.body).getD .skip
noncomputable def lJ0N6w1_1 : Code := s1 lJ0N6w1_0
noncomputable def lJ0N6w1_2 : Code := s2 lJ0N6w1_0
noncomputable def lJ0R6w1_0 : Array Oper := rops lJ0N6w1_1
noncomputable def lJ0N6w1_3 : Code := s1 lJ0N6w1_2
noncomputable def lJ0N6w1_4 : Code := s2 lJ0N6w1_2
noncomputable def lJ0N6w1_5 : Code := s1 lJ0N6w1_3
noncomputable def lJ0N6w1_6 : Code := s2 lJ0N6w1_3
noncomputable def lJ0R6w1_1 : Array Oper := rops lJ0N6w1_5
noncomputable def lJ0N6w1_7 : Code := s1 lJ0N6w1_6
noncomputable def lJ0N6w1_8 : Code := s2 lJ0N6w1_6
noncomputable def lJ0N6w1_9 : Code := s1 lJ0N6w1_4
noncomputable def lJ0N6w1_10 : Code := s2 lJ0N6w1_4
noncomputable def lJ0N6w1_11 : Code := s1 lJ0N6w1_9
noncomputable def lJ0N6w1_12 : Code := s2 lJ0N6w1_9
noncomputable def lJ0R6w1_3 : Array Oper := rops lJ0N6w1_11
noncomputable def lJ0N6w1_13 : Code := s1 lJ0N6w1_12
noncomputable def lJ0N6w1_14 : Code := s2 lJ0N6w1_12
noncomputable def lJ0N6w1_15 : Code := s1 lJ0N6w1_13
noncomputable def lJ0N6w1_16 : Code := s2 lJ0N6w1_13
noncomputable def lJ0R6w1_4 : Array Oper := rops lJ0N6w1_15
noncomputable def lJ0N6w1_17 : Code := s1 lJ0N6w1_10
noncomputable def lJ0N6w1_18 : Code := s2 lJ0N6w1_10
noncomputable def lJ0R6w1_5 : Array Oper := rops lJ0N6w1_17
noncomputable def lJ0N6w1_19 : Code := s1 lJ0N6w1_18
noncomputable def lJ0N6w1_20 : Code := s2 lJ0N6w1_18
noncomputable def lJ0R6w1_6 : Array Oper := rops lJ0N6w1_19
noncomputable def lJ0N6w1_21 : Code := s1 lJ0N6w1_20
noncomputable def lJ0N6w1_22 : Code := s2 lJ0N6w1_20
noncomputable def lJ0N6w1_23 : Code := s1 lJ0N6w1_21
noncomputable def lJ0N6w1_24 : Code := s2 lJ0N6w1_21
noncomputable def lJ0R6w1_7 : Array Oper := rops lJ0N6w1_23
noncomputable def lJ0N6w1_25 : Code := s1 lJ0N6w1_24
set_option maxHeartbeats 4000000 in
theorem linkElder_out {m : MsgR} {a : Option Addr} {b off c : Nat} {L : List ActR} {w : World} (hm : MIn (fun _ => 0) w m) (hs : SlG (fun _ => 0) w 0 10 a b off encA L) (hA : AllA (fun _ => 0) w L) (hbad : ¬ (L.length ≤ 50 ∧ m.N.length ≤ 10 ∧ m.W.length ≤ 10 ∧ ¬ (m.frm = 1 ∧ m.to = 0 ∧ m.view = 7))) {K : Value → World → Prop} (hK : ∀ w', Ext [] w w' → K (.bool true) w') : CallsV Try.prog 6 #[.agg #[.int .i64 m.kind, .int .i64 m.frm, .int .i64 m.to, .int .u32 m.view, .int .u32 m.seq, .slice m.na m.N.length m.nc, .slice m.wa m.W.length m.wc], .slice a L.length c] w K := by
  refine callsV_of (c := lJ0N6w1_0) Try.func6 (by kernel_rfl) (n := 175) (by kernel_rfl) ?_
  have hmv := hm.v0
  have hms := hm.s0
  refine g_seq (x := lJ0N6w1_1) (y := lJ0N6w1_2) (by kernel_rfl) ?_
  refine g_region (ops := lJ0R6w1_0) (id := 0) (by kernel_rfl) [(0, .loud), (1, .pure)] (by kernel_rfl) (by kernel_rfl) ?_
  refine wk_box (cs := #[.int .i64 m.kind, .int .i64 m.frm, .int .i64 m.to, .int .u32 m.view, .int .u32 m.seq, .slice m.na m.N.length m.nc, .slice m.wa m.W.length m.wc]) (opd 2 (.box 32 (.tmp 0)) 0) rfl (by kernel_rfl) (fun w_2 b_1 eq_4 e_3 sz_5 hb_6 => ⟨?_, ?_⟩)
  · exact trivial
  obtain ⟨γ_7, hg_8, hn_9⟩ := cls_new (fun _ => 0) w.heap.size 10601
  have gx_10 : GX [] w (fun _ => 0) w_2 γ_7 := GX.ext0 [] e_3 hg_8
  have hk_11 : Bk γ_7 w_2 b_1 10601 (.cells #[.int .i64 m.kind, .int .i64 m.frm, .int .i64 m.to, .int .u32 m.view, .int .u32 m.seq, .slice m.na m.N.length m.nc, .slice m.wa m.W.length m.wc] 32 (0, 0)) := ⟨hb_6, hn_9 _ (by omega)⟩
  refine wk_pure (opd 4 (.assign (.const (.bool false))) 4) rfl (.bool false) (fun _ => y_assign (by kernel_rfl)) ?_
  refine wk_nil ?_
  refine thn_n ?_
  refine g_seq (x := lJ0N6w1_3) (y := lJ0N6w1_4) (by kernel_rfl) ?_
  refine g_seq (x := lJ0N6w1_5) (y := lJ0N6w1_6) (by kernel_rfl) ?_
  refine g_region (ops := lJ0R6w1_1) (id := 1) (by kernel_rfl) [(0, .loud), (1, .pure)] (by kernel_rfl) (by kernel_rfl) ?_
  refine wk_call (opd 20 (.call ⟨.value (.func 7), #[], #[]⟩) 4) rfl 7 #[] (x_call Try.func7 (by kernel_rfl) (c := (Try.f7.body).getD .skip) (by kernel_rfl) (by kernel_rfl) (by kernel_rfl)) (awake_c (fun w_12 e_13 => ⟨?_, ?_⟩))
  · exact trivial
  obtain ⟨γ_14, hg_15, hn_16⟩ := cls_new γ_7 w_2.heap.size 10602
  have gx_17 : GX [] w_2 γ_7 w_12 γ_14 := GX.ext0 [] e_13 hg_15
  have hsz_18 : w_2.heap.size ≤ w_12.heap.size := e_13.size
  refine wk_pure (opd 21 (.unOp .not 4 (.tmp 20)) 4) rfl (.bool false) (fun _ => y_not (p := true) (by kernel_rfl) rfl) ?_
  refine wk_nil ?_
  refine thn_n ?_
  refine g_cond_f (o := .tmp 21) (x := lJ0N6w1_7) (y := lJ0N6w1_8) (by kernel_rfl) (by kernel_rfl) ?_
  refine g_skip (by kernel_rfl) ?_
  refine thn_n ?_
  refine g_seq (x := lJ0N6w1_9) (y := lJ0N6w1_10) (by kernel_rfl) ?_
  refine g_seq (x := lJ0N6w1_11) (y := lJ0N6w1_12) (by kernel_rfl) ?_
  refine g_region (ops := lJ0R6w1_3) (id := 3) (by kernel_rfl) [(0, .pure), (1, .pure), (2, .pure), (3, .pure), (4, .pure), (5, .loud), (6, .pure), (7, .pure), (8, .pure), (9, .pure), (10, .pure), (11, .loud), (12, .pure), (13, .pure), (14, .pure), (15, .pure), (16, .pure), (17, .loud), (18, .pure), (19, .pure), (20, .pure), (21, .loud), (22, .pure), (23, .pure), (24, .pure), (25, .pure), (26, .loud), (27, .pure), (28, .pure), (29, .pure)] (by kernel_rfl) (by kernel_rfl) ?_
  refine wk_pure (opd 22 (.move (.tmp 1)) 40) rfl (.slice a L.length c) (fun _ => y_move (by kernel_rfl)) ?_
  refine wk_pure (opd 23 (.call ⟨.builtin .len, #[.tmp 22], #[40]⟩) 3) rfl (.int .i64 ((L.length : Nat) : Int)) (fun _ => x_len (a := a) (n := L.length) (c := c) (by kernel_rfl) (by kernel_rfl)) ?_
  by_cases h_19 : (50 : Int) < ((L.length : Nat) : Int)
  · refine wk_pure (opd 24 (.binOp .gtr 3 (.tmp 23) (.const (.int .i64 50)) 3) 4) rfl (.bool true) (fun _ => y_gtr (k := .i64) (a := ((L.length : Nat) : Int)) (b := 50) (by kernel_rfl) (by kernel_rfl) (decide_eq_true h_19)) ?_
    refine wk_pure (opd 25 (.move (.tmp 24)) 4) rfl (.bool true) (fun _ => y_move (by kernel_rfl)) ?_
    refine wk_skp (some 26) (by kernel_rfl) ?_
    refine wk_skp (some 27) (by kernel_rfl) ?_
    refine wk_skp (some 28) (by kernel_rfl) ?_
    refine wk_skp (some 29) (by kernel_rfl) ?_
    refine wk_pure (opd 30 (.pick (.tmp 25) (.const (.bool true)) (.tmp 29)) 4) rfl (.bool true) (fun _ => y_pick_t (by kernel_rfl) (by kernel_rfl)) ?_
    refine wk_pure (opd 31 (.move (.tmp 30)) 4) rfl (.bool true) (fun _ => y_move (by kernel_rfl)) ?_
    refine wk_skp (some 32) (by kernel_rfl) ?_
    refine wk_skp (some 33) (by kernel_rfl) ?_
    refine wk_skp (some 34) (by kernel_rfl) ?_
    refine wk_skp (some 35) (by kernel_rfl) ?_
    refine wk_pure (opd 36 (.pick (.tmp 31) (.const (.bool true)) (.tmp 35)) 4) rfl (.bool true) (fun _ => y_pick_t (by kernel_rfl) (by kernel_rfl)) ?_
    refine wk_pure (opd 37 (.move (.tmp 36)) 4) rfl (.bool true) (fun _ => y_move (by kernel_rfl)) ?_
    refine wk_skp (some 38) (by kernel_rfl) ?_
    refine wk_skp (some 39) (by kernel_rfl) ?_
    refine wk_skp (some 40) (by kernel_rfl) ?_
    refine wk_skp (some 41) (by kernel_rfl) ?_
    refine wk_skp (some 42) (by kernel_rfl) ?_
    refine wk_skp (some 43) (by kernel_rfl) ?_
    refine wk_skp (some 44) (by kernel_rfl) ?_
    refine wk_skp (some 45) (by kernel_rfl) ?_
    refine wk_skp (some 46) (by kernel_rfl) ?_
    refine wk_skp (some 47) (by kernel_rfl) ?_
    refine wk_skp (some 48) (by kernel_rfl) ?_
    refine wk_skp (some 49) (by kernel_rfl) ?_
    refine wk_skp (some 50) (by kernel_rfl) ?_
    refine wk_pure (opd 51 (.pick (.tmp 37) (.const (.bool true)) (.tmp 50)) 4) rfl (.bool true) (fun _ => y_pick_t (by kernel_rfl) (by kernel_rfl)) ?_
    refine wk_nil ?_
    refine thn_n ?_
    refine g_cond_t (o := .tmp 51) (x := lJ0N6w1_13) (y := lJ0N6w1_14) (by kernel_rfl) (by kernel_rfl) ?_
    refine g_seq (x := lJ0N6w1_15) (y := lJ0N6w1_16) (by kernel_rfl) ?_
    refine g_region (ops := lJ0R6w1_4) (id := 4) (by kernel_rfl) [(0, .pure)] (by kernel_rfl) (by kernel_rfl) ?_
    refine wk_pure (opd 4 (.assign (.const (.bool true))) 4) rfl (.bool true) (fun _ => y_assign (by kernel_rfl)) ?_
    refine wk_nil ?_
    refine thn_n ?_
    refine g_ret (by kernel_rfl) ?_
    refine thn_r ?_
    refine ends1_r (v := .bool true) rfl (by kernel_rfl) ?_
    exact hK _ (GX.ext (GX.then0 (GX.then0 (GX.refl [10, 11, 12, 20, 21, 22] _ _) e_3 hg_8) e_13 hg_15) (fun _ _ => by show 0 ∉ [10, 11, 12, 20, 21, 22]; decide))
  · refine wk_pure (opd 24 (.binOp .gtr 3 (.tmp 23) (.const (.int .i64 50)) 3) 4) rfl (.bool false) (fun _ => y_gtr (k := .i64) (a := ((L.length : Nat) : Int)) (b := 50) (by kernel_rfl) (by kernel_rfl) (decide_eq_false h_19)) ?_
    refine wk_pure (opd 25 (.move (.tmp 24)) 4) rfl (.bool false) (fun _ => y_move (by kernel_rfl)) ?_
    refine wk_pure (opg 26 (.fieldAddr 32 (.tmp 2) 5) 0 3 false) (by kernel_rfl) (.pointer (some ⟨b_1, 5, none⟩)) (fun _ => x_fieldAddr (b := b_1) (off := 0) (o := 5) (by kernel_rfl) (by kernel_rfl)) ?_
    have hb_20 : Bk γ_14 w_12 b_1 10601 (.cells #[.int .i64 m.kind, .int .i64 m.frm, .int .i64 m.to, .int .u32 m.view, .int .u32 m.seq, .slice m.na m.N.length m.nc, .slice m.wa m.W.length m.wc] 32 (0, 0)) := (Bk.keep hk_11 gx_17 List.not_mem_nil)
    refine wk_val (opg 27 (.load 29 (.tmp 26)) 29 3 false) (by kernel_rfl) (.slice m.na m.N.length m.nc) (x_load (b := b_1) (off := 5) (by kernel_rfl) (by kernel_rfl) hb_20.1 (by kernel_rfl)) trivial ?_
    refine wk_pure (opg 28 (.call ⟨.builtin .len, #[.tmp 27], #[29]⟩) 3 3 false) (by kernel_rfl) (.int .i64 ((m.N.length : Nat) : Int)) (fun _ => x_len (a := m.na) (n := m.N.length) (c := m.nc) (by kernel_rfl) (by kernel_rfl)) ?_
    by_cases h_21 : (10 : Int) < ((m.N.length : Nat) : Int)
    · refine wk_pure (opg 29 (.binOp .gtr 3 (.tmp 28) (.const (.int .i64 10)) 3) 4 3 false) (by kernel_rfl) (.bool true) (fun _ => y_gtr (k := .i64) (a := ((m.N.length : Nat) : Int)) (b := 10) (by kernel_rfl) (by kernel_rfl) (decide_eq_true h_21)) ?_
      refine wk_pure (opd 30 (.pick (.tmp 25) (.const (.bool true)) (.tmp 29)) 4) rfl (.bool true) (fun _ => y_pick_f (by kernel_rfl) (by kernel_rfl)) ?_
      refine wk_pure (opd 31 (.move (.tmp 30)) 4) rfl (.bool true) (fun _ => y_move (by kernel_rfl)) ?_
      refine wk_skp (some 32) (by kernel_rfl) ?_
      refine wk_skp (some 33) (by kernel_rfl) ?_
      refine wk_skp (some 34) (by kernel_rfl) ?_
      refine wk_skp (some 35) (by kernel_rfl) ?_
      refine wk_pure (opd 36 (.pick (.tmp 31) (.const (.bool true)) (.tmp 35)) 4) rfl (.bool true) (fun _ => y_pick_t (by kernel_rfl) (by kernel_rfl)) ?_
      refine wk_pure (opd 37 (.move (.tmp 36)) 4) rfl (.bool true) (fun _ => y_move (by kernel_rfl)) ?_
      refine wk_skp (some 38) (by kernel_rfl) ?_
      refine wk_skp (some 39) (by kernel_rfl) ?_
      refine wk_skp (some 40) (by kernel_rfl) ?_
      refine wk_skp (some 41) (by kernel_rfl) ?_
      refine wk_skp (some 42) (by kernel_rfl) ?_
      refine wk_skp (some 43) (by kernel_rfl) ?_
      refine wk_skp (some 44) (by kernel_rfl) ?_
      refine wk_skp (some 45) (by kernel_rfl) ?_
      refine wk_skp (some 46) (by kernel_rfl) ?_
      refine wk_skp (some 47) (by kernel_rfl) ?_
      refine wk_skp (some 48) (by kernel_rfl) ?_
      refine wk_skp (some 49) (by kernel_rfl) ?_
      refine wk_skp (some 50) (by kernel_rfl) ?_
      refine wk_pure (opd 51 (.pick (.tmp 37) (.const (.bool true)) (.tmp 50)) 4) rfl (.bool true) (fun _ => y_pick_t (by kernel_rfl) (by kernel_rfl)) ?_
      refine wk_nil ?_
      refine thn_n ?_
      refine g_cond_t (o := .tmp 51) (x := lJ0N6w1_13) (y := lJ0N6w1_14) (by kernel_rfl) (by kernel_rfl) ?_
      refine g_seq (x := lJ0N6w1_15) (y := lJ0N6w1_16) (by kernel_rfl) ?_
      refine g_region (ops := lJ0R6w1_4) (id := 4) (by kernel_rfl) [(0, .pure)] (by kernel_rfl) (by kernel_rfl) ?_
      refine wk_pure (opd 4 (.assign (.const (.bool true))) 4) rfl (.bool true) (fun _ => y_assign (by kernel_rfl)) ?_
      refine wk_nil ?_
      refine thn_n ?_
      refine g_ret (by kernel_rfl) ?_
      refine thn_r ?_
      refine ends1_r (v := .bool true) rfl (by kernel_rfl) ?_
      exact hK _ (GX.ext (GX.then0 (GX.then0 (GX.refl [10, 11, 12, 20, 21, 22] _ _) e_3 hg_8) e_13 hg_15) (fun _ _ => by show 0 ∉ [10, 11, 12, 20, 21, 22]; decide))
    · refine wk_pure (opg 29 (.binOp .gtr 3 (.tmp 28) (.const (.int .i64 10)) 3) 4 3 false) (by kernel_rfl) (.bool false) (fun _ => y_gtr (k := .i64) (a := ((m.N.length : Nat) : Int)) (b := 10) (by kernel_rfl) (by kernel_rfl) (decide_eq_false h_21)) ?_
      refine wk_pure (opd 30 (.pick (.tmp 25) (.const (.bool true)) (.tmp 29)) 4) rfl (.bool false) (fun _ => y_pick_f (by kernel_rfl) (by kernel_rfl)) ?_
      refine wk_pure (opd 31 (.move (.tmp 30)) 4) rfl (.bool false) (fun _ => y_move (by kernel_rfl)) ?_
      refine wk_pure (opg 32 (.fieldAddr 32 (.tmp 2) 6) 0 9 false) (by kernel_rfl) (.pointer (some ⟨b_1, 6, none⟩)) (fun _ => x_fieldAddr (b := b_1) (off := 0) (o := 6) (by kernel_rfl) (by kernel_rfl)) ?_
      refine wk_val (opg 33 (.load 30 (.tmp 32)) 30 9 false) (by kernel_rfl) (.slice m.wa m.W.length m.wc) (x_load (b := b_1) (off := 6) (by kernel_rfl) (by kernel_rfl) hb_20.1 (by kernel_rfl)) trivial ?_
      refine wk_pure (opg 34 (.call ⟨.builtin .len, #[.tmp 33], #[30]⟩) 3 9 false) (by kernel_rfl) (.int .i64 ((m.W.length : Nat) : Int)) (fun _ => x_len (a := m.wa) (n := m.W.length) (c := m.wc) (by kernel_rfl) (by kernel_rfl)) ?_
      by_cases h_22 : (10 : Int) < ((m.W.length : Nat) : Int)
      · refine wk_pure (opg 35 (.binOp .gtr 3 (.tmp 34) (.const (.int .i64 10)) 3) 4 9 false) (by kernel_rfl) (.bool true) (fun _ => y_gtr (k := .i64) (a := ((m.W.length : Nat) : Int)) (b := 10) (by kernel_rfl) (by kernel_rfl) (decide_eq_true h_22)) ?_
        refine wk_pure (opd 36 (.pick (.tmp 31) (.const (.bool true)) (.tmp 35)) 4) rfl (.bool true) (fun _ => y_pick_f (by kernel_rfl) (by kernel_rfl)) ?_
        refine wk_pure (opd 37 (.move (.tmp 36)) 4) rfl (.bool true) (fun _ => y_move (by kernel_rfl)) ?_
        refine wk_skp (some 38) (by kernel_rfl) ?_
        refine wk_skp (some 39) (by kernel_rfl) ?_
        refine wk_skp (some 40) (by kernel_rfl) ?_
        refine wk_skp (some 41) (by kernel_rfl) ?_
        refine wk_skp (some 42) (by kernel_rfl) ?_
        refine wk_skp (some 43) (by kernel_rfl) ?_
        refine wk_skp (some 44) (by kernel_rfl) ?_
        refine wk_skp (some 45) (by kernel_rfl) ?_
        refine wk_skp (some 46) (by kernel_rfl) ?_
        refine wk_skp (some 47) (by kernel_rfl) ?_
        refine wk_skp (some 48) (by kernel_rfl) ?_
        refine wk_skp (some 49) (by kernel_rfl) ?_
        refine wk_skp (some 50) (by kernel_rfl) ?_
        refine wk_pure (opd 51 (.pick (.tmp 37) (.const (.bool true)) (.tmp 50)) 4) rfl (.bool true) (fun _ => y_pick_t (by kernel_rfl) (by kernel_rfl)) ?_
        refine wk_nil ?_
        refine thn_n ?_
        refine g_cond_t (o := .tmp 51) (x := lJ0N6w1_13) (y := lJ0N6w1_14) (by kernel_rfl) (by kernel_rfl) ?_
        refine g_seq (x := lJ0N6w1_15) (y := lJ0N6w1_16) (by kernel_rfl) ?_
        refine g_region (ops := lJ0R6w1_4) (id := 4) (by kernel_rfl) [(0, .pure)] (by kernel_rfl) (by kernel_rfl) ?_
        refine wk_pure (opd 4 (.assign (.const (.bool true))) 4) rfl (.bool true) (fun _ => y_assign (by kernel_rfl)) ?_
        refine wk_nil ?_
        refine thn_n ?_
        refine g_ret (by kernel_rfl) ?_
        refine thn_r ?_
        refine ends1_r (v := .bool true) rfl (by kernel_rfl) ?_
        exact hK _ (GX.ext (GX.then0 (GX.then0 (GX.refl [10, 11, 12, 20, 21, 22] _ _) e_3 hg_8) e_13 hg_15) (fun _ _ => by show 0 ∉ [10, 11, 12, 20, 21, 22]; decide))
      · refine wk_pure (opg 35 (.binOp .gtr 3 (.tmp 34) (.const (.int .i64 10)) 3) 4 9 false) (by kernel_rfl) (.bool false) (fun _ => y_gtr (k := .i64) (a := ((m.W.length : Nat) : Int)) (b := 10) (by kernel_rfl) (by kernel_rfl) (decide_eq_false h_22)) ?_
        refine wk_pure (opd 36 (.pick (.tmp 31) (.const (.bool true)) (.tmp 35)) 4) rfl (.bool false) (fun _ => y_pick_f (by kernel_rfl) (by kernel_rfl)) ?_
        refine wk_pure (opd 37 (.move (.tmp 36)) 4) rfl (.bool false) (fun _ => y_move (by kernel_rfl)) ?_
        refine wk_pure (opg 38 (.fieldAddr 32 (.tmp 2) 1) 0 15 false) (by kernel_rfl) (.pointer (some ⟨b_1, 1, none⟩)) (fun _ => x_fieldAddr (b := b_1) (off := 0) (o := 1) (by kernel_rfl) (by kernel_rfl)) ?_
        refine wk_val (opg 39 (.load 3 (.tmp 38)) 3 15 false) (by kernel_rfl) (.int .i64 m.frm) (x_load (b := b_1) (off := 1) (by kernel_rfl) (by kernel_rfl) hb_20.1 (by kernel_rfl)) trivial ?_
        by_cases h_23 : (m.frm : Int) = 1
        · refine wk_pure (opg 40 (.binOp .eql 3 (.tmp 39) (.const (.int .i64 1)) 3) 4 15 false) (by kernel_rfl) (.bool true) (fun _ => y_eql (k := .i64) (a := m.frm) (b := 1) (by kernel_rfl) (by kernel_rfl) (decide_eq_true h_23)) ?_
          refine wk_pure (opg 41 (.move (.tmp 40)) 4 15 false) (by kernel_rfl) (.bool true) (fun _ => y_move (by kernel_rfl)) ?_
          refine wk_pure (opg 42 (.fieldAddr 32 (.tmp 2) 2) 0 19 true) (by kernel_rfl) (.pointer (some ⟨b_1, 2, none⟩)) (fun _ => x_fieldAddr (b := b_1) (off := 0) (o := 2) (by kernel_rfl) (by kernel_rfl)) ?_
          refine wk_val (opg 43 (.load 3 (.tmp 42)) 3 19 true) (by kernel_rfl) (.int .i64 m.to) (x_load (b := b_1) (off := 2) (by kernel_rfl) (by kernel_rfl) hb_20.1 (by kernel_rfl)) trivial ?_
          by_cases h_24 : (m.to : Int) = 0
          · refine wk_pure (opg 44 (.binOp .eql 3 (.tmp 43) (.const (.int .i64 0)) 3) 4 19 true) (by kernel_rfl) (.bool true) (fun _ => y_eql (k := .i64) (a := m.to) (b := 0) (by kernel_rfl) (by kernel_rfl) (decide_eq_true h_24)) ?_
            refine wk_pure (opg 45 (.pick (.tmp 41) (.tmp 44) (.const (.bool false))) 4 15 false) (by kernel_rfl) (.bool true) (fun _ => y_pick_t (by kernel_rfl) (by kernel_rfl)) ?_
            refine wk_pure (opg 46 (.move (.tmp 45)) 4 15 false) (by kernel_rfl) (.bool true) (fun _ => y_move (by kernel_rfl)) ?_
            refine wk_pure (opg 47 (.fieldAddr 32 (.tmp 2) 3) 0 24 true) (by kernel_rfl) (.pointer (some ⟨b_1, 3, none⟩)) (fun _ => x_fieldAddr (b := b_1) (off := 0) (o := 3) (by kernel_rfl) (by kernel_rfl)) ?_
            refine wk_val (opg 48 (.load 27 (.tmp 47)) 27 24 true) (by kernel_rfl) (.int .u32 m.view) (x_load (b := b_1) (off := 3) (by kernel_rfl) (by kernel_rfl) hb_20.1 (by kernel_rfl)) trivial ?_
            by_cases h_25 : (m.view : Int) = 7
            · refine wk_pure (opg 49 (.binOp .eql 27 (.tmp 48) (.const (.int .u32 7)) 27) 4 24 true) (by kernel_rfl) (.bool true) (fun _ => y_eql (k := .u32) (a := m.view) (b := 7) (by kernel_rfl) (by kernel_rfl) (decide_eq_true h_25)) ?_
              refine wk_pure (opg 50 (.pick (.tmp 46) (.tmp 49) (.const (.bool false))) 4 15 false) (by kernel_rfl) (.bool true) (fun _ => y_pick_t (by kernel_rfl) (by kernel_rfl)) ?_
              refine wk_pure (opd 51 (.pick (.tmp 37) (.const (.bool true)) (.tmp 50)) 4) rfl (.bool true) (fun _ => y_pick_f (by kernel_rfl) (by kernel_rfl)) ?_
              refine wk_nil ?_
              refine thn_n ?_
              refine g_cond_t (o := .tmp 51) (x := lJ0N6w1_13) (y := lJ0N6w1_14) (by kernel_rfl) (by kernel_rfl) ?_
              refine g_seq (x := lJ0N6w1_15) (y := lJ0N6w1_16) (by kernel_rfl) ?_
              refine g_region (ops := lJ0R6w1_4) (id := 4) (by kernel_rfl) [(0, .pure)] (by kernel_rfl) (by kernel_rfl) ?_
              refine wk_pure (opd 4 (.assign (.const (.bool true))) 4) rfl (.bool true) (fun _ => y_assign (by kernel_rfl)) ?_
              refine wk_nil ?_
              refine thn_n ?_
              refine g_ret (by kernel_rfl) ?_
              refine thn_r ?_
              refine ends1_r (v := .bool true) rfl (by kernel_rfl) ?_
              exact hK _ (GX.ext (GX.then0 (GX.then0 (GX.refl [10, 11, 12, 20, 21, 22] _ _) e_3 hg_8) e_13 hg_15) (fun _ _ => by show 0 ∉ [10, 11, 12, 20, 21, 22]; decide))
            · refine wk_pure (opg 49 (.binOp .eql 27 (.tmp 48) (.const (.int .u32 7)) 27) 4 24 true) (by kernel_rfl) (.bool false) (fun _ => y_eql (k := .u32) (a := m.view) (b := 7) (by kernel_rfl) (by kernel_rfl) (decide_eq_false h_25)) ?_
              refine wk_pure (opg 50 (.pick (.tmp 46) (.tmp 49) (.const (.bool false))) 4 15 false) (by kernel_rfl) (.bool false) (fun _ => y_pick_t (by kernel_rfl) (by kernel_rfl)) ?_
              refine wk_pure (opd 51 (.pick (.tmp 37) (.const (.bool true)) (.tmp 50)) 4) rfl (.bool false) (fun _ => y_pick_f (by kernel_rfl) (by kernel_rfl)) ?_
              refine wk_nil ?_
              refine thn_n ?_
              refine g_cond_f (o := .tmp 51) (x := lJ0N6w1_13) (y := lJ0N6w1_14) (by kernel_rfl) (by kernel_rfl) ?_
              refine g_skip (by kernel_rfl) ?_
              refine thn_n ?_
              refine g_seq (x := lJ0N6w1_17) (y := lJ0N6w1_18) (by kernel_rfl) ?_
              refine g_region (ops := lJ0R6w1_5) (id := 5) (by kernel_rfl) [(0, .loud), (1, .pure), (2, .pure), (3, .pure), (4, .pure), (5, .pure)] (by kernel_rfl) (by kernel_rfl) ?_
              refine wk_call (opd 53 (.call ⟨.value (.func 8), #[.const (.int .i64 0), .const (.int .i64 1), .const (.int .u32 7)], #[3, 3, 27]⟩) 25) rfl 8 #[.int .i64 0, .int .i64 1, .int .u32 7] (x_call Try.func8 (by kernel_rfl) (c := (Try.f8.body).getD .skip) (by kernel_rfl) (by kernel_rfl) (by kernel_rfl)) (newL_p (γ := γ_14) (own := 0) (peer := 1) (view := 7) 10 (by omega) (by omega) (by omega) (by omega) (fun w_26 γ_27 p_28 gx_29 hL_30 lo_31 => ⟨?_, ?_⟩))
              · exact trivial
              have hsz_32 : w_12.heap.size ≤ w_26.heap.size := gx_29.size
              have hL_33 : LkAt γ_27 w_26 10 p_28 (newL 0 1 7) := hL_30
              refine wk_pure (opd 52 (.move (.tmp 53)) 25) rfl (.tuple #[.pointer (some ⟨p_28, 0, none⟩), .int .i64 0]) (fun _ => y_move (by kernel_rfl)) ?_
              refine wk_pure (opd 54 (.extract (.tmp 52) 0) 23) rfl (.pointer (some ⟨p_28, 0, none⟩)) (fun _ => x_extract (vs := #[.pointer (some ⟨p_28, 0, none⟩), .int .i64 0]) (by kernel_rfl) (by kernel_rfl)) ?_
              refine wk_pure (opd 55 (.extract (.tmp 52) 1) 24) rfl (.int .i64 0) (fun _ => x_extract (vs := #[.pointer (some ⟨p_28, 0, none⟩), .int .i64 0]) (by kernel_rfl) (by kernel_rfl)) ?_
              refine wk_pure (opd 5 (.assign (.tmp 54)) 23) rfl (.pointer (some ⟨p_28, 0, none⟩)) (fun _ => y_assign (by kernel_rfl)) ?_
              refine wk_pure (opd 6 (.assign (.tmp 55)) 24) rfl (.int .i64 0) (fun _ => y_assign (by kernel_rfl)) ?_
              refine wk_nil ?_
              refine thn_n ?_
              refine g_seq (x := lJ0N6w1_19) (y := lJ0N6w1_20) (by kernel_rfl) ?_
              refine g_region (ops := lJ0R6w1_6) (id := 6) (by kernel_rfl) [(0, .loud), (1, .pure), (2, .pure), (3, .pure), (4, .pure), (5, .pure)] (by kernel_rfl) (by kernel_rfl) ?_
              refine wk_call (opd 57 (.call ⟨.value (.func 8), #[.const (.int .i64 0), .const (.int .i64 1), .const (.int .u32 7)], #[3, 3, 27]⟩) 25) rfl 8 #[.int .i64 0, .int .i64 1, .int .u32 7] (x_call Try.func8 (by kernel_rfl) (c := (Try.f8.body).getD .skip) (by kernel_rfl) (by kernel_rfl) (by kernel_rfl)) (newL_p (γ := γ_27) (own := 0) (peer := 1) (view := 7) 20 (by omega) (by omega) (by omega) (by omega) (fun w_34 γ_35 p_36 gx_37 hL_38 lo_39 => ⟨?_, ?_⟩))
              · exact trivial
              have hsz_40 : w_26.heap.size ≤ w_34.heap.size := gx_37.size
              have hL_41 : LkAt γ_35 w_34 20 p_36 (newL 0 1 7) := hL_38
              refine wk_pure (opd 56 (.move (.tmp 57)) 25) rfl (.tuple #[.pointer (some ⟨p_36, 0, none⟩), .int .i64 0]) (fun _ => y_move (by kernel_rfl)) ?_
              refine wk_pure (opd 58 (.extract (.tmp 56) 0) 23) rfl (.pointer (some ⟨p_36, 0, none⟩)) (fun _ => x_extract (vs := #[.pointer (some ⟨p_36, 0, none⟩), .int .i64 0]) (by kernel_rfl) (by kernel_rfl)) ?_
              refine wk_pure (opd 59 (.extract (.tmp 56) 1) 24) rfl (.int .i64 0) (fun _ => x_extract (vs := #[.pointer (some ⟨p_36, 0, none⟩), .int .i64 0]) (by kernel_rfl) (by kernel_rfl)) ?_
              refine wk_pure (opd 7 (.assign (.tmp 58)) 23) rfl (.pointer (some ⟨p_36, 0, none⟩)) (fun _ => y_assign (by kernel_rfl)) ?_
              refine wk_pure (opd 8 (.assign (.tmp 59)) 24) rfl (.int .i64 0) (fun _ => y_assign (by kernel_rfl)) ?_
              refine wk_nil ?_
              refine thn_n ?_
              refine g_seq (x := lJ0N6w1_21) (y := lJ0N6w1_22) (by kernel_rfl) ?_
              refine g_seq (x := lJ0N6w1_23) (y := lJ0N6w1_24) (by kernel_rfl) ?_
              refine g_region (ops := lJ0R6w1_7) (id := 7) (by kernel_rfl) [(0, .pure)] (by kernel_rfl) (by kernel_rfl) ?_
              refine wk_pure (opd 9 (.assign (.const (.int .i64 0))) 3) rfl (.int .i64 0) (fun _ => y_assign (by kernel_rfl)) ?_
              refine wk_nil ?_
              refine thn_n ?_
              refine g_block (x := lJ0N6w1_25) (id := 0) (by kernel_rfl) ?_
              exfalso; omega
          · refine wk_pure (opg 44 (.binOp .eql 3 (.tmp 43) (.const (.int .i64 0)) 3) 4 19 true) (by kernel_rfl) (.bool false) (fun _ => y_eql (k := .i64) (a := m.to) (b := 0) (by kernel_rfl) (by kernel_rfl) (decide_eq_false h_24)) ?_
            refine wk_pure (opg 45 (.pick (.tmp 41) (.tmp 44) (.const (.bool false))) 4 15 false) (by kernel_rfl) (.bool false) (fun _ => y_pick_t (by kernel_rfl) (by kernel_rfl)) ?_
            refine wk_pure (opg 46 (.move (.tmp 45)) 4 15 false) (by kernel_rfl) (.bool false) (fun _ => y_move (by kernel_rfl)) ?_
            refine wk_skp (some 47) (by kernel_rfl) ?_
            refine wk_skp (some 48) (by kernel_rfl) ?_
            refine wk_skp (some 49) (by kernel_rfl) ?_
            refine wk_pure (opg 50 (.pick (.tmp 46) (.tmp 49) (.const (.bool false))) 4 15 false) (by kernel_rfl) (.bool false) (fun _ => y_pick_f (by kernel_rfl) (by kernel_rfl)) ?_
            refine wk_pure (opd 51 (.pick (.tmp 37) (.const (.bool true)) (.tmp 50)) 4) rfl (.bool false) (fun _ => y_pick_f (by kernel_rfl) (by kernel_rfl)) ?_
            refine wk_nil ?_
            refine thn_n ?_
            refine g_cond_f (o := .tmp 51) (x := lJ0N6w1_13) (y := lJ0N6w1_14) (by kernel_rfl) (by kernel_rfl) ?_
            refine g_skip (by kernel_rfl) ?_
            refine thn_n ?_
            refine g_seq (x := lJ0N6w1_17) (y := lJ0N6w1_18) (by kernel_rfl) ?_
            refine g_region (ops := lJ0R6w1_5) (id := 5) (by kernel_rfl) [(0, .loud), (1, .pure), (2, .pure), (3, .pure), (4, .pure), (5, .pure)] (by kernel_rfl) (by kernel_rfl) ?_
            refine wk_call (opd 53 (.call ⟨.value (.func 8), #[.const (.int .i64 0), .const (.int .i64 1), .const (.int .u32 7)], #[3, 3, 27]⟩) 25) rfl 8 #[.int .i64 0, .int .i64 1, .int .u32 7] (x_call Try.func8 (by kernel_rfl) (c := (Try.f8.body).getD .skip) (by kernel_rfl) (by kernel_rfl) (by kernel_rfl)) (newL_p (γ := γ_14) (own := 0) (peer := 1) (view := 7) 10 (by omega) (by omega) (by omega) (by omega) (fun w_42 γ_43 p_44 gx_45 hL_46 lo_47 => ⟨?_, ?_⟩))
            · exact trivial
            have hsz_48 : w_12.heap.size ≤ w_42.heap.size := gx_45.size
            have hL_49 : LkAt γ_43 w_42 10 p_44 (newL 0 1 7) := hL_46
            refine wk_pure (opd 52 (.move (.tmp 53)) 25) rfl (.tuple #[.pointer (some ⟨p_44, 0, none⟩), .int .i64 0]) (fun _ => y_move (by kernel_rfl)) ?_
            refine wk_pure (opd 54 (.extract (.tmp 52) 0) 23) rfl (.pointer (some ⟨p_44, 0, none⟩)) (fun _ => x_extract (vs := #[.pointer (some ⟨p_44, 0, none⟩), .int .i64 0]) (by kernel_rfl) (by kernel_rfl)) ?_
            refine wk_pure (opd 55 (.extract (.tmp 52) 1) 24) rfl (.int .i64 0) (fun _ => x_extract (vs := #[.pointer (some ⟨p_44, 0, none⟩), .int .i64 0]) (by kernel_rfl) (by kernel_rfl)) ?_
            refine wk_pure (opd 5 (.assign (.tmp 54)) 23) rfl (.pointer (some ⟨p_44, 0, none⟩)) (fun _ => y_assign (by kernel_rfl)) ?_
            refine wk_pure (opd 6 (.assign (.tmp 55)) 24) rfl (.int .i64 0) (fun _ => y_assign (by kernel_rfl)) ?_
            refine wk_nil ?_
            refine thn_n ?_
            refine g_seq (x := lJ0N6w1_19) (y := lJ0N6w1_20) (by kernel_rfl) ?_
            refine g_region (ops := lJ0R6w1_6) (id := 6) (by kernel_rfl) [(0, .loud), (1, .pure), (2, .pure), (3, .pure), (4, .pure), (5, .pure)] (by kernel_rfl) (by kernel_rfl) ?_
            refine wk_call (opd 57 (.call ⟨.value (.func 8), #[.const (.int .i64 0), .const (.int .i64 1), .const (.int .u32 7)], #[3, 3, 27]⟩) 25) rfl 8 #[.int .i64 0, .int .i64 1, .int .u32 7] (x_call Try.func8 (by kernel_rfl) (c := (Try.f8.body).getD .skip) (by kernel_rfl) (by kernel_rfl) (by kernel_rfl)) (newL_p (γ := γ_43) (own := 0) (peer := 1) (view := 7) 20 (by omega) (by omega) (by omega) (by omega) (fun w_50 γ_51 p_52 gx_53 hL_54 lo_55 => ⟨?_, ?_⟩))
            · exact trivial
            have hsz_56 : w_42.heap.size ≤ w_50.heap.size := gx_53.size
            have hL_57 : LkAt γ_51 w_50 20 p_52 (newL 0 1 7) := hL_54
            refine wk_pure (opd 56 (.move (.tmp 57)) 25) rfl (.tuple #[.pointer (some ⟨p_52, 0, none⟩), .int .i64 0]) (fun _ => y_move (by kernel_rfl)) ?_
            refine wk_pure (opd 58 (.extract (.tmp 56) 0) 23) rfl (.pointer (some ⟨p_52, 0, none⟩)) (fun _ => x_extract (vs := #[.pointer (some ⟨p_52, 0, none⟩), .int .i64 0]) (by kernel_rfl) (by kernel_rfl)) ?_
            refine wk_pure (opd 59 (.extract (.tmp 56) 1) 24) rfl (.int .i64 0) (fun _ => x_extract (vs := #[.pointer (some ⟨p_52, 0, none⟩), .int .i64 0]) (by kernel_rfl) (by kernel_rfl)) ?_
            refine wk_pure (opd 7 (.assign (.tmp 58)) 23) rfl (.pointer (some ⟨p_52, 0, none⟩)) (fun _ => y_assign (by kernel_rfl)) ?_
            refine wk_pure (opd 8 (.assign (.tmp 59)) 24) rfl (.int .i64 0) (fun _ => y_assign (by kernel_rfl)) ?_
            refine wk_nil ?_
            refine thn_n ?_
            refine g_seq (x := lJ0N6w1_21) (y := lJ0N6w1_22) (by kernel_rfl) ?_
            refine g_seq (x := lJ0N6w1_23) (y := lJ0N6w1_24) (by kernel_rfl) ?_
            refine g_region (ops := lJ0R6w1_7) (id := 7) (by kernel_rfl) [(0, .pure)] (by kernel_rfl) (by kernel_rfl) ?_
            refine wk_pure (opd 9 (.assign (.const (.int .i64 0))) 3) rfl (.int .i64 0) (fun _ => y_assign (by kernel_rfl)) ?_
            refine wk_nil ?_
            refine thn_n ?_
            refine g_block (x := lJ0N6w1_25) (id := 0) (by kernel_rfl) ?_
            exfalso; omega
        · refine wk_pure (opg 40 (.binOp .eql 3 (.tmp 39) (.const (.int .i64 1)) 3) 4 15 false) (by kernel_rfl) (.bool false) (fun _ => y_eql (k := .i64) (a := m.frm) (b := 1) (by kernel_rfl) (by kernel_rfl) (decide_eq_false h_23)) ?_
          refine wk_pure (opg 41 (.move (.tmp 40)) 4 15 false) (by kernel_rfl) (.bool false) (fun _ => y_move (by kernel_rfl)) ?_
          refine wk_skp (some 42) (by kernel_rfl) ?_
          refine wk_skp (some 43) (by kernel_rfl) ?_
          refine wk_skp (some 44) (by kernel_rfl) ?_
          refine wk_pure (opg 45 (.pick (.tmp 41) (.tmp 44) (.const (.bool false))) 4 15 false) (by kernel_rfl) (.bool false) (fun _ => y_pick_f (by kernel_rfl) (by kernel_rfl)) ?_
          refine wk_pure (opg 46 (.move (.tmp 45)) 4 15 false) (by kernel_rfl) (.bool false) (fun _ => y_move (by kernel_rfl)) ?_
          refine wk_skp (some 47) (by kernel_rfl) ?_
          refine wk_skp (some 48) (by kernel_rfl) ?_
          refine wk_skp (some 49) (by kernel_rfl) ?_
          refine wk_pure (opg 50 (.pick (.tmp 46) (.tmp 49) (.const (.bool false))) 4 15 false) (by kernel_rfl) (.bool false) (fun _ => y_pick_f (by kernel_rfl) (by kernel_rfl)) ?_
          refine wk_pure (opd 51 (.pick (.tmp 37) (.const (.bool true)) (.tmp 50)) 4) rfl (.bool false) (fun _ => y_pick_f (by kernel_rfl) (by kernel_rfl)) ?_
          refine wk_nil ?_
          refine thn_n ?_
          refine g_cond_f (o := .tmp 51) (x := lJ0N6w1_13) (y := lJ0N6w1_14) (by kernel_rfl) (by kernel_rfl) ?_
          refine g_skip (by kernel_rfl) ?_
          refine thn_n ?_
          refine g_seq (x := lJ0N6w1_17) (y := lJ0N6w1_18) (by kernel_rfl) ?_
          refine g_region (ops := lJ0R6w1_5) (id := 5) (by kernel_rfl) [(0, .loud), (1, .pure), (2, .pure), (3, .pure), (4, .pure), (5, .pure)] (by kernel_rfl) (by kernel_rfl) ?_
          refine wk_call (opd 53 (.call ⟨.value (.func 8), #[.const (.int .i64 0), .const (.int .i64 1), .const (.int .u32 7)], #[3, 3, 27]⟩) 25) rfl 8 #[.int .i64 0, .int .i64 1, .int .u32 7] (x_call Try.func8 (by kernel_rfl) (c := (Try.f8.body).getD .skip) (by kernel_rfl) (by kernel_rfl) (by kernel_rfl)) (newL_p (γ := γ_14) (own := 0) (peer := 1) (view := 7) 10 (by omega) (by omega) (by omega) (by omega) (fun w_58 γ_59 p_60 gx_61 hL_62 lo_63 => ⟨?_, ?_⟩))
          · exact trivial
          have hsz_64 : w_12.heap.size ≤ w_58.heap.size := gx_61.size
          have hL_65 : LkAt γ_59 w_58 10 p_60 (newL 0 1 7) := hL_62
          refine wk_pure (opd 52 (.move (.tmp 53)) 25) rfl (.tuple #[.pointer (some ⟨p_60, 0, none⟩), .int .i64 0]) (fun _ => y_move (by kernel_rfl)) ?_
          refine wk_pure (opd 54 (.extract (.tmp 52) 0) 23) rfl (.pointer (some ⟨p_60, 0, none⟩)) (fun _ => x_extract (vs := #[.pointer (some ⟨p_60, 0, none⟩), .int .i64 0]) (by kernel_rfl) (by kernel_rfl)) ?_
          refine wk_pure (opd 55 (.extract (.tmp 52) 1) 24) rfl (.int .i64 0) (fun _ => x_extract (vs := #[.pointer (some ⟨p_60, 0, none⟩), .int .i64 0]) (by kernel_rfl) (by kernel_rfl)) ?_
          refine wk_pure (opd 5 (.assign (.tmp 54)) 23) rfl (.pointer (some ⟨p_60, 0, none⟩)) (fun _ => y_assign (by kernel_rfl)) ?_
          refine wk_pure (opd 6 (.assign (.tmp 55)) 24) rfl (.int .i64 0) (fun _ => y_assign (by kernel_rfl)) ?_
          refine wk_nil ?_
          refine thn_n ?_
          refine g_seq (x := lJ0N6w1_19) (y := lJ0N6w1_20) (by kernel_rfl) ?_
          refine g_region (ops := lJ0R6w1_6) (id := 6) (by kernel_rfl) [(0, .loud), (1, .pure), (2, .pure), (3, .pure), (4, .pure), (5, .pure)] (by kernel_rfl) (by kernel_rfl) ?_
          refine wk_call (opd 57 (.call ⟨.value (.func 8), #[.const (.int .i64 0), .const (.int .i64 1), .const (.int .u32 7)], #[3, 3, 27]⟩) 25) rfl 8 #[.int .i64 0, .int .i64 1, .int .u32 7] (x_call Try.func8 (by kernel_rfl) (c := (Try.f8.body).getD .skip) (by kernel_rfl) (by kernel_rfl) (by kernel_rfl)) (newL_p (γ := γ_59) (own := 0) (peer := 1) (view := 7) 20 (by omega) (by omega) (by omega) (by omega) (fun w_66 γ_67 p_68 gx_69 hL_70 lo_71 => ⟨?_, ?_⟩))
          · exact trivial
          have hsz_72 : w_58.heap.size ≤ w_66.heap.size := gx_69.size
          have hL_73 : LkAt γ_67 w_66 20 p_68 (newL 0 1 7) := hL_70
          refine wk_pure (opd 56 (.move (.tmp 57)) 25) rfl (.tuple #[.pointer (some ⟨p_68, 0, none⟩), .int .i64 0]) (fun _ => y_move (by kernel_rfl)) ?_
          refine wk_pure (opd 58 (.extract (.tmp 56) 0) 23) rfl (.pointer (some ⟨p_68, 0, none⟩)) (fun _ => x_extract (vs := #[.pointer (some ⟨p_68, 0, none⟩), .int .i64 0]) (by kernel_rfl) (by kernel_rfl)) ?_
          refine wk_pure (opd 59 (.extract (.tmp 56) 1) 24) rfl (.int .i64 0) (fun _ => x_extract (vs := #[.pointer (some ⟨p_68, 0, none⟩), .int .i64 0]) (by kernel_rfl) (by kernel_rfl)) ?_
          refine wk_pure (opd 7 (.assign (.tmp 58)) 23) rfl (.pointer (some ⟨p_68, 0, none⟩)) (fun _ => y_assign (by kernel_rfl)) ?_
          refine wk_pure (opd 8 (.assign (.tmp 59)) 24) rfl (.int .i64 0) (fun _ => y_assign (by kernel_rfl)) ?_
          refine wk_nil ?_
          refine thn_n ?_
          refine g_seq (x := lJ0N6w1_21) (y := lJ0N6w1_22) (by kernel_rfl) ?_
          refine g_seq (x := lJ0N6w1_23) (y := lJ0N6w1_24) (by kernel_rfl) ?_
          refine g_region (ops := lJ0R6w1_7) (id := 7) (by kernel_rfl) [(0, .pure)] (by kernel_rfl) (by kernel_rfl) ?_
          refine wk_pure (opd 9 (.assign (.const (.int .i64 0))) 3) rfl (.int .i64 0) (fun _ => y_assign (by kernel_rfl)) ?_
          refine wk_nil ?_
          refine thn_n ?_
          refine g_block (x := lJ0N6w1_25) (id := 0) (by kernel_rfl) ?_
          exfalso; omega

end Go.Proofs.Ytpcdldakilkldaa
