/-
  Links: contracts of functions, step by step (X5).
-/
import Derived.Test.YtpcdldakilkldaaX4
set_option linter.unusedSimpArgs false
set_option linter.unusedVariables false
namespace Go.Proofs.Ytpcdldakilkldaa
open Go Go.Wk

theorem map_ext {L M : List MsgR} (h : L.length = M.length) (i : Nat) (hi : L.length ≤ i) (ha : ∀ j, j < i → (L.getD j M0).abs = (M.getD j M0).abs) : L.map MsgR.abs = M.map MsgR.abs := by
  refine List.ext_getElem (by simpa using h) fun j h1 h2 => ?_
  have h1' : j < L.length := by simpa using h1
  have h2' : j < M.length := by simpa using h2
  have := ha j (by omega)
  simpa [List.getD, h1', h2'] using this
theorem map_at {L M : List MsgR} (h : L.map MsgR.abs = M.map MsgR.abs) (j : Nat) : (L.getD j M0).abs = (M.getD j M0).abs := by rw [← abs_getD, ← abs_getD, h]

noncomputable def lX5N1_0 : Code := (Try.f18.body).getD .skip
noncomputable def lX5N1_1 : Code := s1 lX5N1_0
noncomputable def lX5N1_2 : Code := s2 lX5N1_0
noncomputable def lX5R1_0 : Array Oper := rops lX5N1_1
noncomputable def lX5N1_3 : Code := s1 lX5N1_2
noncomputable def lX5N1_4 : Code := s2 lX5N1_2
noncomputable def lX5N1_5 : Code := s1 lX5N1_3
noncomputable def lX5N1_6 : Code := s2 lX5N1_3
noncomputable def lX5R1_1 : Array Oper := rops lX5N1_5
noncomputable def lX5N1_7 : Code := s1 lX5N1_6
noncomputable def lX5N1_8 : Code := s2 lX5N1_6
noncomputable def lX5N1_9 : Code := s1 lX5N1_7
noncomputable def lX5N1_10 : Code := s2 lX5N1_7
noncomputable def lX5R1_2 : Array Oper := rops lX5N1_9
noncomputable def lX5N1_11 : Code := s1 lX5N1_4
noncomputable def lX5N1_12 : Code := s2 lX5N1_4
noncomputable def lX5N1_13 : Code := s1 lX5N1_11
noncomputable def lX5N1_14 : Code := s2 lX5N1_11
noncomputable def lX5R1_3 : Array Oper := rops lX5N1_13
noncomputable def lX5N1_15 : Code := s1 lX5N1_14
noncomputable def lX5N1_16 : Code := s1 lX5N1_15
noncomputable def lX5N1_17 : Code := s1 lX5N1_16
noncomputable def lX5N1_18 : Code := s2 lX5N1_16
noncomputable def lX5N1_19 : Code := s1 lX5N1_17
noncomputable def lX5N1_20 : Code := s2 lX5N1_17
noncomputable def lX5R1_4 : Array Oper := rops lX5N1_19
noncomputable def lX5N1_21 : Code := s1 lX5N1_20
noncomputable def lX5N1_22 : Code := s2 lX5N1_20
noncomputable def lX5N1_23 : Code := s1 lX5N1_18
noncomputable def lX5N1_24 : Code := s2 lX5N1_18
noncomputable def lX5N1_25 : Code := s1 lX5N1_23
noncomputable def lX5N1_26 : Code := s1 lX5N1_25
noncomputable def lX5N1_27 : Code := s2 lX5N1_25
noncomputable def lX5R1_6 : Array Oper := rops lX5N1_26
noncomputable def lX5N1_28 : Code := s1 lX5N1_27
noncomputable def lX5N1_29 : Code := s2 lX5N1_27
noncomputable def lX5R1_5 : Array Oper := rops lX5N1_24
noncomputable def lX5N1_30 : Code := s1 lX5N1_28
noncomputable def lX5N1_31 : Code := s2 lX5N1_28
noncomputable def lX5R1_7 : Array Oper := rops lX5N1_30
noncomputable def lX5N1_32 : Code := s1 lX5N1_12
noncomputable def lX5N1_33 : Code := s2 lX5N1_12
noncomputable def lX5R1_8 : Array Oper := rops lX5N1_32
theorem all_c {L M : List MsgR} {a1 a2 : Option Addr} {b1 b2 o1 o2 c1 c2 : Nat} {w : World} {γ : Nat → Nat} {t : Bool} (h1 : SlG γ w 0 7 a1 b1 o1 encM L) (h2 : SlG γ w 0 7 a2 b2 o2 encM M) (k1 : AllOk γ w L) (k2 : AllOk γ w M) (hl : L.length ≤ 1000000) (ht : decide (L.map MsgR.abs = M.map MsgR.abs) = t) {K : Value → World → Prop} (hK : ∀ w' γ', GX [] w γ w' γ' → K (.bool t) w') : CallsV Try.prog 18 #[.slice a1 L.length c1, .slice a2 M.length c2] w K := by
  refine callsV_of (c := lX5N1_0) Try.func18 (by kernel_rfl) (n := 28) (by kernel_rfl) ?_
  refine g_seq (x := lX5N1_1) (y := lX5N1_2) (by kernel_rfl) ?_
  refine g_region (ops := lX5R1_0) (id := 0) (by kernel_rfl) [pu 0] (by kernel_rfl) (by kernel_rfl) ?_
  refine wpa 4 (.const (.bool false)) 4 (.bool false) ?_
  refine wk_nil ?_
  refine thn_n ?_
  refine g_seq (x := lX5N1_3) (y := lX5N1_4) (by kernel_rfl) ?_
  refine g_seq (x := lX5N1_5) (y := lX5N1_6) (by kernel_rfl) ?_
  refine g_region (ops := lX5R1_1) (id := 1) (by kernel_rfl) [pu 0, pu 1, pu 2, pu 3, pu 4] (by kernel_rfl) (by kernel_rfl) ?_
  refine wpm 6 (.tmp 0) 33 (.slice a1 L.length c1) ?_
  refine wk_pure (opd 7 (.call ⟨.builtin .len, #[.tmp 6], #[33]⟩) 3) rfl (.int .i64 ((L.length : Nat) : Int)) (fun _ => x_len (a := a1) (n := L.length) (c := c1) (by kernel_rfl) (by kernel_rfl)) ?_
  refine wpm 8 (.tmp 1) 44 (.slice a2 M.length c2) ?_
  refine wk_pure (opd 9 (.call ⟨.builtin .len, #[.tmp 8], #[44]⟩) 3) rfl (.int .i64 ((M.length : Nat) : Int)) (fun _ => x_len (a := a2) (n := M.length) (c := c2) (by kernel_rfl) (by kernel_rfl)) ?_
  by_cases h_1 : (((L.length : Nat) : Int) : Int) ≠ ((M.length : Nat) : Int)
  · refine wk_pure (opd 10 (.binOp .neq 3 (.tmp 7) (.tmp 9) 3) 4) rfl (.bool true) (fun _ => y_neq (k := .i64) (a := ((L.length : Nat) : Int)) (b := ((M.length : Nat) : Int)) (by kernel_rfl) (by kernel_rfl) (decide_eq_true h_1)) ?_
    refine wk_nil ?_
    refine thn_n ?_
    refine g_cond_t (o := .tmp 10) (x := lX5N1_7) (y := lX5N1_8) (by kernel_rfl) (by kernel_rfl) ?_
    refine g_seq (x := lX5N1_9) (y := lX5N1_10) (by kernel_rfl) ?_
    refine g_region (ops := lX5R1_2) (id := 2) (by kernel_rfl) [pu 0] (by kernel_rfl) (by kernel_rfl) ?_
    refine wpa 4 (.const (.bool false)) 4 (.bool false) ?_
    refine wk_nil ?_
    refine thn_n ?_
    refine g_ret (by kernel_rfl) ?_
    refine thn_r ?_
    refine ends1_r (v := .bool false) rfl (by kernel_rfl) ?_
    have e_ : false = t := by rw [← ht]; exact (decide_eq_false (fun e_ => by have e1_ := congrArg List.length e_; rw [List.length_map, List.length_map] at e1_; omega)).symm
    rw [e_]
    exact hK _ _ (GX.refl [] _ _)
  refine wk_pure (opd 10 (.binOp .neq 3 (.tmp 7) (.tmp 9) 3) 4) rfl (.bool false) (fun _ => y_neq (k := .i64) (a := ((L.length : Nat) : Int)) (b := ((M.length : Nat) : Int)) (by kernel_rfl) (by kernel_rfl) (decide_eq_false h_1)) ?_
  refine wk_nil ?_
  refine thn_n ?_
  refine g_cond_f (o := .tmp 10) (x := lX5N1_7) (y := lX5N1_8) (by kernel_rfl) (by kernel_rfl) ?_
  refine g_skip (by kernel_rfl) ?_
  refine thn_n ?_
  refine g_seq (x := lX5N1_11) (y := lX5N1_12) (by kernel_rfl) ?_
  refine g_seq (x := lX5N1_13) (y := lX5N1_14) (by kernel_rfl) ?_
  refine g_region (ops := lX5R1_3) (id := 3) (by kernel_rfl) [pu 0] (by kernel_rfl) (by kernel_rfl) ?_
  refine wpa 5 (.const (.int .i64 0)) 3 (.int .i64 0) ?_
  refine wk_nil ?_
  refine thn_n ?_
  refine g_block (x := lX5N1_15) (id := 0) (by kernel_rfl) ?_
  refine g_loop (x := lX5N1_16) (by kernel_rfl) (fun m_ ρ_ w_ => ∃ (i : Nat) (γ_ : Nat → Nat), m_ = L.length - i ∧ (i ≤ L.length) ∧ (∀ j, j < i → (L.getD j M0).abs = (M.getD j M0).abs) ∧ ρ_ 0 = .slice a1 L.length c1 ∧ ρ_ 1 = .slice a2 M.length c2 ∧ ρ_ 5 = .int .i64 ((i : Nat) : Int) ∧ SlG γ_ w_ 0 7 a1 b1 o1 encM L ∧ SlG γ_ w_ 0 7 a2 b2 o2 encM M ∧ AllOk γ_ w_ L ∧ AllOk γ_ w_ M ∧ GX [] w γ w_ γ_) (L.length - 0) ?_ ?_
  · exact ⟨0, _, rfl, by omega, by intro j hj; omega, (by kernel_rfl), (by kernel_rfl), (by kernel_rfl), h1, h2, k1, k2, (GX.refl [] _ _)⟩
  intro m_2 ρ_3 w_4 hI
  obtain ⟨i, γ_6, hm_m_2, hi, hal, f_7, f_8, f_9, hr_10, hr_11, hr_12, hr_13, hE_5⟩ := hI
  have hs_w_4 := hE_5.size
  refine g_seq (x := lX5N1_17) (y := lX5N1_18) (by kernel_rfl) ?_
  refine g_seq (x := lX5N1_19) (y := lX5N1_20) (by kernel_rfl) ?_
  refine g_region (ops := lX5R1_4) (id := 4) (by kernel_rfl) [pu 0, pu 1, pu 2, pu 3] (by kernel_rfl) (by kernel_rfl) ?_
  refine wpm 11 (.tmp 5) 3 (.int .i64 ((i : Nat) : Int)) ?_ (Eq.trans (by kernel_rfl) f_9)
  refine wpm 12 (.tmp 0) 33 (.slice a1 L.length c1) ?_ (Eq.trans (by kernel_rfl) f_7)
  refine wk_pure (opd 13 (.call ⟨.builtin .len, #[.tmp 12], #[33]⟩) 3) rfl (.int .i64 ((L.length : Nat) : Int)) (fun _ => x_len (a := a1) (n := L.length) (c := c1) (by kernel_rfl) (by kernel_rfl)) ?_
  by_cases h_14 : (((i : Nat) : Int) : Int) < ((L.length : Nat) : Int)
  · refine wk_pure (opd 14 (.binOp .lss 3 (.tmp 11) (.tmp 13) 3) 4) rfl (.bool true) (fun _ => y_lss (k := .i64) (a := ((i : Nat) : Int)) (b := ((L.length : Nat) : Int)) (by kernel_rfl) (by kernel_rfl) (decide_eq_true h_14)) ?_
    refine wk_nil ?_
    refine thn_n ?_
    refine g_cond_t (o := .tmp 14) (x := lX5N1_21) (y := lX5N1_22) (by kernel_rfl) (by kernel_rfl) ?_
    refine g_skip (by kernel_rfl) ?_
    refine thn_n ?_
    refine g_seq (x := lX5N1_23) (y := lX5N1_24) (by kernel_rfl) ?_
    refine g_block (x := lX5N1_25) (id := 1) (by kernel_rfl) ?_
    refine g_seq (x := lX5N1_26) (y := lX5N1_27) (by kernel_rfl) ?_
    refine g_draw (ops := lX5R1_6) (id := 6) (by kernel_rfl) (fun w w' => GC [] γ_6 w w') [pu 0, pu 1, pu 2, pu 5, pu 6, pu 7, (3, .stab), (8, .stab), lo 4, lo 9, pu 10] (by kernel_rfl) (by kernel_rfl) (fun _ => (GX.refl _ _ _).gc) (fun w_15 sm_16 => ?_)
    have gx_17 := GX.same [] γ_6 sm_16
    have hsz_18 : w_15.heap.size = w_4.heap.size := by rw [sm_16.heap]
    refine wpm 17 (.tmp 0) 33 (.slice a1 L.length c1) ?_ (Eq.trans (by kernel_rfl) f_7)
    refine wpm 18 (.tmp 5) 3 (.int .i64 ((i : Nat) : Int)) ?_ (Eq.trans (by kernel_rfl) f_9)
    have hb_19 := (SlG.keep hr_10 gx_17 ni0)
    refine wk_pure (opd 19 (.indexAddr 33 (.tmp 17) (.tmp 18)) 0) rfl (.pointer (some ⟨b1, o1 + (i * 7 + 0), none⟩)) (fun _ => y_ptr (x_indexN (a := a1) (b := b1) (off := o1) (n := L.length) (c := c1) (k := .i64) (i := ((i : Nat) : Int)) (e := 32) (sz := 7) (sz' := 7) (by kernel_rfl) hb_19.1 (by kernel_rfl) (by kernel_rfl) rfl (by omega) _) (by omega)) ?_
    refine wpm 22 (.tmp 1) 44 (.slice a2 M.length c2) ?_ (Eq.trans (by kernel_rfl) f_8)
    refine wpm 23 (.tmp 5) 3 (.int .i64 ((i : Nat) : Int)) ?_ (Eq.trans (by kernel_rfl) f_9)
    have hb_20 := (SlG.keep hr_11 gx_17 ni0)
    refine wk_pure (opd 24 (.indexAddr 44 (.tmp 22) (.tmp 23)) 0) rfl (.pointer (some ⟨b2, o2 + (i * 7 + 0), none⟩)) (fun _ => y_ptr (x_indexN (a := a2) (b := b2) (off := o2) (n := M.length) (c := c2) (k := .i64) (i := ((i : Nat) : Int)) (e := 50) (sz := 7) (sz' := 7) (by kernel_rfl) hb_20.1 (by kernel_rfl) (by kernel_rfl) rfl (by omega) _) (by omega)) ?_
    refine wk_stab (opd 20 (.load 32 (.tmp 19)) 32) rfl (.agg #[.int .i64 ((L.getD i M0).kind), .int .i64 ((L.getD i M0).frm), .int .i64 ((L.getD i M0).to), .int .u32 ((L.getD i M0).view), .int .u32 ((L.getD i M0).seq), .slice ((L.getD i M0).na) ((L.getD i M0).N.length) ((L.getD i M0).nc), .slice ((L.getD i M0).wa) ((L.getD i M0).W.length) ((L.getD i M0).wc)]) (fun w'_ g_ => x_load_cs (b := b1) (off := (o1 + (i * 7 + 0))) (n := 7) (vs := [.int .i64 ((L.getD i M0).kind), .int .i64 ((L.getD i M0).frm), .int .i64 ((L.getD i M0).to), .int .u32 ((L.getD i M0).view), .int .u32 ((L.getD i M0).seq), .slice ((L.getD i M0).na) ((L.getD i M0).N.length) ((L.getD i M0).nc), .slice ((L.getD i M0).wa) ((L.getD i M0).W.length) ((L.getD i M0).wc)]) (by kernel_rfl) (by kernel_rfl) rfl (SlE.getN (GC.sl g_ hb_19 ni0) encM_len M0 i 0 (by omega) rfl)) ?_
    refine wk_stab (opd 25 (.load 50 (.tmp 24)) 50) rfl (.agg #[.int .i64 ((M.getD i M0).kind), .int .i64 ((M.getD i M0).frm), .int .i64 ((M.getD i M0).to), .int .u32 ((M.getD i M0).view), .int .u32 ((M.getD i M0).seq), .slice ((M.getD i M0).na) ((M.getD i M0).N.length) ((M.getD i M0).nc), .slice ((M.getD i M0).wa) ((M.getD i M0).W.length) ((M.getD i M0).wc)]) (fun w'_ g_ => x_load_cs (b := b2) (off := (o2 + (i * 7 + 0))) (n := 7) (vs := [.int .i64 ((M.getD i M0).kind), .int .i64 ((M.getD i M0).frm), .int .i64 ((M.getD i M0).to), .int .u32 ((M.getD i M0).view), .int .u32 ((M.getD i M0).seq), .slice ((M.getD i M0).na) ((M.getD i M0).N.length) ((M.getD i M0).nc), .slice ((M.getD i M0).wa) ((M.getD i M0).W.length) ((M.getD i M0).wc)]) (by kernel_rfl) (by kernel_rfl) rfl (SlE.getN (GC.sl g_ hb_20 ni0) encM_len M0 i 0 (by omega) rfl)) ?_
    refine wkc 21 17 #[.tmp 20] #[32] 50 #[.agg #[.int .i64 ((L.getD i M0).kind), .int .i64 ((L.getD i M0).frm), .int .i64 ((L.getD i M0).to), .int .u32 ((L.getD i M0).view), .int .u32 ((L.getD i M0).seq), .slice ((L.getD i M0).na) ((L.getD i M0).N.length) ((L.getD i M0).nc), .slice ((L.getD i M0).wa) ((L.getD i M0).W.length) ((L.getD i M0).wc)]] Try.func17 (mown_c (γ := γ_6) (m := (L.getD i M0)) (fun w_21 γ_22 gx_23 => ⟨?_, ?_⟩))
    · exact (GX.trans (GX.refl [] _ _) gx_23 (fun _ h_ => absurd h_ List.not_mem_nil)).gc
    have hsz_24 := gx_23.size
    have hb_25 := (AllOk.keep (AllOk.keep hr_12 gx_17 ni0) gx_23 ni0)
    have hb_26 := (AllOk.keep (AllOk.keep hr_13 gx_17 ni0) gx_23 ni0)
    by_cases h_27 : (L.getD i M0).abs = (M.getD i M0).abs
    · refine wkc 26 33 #[.tmp 21, .tmp 25] #[50, 50] 4 #[.agg #[.int .i64 ((L.getD i M0).kind), .int .i64 ((L.getD i M0).frm), .int .i64 ((L.getD i M0).to), .int .u32 ((L.getD i M0).view), .int .u32 ((L.getD i M0).seq), .slice ((L.getD i M0).na) ((L.getD i M0).N.length) ((L.getD i M0).nc), .slice ((L.getD i M0).wa) ((L.getD i M0).W.length) ((L.getD i M0).wc)], .agg #[.int .i64 ((M.getD i M0).kind), .int .i64 ((M.getD i M0).frm), .int .i64 ((M.getD i M0).to), .int .u32 ((M.getD i M0).view), .int .u32 ((M.getD i M0).seq), .slice ((M.getD i M0).na) ((M.getD i M0).N.length) ((M.getD i M0).nc), .slice ((M.getD i M0).wa) ((M.getD i M0).W.length) ((M.getD i M0).wc)]] Try.func33 (same_c (γ := γ_22) (m := (L.getD i M0)) (q := (M.getD i M0)) (AllOk.get hb_25 (by omega : i < L.length)) (AllOk.get hb_26 (by omega : i < M.length)) (decide_eq_true h_27) (fun w_28 γ_29 gx_30 => ⟨?_, ?_⟩))
      · exact (GX.trans (GX.trans (GX.refl [] _ _) gx_23 (fun _ h_ => absurd h_ List.not_mem_nil)) gx_30 (fun _ h_ => absurd h_ List.not_mem_nil)).gc
      have hsz_31 := gx_30.size
      refine wk_pure (opd 27 (.unOp .not 4 (.tmp 26)) 4) rfl (.bool false) (fun _ => y_not (p := true) (by kernel_rfl) rfl) ?_
      refine wk_nil ?_
      refine thn_n ?_
      refine g_cond_f (o := .tmp 27) (x := lX5N1_28) (y := lX5N1_29) (by kernel_rfl) (by kernel_rfl) ?_
      refine g_skip (by kernel_rfl) ?_
      refine blk_n ?_
      refine thn_n ?_
      refine g_region (ops := lX5R1_5) (id := 5) (by kernel_rfl) [pu 0, pu 1, pu 2] (by kernel_rfl) (by kernel_rfl) ?_
      refine wpm 15 (.tmp 5) 3 (.int .i64 ((i : Nat) : Int)) ?_ (Eq.trans (by kernel_rfl) f_9)
      refine wk_pure (opd 16 (.binOp .add 3 (.tmp 15) (.const (.int .i64 1)) 3) 3) rfl (.int .i64 ((i + 1 : Nat) : Int)) (fun _ => y_add (k := .i64) (a := ((i : Nat) : Int)) (b := 1) (by kernel_rfl) (by kernel_rfl) (i64_to (by omega) (by omega))) ?_
      refine wpa 5 (.tmp 16) 3 (.int .i64 ((i + 1 : Nat) : Int)) ?_
      refine wk_nil ?_
      refine thn_n ?_
      have hb_32 := (SlG.keep (SlG.keep hb_19 gx_23 ni0) gx_30 ni0)
      have hb_33 := (SlG.keep (SlG.keep hb_20 gx_23 ni0) gx_30 ni0)
      have hb_34 := (AllOk.keep hb_25 gx_30 ni0)
      have hb_35 := (AllOk.keep hb_26 gx_30 ni0)
      exact ⟨_, (by omega), ⟨(i + 1), _, rfl, by omega, by intro j hj; rcases Nat.lt_succ_iff_lt_or_eq.1 hj with h_ | rfl; {exact hal j h_}; {exact h_27}, (Eq.trans (by kernel_rfl) f_7), (Eq.trans (by kernel_rfl) f_8), (by kernel_rfl), hb_32, hb_33, hb_34, hb_35, (GX.trans (GX.trans (GX.then_same hE_5 sm_16) gx_23 (fun _ h_ => absurd h_ List.not_mem_nil)) gx_30 (fun _ h_ => absurd h_ List.not_mem_nil))⟩⟩
    refine wkc 26 33 #[.tmp 21, .tmp 25] #[50, 50] 4 #[.agg #[.int .i64 ((L.getD i M0).kind), .int .i64 ((L.getD i M0).frm), .int .i64 ((L.getD i M0).to), .int .u32 ((L.getD i M0).view), .int .u32 ((L.getD i M0).seq), .slice ((L.getD i M0).na) ((L.getD i M0).N.length) ((L.getD i M0).nc), .slice ((L.getD i M0).wa) ((L.getD i M0).W.length) ((L.getD i M0).wc)], .agg #[.int .i64 ((M.getD i M0).kind), .int .i64 ((M.getD i M0).frm), .int .i64 ((M.getD i M0).to), .int .u32 ((M.getD i M0).view), .int .u32 ((M.getD i M0).seq), .slice ((M.getD i M0).na) ((M.getD i M0).N.length) ((M.getD i M0).nc), .slice ((M.getD i M0).wa) ((M.getD i M0).W.length) ((M.getD i M0).wc)]] Try.func33 (same_c (γ := γ_22) (m := (L.getD i M0)) (q := (M.getD i M0)) (AllOk.get hb_25 (by omega : i < L.length)) (AllOk.get hb_26 (by omega : i < M.length)) (decide_eq_false h_27) (fun w_36 γ_37 gx_38 => ⟨?_, ?_⟩))
    · exact (GX.trans (GX.trans (GX.refl [] _ _) gx_23 (fun _ h_ => absurd h_ List.not_mem_nil)) gx_38 (fun _ h_ => absurd h_ List.not_mem_nil)).gc
    have hsz_39 := gx_38.size
    refine wk_pure (opd 27 (.unOp .not 4 (.tmp 26)) 4) rfl (.bool true) (fun _ => y_not (p := false) (by kernel_rfl) rfl) ?_
    refine wk_nil ?_
    refine thn_n ?_
    refine g_cond_t (o := .tmp 27) (x := lX5N1_28) (y := lX5N1_29) (by kernel_rfl) (by kernel_rfl) ?_
    refine g_seq (x := lX5N1_30) (y := lX5N1_31) (by kernel_rfl) ?_
    refine g_region (ops := lX5R1_7) (id := 7) (by kernel_rfl) [pu 0] (by kernel_rfl) (by kernel_rfl) ?_
    refine wpa 4 (.const (.bool false)) 4 (.bool false) ?_
    refine wk_nil ?_
    refine thn_n ?_
    refine g_ret (by kernel_rfl) ?_
    refine blk_r ?_
    refine thn_r ?_
    refine thn_r ?_
    refine blk_r ?_
    refine thn_r ?_
    refine ends1_r (v := .bool false) rfl (by kernel_rfl) ?_
    have e_ : false = t := by rw [← ht]; exact (decide_eq_false (fun e_ => h_27 (map_at e_ i))).symm
    rw [e_]
    exact hK _ _ (GX.trans (GX.trans (GX.then_same hE_5 sm_16) gx_23 (fun _ h_ => absurd h_ List.not_mem_nil)) gx_38 (fun _ h_ => absurd h_ List.not_mem_nil))
  refine wk_pure (opd 14 (.binOp .lss 3 (.tmp 11) (.tmp 13) 3) 4) rfl (.bool false) (fun _ => y_lss (k := .i64) (a := ((i : Nat) : Int)) (b := ((L.length : Nat) : Int)) (by kernel_rfl) (by kernel_rfl) (decide_eq_false h_14)) ?_
  refine wk_nil ?_
  refine thn_n ?_
  refine g_cond_f (o := .tmp 14) (x := lX5N1_21) (y := lX5N1_22) (by kernel_rfl) (by kernel_rfl) ?_
  refine g_exit (id := 0) (by kernel_rfl) ?_
  refine thn_e ?_
  refine thn_e ?_
  refine blk_hit ?_
  refine thn_n ?_
  refine g_seq (x := lX5N1_32) (y := lX5N1_33) (by kernel_rfl) ?_
  refine g_region (ops := lX5R1_8) (id := 8) (by kernel_rfl) [pu 0] (by kernel_rfl) (by kernel_rfl) ?_
  refine wpa 4 (.const (.bool true)) 4 (.bool true) ?_
  refine wk_nil ?_
  refine thn_n ?_
  refine g_ret (by kernel_rfl) ?_
  refine ends1_r (v := .bool true) rfl (by kernel_rfl) ?_
  have e_ : true = t := by rw [← ht]; exact (decide_eq_true (map_ext (by omega) i (by omega) hal)).symm
  rw [e_]
  exact hK _ _ hE_5

end Go.Proofs.Ytpcdldakilkldaa
