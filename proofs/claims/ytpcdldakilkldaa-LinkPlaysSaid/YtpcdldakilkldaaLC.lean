/-
  Links: contracts of functions, step by step (C).
-/
import Derived.Test.YtpcdldakilkldaaLB
set_option linter.unusedSimpArgs false
set_option linter.unusedVariables false
namespace Go.Proofs.Ytpcdldakilkldaa
open Go Go.Wk

noncomputable def lCN1_0 : Code := (Try.f12.body).getD .skip
noncomputable def lCN1_1 : Code := s1 lCN1_0
noncomputable def lCN1_2 : Code := s2 lCN1_0
noncomputable def lCR1_0 : Array Oper := rops lCN1_1
noncomputable def lCN1_3 : Code := s1 lCN1_2
noncomputable def lCN1_4 : Code := s2 lCN1_2
noncomputable def lCR1_1 : Array Oper := rops lCN1_3
theorem waiting_c {s : LkR} {k p : Nat} {w : World} {γ : Nat → Nat} (h : LinkAt γ w k p s) (hk : 10 ≤ k ∧ k ≤ 900)  {K : Value → World → Prop} (hK : ∀ w', SameMem w w' → K (.int .i64 ((s.out.length : Nat) : Int)) w') : CallsV Try.prog 12 #[.pointer (some ⟨p, 0, none⟩)] w K := by
  refine callsV_of (c := lCN1_0) Try.func12 (by kernel_rfl) (n := 8) (by kernel_rfl) ?_
  have hp : Bk γ w p k (.cells #[.int .i64 s.own, .int .i64 s.peer, .int .u32 s.view, .int .i64 s.now, .slice s.oa s.out.length s.oc, .int .u32 s.pushed, .int .u32 s.told, .int .u32 s.next, .slice s.ha s.held.length s.hc] 61 (0, 0)) := h.hp
  have h_b1 := h.b1
  have h_b2 := h.b2
  have h_b3 := h.b3
  have h_b4 := h.b4
  have h_b5 := h.b5
  have h_l1 := h.l1
  have h_l2 := h.l2
  have h_l3 := h.l3
  have h_pl := hp.lt
  refine g_seq (x := lCN1_1) (y := lCN1_2) (by kernel_rfl) ?_
  refine g_region (ops := lCR1_0) (id := 0) (by kernel_rfl) [pu 0] (by kernel_rfl) (by kernel_rfl) ?_
  refine wpa 2 (.const (.int .i64 0)) 3 (.int .i64 0) ?_
  refine wk_nil ?_
  refine thn_n ?_
  refine g_seq (x := lCN1_3) (y := lCN1_4) (by kernel_rfl) ?_
  refine g_region (ops := lCR1_1) (id := 1) (by kernel_rfl) [pu 0, pu 1, pu 2, lo 3, pu 4, pu 5] (by kernel_rfl) (by kernel_rfl) ?_
  refine wpm 3 (.tmp 0) 23 (.pointer (some ⟨p, 0, none⟩)) ?_
  refine wpn 4 (.tmp 3) ⟨p, 0, none⟩ ?_
  refine wpf 5 61 (.tmp 4) 4 p 0 4 4 ?_
  refine wpl 6 59 (.tmp 5) (.slice s.oa s.out.length s.oc) p 4 hp.1 ?_
  refine wk_pure (opd 7 (.call ⟨.builtin .len, #[.tmp 6], #[59]⟩) 3) rfl (.int .i64 ((s.out.length : Nat) : Int)) (fun _ => x_len (a := s.oa) (n := s.out.length) (c := s.oc) (by kernel_rfl) (by kernel_rfl)) ?_
  refine wpa 2 (.tmp 7) 3 (.int .i64 ((s.out.length : Nat) : Int)) ?_
  refine wk_nil ?_
  refine thn_n ?_
  refine g_ret (by kernel_rfl) ?_
  refine ends1_r (v := .int .i64 ((s.out.length : Nat) : Int)) rfl (by kernel_rfl) ?_
  exact hK _ (SameMem.refl _)

noncomputable def lCN2_0 : Code := (Try.f13.body).getD .skip
noncomputable def lCN2_1 : Code := s1 lCN2_0
noncomputable def lCN2_2 : Code := s2 lCN2_0
noncomputable def lCR2_0 : Array Oper := rops lCN2_1
noncomputable def lCN2_3 : Code := s1 lCN2_2
noncomputable def lCN2_4 : Code := s2 lCN2_2
noncomputable def lCR2_1 : Array Oper := rops lCN2_3
theorem ahead_c {s : LkR} {k p : Nat} {w : World} {γ : Nat → Nat} (h : LinkAt γ w k p s) (hk : 10 ≤ k ∧ k ≤ 900)  {K : Value → World → Prop} (hK : ∀ w', SameMem w w' → K (.int .i64 ((s.held.length : Nat) : Int)) w') : CallsV Try.prog 13 #[.pointer (some ⟨p, 0, none⟩)] w K := by
  refine callsV_of (c := lCN2_0) Try.func13 (by kernel_rfl) (n := 8) (by kernel_rfl) ?_
  have hp : Bk γ w p k (.cells #[.int .i64 s.own, .int .i64 s.peer, .int .u32 s.view, .int .i64 s.now, .slice s.oa s.out.length s.oc, .int .u32 s.pushed, .int .u32 s.told, .int .u32 s.next, .slice s.ha s.held.length s.hc] 61 (0, 0)) := h.hp
  have h_b1 := h.b1
  have h_b2 := h.b2
  have h_b3 := h.b3
  have h_b4 := h.b4
  have h_b5 := h.b5
  have h_l1 := h.l1
  have h_l2 := h.l2
  have h_l3 := h.l3
  have h_pl := hp.lt
  refine g_seq (x := lCN2_1) (y := lCN2_2) (by kernel_rfl) ?_
  refine g_region (ops := lCR2_0) (id := 0) (by kernel_rfl) [pu 0] (by kernel_rfl) (by kernel_rfl) ?_
  refine wpa 2 (.const (.int .i64 0)) 3 (.int .i64 0) ?_
  refine wk_nil ?_
  refine thn_n ?_
  refine g_seq (x := lCN2_3) (y := lCN2_4) (by kernel_rfl) ?_
  refine g_region (ops := lCR2_1) (id := 1) (by kernel_rfl) [pu 0, pu 1, pu 2, lo 3, pu 4, pu 5] (by kernel_rfl) (by kernel_rfl) ?_
  refine wpm 3 (.tmp 0) 23 (.pointer (some ⟨p, 0, none⟩)) ?_
  refine wpn 4 (.tmp 3) ⟨p, 0, none⟩ ?_
  refine wpf 5 61 (.tmp 4) 8 p 0 8 8 ?_
  refine wpl 6 33 (.tmp 5) (.slice s.ha s.held.length s.hc) p 8 hp.1 ?_
  refine wk_pure (opd 7 (.call ⟨.builtin .len, #[.tmp 6], #[33]⟩) 3) rfl (.int .i64 ((s.held.length : Nat) : Int)) (fun _ => x_len (a := s.ha) (n := s.held.length) (c := s.hc) (by kernel_rfl) (by kernel_rfl)) ?_
  refine wpa 2 (.tmp 7) 3 (.int .i64 ((s.held.length : Nat) : Int)) ?_
  refine wk_nil ?_
  refine thn_n ?_
  refine g_ret (by kernel_rfl) ?_
  refine ends1_r (v := .int .i64 ((s.held.length : Nat) : Int)) rfl (by kernel_rfl) ?_
  exact hK _ (SameMem.refl _)

noncomputable def lCN3_0 : Code := (Try.f14.body).getD .skip
noncomputable def lCN3_1 : Code := s1 lCN3_0
noncomputable def lCN3_2 : Code := s2 lCN3_0
noncomputable def lCR3_0 : Array Oper := rops lCN3_1
noncomputable def lCN3_3 : Code := s1 lCN3_2
noncomputable def lCN3_4 : Code := s2 lCN3_2
noncomputable def lCR3_1 : Array Oper := rops lCN3_3
theorem next_c {s : LkR} {k p : Nat} {w : World} {γ : Nat → Nat} (h : LinkAt γ w k p s) (hk : 10 ≤ k ∧ k ≤ 900)  {K : Value → World → Prop} (hK : ∀ w', SameMem w w' → K (.int .u32 s.next) w') : CallsV Try.prog 14 #[.pointer (some ⟨p, 0, none⟩)] w K := by
  refine callsV_of (c := lCN3_0) Try.func14 (by kernel_rfl) (n := 7) (by kernel_rfl) ?_
  have hp : Bk γ w p k (.cells #[.int .i64 s.own, .int .i64 s.peer, .int .u32 s.view, .int .i64 s.now, .slice s.oa s.out.length s.oc, .int .u32 s.pushed, .int .u32 s.told, .int .u32 s.next, .slice s.ha s.held.length s.hc] 61 (0, 0)) := h.hp
  have h_b1 := h.b1
  have h_b2 := h.b2
  have h_b3 := h.b3
  have h_b4 := h.b4
  have h_b5 := h.b5
  have h_l1 := h.l1
  have h_l2 := h.l2
  have h_l3 := h.l3
  have h_pl := hp.lt
  refine g_seq (x := lCN3_1) (y := lCN3_2) (by kernel_rfl) ?_
  refine g_region (ops := lCR3_0) (id := 0) (by kernel_rfl) [pu 0] (by kernel_rfl) (by kernel_rfl) ?_
  refine wpa 2 (.const (.int .u32 0)) 27 (.int .u32 0) ?_
  refine wk_nil ?_
  refine thn_n ?_
  refine g_seq (x := lCN3_3) (y := lCN3_4) (by kernel_rfl) ?_
  refine g_region (ops := lCR3_1) (id := 1) (by kernel_rfl) [pu 0, pu 1, pu 2, lo 3, pu 4] (by kernel_rfl) (by kernel_rfl) ?_
  refine wpm 3 (.tmp 0) 23 (.pointer (some ⟨p, 0, none⟩)) ?_
  refine wpn 4 (.tmp 3) ⟨p, 0, none⟩ ?_
  refine wpf 5 61 (.tmp 4) 7 p 0 7 7 ?_
  refine wpl 6 27 (.tmp 5) (.int .u32 s.next) p 7 hp.1 ?_
  refine wpa 2 (.tmp 6) 27 (.int .u32 s.next) ?_
  refine wk_nil ?_
  refine thn_n ?_
  refine g_ret (by kernel_rfl) ?_
  refine ends1_r (v := .int .u32 s.next) rfl (by kernel_rfl) ?_
  exact hK _ (SameMem.refl _)

noncomputable def lCN4_0 : Code := (Try.f8.body).getD .skip
noncomputable def lCN4_1 : Code := s1 lCN4_0
noncomputable def lCN4_2 : Code := s2 lCN4_0
noncomputable def lCR4_0 : Array Oper := rops lCN4_1
noncomputable def lCN4_3 : Code := s1 lCN4_2
noncomputable def lCN4_4 : Code := s2 lCN4_2
noncomputable def lCN4_5 : Code := s1 lCN4_3
noncomputable def lCN4_6 : Code := s2 lCN4_3
noncomputable def lCR4_1 : Array Oper := rops lCN4_5
noncomputable def lCN4_7 : Code := s1 lCN4_6
noncomputable def lCN4_8 : Code := s2 lCN4_6
noncomputable def lCN4_9 : Code := s1 lCN4_7
noncomputable def lCN4_10 : Code := s2 lCN4_7
noncomputable def lCR4_2 : Array Oper := rops lCN4_9
noncomputable def lCN4_11 : Code := s1 lCN4_4
noncomputable def lCN4_12 : Code := s2 lCN4_4
noncomputable def lCR4_3 : Array Oper := rops lCN4_11
theorem new_bad {own peer view : Int} {w : World} (hbad : ¬ (0 ≤ own ∧ own < 16 ∧ 0 ≤ peer ∧ peer < 16 ∧ own ≠ peer)) {γ : Nat → Nat} {K : Value → World → Prop} (hK : ∀ w', SameMem w w' → K (.tuple #[.pointer none, .int .i64 1]) w') : CallsV Try.prog 8 #[.int .i64 own, .int .i64 peer, .int .u32 view] w K := by
  refine callsV_of (c := lCN4_0) Try.func8 (by kernel_rfl) (n := 26) (by kernel_rfl) ?_
  refine g_seq (x := lCN4_1) (y := lCN4_2) (by kernel_rfl) ?_
  refine g_region (ops := lCR4_0) (id := 0) (by kernel_rfl) [pu 0, pu 1] (by kernel_rfl) (by kernel_rfl) ?_
  refine wpa 6 (.const (.pointer none)) 23 (.pointer none) ?_
  refine wpa 7 (.const (.int .i64 0)) 24 (.int .i64 0) ?_
  refine wk_nil ?_
  refine thn_n ?_
  refine g_seq (x := lCN4_3) (y := lCN4_4) (by kernel_rfl) ?_
  refine g_seq (x := lCN4_5) (y := lCN4_6) (by kernel_rfl) ?_
  refine g_region (ops := lCR4_1) (id := 1) (by kernel_rfl) [pu 0, lo 1, pu 2, pu 3, pu 4, lo 5, pu 6, pu 7, pu 8, pu 9, pu 10, pu 11, pu 12] (by kernel_rfl) (by kernel_rfl) ?_
  refine wpm 8 (.tmp 0) 3 (.int .i64 own) ?_
  by_cases h_1 : 0 ≤ own ∧ own < 16
  · refine wkc 9 24 #[.tmp 8] #[3] 4 #[.int .i64 own] Try.func24 (worker_c (decide_eq_true h_1) (fun w_2 sm_3 => ⟨?_, ?_⟩))
    · exact trivial
    have gx_4 := GX.same [] γ sm_3
    have hsz_5 : w_2.heap.size = w.heap.size := by rw [sm_3.heap]
    refine wk_pure (opd 10 (.unOp .not 4 (.tmp 9)) 4) rfl (.bool false) (fun _ => y_not (p := true) (by kernel_rfl) rfl) ?_
    refine wpm 11 (.tmp 10) 4 (.bool false) ?_
    refine wk_pure (opg 12 (.move (.tmp 1)) 3 3 false) (by kernel_rfl) (.int .i64 peer) (fun _ => y_move (by kernel_rfl)) ?_
    by_cases h_6 : 0 ≤ peer ∧ peer < 16
    · refine wk_call (opg 13 (.call ⟨.value (.func 24), #[.tmp 12], #[3]⟩) 4 3 false) (by kernel_rfl) 24 #[.int .i64 peer] (x_call Try.func24 (by kernel_rfl) (c := (Try.f24.body).getD .skip) (by kernel_rfl) (by kernel_rfl) (by kernel_rfl)) (worker_c (decide_eq_true h_6) (fun w_7 sm_8 => ⟨?_, ?_⟩))
      · exact trivial
      have gx_9 := GX.same [] γ sm_8
      have hsz_10 : w_7.heap.size = w_2.heap.size := by rw [sm_8.heap]
      refine wk_pure (opg 14 (.unOp .not 4 (.tmp 13)) 4 3 false) (by kernel_rfl) (.bool false) (fun _ => y_not (p := true) (by kernel_rfl) rfl) ?_
      refine wpk 15 (.tmp 11) (.const (.bool true)) (.tmp 14) 4 (.bool false) ?_
      refine wpm 16 (.tmp 15) 4 (.bool false) ?_
      refine wk_pure (opg 17 (.move (.tmp 0)) 3 8 false) (by kernel_rfl) (.int .i64 own) (fun _ => y_move (by kernel_rfl)) ?_
      refine wk_pure (opg 18 (.move (.tmp 1)) 3 8 false) (by kernel_rfl) (.int .i64 peer) (fun _ => y_move (by kernel_rfl)) ?_
      by_cases h_11 : (own : Int) = peer
      · refine wk_pure (opg 19 (.binOp .eql 3 (.tmp 17) (.tmp 18) 3) 4 8 false) (by kernel_rfl) (.bool true) (fun _ => y_eql (k := .i64) (a := own) (b := peer) (by kernel_rfl) (by kernel_rfl) (decide_eq_true h_11)) ?_
        refine wpk 20 (.tmp 16) (.const (.bool true)) (.tmp 19) 4 (.bool true) ?_
        refine wk_nil ?_
        refine thn_n ?_
        refine g_cond_t (o := .tmp 20) (x := lCN4_7) (y := lCN4_8) (by kernel_rfl) (by kernel_rfl) ?_
        refine g_seq (x := lCN4_9) (y := lCN4_10) (by kernel_rfl) ?_
        refine g_region (ops := lCR4_2) (id := 2) (by kernel_rfl) [pu 0, pu 1] (by kernel_rfl) (by kernel_rfl) ?_
        refine wpa 6 (.const (.pointer none)) 23 (.pointer none) ?_
        refine wpa 7 (.const (.int .i64 1)) 24 (.int .i64 1) ?_
        refine wk_nil ?_
        refine thn_n ?_
        refine g_ret (by kernel_rfl) ?_
        refine thn_r ?_
        refine ends2_r (v := .pointer none) (v' := .int .i64 1) rfl (by kernel_rfl) (by kernel_rfl) ?_
        exact hK _ (SameMem.trans (SameMem.trans (SameMem.refl _) sm_3) sm_8)
      refine wk_pure (opg 19 (.binOp .eql 3 (.tmp 17) (.tmp 18) 3) 4 8 false) (by kernel_rfl) (.bool false) (fun _ => y_eql (k := .i64) (a := own) (b := peer) (by kernel_rfl) (by kernel_rfl) (decide_eq_false h_11)) ?_
      refine wpk 20 (.tmp 16) (.const (.bool true)) (.tmp 19) 4 (.bool false) ?_
      refine wk_nil ?_
      refine thn_n ?_
      refine g_cond_f (o := .tmp 20) (x := lCN4_7) (y := lCN4_8) (by kernel_rfl) (by kernel_rfl) ?_
      refine g_skip (by kernel_rfl) ?_
      refine thn_n ?_
      refine g_seq (x := lCN4_11) (y := lCN4_12) (by kernel_rfl) ?_
      refine g_region (ops := lCR4_3) (id := 3) (by kernel_rfl) [pu 0, pu 1, pu 2, pu 3, lo 4, pu 5, pu 6] (by kernel_rfl) (by kernel_rfl) ?_
      refine wpm 21 (.tmp 0) 3 (.int .i64 own) ?_
      refine wpm 22 (.tmp 1) 3 (.int .i64 peer) ?_
      refine wpm 23 (.tmp 2) 27 (.int .u32 view) ?_
      refine wk_pure (opd 24 (.build 61 #[(0, .tmp 21), (1, .tmp 22), (2, .tmp 23), (7, .const (.int .u32 1))]) 61) rfl (.agg #[.int .i64 own, .int .i64 peer, .int .u32 view, .int .i64 0, .slice none 0 0, .int .u32 0, .int .u32 0, .int .u32 1, .slice none 0 0]) (fun _ => x_build (by kernel_rfl)) ?_
      refine wk_box (cs := #[.int .i64 own, .int .i64 peer, .int .u32 view, .int .i64 0, .slice none 0 0, .int .u32 0, .int .u32 0, .int .u32 1, .slice none 0 0]) (opd 25 (.box 61 (.tmp 24)) 23) rfl (by kernel_rfl) (fun w_13 b_12 eq_15 e_14 sz_16 hb_17 => ⟨?_, ?_⟩)
      · exact trivial
      obtain ⟨γ_18, hg_19, hn_20⟩ := cls_new γ w_7.heap.size 10801
      have gx_21 := GX.ext0 [] e_14 hg_19
      have hk_22 : Bk γ_18 w_13 b_12 10801 (.cells #[.int .i64 own, .int .i64 peer, .int .u32 view, .int .i64 0, .slice none 0 0, .int .u32 0, .int .u32 0, .int .u32 1, .slice none 0 0] 61 (0, 0)) := ⟨hb_17, hn_20 _ (by omega)⟩
      refine wpa 6 (.tmp 25) 23 (.pointer (some ⟨b_12, 0, none⟩)) ?_
      refine wpa 7 (.const (.int .i64 0)) 24 (.int .i64 0) ?_
      refine wk_nil ?_
      refine thn_n ?_
      refine g_ret (by kernel_rfl) ?_
      refine ends2_r (v := .pointer (some ⟨b_12, 0, none⟩)) (v' := .int .i64 0) rfl (by kernel_rfl) (by kernel_rfl) ?_
      exact absurd (by omega) hbad
    refine wk_call (opg 13 (.call ⟨.value (.func 24), #[.tmp 12], #[3]⟩) 4 3 false) (by kernel_rfl) 24 #[.int .i64 peer] (x_call Try.func24 (by kernel_rfl) (c := (Try.f24.body).getD .skip) (by kernel_rfl) (by kernel_rfl) (by kernel_rfl)) (worker_c (decide_eq_false h_6) (fun w_23 sm_24 => ⟨?_, ?_⟩))
    · exact trivial
    have gx_25 := GX.same [] γ sm_24
    have hsz_26 : w_23.heap.size = w_2.heap.size := by rw [sm_24.heap]
    refine wk_pure (opg 14 (.unOp .not 4 (.tmp 13)) 4 3 false) (by kernel_rfl) (.bool true) (fun _ => y_not (p := false) (by kernel_rfl) rfl) ?_
    refine wpk 15 (.tmp 11) (.const (.bool true)) (.tmp 14) 4 (.bool true) ?_
    refine wpm 16 (.tmp 15) 4 (.bool true) ?_
    refine wks 17 ?_
    refine wks 18 ?_
    refine wks 19 ?_
    refine wpt 20 (.tmp 16) (.const (.bool true)) (.tmp 19) 4 (.bool true) ?_
    refine wk_nil ?_
    refine thn_n ?_
    refine g_cond_t (o := .tmp 20) (x := lCN4_7) (y := lCN4_8) (by kernel_rfl) (by kernel_rfl) ?_
    refine g_seq (x := lCN4_9) (y := lCN4_10) (by kernel_rfl) ?_
    refine g_region (ops := lCR4_2) (id := 2) (by kernel_rfl) [pu 0, pu 1] (by kernel_rfl) (by kernel_rfl) ?_
    refine wpa 6 (.const (.pointer none)) 23 (.pointer none) ?_
    refine wpa 7 (.const (.int .i64 1)) 24 (.int .i64 1) ?_
    refine wk_nil ?_
    refine thn_n ?_
    refine g_ret (by kernel_rfl) ?_
    refine thn_r ?_
    refine ends2_r (v := .pointer none) (v' := .int .i64 1) rfl (by kernel_rfl) (by kernel_rfl) ?_
    exact hK _ (SameMem.trans (SameMem.trans (SameMem.refl _) sm_3) sm_24)
  refine wkc 9 24 #[.tmp 8] #[3] 4 #[.int .i64 own] Try.func24 (worker_c (decide_eq_false h_1) (fun w_27 sm_28 => ⟨?_, ?_⟩))
  · exact trivial
  have gx_29 := GX.same [] γ sm_28
  have hsz_30 : w_27.heap.size = w.heap.size := by rw [sm_28.heap]
  refine wk_pure (opd 10 (.unOp .not 4 (.tmp 9)) 4) rfl (.bool true) (fun _ => y_not (p := false) (by kernel_rfl) rfl) ?_
  refine wpm 11 (.tmp 10) 4 (.bool true) ?_
  refine wks 12 ?_
  refine wks 13 ?_
  refine wks 14 ?_
  refine wpt 15 (.tmp 11) (.const (.bool true)) (.tmp 14) 4 (.bool true) ?_
  refine wpm 16 (.tmp 15) 4 (.bool true) ?_
  refine wks 17 ?_
  refine wks 18 ?_
  refine wks 19 ?_
  refine wpt 20 (.tmp 16) (.const (.bool true)) (.tmp 19) 4 (.bool true) ?_
  refine wk_nil ?_
  refine thn_n ?_
  refine g_cond_t (o := .tmp 20) (x := lCN4_7) (y := lCN4_8) (by kernel_rfl) (by kernel_rfl) ?_
  refine g_seq (x := lCN4_9) (y := lCN4_10) (by kernel_rfl) ?_
  refine g_region (ops := lCR4_2) (id := 2) (by kernel_rfl) [pu 0, pu 1] (by kernel_rfl) (by kernel_rfl) ?_
  refine wpa 6 (.const (.pointer none)) 23 (.pointer none) ?_
  refine wpa 7 (.const (.int .i64 1)) 24 (.int .i64 1) ?_
  refine wk_nil ?_
  refine thn_n ?_
  refine g_ret (by kernel_rfl) ?_
  refine thn_r ?_
  refine ends2_r (v := .pointer none) (v' := .int .i64 1) rfl (by kernel_rfl) (by kernel_rfl) ?_
  exact hK _ (SameMem.trans (SameMem.refl _) sm_28)

noncomputable def lCN5_0 : Code := (Try.f8.body).getD .skip
noncomputable def lCN5_1 : Code := s1 lCN5_0
noncomputable def lCN5_2 : Code := s2 lCN5_0
noncomputable def lCR5_0 : Array Oper := rops lCN5_1
noncomputable def lCN5_3 : Code := s1 lCN5_2
noncomputable def lCN5_4 : Code := s2 lCN5_2
noncomputable def lCN5_5 : Code := s1 lCN5_3
noncomputable def lCN5_6 : Code := s2 lCN5_3
noncomputable def lCR5_1 : Array Oper := rops lCN5_5
noncomputable def lCN5_7 : Code := s1 lCN5_6
noncomputable def lCN5_8 : Code := s2 lCN5_6
noncomputable def lCN5_9 : Code := s1 lCN5_7
noncomputable def lCN5_10 : Code := s2 lCN5_7
noncomputable def lCR5_2 : Array Oper := rops lCN5_9
noncomputable def lCN5_11 : Code := s1 lCN5_4
noncomputable def lCN5_12 : Code := s2 lCN5_4
noncomputable def lCR5_3 : Array Oper := rops lCN5_11
theorem new_ok {own peer view : Int} {w : World} {γ : Nat → Nat} (k : Nat) (h1 : 0 ≤ own ∧ own < 16) (h2 : 0 ≤ peer ∧ peer < 16) (h3 : own ≠ peer) (hv : 0 ≤ view ∧ view < 4294967296) {K : Value → World → Prop} (hK : ∀ w' γ' p, GX [] w γ w' γ' → LinkAt γ' w' k p ⟨own, peer, view, 0, none, 0, 0, [], [], 0, 0, 1, none, 0, 0, [], []⟩ → w.heap.size ≤ p → K (.tuple #[.pointer (some ⟨p, 0, none⟩), .int .i64 0]) w') : CallsV Try.prog 8 #[.int .i64 own, .int .i64 peer, .int .u32 view] w K := by
  refine callsV_of (c := lCN5_0) Try.func8 (by kernel_rfl) (n := 26) (by kernel_rfl) ?_
  refine g_seq (x := lCN5_1) (y := lCN5_2) (by kernel_rfl) ?_
  refine g_region (ops := lCR5_0) (id := 0) (by kernel_rfl) [pu 0, pu 1] (by kernel_rfl) (by kernel_rfl) ?_
  refine wpa 6 (.const (.pointer none)) 23 (.pointer none) ?_
  refine wpa 7 (.const (.int .i64 0)) 24 (.int .i64 0) ?_
  refine wk_nil ?_
  refine thn_n ?_
  refine g_seq (x := lCN5_3) (y := lCN5_4) (by kernel_rfl) ?_
  refine g_seq (x := lCN5_5) (y := lCN5_6) (by kernel_rfl) ?_
  refine g_region (ops := lCR5_1) (id := 1) (by kernel_rfl) [pu 0, lo 1, pu 2, pu 3, pu 4, lo 5, pu 6, pu 7, pu 8, pu 9, pu 10, pu 11, pu 12] (by kernel_rfl) (by kernel_rfl) ?_
  refine wpm 8 (.tmp 0) 3 (.int .i64 own) ?_
  by_cases h_1 : 0 ≤ own ∧ own < 16
  · refine wkc 9 24 #[.tmp 8] #[3] 4 #[.int .i64 own] Try.func24 (worker_c (decide_eq_true h_1) (fun w_2 sm_3 => ⟨?_, ?_⟩))
    · exact trivial
    have gx_4 := GX.same [] γ sm_3
    have hsz_5 : w_2.heap.size = w.heap.size := by rw [sm_3.heap]
    refine wk_pure (opd 10 (.unOp .not 4 (.tmp 9)) 4) rfl (.bool false) (fun _ => y_not (p := true) (by kernel_rfl) rfl) ?_
    refine wpm 11 (.tmp 10) 4 (.bool false) ?_
    refine wk_pure (opg 12 (.move (.tmp 1)) 3 3 false) (by kernel_rfl) (.int .i64 peer) (fun _ => y_move (by kernel_rfl)) ?_
    by_cases h_6 : 0 ≤ peer ∧ peer < 16
    · refine wk_call (opg 13 (.call ⟨.value (.func 24), #[.tmp 12], #[3]⟩) 4 3 false) (by kernel_rfl) 24 #[.int .i64 peer] (x_call Try.func24 (by kernel_rfl) (c := (Try.f24.body).getD .skip) (by kernel_rfl) (by kernel_rfl) (by kernel_rfl)) (worker_c (decide_eq_true h_6) (fun w_7 sm_8 => ⟨?_, ?_⟩))
      · exact trivial
      have gx_9 := GX.same [] γ sm_8
      have hsz_10 : w_7.heap.size = w_2.heap.size := by rw [sm_8.heap]
      refine wk_pure (opg 14 (.unOp .not 4 (.tmp 13)) 4 3 false) (by kernel_rfl) (.bool false) (fun _ => y_not (p := true) (by kernel_rfl) rfl) ?_
      refine wpk 15 (.tmp 11) (.const (.bool true)) (.tmp 14) 4 (.bool false) ?_
      refine wpm 16 (.tmp 15) 4 (.bool false) ?_
      refine wk_pure (opg 17 (.move (.tmp 0)) 3 8 false) (by kernel_rfl) (.int .i64 own) (fun _ => y_move (by kernel_rfl)) ?_
      refine wk_pure (opg 18 (.move (.tmp 1)) 3 8 false) (by kernel_rfl) (.int .i64 peer) (fun _ => y_move (by kernel_rfl)) ?_
      by_cases h_11 : (own : Int) = peer
      · refine wk_pure (opg 19 (.binOp .eql 3 (.tmp 17) (.tmp 18) 3) 4 8 false) (by kernel_rfl) (.bool true) (fun _ => y_eql (k := .i64) (a := own) (b := peer) (by kernel_rfl) (by kernel_rfl) (decide_eq_true h_11)) ?_
        refine wpk 20 (.tmp 16) (.const (.bool true)) (.tmp 19) 4 (.bool true) ?_
        refine wk_nil ?_
        refine thn_n ?_
        refine g_cond_t (o := .tmp 20) (x := lCN5_7) (y := lCN5_8) (by kernel_rfl) (by kernel_rfl) ?_
        refine g_seq (x := lCN5_9) (y := lCN5_10) (by kernel_rfl) ?_
        refine g_region (ops := lCR5_2) (id := 2) (by kernel_rfl) [pu 0, pu 1] (by kernel_rfl) (by kernel_rfl) ?_
        refine wpa 6 (.const (.pointer none)) 23 (.pointer none) ?_
        refine wpa 7 (.const (.int .i64 1)) 24 (.int .i64 1) ?_
        refine wk_nil ?_
        refine thn_n ?_
        refine g_ret (by kernel_rfl) ?_
        refine thn_r ?_
        refine ends2_r (v := .pointer none) (v' := .int .i64 1) rfl (by kernel_rfl) (by kernel_rfl) ?_
        exact absurd (by omega : False) id
      refine wk_pure (opg 19 (.binOp .eql 3 (.tmp 17) (.tmp 18) 3) 4 8 false) (by kernel_rfl) (.bool false) (fun _ => y_eql (k := .i64) (a := own) (b := peer) (by kernel_rfl) (by kernel_rfl) (decide_eq_false h_11)) ?_
      refine wpk 20 (.tmp 16) (.const (.bool true)) (.tmp 19) 4 (.bool false) ?_
      refine wk_nil ?_
      refine thn_n ?_
      refine g_cond_f (o := .tmp 20) (x := lCN5_7) (y := lCN5_8) (by kernel_rfl) (by kernel_rfl) ?_
      refine g_skip (by kernel_rfl) ?_
      refine thn_n ?_
      refine g_seq (x := lCN5_11) (y := lCN5_12) (by kernel_rfl) ?_
      refine g_region (ops := lCR5_3) (id := 3) (by kernel_rfl) [pu 0, pu 1, pu 2, pu 3, lo 4, pu 5, pu 6] (by kernel_rfl) (by kernel_rfl) ?_
      refine wpm 21 (.tmp 0) 3 (.int .i64 own) ?_
      refine wpm 22 (.tmp 1) 3 (.int .i64 peer) ?_
      refine wpm 23 (.tmp 2) 27 (.int .u32 view) ?_
      refine wk_pure (opd 24 (.build 61 #[(0, .tmp 21), (1, .tmp 22), (2, .tmp 23), (7, .const (.int .u32 1))]) 61) rfl (.agg #[.int .i64 own, .int .i64 peer, .int .u32 view, .int .i64 0, .slice none 0 0, .int .u32 0, .int .u32 0, .int .u32 1, .slice none 0 0]) (fun _ => x_build (by kernel_rfl)) ?_
      refine wk_box (cs := #[.int .i64 own, .int .i64 peer, .int .u32 view, .int .i64 0, .slice none 0 0, .int .u32 0, .int .u32 0, .int .u32 1, .slice none 0 0]) (opd 25 (.box 61 (.tmp 24)) 23) rfl (by kernel_rfl) (fun w_13 b_12 eq_15 e_14 sz_16 hb_17 => ⟨?_, ?_⟩)
      · exact trivial
      obtain ⟨γ_18, hg_19, hn_20⟩ := cls_new γ w_7.heap.size k
      have gx_21 := GX.ext0 [] e_14 hg_19
      have hk_22 : Bk γ_18 w_13 b_12 k (.cells #[.int .i64 own, .int .i64 peer, .int .u32 view, .int .i64 0, .slice none 0 0, .int .u32 0, .int .u32 0, .int .u32 1, .slice none 0 0] 61 (0, 0)) := ⟨hb_17, hn_20 _ (by omega)⟩
      refine wpa 6 (.tmp 25) 23 (.pointer (some ⟨b_12, 0, none⟩)) ?_
      refine wpa 7 (.const (.int .i64 0)) 24 (.int .i64 0) ?_
      refine wk_nil ?_
      refine thn_n ?_
      refine g_ret (by kernel_rfl) ?_
      refine ends2_r (v := .pointer (some ⟨b_12, 0, none⟩)) (v' := .int .i64 0) rfl (by kernel_rfl) (by kernel_rfl) ?_
      exact hK _ _ b_12 (GX.then0 (GX.then_same (GX.then_same (GX.refl [] _ _) sm_3) sm_8) e_14 hg_19) ⟨hk_22, OwNG.nil _ _ _ _ _ 0 _ [], OwNG.nil _ _ _ _ _ 0 _ [], AllOk.nil, AllOk.nil, hv, by simp, by simp, by simp, by simp, by simp, by simp, by simp⟩ (by omega)
    refine wk_call (opg 13 (.call ⟨.value (.func 24), #[.tmp 12], #[3]⟩) 4 3 false) (by kernel_rfl) 24 #[.int .i64 peer] (x_call Try.func24 (by kernel_rfl) (c := (Try.f24.body).getD .skip) (by kernel_rfl) (by kernel_rfl) (by kernel_rfl)) (worker_c (decide_eq_false h_6) (fun w_23 sm_24 => ⟨?_, ?_⟩))
    · exact trivial
    have gx_25 := GX.same [] γ sm_24
    have hsz_26 : w_23.heap.size = w_2.heap.size := by rw [sm_24.heap]
    refine wk_pure (opg 14 (.unOp .not 4 (.tmp 13)) 4 3 false) (by kernel_rfl) (.bool true) (fun _ => y_not (p := false) (by kernel_rfl) rfl) ?_
    refine wpk 15 (.tmp 11) (.const (.bool true)) (.tmp 14) 4 (.bool true) ?_
    refine wpm 16 (.tmp 15) 4 (.bool true) ?_
    refine wks 17 ?_
    refine wks 18 ?_
    refine wks 19 ?_
    refine wpt 20 (.tmp 16) (.const (.bool true)) (.tmp 19) 4 (.bool true) ?_
    refine wk_nil ?_
    refine thn_n ?_
    refine g_cond_t (o := .tmp 20) (x := lCN5_7) (y := lCN5_8) (by kernel_rfl) (by kernel_rfl) ?_
    refine g_seq (x := lCN5_9) (y := lCN5_10) (by kernel_rfl) ?_
    refine g_region (ops := lCR5_2) (id := 2) (by kernel_rfl) [pu 0, pu 1] (by kernel_rfl) (by kernel_rfl) ?_
    refine wpa 6 (.const (.pointer none)) 23 (.pointer none) ?_
    refine wpa 7 (.const (.int .i64 1)) 24 (.int .i64 1) ?_
    refine wk_nil ?_
    refine thn_n ?_
    refine g_ret (by kernel_rfl) ?_
    refine thn_r ?_
    refine ends2_r (v := .pointer none) (v' := .int .i64 1) rfl (by kernel_rfl) (by kernel_rfl) ?_
    exact absurd (by omega : False) id
  refine wkc 9 24 #[.tmp 8] #[3] 4 #[.int .i64 own] Try.func24 (worker_c (decide_eq_false h_1) (fun w_27 sm_28 => ⟨?_, ?_⟩))
  · exact trivial
  have gx_29 := GX.same [] γ sm_28
  have hsz_30 : w_27.heap.size = w.heap.size := by rw [sm_28.heap]
  refine wk_pure (opd 10 (.unOp .not 4 (.tmp 9)) 4) rfl (.bool true) (fun _ => y_not (p := false) (by kernel_rfl) rfl) ?_
  refine wpm 11 (.tmp 10) 4 (.bool true) ?_
  refine wks 12 ?_
  refine wks 13 ?_
  refine wks 14 ?_
  refine wpt 15 (.tmp 11) (.const (.bool true)) (.tmp 14) 4 (.bool true) ?_
  refine wpm 16 (.tmp 15) 4 (.bool true) ?_
  refine wks 17 ?_
  refine wks 18 ?_
  refine wks 19 ?_
  refine wpt 20 (.tmp 16) (.const (.bool true)) (.tmp 19) 4 (.bool true) ?_
  refine wk_nil ?_
  refine thn_n ?_
  refine g_cond_t (o := .tmp 20) (x := lCN5_7) (y := lCN5_8) (by kernel_rfl) (by kernel_rfl) ?_
  refine g_seq (x := lCN5_9) (y := lCN5_10) (by kernel_rfl) ?_
  refine g_region (ops := lCR5_2) (id := 2) (by kernel_rfl) [pu 0, pu 1] (by kernel_rfl) (by kernel_rfl) ?_
  refine wpa 6 (.const (.pointer none)) 23 (.pointer none) ?_
  refine wpa 7 (.const (.int .i64 1)) 24 (.int .i64 1) ?_
  refine wk_nil ?_
  refine thn_n ?_
  refine g_ret (by kernel_rfl) ?_
  refine thn_r ?_
  refine ends2_r (v := .pointer none) (v' := .int .i64 1) rfl (by kernel_rfl) (by kernel_rfl) ?_
  exact absurd (by omega : False) id

noncomputable def lCN6_0 : Code := (Try.f9.body).getD .skip
noncomputable def lCN6_1 : Code := s1 lCN6_0
noncomputable def lCN6_2 : Code := s2 lCN6_0
noncomputable def lCR6_0 : Array Oper := rops lCN6_1
noncomputable def lCN6_3 : Code := s1 lCN6_2
noncomputable def lCN6_4 : Code := s2 lCN6_2
noncomputable def lCR6_1 : Array Oper := rops lCN6_3
noncomputable def lCN6_5 : Code := s1 lCN6_4
noncomputable def lCN6_6 : Code := s2 lCN6_4
noncomputable def lCR6_2 : Array Oper := rops lCN6_5
noncomputable def lCN6_7 : Code := s1 lCN6_6
noncomputable def lCN6_8 : Code := s2 lCN6_6
noncomputable def lCN6_9 : Code := s1 lCN6_7
noncomputable def lCN6_10 : Code := s1 lCN6_9
noncomputable def lCN6_11 : Code := s2 lCN6_9
noncomputable def lCR6_3 : Array Oper := rops lCN6_10
noncomputable def lCN6_12 : Code := s1 lCN6_11
noncomputable def lCN6_13 : Code := s2 lCN6_11
noncomputable def lCN6_14 : Code := s1 lCN6_12
noncomputable def lCN6_15 : Code := s2 lCN6_12
noncomputable def lCR6_4 : Array Oper := rops lCN6_14
noncomputable def lCN6_16 : Code := s1 lCN6_13
noncomputable def lCN6_17 : Code := s2 lCN6_13
noncomputable def lCR6_5 : Array Oper := rops lCN6_16
noncomputable def lCN6_18 : Code := s1 lCN6_17
noncomputable def lCN6_19 : Code := s2 lCN6_17
noncomputable def lCN6_20 : Code := s1 lCN6_18
noncomputable def lCN6_21 : Code := s2 lCN6_18
noncomputable def lCR6_6 : Array Oper := rops lCN6_20
noncomputable def lCN6_22 : Code := s1 lCN6_8
noncomputable def lCN6_23 : Code := s2 lCN6_8
noncomputable def lCR6_7 : Array Oper := rops lCN6_22
noncomputable def lCN6_24 : Code := s1 lCN6_23
noncomputable def lCN6_25 : Code := s2 lCN6_23
noncomputable def lCR6_8 : Array Oper := rops lCN6_24
noncomputable def lCN6_26 : Code := s1 lCN6_25
noncomputable def lCN6_27 : Code := s2 lCN6_25
noncomputable def lCR6_9 : Array Oper := rops lCN6_26
noncomputable def lCN6_28 : Code := s1 lCN6_27
noncomputable def lCN6_29 : Code := s2 lCN6_27
noncomputable def lCR6_10 : Array Oper := rops lCN6_28
theorem push_c {s : LkR} {k p : Nat} {w : World} {γ : Nat → Nat} (h : LinkAt γ w k p s) (hk : 10 ≤ k ∧ k ≤ 900) {m : MsgR} (hm : MOk γ w m)  {K : Value → World → Prop} (h1 : ¬ (1 ≤ m.kind ∧ m.kind ≤ 20 ∧ 0 ≤ s.own ∧ s.own < 16 ∧ 0 ≤ s.peer ∧ s.peer < 16 ∧ m.N.length ≤ 500 ∧ m.W.length ≤ 500) ∨ m.kind = 1 → ∀ w' γ', GX [] w γ w' γ' → K (.int .i64 1) w')
    (h2 : (1 ≤ m.kind ∧ m.kind ≤ 20 ∧ 0 ≤ s.own ∧ s.own < 16 ∧ 0 ≤ s.peer ∧ s.peer < 16 ∧ m.N.length ≤ 500 ∧ m.W.length ≤ 500) ∧ m.kind ≠ 1 → 1024 ≤ s.out.length ∨ s.pushed = 4294967295 → ∀ w' γ', GX [] w γ w' γ' → K (.int .i64 6) w')
    (h3 : (1 ≤ m.kind ∧ m.kind ≤ 20 ∧ 0 ≤ s.own ∧ s.own < 16 ∧ 0 ≤ s.peer ∧ s.peer < 16 ∧ m.N.length ≤ 500 ∧ m.W.length ≤ 500) → m.kind ≠ 1 → s.out.length < 1024 → s.pushed ≠ 4294967295 → ∀ w' γ' (m' : MsgR) {oa og oc orest}, GX [k, k + 1] w γ w' γ' → LinkAt γ' w' k p { s with pushed := s.pushed + 1, oa := oa, og := og, oc := oc, out := s.out ++ [⟨m', false, 0⟩], orest := orest } →
      m'.abs = ⟨m.kind, s.own, s.peer, s.view, s.pushed + 1, m.N, m.W⟩ → K (.int .i64 0) w') : CallsV Try.prog 9 #[.pointer (some ⟨p, 0, none⟩), .agg #[.int .i64 m.kind, .int .i64 m.frm, .int .i64 m.to, .int .u32 m.view, .int .u32 m.seq, .slice m.na m.N.length m.nc, .slice m.wa m.W.length m.wc]] w K := by
  refine callsV_of (c := lCN6_0) Try.func9 (by kernel_rfl) (n := 68) (by kernel_rfl) ?_
  have hp : Bk γ w p k (.cells #[.int .i64 s.own, .int .i64 s.peer, .int .u32 s.view, .int .i64 s.now, .slice s.oa s.out.length s.oc, .int .u32 s.pushed, .int .u32 s.told, .int .u32 s.next, .slice s.ha s.held.length s.hc] 61 (0, 0)) := h.hp
  have h_b1 := h.b1
  have h_b2 := h.b2
  have h_b3 := h.b3
  have h_b4 := h.b4
  have h_b5 := h.b5
  have h_l1 := h.l1
  have h_l2 := h.l2
  have h_l3 := h.l3
  have h_pl := hp.lt
  refine g_seq (x := lCN6_1) (y := lCN6_2) (by kernel_rfl) ?_
  refine g_region (ops := lCR6_0) (id := 0) (by kernel_rfl) [lo 0, pu 1] (by kernel_rfl) (by kernel_rfl) ?_
  refine wk_box (cs := #[.int .i64 m.kind, .int .i64 m.frm, .int .i64 m.to, .int .u32 m.view, .int .u32 m.seq, .slice m.na m.N.length m.nc, .slice m.wa m.W.length m.wc]) (opd 3 (.box 32 (.tmp 1)) 0) rfl (by kernel_rfl) (fun w_2 b_1 eq_4 e_3 sz_5 hb_6 => ⟨?_, ?_⟩)
  · exact trivial
  obtain ⟨γ_7, hg_8, hn_9⟩ := cls_new γ w.heap.size 10901
  have gx_10 := GX.ext0 [] e_3 hg_8
  have hk_11 : Bk γ_7 w_2 b_1 10901 (.cells #[.int .i64 m.kind, .int .i64 m.frm, .int .i64 m.to, .int .u32 m.view, .int .u32 m.seq, .slice m.na m.N.length m.nc, .slice m.wa m.W.length m.wc] 32 (0, 0)) := ⟨hb_6, hn_9 _ (by omega)⟩
  refine wpa 4 (.const (.int .i64 0)) 24 (.int .i64 0) ?_
  refine wk_nil ?_
  refine thn_n ?_
  refine g_seq (x := lCN6_3) (y := lCN6_4) (by kernel_rfl) ?_
  refine g_region (ops := lCR6_1) (id := 1) (by kernel_rfl) [lo 0, lo 1, lo 2] (by kernel_rfl) (by kernel_rfl) ?_
  refine wk_val (opd 5 (.load 32 (.tmp 3)) 32) rfl (.agg #[.int .i64 m.kind, .int .i64 m.frm, .int .i64 m.to, .int .u32 m.view, .int .u32 m.seq, .slice m.na m.N.length m.nc, .slice m.wa m.W.length m.wc]) (x_load_agg (b := b_1) (off := 0) (n := 7) (by kernel_rfl) (by kernel_rfl) hk_11.1 (Nat.le_of_ble_eq_true rfl) (by kernel_rfl)) trivial ?_
  have hb_12 : MOk γ_7 w_2 m := (MOk.keep hm gx_10 ni0)
  refine wkc 6 25 #[.tmp 5] #[32] 32 #[.agg #[.int .i64 m.kind, .int .i64 m.frm, .int .i64 m.to, .int .u32 m.view, .int .u32 m.seq, .slice m.na m.N.length m.nc, .slice m.wa m.W.length m.wc]] Try.func25 (copied_c (γ := γ_7) (m := m) hb_12 (fun w_13 γ_14 m_15 gx_16 hm_17 ha_18 => ⟨?_, ?_⟩))
  · exact trivial
  have hsz_19 := gx_16.size
  have ha_m_15 := abs_eq.1 ha_18
  obtain ⟨ek_m_15, ef_m_15, et_m_15, ev_m_15, es_m_15, eN_m_15, eW_m_15⟩ := ha_m_15
  have el_m_15 := congrArg List.length eN_m_15
  have ew_m_15 := congrArg List.length eW_m_15
  have hb_20 := (Bk.keep hk_11 gx_16 ni0)
  refine wk_store (b := b_1) (off := 0) (cs' := #[.int .i64 m_15.kind, .int .i64 m_15.frm, .int .i64 m_15.to, .int .u32 m_15.view, .int .u32 m_15.seq, .slice m_15.na m_15.N.length m_15.nc, .slice m_15.wa m_15.W.length m_15.wc]) (vs := #[.int .i64 m_15.kind, .int .i64 m_15.frm, .int .i64 m_15.to, .int .u32 m_15.view, .int .u32 m_15.seq, .slice m_15.na m_15.N.length m_15.nc, .slice m_15.wa m_15.W.length m_15.wc]) (opn (.store 32 (.tmp 3) (.tmp 6)) 0) rfl (by kernel_rfl) (by kernel_rfl) (by kernel_rfl) (by kernel_rfl) hb_20.1 (Nat.le_of_ble_eq_true rfl) (by kernel_rfl) (by kernel_rfl) (fun w_21 e_22 sz_23 hb_24 => ⟨?_, ?_⟩)
  · exact trivial
  have gx_25 : GX [10901] w_13 γ_14 w_21 γ_14 := GX.ext1 e_22 hb_20.2 (fun _ _ => rfl)
  have hk_26 : Bk γ_14 w_21 b_1 10901 (.cells #[.int .i64 m_15.kind, .int .i64 m_15.frm, .int .i64 m_15.to, .int .u32 m_15.view, .int .u32 m_15.seq, .slice m_15.na m_15.N.length m_15.nc, .slice m_15.wa m_15.W.length m_15.wc] 32 (0, 0)) := ⟨hb_24, hb_20.2⟩
  refine wk_nil ?_
  refine thn_n ?_
  refine g_seq (x := lCN6_5) (y := lCN6_6) (by kernel_rfl) ?_
  refine g_draw (ops := lCR6_2) (id := 2) (by kernel_rfl) (fun w w' => ExtW [b_1] w w') [pu 0, pu 1, pu 2, pu 4, pu 5, pu 6, pu 8, pu 9, pu 10, rd 3, pu 12, (7, .stab), (11, .stab), lo 13, pu 14, lo 15, pu 16, lo 17] (by kernel_rfl) (by kernel_rfl) (fun _ => (Ext.refl _ _).toExtW) (fun w_27 sm_28 => ?_)
  have gx_29 := GX.same [] γ_14 sm_28
  have hsz_30 : w_27.heap.size = w_21.heap.size := by rw [sm_28.heap]
  refine wpm 7 (.tmp 0) 23 (.pointer (some ⟨p, 0, none⟩)) ?_
  refine wpn 8 (.tmp 7) ⟨p, 0, none⟩ ?_
  refine wpf 9 61 (.tmp 8) 0 p 0 0 0 ?_
  refine wpm 11 (.tmp 0) 23 (.pointer (some ⟨p, 0, none⟩)) ?_
  refine wpn 12 (.tmp 11) ⟨p, 0, none⟩ ?_
  refine wpf 13 61 (.tmp 12) 1 p 0 1 1 ?_
  refine wpm 15 (.tmp 0) 23 (.pointer (some ⟨p, 0, none⟩)) ?_
  refine wpn 16 (.tmp 15) ⟨p, 0, none⟩ ?_
  refine wpf 17 61 (.tmp 16) 2 p 0 2 2 ?_
  have hb_31 : Bk γ_14 w_27 p k (.cells #[.int .i64 s.own, .int .i64 s.peer, .int .u32 s.view, .int .i64 s.now, .slice s.oa s.out.length s.oc, .int .u32 s.pushed, .int .u32 s.told, .int .u32 s.next, .slice s.ha s.held.length s.hc] 61 (0, 0)) := (Bk.keep (Bk.keep (Bk.keep (Bk.keep hp gx_10 ni0) gx_16 ni0) gx_25 ni1) gx_29 ni0)
  refine wk_read (opd 10 (.load 3 (.tmp 9)) 3) rfl (.int .i64 s.own) (fun w'_ g_ => x_load (b := p) (off := 0) (by kernel_rfl) (by kernel_rfl) (g_.keep hb_31.1) (by kernel_rfl)) ?_
  refine wpf 19 32 (.tmp 3) 1 b_1 0 1 1 ?_
  refine wk_stab (opd 14 (.load 3 (.tmp 13)) 3) rfl (.int .i64 s.peer) (fun w'_ g_ => x_load (b := p) (off := 1) (by kernel_rfl) (by kernel_rfl) (ExtW.keep g_ hb_31.1 (by simp only [List.mem_cons, List.not_mem_nil, or_false]; omega)) (by kernel_rfl)) ?_
  refine wk_stab (opd 18 (.load 27 (.tmp 17)) 27) rfl (.int .u32 s.view) (fun w'_ g_ => x_load (b := p) (off := 2) (by kernel_rfl) (by kernel_rfl) (ExtW.keep g_ hb_31.1 (by simp only [List.mem_cons, List.not_mem_nil, or_false]; omega)) (by kernel_rfl)) ?_
  have hb_32 := (Bk.keep hk_26 gx_29 ni0)
  refine wk_store (b := b_1) (off := 1) (cs' := #[.int .i64 m_15.kind, .int .i64 s.own, .int .i64 m_15.to, .int .u32 m_15.view, .int .u32 m_15.seq, .slice m_15.na m_15.N.length m_15.nc, .slice m_15.wa m_15.W.length m_15.wc]) (vs := #[.int .i64 s.own]) (opn (.store 3 (.tmp 19) (.tmp 10)) 0) rfl (by kernel_rfl) (by kernel_rfl) (by kernel_rfl) (by kernel_rfl) hb_32.1 (Nat.le_of_ble_eq_true rfl) (by kernel_rfl) (by kernel_rfl) (fun w_33 e_34 sz_35 hb_36 => ⟨?_, ?_⟩)
  · exact (Ext.then (Ext.refl [b_1] _) e_34 (by intro y_ hy_ _; simp only [List.mem_cons, List.not_mem_nil, or_false] at hy_ ⊢; omega)).toExtW
  have gx_37 : GX [10901] w_27 γ_14 w_33 γ_14 := GX.ext1 e_34 hb_32.2 (fun _ _ => rfl)
  have hk_38 : Bk γ_14 w_33 b_1 10901 (.cells #[.int .i64 m_15.kind, .int .i64 s.own, .int .i64 m_15.to, .int .u32 m_15.view, .int .u32 m_15.seq, .slice m_15.na m_15.N.length m_15.nc, .slice m_15.wa m_15.W.length m_15.wc] 32 (0, 0)) := ⟨hb_36, hb_32.2⟩
  refine wpf 20 32 (.tmp 3) 2 b_1 0 2 2 ?_
  refine wk_store (b := b_1) (off := 2) (cs' := #[.int .i64 m_15.kind, .int .i64 s.own, .int .i64 s.peer, .int .u32 m_15.view, .int .u32 m_15.seq, .slice m_15.na m_15.N.length m_15.nc, .slice m_15.wa m_15.W.length m_15.wc]) (vs := #[.int .i64 s.peer]) (opn (.store 3 (.tmp 20) (.tmp 14)) 0) rfl (by kernel_rfl) (by kernel_rfl) (by kernel_rfl) (by kernel_rfl) hk_38.1 (Nat.le_of_ble_eq_true rfl) (by kernel_rfl) (by kernel_rfl) (fun w_39 e_40 sz_41 hb_42 => ⟨?_, ?_⟩)
  · exact (Ext.then (Ext.then (Ext.refl [b_1] _) e_34 (by intro y_ hy_ _; simp only [List.mem_cons, List.not_mem_nil, or_false] at hy_ ⊢; omega)) e_40 (by intro y_ hy_ _; simp only [List.mem_cons, List.not_mem_nil, or_false] at hy_ ⊢; omega)).toExtW
  have gx_43 : GX [10901] w_33 γ_14 w_39 γ_14 := GX.ext1 e_40 hk_38.2 (fun _ _ => rfl)
  have hk_44 : Bk γ_14 w_39 b_1 10901 (.cells #[.int .i64 m_15.kind, .int .i64 s.own, .int .i64 s.peer, .int .u32 m_15.view, .int .u32 m_15.seq, .slice m_15.na m_15.N.length m_15.nc, .slice m_15.wa m_15.W.length m_15.wc] 32 (0, 0)) := ⟨hb_42, hk_38.2⟩
  refine wpf 21 32 (.tmp 3) 3 b_1 0 3 3 ?_
  refine wk_store (b := b_1) (off := 3) (cs' := #[.int .i64 m_15.kind, .int .i64 s.own, .int .i64 s.peer, .int .u32 s.view, .int .u32 m_15.seq, .slice m_15.na m_15.N.length m_15.nc, .slice m_15.wa m_15.W.length m_15.wc]) (vs := #[.int .u32 s.view]) (opn (.store 27 (.tmp 21) (.tmp 18)) 0) rfl (by kernel_rfl) (by kernel_rfl) (by kernel_rfl) (by kernel_rfl) hk_44.1 (Nat.le_of_ble_eq_true rfl) (by kernel_rfl) (by kernel_rfl) (fun w_45 e_46 sz_47 hb_48 => ⟨?_, ?_⟩)
  · exact (Ext.then (Ext.then (Ext.then (Ext.refl [b_1] _) e_34 (by intro y_ hy_ _; simp only [List.mem_cons, List.not_mem_nil, or_false] at hy_ ⊢; omega)) e_40 (by intro y_ hy_ _; simp only [List.mem_cons, List.not_mem_nil, or_false] at hy_ ⊢; omega)) e_46 (by intro y_ hy_ _; simp only [List.mem_cons, List.not_mem_nil, or_false] at hy_ ⊢; omega)).toExtW
  have gx_49 : GX [10901] w_39 γ_14 w_45 γ_14 := GX.ext1 e_46 hk_44.2 (fun _ _ => rfl)
  have hk_50 : Bk γ_14 w_45 b_1 10901 (.cells #[.int .i64 m_15.kind, .int .i64 s.own, .int .i64 s.peer, .int .u32 s.view, .int .u32 m_15.seq, .slice m_15.na m_15.N.length m_15.nc, .slice m_15.wa m_15.W.length m_15.wc] 32 (0, 0)) := ⟨hb_48, hk_44.2⟩
  refine wk_nil ?_
  refine thn_n ?_
  refine g_seq (x := lCN6_7) (y := lCN6_8) (by kernel_rfl) ?_
  refine g_block (x := lCN6_9) (id := 0) (by kernel_rfl) ?_
  refine g_seq (x := lCN6_10) (y := lCN6_11) (by kernel_rfl) ?_
  refine g_region (ops := lCR6_3) (id := 3) (by kernel_rfl) [lo 0, lo 1, pu 2, pu 3, pu 4, lo 5, pu 6, pu 7, pu 8] (by kernel_rfl) (by kernel_rfl) ?_
  refine wk_val (opd 23 (.load 32 (.tmp 3)) 32) rfl (.agg #[.int .i64 m_15.kind, .int .i64 s.own, .int .i64 s.peer, .int .u32 s.view, .int .u32 m_15.seq, .slice m_15.na m_15.N.length m_15.nc, .slice m_15.wa m_15.W.length m_15.wc]) (x_load_agg (b := b_1) (off := 0) (n := 7) (by kernel_rfl) (by kernel_rfl) hk_50.1 (Nat.le_of_ble_eq_true rfl) (by kernel_rfl)) trivial ?_
  have hb_51 := (MOk.keep (MOk.keep (MOk.keep (MOk.keep (MOk.keep hm_17 gx_25 ni1) gx_29 ni0) gx_37 ni1) gx_43 ni1) gx_49 ni1)
  by_cases h_52 : 1 ≤ m_15.kind ∧ m_15.kind ≤ 20 ∧ 0 ≤ s.own ∧ s.own < 16 ∧ 0 ≤ s.peer ∧ s.peer < 16 ∧ m_15.N.length ≤ 500 ∧ m_15.W.length ≤ 500
  · refine wkc 24 26 #[.tmp 23] #[32] 4 #[.agg #[.int .i64 m_15.kind, .int .i64 s.own, .int .i64 s.peer, .int .u32 s.view, .int .u32 m_15.seq, .slice m_15.na m_15.N.length m_15.nc, .slice m_15.wa m_15.W.length m_15.wc]] Try.func26 (good_c (γ := γ_14) (m := (⟨m_15.kind, s.own, s.peer, s.view, m_15.seq, m_15.na, m_15.nb, m_15.noff, m_15.nc, m_15.N, m_15.wa, m_15.wb, m_15.woff, m_15.wc, m_15.W⟩ : MsgR)) (decide_eq_true h_52) (fun w_53 γ_54 gx_55 => ⟨?_, ?_⟩))
    · exact trivial
    have hsz_56 := gx_55.size
    refine wk_pure (opd 25 (.unOp .not 4 (.tmp 24)) 4) rfl (.bool false) (fun _ => y_not (p := true) (by kernel_rfl) rfl) ?_
    refine wpm 26 (.tmp 25) 4 (.bool false) ?_
    refine wk_pure (opg 27 (.fieldAddr 32 (.tmp 3) 0) 0 3 false) (by kernel_rfl) (.pointer (some ⟨b_1, 0, none⟩)) (fun _ => x_fieldAddr (b := b_1) (off := 0) (o := 0) (by kernel_rfl) (by kernel_rfl)) ?_
    have hb_57 := (Bk.keep hk_50 gx_55 ni0)
    refine wk_val (opg 28 (.load 3 (.tmp 27)) 3 3 false) (by kernel_rfl) (.int .i64 m_15.kind) (x_load (b := b_1) (off := 0) (by kernel_rfl) (by kernel_rfl) hb_57.1 (by kernel_rfl)) trivial ?_
    by_cases h_58 : (m_15.kind : Int) = 1
    · refine wk_pure (opg 29 (.binOp .eql 3 (.tmp 28) (.const (.int .i64 1)) 3) 4 3 false) (by kernel_rfl) (.bool true) (fun _ => y_eql (k := .i64) (a := m_15.kind) (b := 1) (by kernel_rfl) (by kernel_rfl) (decide_eq_true h_58)) ?_
      refine wpk 30 (.tmp 26) (.const (.bool true)) (.tmp 29) 4 (.bool true) ?_
      refine wpa 22 (.tmp 30) 4 (.bool true) ?_
      refine wk_nil ?_
      refine thn_n ?_
      refine g_cond_t (o := .tmp 22) (x := lCN6_12) (y := lCN6_13) (by kernel_rfl) (by kernel_rfl) ?_
      refine g_seq (x := lCN6_14) (y := lCN6_15) (by kernel_rfl) ?_
      refine g_region (ops := lCR6_4) (id := 4) (by kernel_rfl) [pu 0] (by kernel_rfl) (by kernel_rfl) ?_
      refine wpa 4 (.const (.int .i64 1)) 24 (.int .i64 1) ?_
      refine wk_nil ?_
      refine thn_n ?_
      refine g_ret (by kernel_rfl) ?_
      refine blk_r ?_
      refine thn_r ?_
      refine ends1_r (v := .int .i64 1) rfl (by kernel_rfl) ?_
      exact h1 (by omega) _ _ (GX.trans (GX.thenNew (GX.thenNew (GX.thenNew (GX.then_same (GX.thenNew (GX.trans (GX.then0 (GX.refl [] _ _) e_3 hg_8) gx_16 (fun _ h_ => absurd h_ List.not_mem_nil)) e_22 (by intro y_ hy_; simp only [List.mem_cons, List.not_mem_nil, or_false] at hy_; omega) (fun _ _ => rfl)) sm_28) e_34 (by intro y_ hy_; simp only [List.mem_cons, List.not_mem_nil, or_false] at hy_; omega) (fun _ _ => rfl)) e_40 (by intro y_ hy_; simp only [List.mem_cons, List.not_mem_nil, or_false] at hy_; omega) (fun _ _ => rfl)) e_46 (by intro y_ hy_; simp only [List.mem_cons, List.not_mem_nil, or_false] at hy_; omega) (fun _ _ => rfl)) gx_55 (fun _ h_ => absurd h_ List.not_mem_nil))
    refine wk_pure (opg 29 (.binOp .eql 3 (.tmp 28) (.const (.int .i64 1)) 3) 4 3 false) (by kernel_rfl) (.bool false) (fun _ => y_eql (k := .i64) (a := m_15.kind) (b := 1) (by kernel_rfl) (by kernel_rfl) (decide_eq_false h_58)) ?_
    refine wpk 30 (.tmp 26) (.const (.bool true)) (.tmp 29) 4 (.bool false) ?_
    refine wpa 22 (.tmp 30) 4 (.bool false) ?_
    refine wk_nil ?_
    refine thn_n ?_
    refine g_cond_f (o := .tmp 22) (x := lCN6_12) (y := lCN6_13) (by kernel_rfl) (by kernel_rfl) ?_
    refine g_seq (x := lCN6_16) (y := lCN6_17) (by kernel_rfl) ?_
    refine g_region (ops := lCR6_5) (id := 5) (by kernel_rfl) [pu 0, pu 1, pu 2, lo 3, pu 4, pu 5, pu 6, pu 7, pu 8, pu 9, lo 10, pu 11, pu 12, pu 13] (by kernel_rfl) (by kernel_rfl) ?_
    refine wpm 32 (.tmp 0) 23 (.pointer (some ⟨p, 0, none⟩)) ?_
    refine wpn 33 (.tmp 32) ⟨p, 0, none⟩ ?_
    refine wpf 34 61 (.tmp 33) 4 p 0 4 4 ?_
    have hb_59 := (Bk.keep (Bk.keep (Bk.keep (Bk.keep hb_31 gx_37 ni1) gx_43 ni1) gx_49 ni1) gx_55 ni0)
    refine wpl 35 59 (.tmp 34) (.slice s.oa s.out.length s.oc) p 4 hb_59.1 ?_
    refine wk_pure (opd 36 (.call ⟨.builtin .len, #[.tmp 35], #[59]⟩) 3) rfl (.int .i64 ((s.out.length : Nat) : Int)) (fun _ => x_len (a := s.oa) (n := s.out.length) (c := s.oc) (by kernel_rfl) (by kernel_rfl)) ?_
    by_cases h_60 : (1024 : Int) ≤ ((s.out.length : Nat) : Int)
    · refine wk_pure (opd 37 (.binOp .geq 3 (.tmp 36) (.const (.int .i64 1024)) 3) 4) rfl (.bool true) (fun _ => y_geq (k := .i64) (a := ((s.out.length : Nat) : Int)) (b := 1024) (by kernel_rfl) (by kernel_rfl) (decide_eq_true h_60)) ?_
      refine wpm 38 (.tmp 37) 4 (.bool true) ?_
      refine wks 39 ?_
      refine wks 40 ?_
      refine wks 41 ?_
      refine wks 42 ?_
      refine wks 43 ?_
      refine wpt 44 (.tmp 38) (.const (.bool true)) (.tmp 43) 4 (.bool true) ?_
      refine wpa 31 (.tmp 44) 4 (.bool true) ?_
      refine wk_nil ?_
      refine thn_n ?_
      refine g_cond_t (o := .tmp 31) (x := lCN6_18) (y := lCN6_19) (by kernel_rfl) (by kernel_rfl) ?_
      refine g_seq (x := lCN6_20) (y := lCN6_21) (by kernel_rfl) ?_
      refine g_region (ops := lCR6_6) (id := 6) (by kernel_rfl) [pu 0] (by kernel_rfl) (by kernel_rfl) ?_
      refine wpa 4 (.const (.int .i64 6)) 24 (.int .i64 6) ?_
      refine wk_nil ?_
      refine thn_n ?_
      refine g_ret (by kernel_rfl) ?_
      refine blk_r ?_
      refine thn_r ?_
      refine ends1_r (v := .int .i64 6) rfl (by kernel_rfl) ?_
      exact h2 (by omega) (by omega) _ _ (GX.trans (GX.thenNew (GX.thenNew (GX.thenNew (GX.then_same (GX.thenNew (GX.trans (GX.then0 (GX.refl [] _ _) e_3 hg_8) gx_16 (fun _ h_ => absurd h_ List.not_mem_nil)) e_22 (by intro y_ hy_; simp only [List.mem_cons, List.not_mem_nil, or_false] at hy_; omega) (fun _ _ => rfl)) sm_28) e_34 (by intro y_ hy_; simp only [List.mem_cons, List.not_mem_nil, or_false] at hy_; omega) (fun _ _ => rfl)) e_40 (by intro y_ hy_; simp only [List.mem_cons, List.not_mem_nil, or_false] at hy_; omega) (fun _ _ => rfl)) e_46 (by intro y_ hy_; simp only [List.mem_cons, List.not_mem_nil, or_false] at hy_; omega) (fun _ _ => rfl)) gx_55 (fun _ h_ => absurd h_ List.not_mem_nil))
    refine wk_pure (opd 37 (.binOp .geq 3 (.tmp 36) (.const (.int .i64 1024)) 3) 4) rfl (.bool false) (fun _ => y_geq (k := .i64) (a := ((s.out.length : Nat) : Int)) (b := 1024) (by kernel_rfl) (by kernel_rfl) (decide_eq_false h_60)) ?_
    refine wpm 38 (.tmp 37) 4 (.bool false) ?_
    refine wk_pure (opg 39 (.move (.tmp 0)) 23 6 false) (by kernel_rfl) (.pointer (some ⟨p, 0, none⟩)) (fun _ => y_move (by kernel_rfl)) ?_
    refine wk_pure (opg 40 (.nilCheck (.tmp 39)) 0 6 false) (by kernel_rfl) (.pointer (some ⟨p, 0, none⟩)) (fun _ => x_nilCheck (by kernel_rfl)) ?_
    refine wk_pure (opg 41 (.fieldAddr 61 (.tmp 40) 5) 0 6 false) (by kernel_rfl) (.pointer (some ⟨p, 5, none⟩)) (fun _ => x_fieldAddr (b := p) (off := 0) (o := 5) (by kernel_rfl) (by kernel_rfl)) ?_
    refine wk_val (opg 42 (.load 27 (.tmp 41)) 27 6 false) (by kernel_rfl) (.int .u32 s.pushed) (x_load (b := p) (off := 5) (by kernel_rfl) (by kernel_rfl) hb_59.1 (by kernel_rfl)) trivial ?_
    by_cases h_61 : (s.pushed : Int) = 4294967295
    · refine wk_pure (opg 43 (.binOp .eql 27 (.tmp 42) (.const (.int .u32 4294967295)) 27) 4 6 false) (by kernel_rfl) (.bool true) (fun _ => y_eql (k := .u32) (a := s.pushed) (b := 4294967295) (by kernel_rfl) (by kernel_rfl) (decide_eq_true h_61)) ?_
      refine wpk 44 (.tmp 38) (.const (.bool true)) (.tmp 43) 4 (.bool true) ?_
      refine wpa 31 (.tmp 44) 4 (.bool true) ?_
      refine wk_nil ?_
      refine thn_n ?_
      refine g_cond_t (o := .tmp 31) (x := lCN6_18) (y := lCN6_19) (by kernel_rfl) (by kernel_rfl) ?_
      refine g_seq (x := lCN6_20) (y := lCN6_21) (by kernel_rfl) ?_
      refine g_region (ops := lCR6_6) (id := 6) (by kernel_rfl) [pu 0] (by kernel_rfl) (by kernel_rfl) ?_
      refine wpa 4 (.const (.int .i64 6)) 24 (.int .i64 6) ?_
      refine wk_nil ?_
      refine thn_n ?_
      refine g_ret (by kernel_rfl) ?_
      refine blk_r ?_
      refine thn_r ?_
      refine ends1_r (v := .int .i64 6) rfl (by kernel_rfl) ?_
      exact h2 (by omega) (by omega) _ _ (GX.trans (GX.thenNew (GX.thenNew (GX.thenNew (GX.then_same (GX.thenNew (GX.trans (GX.then0 (GX.refl [] _ _) e_3 hg_8) gx_16 (fun _ h_ => absurd h_ List.not_mem_nil)) e_22 (by intro y_ hy_; simp only [List.mem_cons, List.not_mem_nil, or_false] at hy_; omega) (fun _ _ => rfl)) sm_28) e_34 (by intro y_ hy_; simp only [List.mem_cons, List.not_mem_nil, or_false] at hy_; omega) (fun _ _ => rfl)) e_40 (by intro y_ hy_; simp only [List.mem_cons, List.not_mem_nil, or_false] at hy_; omega) (fun _ _ => rfl)) e_46 (by intro y_ hy_; simp only [List.mem_cons, List.not_mem_nil, or_false] at hy_; omega) (fun _ _ => rfl)) gx_55 (fun _ h_ => absurd h_ List.not_mem_nil))
    refine wk_pure (opg 43 (.binOp .eql 27 (.tmp 42) (.const (.int .u32 4294967295)) 27) 4 6 false) (by kernel_rfl) (.bool false) (fun _ => y_eql (k := .u32) (a := s.pushed) (b := 4294967295) (by kernel_rfl) (by kernel_rfl) (decide_eq_false h_61)) ?_
    refine wpk 44 (.tmp 38) (.const (.bool true)) (.tmp 43) 4 (.bool false) ?_
    refine wpa 31 (.tmp 44) 4 (.bool false) ?_
    refine wk_nil ?_
    refine thn_n ?_
    refine g_cond_f (o := .tmp 31) (x := lCN6_18) (y := lCN6_19) (by kernel_rfl) (by kernel_rfl) ?_
    refine g_skip (by kernel_rfl) ?_
    refine blk_n ?_
    refine thn_n ?_
    refine g_seq (x := lCN6_22) (y := lCN6_23) (by kernel_rfl) ?_
    refine g_region (ops := lCR6_7) (id := 7) (by kernel_rfl) [pu 0, pu 1, pu 2, lo 3, pu 4, pu 5, pu 6, lo 7] (by kernel_rfl) (by kernel_rfl) ?_
    refine wpm 45 (.tmp 0) 23 (.pointer (some ⟨p, 0, none⟩)) ?_
    refine wpn 46 (.tmp 45) ⟨p, 0, none⟩ ?_
    refine wpf 47 61 (.tmp 46) 5 p 0 5 5 ?_
    refine wpl 48 27 (.tmp 47) (.int .u32 s.pushed) p 5 hb_59.1 ?_
    refine wk_pure (opd 49 (.binOp .add 27 (.tmp 48) (.const (.int .u32 1)) 27) 27) rfl (.int .u32 (s.pushed + 1)) (fun _ => y_add (k := .u32) (a := s.pushed) (b := 1) (by kernel_rfl) (by kernel_rfl) (u32_id (by omega))) ?_
    refine wpn 50 (.tmp 45) ⟨p, 0, none⟩ ?_
    refine wpf 51 61 (.tmp 50) 5 p 0 5 5 ?_
    refine wk_store (b := p) (off := 5) (cs' := #[.int .i64 s.own, .int .i64 s.peer, .int .u32 s.view, .int .i64 s.now, .slice s.oa s.out.length s.oc, .int .u32 (s.pushed + 1), .int .u32 s.told, .int .u32 s.next, .slice s.ha s.held.length s.hc]) (vs := #[.int .u32 (s.pushed + 1)]) (opn (.store 27 (.tmp 51) (.tmp 49)) 0) rfl (by kernel_rfl) (by kernel_rfl) (by kernel_rfl) (by kernel_rfl) hb_59.1 (Nat.le_of_ble_eq_true rfl) (by kernel_rfl) (by kernel_rfl) (fun w_62 e_63 sz_64 hb_65 => ⟨?_, ?_⟩)
    · exact trivial
    have gx_66 : GX [k] w_53 γ_54 w_62 γ_54 := GX.ext1 e_63 hb_59.2 (fun _ _ => rfl)
    have hk_67 : Bk γ_54 w_62 p k (.cells #[.int .i64 s.own, .int .i64 s.peer, .int .u32 s.view, .int .i64 s.now, .slice s.oa s.out.length s.oc, .int .u32 (s.pushed + 1), .int .u32 s.told, .int .u32 s.next, .slice s.ha s.held.length s.hc] 61 (0, 0)) := ⟨hb_65, hb_59.2⟩
    refine wk_nil ?_
    refine thn_n ?_
    refine g_seq (x := lCN6_24) (y := lCN6_25) (by kernel_rfl) ?_
    refine g_region (ops := lCR6_8) (id := 8) (by kernel_rfl) [pu 0, pu 1, pu 2, lo 3, pu 4, lo 5] (by kernel_rfl) (by kernel_rfl) ?_
    refine wpm 52 (.tmp 0) 23 (.pointer (some ⟨p, 0, none⟩)) ?_
    refine wpn 53 (.tmp 52) ⟨p, 0, none⟩ ?_
    refine wpf 54 61 (.tmp 53) 5 p 0 5 5 ?_
    refine wpl 55 27 (.tmp 54) (.int .u32 (s.pushed + 1)) p 5 hk_67.1 ?_
    refine wpf 56 32 (.tmp 3) 4 b_1 0 4 4 ?_
    have hb_68 := (Bk.keep hb_57 gx_66 ni1)
    refine wk_store (b := b_1) (off := 4) (cs' := #[.int .i64 m_15.kind, .int .i64 s.own, .int .i64 s.peer, .int .u32 s.view, .int .u32 (s.pushed + 1), .slice m_15.na m_15.N.length m_15.nc, .slice m_15.wa m_15.W.length m_15.wc]) (vs := #[.int .u32 (s.pushed + 1)]) (opn (.store 27 (.tmp 56) (.tmp 55)) 0) rfl (by kernel_rfl) (by kernel_rfl) (by kernel_rfl) (by kernel_rfl) hb_68.1 (Nat.le_of_ble_eq_true rfl) (by kernel_rfl) (by kernel_rfl) (fun w_69 e_70 sz_71 hb_72 => ⟨?_, ?_⟩)
    · exact trivial
    have gx_73 : GX [10901] w_62 γ_54 w_69 γ_54 := GX.ext1 e_70 hb_68.2 (fun _ _ => rfl)
    have hk_74 : Bk γ_54 w_69 b_1 10901 (.cells #[.int .i64 m_15.kind, .int .i64 s.own, .int .i64 s.peer, .int .u32 s.view, .int .u32 (s.pushed + 1), .slice m_15.na m_15.N.length m_15.nc, .slice m_15.wa m_15.W.length m_15.wc] 32 (0, 0)) := ⟨hb_72, hb_68.2⟩
    refine wk_nil ?_
    refine thn_n ?_
    refine g_seq (x := lCN6_26) (y := lCN6_27) (by kernel_rfl) ?_
    refine g_fork (ops := lCR6_9) (id := 9) (by kernel_rfl) (fun _ _ => True) (seqP [(0, .pure), (1, .pure), (2, .pure), (3, .pure)] (.two 4 5 (seqP [(5, .loud), (6, .pure), (7, .loud), (8, .loud), (9, .pure), (10, .pure), (11, .loud)] .nil) (seqP [(6, .pure)] (.two 4 7 (seqP [(7, .loud), (8, .loud), (9, .pure), (10, .pure), (11, .loud)] .nil) (seqP [(4, .read), (8, .loud), (9, .pure), (10, .pure), (11, .loud)] .nil))))) (by kernel_rfl) (by kernel_rfl) (fun _ => trivial) (fun w_75 sm_76 => wkP_seq ?_)
    have gx_77 := GX.same [] γ_54 sm_76
    have hsz_78 : w_75.heap.size = w_69.heap.size := by rw [sm_76.heap]
    refine wpm 57 (.tmp 0) 23 (.pointer (some ⟨p, 0, none⟩)) ?_
    refine wpm 58 (.tmp 0) 23 (.pointer (some ⟨p, 0, none⟩)) ?_
    refine wpn 59 (.tmp 58) ⟨p, 0, none⟩ ?_
    refine wpf 60 61 (.tmp 59) 4 p 0 4 4 ?_
    refine wk_nil ?_
    refine wkP_two ?_ ?_
    · have hb_79 := (Bk.keep (Bk.keep hk_67 gx_73 ni1) gx_77 ni0)
      refine wpl 61 59 (.tmp 60) (.slice s.oa s.out.length s.oc) p 4 hb_79.1 ?_
      refine wk_nil ?_
      refine wkP_seq ?_
      have hb_80 := (Bk.keep hk_74 gx_77 ni0)
      refine wk_val (opd 62 (.load 32 (.tmp 3)) 32) rfl (.agg #[.int .i64 m_15.kind, .int .i64 s.own, .int .i64 s.peer, .int .u32 s.view, .int .u32 (s.pushed + 1), .slice m_15.na m_15.N.length m_15.nc, .slice m_15.wa m_15.W.length m_15.wc]) (x_load_agg (b := b_1) (off := 0) (n := 7) (by kernel_rfl) (by kernel_rfl) hb_80.1 (Nat.le_of_ble_eq_true rfl) (by kernel_rfl)) trivial ?_
      refine wk_pure (opd 63 (.build 65 #[(0, .tmp 62)]) 65) rfl (.agg #[.int .i64 m_15.kind, .int .i64 s.own, .int .i64 s.peer, .int .u32 s.view, .int .u32 (s.pushed + 1), .slice m_15.na m_15.N.length m_15.nc, .slice m_15.wa m_15.W.length m_15.wc, .bool false, .int .i64 0]) (fun _ => x_build (by kernel_rfl)) ?_
      refine wk_buildSlice (e := 65) (cs := #[.int .i64 m_15.kind, .int .i64 s.own, .int .i64 s.peer, .int .u32 s.view, .int .u32 (s.pushed + 1), .slice m_15.na m_15.N.length m_15.nc, .slice m_15.wa m_15.W.length m_15.wc, .bool false, .int .i64 0]) (opd 64 (.buildSlice 59 1 #[(0, .tmp 63)]) 59) rfl (by kernel_rfl) (fun w_81 b_82 eq_83 e_84 sz_85 hb_86 => ⟨?_, ?_⟩)
      · exact trivial
      obtain ⟨γ_87, hg_88, hn_89⟩ := cls_new γ_54 w_75.heap.size 10902
      have gx_90 := GX.ext0 [] e_84 hg_88
      have hk_91 : Bk γ_87 w_81 b_82 10902 (.cells #[.int .i64 m_15.kind, .int .i64 s.own, .int .i64 s.peer, .int .u32 s.view, .int .u32 (s.pushed + 1), .slice m_15.na m_15.N.length m_15.nc, .slice m_15.wa m_15.W.length m_15.wc, .bool false, .int .i64 0] 65 (0, 0)) := ⟨hb_86, hn_89 _ (by omega)⟩
      have hs_92 : SlE w_81 9 (some ⟨b_82, 0, none⟩) b_82 0 encS [(⟨(⟨m_15.kind, s.own, s.peer, s.view, (s.pushed + 1), m_15.na, m_15.nb, m_15.noff, m_15.nc, m_15.N, m_15.wa, m_15.wb, m_15.woff, m_15.wc, m_15.W⟩ : MsgR), false, 0⟩ : SndR)] := SlE.of_cells hk_91.1 encS_len (by rfl)
      have hb_102 : OwNG γ_87 w_81 (k + 1) 65 9 s.oa s.og s.oc encS s.out s.orest := (OwNG.keep (OwNG.keep (OwNG.keep (OwNG.keep (OwNG.keep (OwNG.keep (OwNG.keep (OwNG.keep (OwNG.keep (OwNG.keep (OwNG.keep (OwNG.keep h.ho gx_10 ni0) gx_16 ni0) gx_25 ni1) gx_29 ni0) gx_37 ni1) gx_43 ni1) gx_49 ni1) gx_55 ni0) gx_66 ni1) gx_73 ni1) gx_77 ni0) gx_90 ni0)
      have on_103 : OwNG γ_87 w_81 (k + 1) 65 9 s.oa s.og s.oc encS s.out s.orest := hb_102
      refine wk_append (M := ([(⟨(⟨m_15.kind, s.own, s.peer, s.view, (s.pushed + 1), m_15.na, m_15.nb, m_15.noff, m_15.nc, m_15.N, m_15.wa, m_15.wb, m_15.woff, m_15.wc, m_15.W⟩ : MsgR), false, 0⟩ : SndR)])) (L := s.out) (a := s.oa) (g := s.og) (c := s.oc) (ax := (some ⟨b_82, 0, none⟩)) (bx := b_82) (offx := 0) (cx := 1) (e := 65) (sz := 9) (by_ := 96) (opd 65 (.call ⟨.builtin .append, #[.tmp 61, .tmp 64], #[59, 59]⟩) 59) rfl (by kernel_rfl) (by kernel_rfl) encS_len (by kernel_rfl) on_103.1 (by kernel_rfl) hs_92 (by simp) encS_one (by constructor <;> (simp only [List.length_singleton]; omega)) (fun w_93 b_94 cap_95 rest_96 hb_97 e_98 sz_99 lt_100 ho_101 => ⟨?_, ?_⟩)
      · exact trivial
      obtain ⟨γ_104, hg_105, hn_106⟩ := cls_new γ_87 w_81.heap.size (k + 1)
      have gx_107 : GX [k + 1] w_81 γ_87 w_93 γ_104 := OwNG.gx on_103 e_98 hg_105
      have hk_108 : OwnG γ_104 w_93 (k + 1) 65 9 b_94 cap_95 encS (s.out ++ ([(⟨(⟨m_15.kind, s.own, s.peer, s.view, (s.pushed + 1), m_15.na, m_15.nb, m_15.noff, m_15.nc, m_15.N, m_15.wa, m_15.wb, m_15.woff, m_15.wc, m_15.W⟩ : MsgR), false, 0⟩ : SndR)])) rest_96 := ⟨ho_101, OwNG.appc on_103 hb_97 hg_105 hn_106⟩
      have hsz_109 := e_98.size
      refine wpn 66 (.tmp 57) ⟨p, 0, none⟩ ?_
      refine wpf 67 61 (.tmp 66) 4 p 0 4 4 ?_
      have hb_110 := (Bk.keep (Bk.keep hb_79 gx_90 ni0) gx_107 ni1)
      refine wk_store (b := p) (off := 4) (cs' := #[.int .i64 s.own, .int .i64 s.peer, .int .u32 s.view, .int .i64 s.now, .slice (some ⟨b_94, 0, none⟩) ((s.out ++ ([(⟨(⟨m_15.kind, s.own, s.peer, s.view, (s.pushed + 1), m_15.na, m_15.nb, m_15.noff, m_15.nc, m_15.N, m_15.wa, m_15.wb, m_15.woff, m_15.wc, m_15.W⟩ : MsgR), false, 0⟩ : SndR)])).length) cap_95, .int .u32 (s.pushed + 1), .int .u32 s.told, .int .u32 s.next, .slice s.ha s.held.length s.hc]) (vs := #[.slice (some ⟨b_94, 0, none⟩) ((s.out ++ ([(⟨(⟨m_15.kind, s.own, s.peer, s.view, (s.pushed + 1), m_15.na, m_15.nb, m_15.noff, m_15.nc, m_15.N, m_15.wa, m_15.wb, m_15.woff, m_15.wc, m_15.W⟩ : MsgR), false, 0⟩ : SndR)])).length) cap_95]) (opn (.store 59 (.tmp 67) (.tmp 65)) 0) rfl (by kernel_rfl) (by kernel_rfl) (by kernel_rfl) (by kernel_rfl) hb_110.1 (Nat.le_of_ble_eq_true rfl) (by kernel_rfl) (by kernel_rfl) (fun w_111 e_112 sz_113 hb_114 => ⟨?_, ?_⟩)
      · exact trivial
      have gx_115 : GX [k] w_93 γ_104 w_111 γ_104 := GX.ext1 e_112 hb_110.2 (fun _ _ => rfl)
      have hk_116 : Bk γ_104 w_111 p k (.cells #[.int .i64 s.own, .int .i64 s.peer, .int .u32 s.view, .int .i64 s.now, .slice (some ⟨b_94, 0, none⟩) ((s.out ++ ([(⟨(⟨m_15.kind, s.own, s.peer, s.view, (s.pushed + 1), m_15.na, m_15.nb, m_15.noff, m_15.nc, m_15.N, m_15.wa, m_15.wb, m_15.woff, m_15.wc, m_15.W⟩ : MsgR), false, 0⟩ : SndR)])).length) cap_95, .int .u32 (s.pushed + 1), .int .u32 s.told, .int .u32 s.next, .slice s.ha s.held.length s.hc] 61 (0, 0)) := ⟨hb_114, hb_110.2⟩
      refine wk_nil ?_
      refine wkP_nil ?_
      refine thn_n ?_
      refine g_seq (x := lCN6_28) (y := lCN6_29) (by kernel_rfl) ?_
      refine g_region (ops := lCR6_10) (id := 10) (by kernel_rfl) [pu 0] (by kernel_rfl) (by kernel_rfl) ?_
      refine wpa 4 (.const (.int .i64 0)) 24 (.int .i64 0) ?_
      refine wk_nil ?_
      refine thn_n ?_
      refine g_ret (by kernel_rfl) ?_
      refine ends1_r (v := .int .i64 0) rfl (by kernel_rfl) ?_
      have hb_117 := (MOk.keep (MOk.keep (MOk.keep (MOk.keep (MOk.keep (MOk.keep (MOk.keep hb_51 gx_55 ni0) gx_66 ni1) gx_73 ni1) gx_77 ni0) gx_90 ni0) gx_107 ni1) gx_115 ni1)
      have hz_ : MOk γ_104 w_111 (⟨m_15.kind, s.own, s.peer, s.view, (s.pushed + 1), m_15.na, m_15.nb, m_15.noff, m_15.nc, m_15.N, m_15.wa, m_15.wb, m_15.woff, m_15.wc, m_15.W⟩ : MsgR) := ⟨(hb_117).n, (hb_117).w, by omega, by show 0 ≤ s.pushed + 1 ∧ s.pushed + 1 < 4294967296; omega, (hb_117).nr, (hb_117).nl, (hb_117).wl⟩
      have hb_118 := (OwnG.keep hk_108 gx_115 ni1)
      have hb_119 : OwNG γ_104 w_111 (k + 2) 32 7 s.ha s.hg s.hc encM s.held s.hrest := (OwNG.keep (OwNG.keep (OwNG.keep (OwNG.keep (OwNG.keep (OwNG.keep (OwNG.keep (OwNG.keep (OwNG.keep (OwNG.keep (OwNG.keep (OwNG.keep (OwNG.keep (OwNG.keep h.hh gx_10 ni0) gx_16 ni0) gx_25 ni1) gx_29 ni0) gx_37 ni1) gx_43 ni1) gx_49 ni1) gx_55 ni0) gx_66 ni1) gx_73 ni1) gx_77 ni0) gx_90 ni0) gx_107 ni1) gx_115 ni1)
      have hb_120 : AllOk γ_104 w_111 (s.out.map (·.m)) := (AllOk.keep (AllOk.keep (AllOk.keep (AllOk.keep (AllOk.keep (AllOk.keep (AllOk.keep (AllOk.keep (AllOk.keep (AllOk.keep (AllOk.keep (AllOk.keep (AllOk.keep (AllOk.keep h.ao gx_10 ni0) gx_16 ni0) gx_25 ni1) gx_29 ni0) gx_37 ni1) gx_43 ni1) gx_49 ni1) gx_55 ni0) gx_66 ni1) gx_73 ni1) gx_77 ni0) gx_90 ni0) gx_107 ni1) gx_115 ni1)
      have hb_121 : AllOk γ_104 w_111 s.held := (AllOk.keep (AllOk.keep (AllOk.keep (AllOk.keep (AllOk.keep (AllOk.keep (AllOk.keep (AllOk.keep (AllOk.keep (AllOk.keep (AllOk.keep (AllOk.keep (AllOk.keep (AllOk.keep h.ah gx_10 ni0) gx_16 ni0) gx_25 ni1) gx_29 ni0) gx_37 ni1) gx_43 ni1) gx_49 ni1) gx_55 ni0) gx_66 ni1) gx_73 ni1) gx_77 ni0) gx_90 ni0) gx_107 ni1) gx_115 ni1)
      exact h3 (by omega) (by omega) (by omega) (by omega) _ _ (⟨m_15.kind, s.own, s.peer, s.view, (s.pushed + 1), m_15.na, m_15.nb, m_15.noff, m_15.nc, m_15.N, m_15.wa, m_15.wb, m_15.woff, m_15.wc, m_15.W⟩ : MsgR) (GX.trans (GX.trans (GX.then0 (GX.then_same (GX.thenNew (GX.trans (GX.trans (GX.thenNew (GX.thenNew (GX.thenNew (GX.then_same (GX.thenNew (GX.trans (GX.then0 (GX.refl [k, k + 1] _ _) e_3 hg_8) gx_16 (fun _ h_ => absurd h_ List.not_mem_nil)) e_22 (by intro y_ hy_; simp only [List.mem_cons, List.not_mem_nil, or_false] at hy_; omega) (fun _ _ => rfl)) sm_28) e_34 (by intro y_ hy_; simp only [List.mem_cons, List.not_mem_nil, or_false] at hy_; omega) (fun _ _ => rfl)) e_40 (by intro y_ hy_; simp only [List.mem_cons, List.not_mem_nil, or_false] at hy_; omega) (fun _ _ => rfl)) e_46 (by intro y_ hy_; simp only [List.mem_cons, List.not_mem_nil, or_false] at hy_; omega) (fun _ _ => rfl)) gx_55 (fun _ h_ => absurd h_ List.not_mem_nil)) gx_66 (by intro c_ hc_; simp only [List.mem_cons, List.not_mem_nil, or_false] at hc_ ⊢; omega)) e_70 (by intro y_ hy_; simp only [List.mem_cons, List.not_mem_nil, or_false] at hy_; omega) (fun _ _ => rfl)) sm_76) e_84 hg_88) gx_107 (by intro c_ hc_; simp only [List.mem_cons, List.not_mem_nil, or_false] at hc_ ⊢; omega)) gx_115 (by intro c_ hc_; simp only [List.mem_cons, List.not_mem_nil, or_false] at hc_ ⊢; omega)) ⟨hk_116, (OwNG.of hb_118), hb_119, (by rw [List.map_append]; exact AllOk.add hb_120 hz_), hb_121, h_b1, by show 0 ≤ s.pushed + 1 ∧ s.pushed + 1 < 4294967296; omega, h_b3, h_b4, h_b5, (by show (s.out ++ [_]).length ≤ 1024; rw [List.length_append, List.length_singleton]; omega), h_l2, (fun j_ hj_ => by rw [getD_app hj_]; split; exact h_l3 j_ ‹_›; exact ⟨Int.le_refl _, h_b5.1⟩)⟩  (by simp only [MsgR.abs, ek_m_15, eN_m_15, eW_m_15])
    have hb_122 := (Bk.keep hk_74 gx_77 ni0)
    refine wk_val (opd 62 (.load 32 (.tmp 3)) 32) rfl (.agg #[.int .i64 m_15.kind, .int .i64 s.own, .int .i64 s.peer, .int .u32 s.view, .int .u32 (s.pushed + 1), .slice m_15.na m_15.N.length m_15.nc, .slice m_15.wa m_15.W.length m_15.wc]) (x_load_agg (b := b_1) (off := 0) (n := 7) (by kernel_rfl) (by kernel_rfl) hb_122.1 (Nat.le_of_ble_eq_true rfl) (by kernel_rfl)) trivial ?_
    refine wk_nil ?_
    refine wkP_seq ?_
    refine wk_pure (opd 63 (.build 65 #[(0, .tmp 62)]) 65) rfl (.agg #[.int .i64 m_15.kind, .int .i64 s.own, .int .i64 s.peer, .int .u32 s.view, .int .u32 (s.pushed + 1), .slice m_15.na m_15.N.length m_15.nc, .slice m_15.wa m_15.W.length m_15.wc, .bool false, .int .i64 0]) (fun _ => x_build (by kernel_rfl)) ?_
    refine wk_nil ?_
    refine wkP_two ?_ ?_
    · have hb_123 := (Bk.keep (Bk.keep hk_67 gx_73 ni1) gx_77 ni0)
      refine wpl 61 59 (.tmp 60) (.slice s.oa s.out.length s.oc) p 4 hb_123.1 ?_
      refine wk_nil ?_
      refine wkP_seq ?_
      refine wk_buildSlice (e := 65) (cs := #[.int .i64 m_15.kind, .int .i64 s.own, .int .i64 s.peer, .int .u32 s.view, .int .u32 (s.pushed + 1), .slice m_15.na m_15.N.length m_15.nc, .slice m_15.wa m_15.W.length m_15.wc, .bool false, .int .i64 0]) (opd 64 (.buildSlice 59 1 #[(0, .tmp 63)]) 59) rfl (by kernel_rfl) (fun w_124 b_125 eq_126 e_127 sz_128 hb_129 => ⟨?_, ?_⟩)
      · exact trivial
      obtain ⟨γ_130, hg_131, hn_132⟩ := cls_new γ_54 w_75.heap.size 10903
      have gx_133 := GX.ext0 [] e_127 hg_131
      have hk_134 : Bk γ_130 w_124 b_125 10903 (.cells #[.int .i64 m_15.kind, .int .i64 s.own, .int .i64 s.peer, .int .u32 s.view, .int .u32 (s.pushed + 1), .slice m_15.na m_15.N.length m_15.nc, .slice m_15.wa m_15.W.length m_15.wc, .bool false, .int .i64 0] 65 (0, 0)) := ⟨hb_129, hn_132 _ (by omega)⟩
      have hs_135 : SlE w_124 9 (some ⟨b_125, 0, none⟩) b_125 0 encS [(⟨(⟨m_15.kind, s.own, s.peer, s.view, (s.pushed + 1), m_15.na, m_15.nb, m_15.noff, m_15.nc, m_15.N, m_15.wa, m_15.wb, m_15.woff, m_15.wc, m_15.W⟩ : MsgR), false, 0⟩ : SndR)] := SlE.of_cells hk_134.1 encS_len (by rfl)
      have hb_145 : OwNG γ_130 w_124 (k + 1) 65 9 s.oa s.og s.oc encS s.out s.orest := (OwNG.keep (OwNG.keep (OwNG.keep (OwNG.keep (OwNG.keep (OwNG.keep (OwNG.keep (OwNG.keep (OwNG.keep (OwNG.keep (OwNG.keep (OwNG.keep h.ho gx_10 ni0) gx_16 ni0) gx_25 ni1) gx_29 ni0) gx_37 ni1) gx_43 ni1) gx_49 ni1) gx_55 ni0) gx_66 ni1) gx_73 ni1) gx_77 ni0) gx_133 ni0)
      have on_146 : OwNG γ_130 w_124 (k + 1) 65 9 s.oa s.og s.oc encS s.out s.orest := hb_145
      refine wk_append (M := ([(⟨(⟨m_15.kind, s.own, s.peer, s.view, (s.pushed + 1), m_15.na, m_15.nb, m_15.noff, m_15.nc, m_15.N, m_15.wa, m_15.wb, m_15.woff, m_15.wc, m_15.W⟩ : MsgR), false, 0⟩ : SndR)])) (L := s.out) (a := s.oa) (g := s.og) (c := s.oc) (ax := (some ⟨b_125, 0, none⟩)) (bx := b_125) (offx := 0) (cx := 1) (e := 65) (sz := 9) (by_ := 96) (opd 65 (.call ⟨.builtin .append, #[.tmp 61, .tmp 64], #[59, 59]⟩) 59) rfl (by kernel_rfl) (by kernel_rfl) encS_len (by kernel_rfl) on_146.1 (by kernel_rfl) hs_135 (by simp) encS_one (by constructor <;> (simp only [List.length_singleton]; omega)) (fun w_136 b_137 cap_138 rest_139 hb_140 e_141 sz_142 lt_143 ho_144 => ⟨?_, ?_⟩)
      · exact trivial
      obtain ⟨γ_147, hg_148, hn_149⟩ := cls_new γ_130 w_124.heap.size (k + 1)
      have gx_150 : GX [k + 1] w_124 γ_130 w_136 γ_147 := OwNG.gx on_146 e_141 hg_148
      have hk_151 : OwnG γ_147 w_136 (k + 1) 65 9 b_137 cap_138 encS (s.out ++ ([(⟨(⟨m_15.kind, s.own, s.peer, s.view, (s.pushed + 1), m_15.na, m_15.nb, m_15.noff, m_15.nc, m_15.N, m_15.wa, m_15.wb, m_15.woff, m_15.wc, m_15.W⟩ : MsgR), false, 0⟩ : SndR)])) rest_139 := ⟨ho_144, OwNG.appc on_146 hb_140 hg_148 hn_149⟩
      have hsz_152 := e_141.size
      refine wpn 66 (.tmp 57) ⟨p, 0, none⟩ ?_
      refine wpf 67 61 (.tmp 66) 4 p 0 4 4 ?_
      have hb_153 := (Bk.keep (Bk.keep hb_123 gx_133 ni0) gx_150 ni1)
      refine wk_store (b := p) (off := 4) (cs' := #[.int .i64 s.own, .int .i64 s.peer, .int .u32 s.view, .int .i64 s.now, .slice (some ⟨b_137, 0, none⟩) ((s.out ++ ([(⟨(⟨m_15.kind, s.own, s.peer, s.view, (s.pushed + 1), m_15.na, m_15.nb, m_15.noff, m_15.nc, m_15.N, m_15.wa, m_15.wb, m_15.woff, m_15.wc, m_15.W⟩ : MsgR), false, 0⟩ : SndR)])).length) cap_138, .int .u32 (s.pushed + 1), .int .u32 s.told, .int .u32 s.next, .slice s.ha s.held.length s.hc]) (vs := #[.slice (some ⟨b_137, 0, none⟩) ((s.out ++ ([(⟨(⟨m_15.kind, s.own, s.peer, s.view, (s.pushed + 1), m_15.na, m_15.nb, m_15.noff, m_15.nc, m_15.N, m_15.wa, m_15.wb, m_15.woff, m_15.wc, m_15.W⟩ : MsgR), false, 0⟩ : SndR)])).length) cap_138]) (opn (.store 59 (.tmp 67) (.tmp 65)) 0) rfl (by kernel_rfl) (by kernel_rfl) (by kernel_rfl) (by kernel_rfl) hb_153.1 (Nat.le_of_ble_eq_true rfl) (by kernel_rfl) (by kernel_rfl) (fun w_154 e_155 sz_156 hb_157 => ⟨?_, ?_⟩)
      · exact trivial
      have gx_158 : GX [k] w_136 γ_147 w_154 γ_147 := GX.ext1 e_155 hb_153.2 (fun _ _ => rfl)
      have hk_159 : Bk γ_147 w_154 p k (.cells #[.int .i64 s.own, .int .i64 s.peer, .int .u32 s.view, .int .i64 s.now, .slice (some ⟨b_137, 0, none⟩) ((s.out ++ ([(⟨(⟨m_15.kind, s.own, s.peer, s.view, (s.pushed + 1), m_15.na, m_15.nb, m_15.noff, m_15.nc, m_15.N, m_15.wa, m_15.wb, m_15.woff, m_15.wc, m_15.W⟩ : MsgR), false, 0⟩ : SndR)])).length) cap_138, .int .u32 (s.pushed + 1), .int .u32 s.told, .int .u32 s.next, .slice s.ha s.held.length s.hc] 61 (0, 0)) := ⟨hb_157, hb_153.2⟩
      refine wk_nil ?_
      refine wkP_nil ?_
      refine thn_n ?_
      refine g_seq (x := lCN6_28) (y := lCN6_29) (by kernel_rfl) ?_
      refine g_region (ops := lCR6_10) (id := 10) (by kernel_rfl) [pu 0] (by kernel_rfl) (by kernel_rfl) ?_
      refine wpa 4 (.const (.int .i64 0)) 24 (.int .i64 0) ?_
      refine wk_nil ?_
      refine thn_n ?_
      refine g_ret (by kernel_rfl) ?_
      refine ends1_r (v := .int .i64 0) rfl (by kernel_rfl) ?_
      have hb_160 := (MOk.keep (MOk.keep (MOk.keep (MOk.keep (MOk.keep (MOk.keep (MOk.keep hb_51 gx_55 ni0) gx_66 ni1) gx_73 ni1) gx_77 ni0) gx_133 ni0) gx_150 ni1) gx_158 ni1)
      have hz_ : MOk γ_147 w_154 (⟨m_15.kind, s.own, s.peer, s.view, (s.pushed + 1), m_15.na, m_15.nb, m_15.noff, m_15.nc, m_15.N, m_15.wa, m_15.wb, m_15.woff, m_15.wc, m_15.W⟩ : MsgR) := ⟨(hb_160).n, (hb_160).w, by omega, by show 0 ≤ s.pushed + 1 ∧ s.pushed + 1 < 4294967296; omega, (hb_160).nr, (hb_160).nl, (hb_160).wl⟩
      have hb_161 := (OwnG.keep hk_151 gx_158 ni1)
      have hb_162 : OwNG γ_147 w_154 (k + 2) 32 7 s.ha s.hg s.hc encM s.held s.hrest := (OwNG.keep (OwNG.keep (OwNG.keep (OwNG.keep (OwNG.keep (OwNG.keep (OwNG.keep (OwNG.keep (OwNG.keep (OwNG.keep (OwNG.keep (OwNG.keep (OwNG.keep (OwNG.keep h.hh gx_10 ni0) gx_16 ni0) gx_25 ni1) gx_29 ni0) gx_37 ni1) gx_43 ni1) gx_49 ni1) gx_55 ni0) gx_66 ni1) gx_73 ni1) gx_77 ni0) gx_133 ni0) gx_150 ni1) gx_158 ni1)
      have hb_163 : AllOk γ_147 w_154 (s.out.map (·.m)) := (AllOk.keep (AllOk.keep (AllOk.keep (AllOk.keep (AllOk.keep (AllOk.keep (AllOk.keep (AllOk.keep (AllOk.keep (AllOk.keep (AllOk.keep (AllOk.keep (AllOk.keep (AllOk.keep h.ao gx_10 ni0) gx_16 ni0) gx_25 ni1) gx_29 ni0) gx_37 ni1) gx_43 ni1) gx_49 ni1) gx_55 ni0) gx_66 ni1) gx_73 ni1) gx_77 ni0) gx_133 ni0) gx_150 ni1) gx_158 ni1)
      have hb_164 : AllOk γ_147 w_154 s.held := (AllOk.keep (AllOk.keep (AllOk.keep (AllOk.keep (AllOk.keep (AllOk.keep (AllOk.keep (AllOk.keep (AllOk.keep (AllOk.keep (AllOk.keep (AllOk.keep (AllOk.keep (AllOk.keep h.ah gx_10 ni0) gx_16 ni0) gx_25 ni1) gx_29 ni0) gx_37 ni1) gx_43 ni1) gx_49 ni1) gx_55 ni0) gx_66 ni1) gx_73 ni1) gx_77 ni0) gx_133 ni0) gx_150 ni1) gx_158 ni1)
      exact h3 (by omega) (by omega) (by omega) (by omega) _ _ (⟨m_15.kind, s.own, s.peer, s.view, (s.pushed + 1), m_15.na, m_15.nb, m_15.noff, m_15.nc, m_15.N, m_15.wa, m_15.wb, m_15.woff, m_15.wc, m_15.W⟩ : MsgR) (GX.trans (GX.trans (GX.then0 (GX.then_same (GX.thenNew (GX.trans (GX.trans (GX.thenNew (GX.thenNew (GX.thenNew (GX.then_same (GX.thenNew (GX.trans (GX.then0 (GX.refl [k, k + 1] _ _) e_3 hg_8) gx_16 (fun _ h_ => absurd h_ List.not_mem_nil)) e_22 (by intro y_ hy_; simp only [List.mem_cons, List.not_mem_nil, or_false] at hy_; omega) (fun _ _ => rfl)) sm_28) e_34 (by intro y_ hy_; simp only [List.mem_cons, List.not_mem_nil, or_false] at hy_; omega) (fun _ _ => rfl)) e_40 (by intro y_ hy_; simp only [List.mem_cons, List.not_mem_nil, or_false] at hy_; omega) (fun _ _ => rfl)) e_46 (by intro y_ hy_; simp only [List.mem_cons, List.not_mem_nil, or_false] at hy_; omega) (fun _ _ => rfl)) gx_55 (fun _ h_ => absurd h_ List.not_mem_nil)) gx_66 (by intro c_ hc_; simp only [List.mem_cons, List.not_mem_nil, or_false] at hc_ ⊢; omega)) e_70 (by intro y_ hy_; simp only [List.mem_cons, List.not_mem_nil, or_false] at hy_; omega) (fun _ _ => rfl)) sm_76) e_127 hg_131) gx_150 (by intro c_ hc_; simp only [List.mem_cons, List.not_mem_nil, or_false] at hc_ ⊢; omega)) gx_158 (by intro c_ hc_; simp only [List.mem_cons, List.not_mem_nil, or_false] at hc_ ⊢; omega)) ⟨hk_159, (OwNG.of hb_161), hb_162, (by rw [List.map_append]; exact AllOk.add hb_163 hz_), hb_164, h_b1, by show 0 ≤ s.pushed + 1 ∧ s.pushed + 1 < 4294967296; omega, h_b3, h_b4, h_b5, (by show (s.out ++ [_]).length ≤ 1024; rw [List.length_append, List.length_singleton]; omega), h_l2, (fun j_ hj_ => by rw [getD_app hj_]; split; exact h_l3 j_ ‹_›; exact ⟨Int.le_refl _, h_b5.1⟩)⟩  (by simp only [MsgR.abs, ek_m_15, eN_m_15, eW_m_15])
    refine wk_buildSlice (e := 65) (cs := #[.int .i64 m_15.kind, .int .i64 s.own, .int .i64 s.peer, .int .u32 s.view, .int .u32 (s.pushed + 1), .slice m_15.na m_15.N.length m_15.nc, .slice m_15.wa m_15.W.length m_15.wc, .bool false, .int .i64 0]) (opd 64 (.buildSlice 59 1 #[(0, .tmp 63)]) 59) rfl (by kernel_rfl) (fun w_165 b_166 eq_167 e_168 sz_169 hb_170 => ⟨?_, ?_⟩)
    · exact trivial
    obtain ⟨γ_171, hg_172, hn_173⟩ := cls_new γ_54 w_75.heap.size 10904
    have gx_174 := GX.ext0 [] e_168 hg_172
    have hk_175 : Bk γ_171 w_165 b_166 10904 (.cells #[.int .i64 m_15.kind, .int .i64 s.own, .int .i64 s.peer, .int .u32 s.view, .int .u32 (s.pushed + 1), .slice m_15.na m_15.N.length m_15.nc, .slice m_15.wa m_15.W.length m_15.wc, .bool false, .int .i64 0] 65 (0, 0)) := ⟨hb_170, hn_173 _ (by omega)⟩
    refine wk_nil ?_
    refine wkP_seq ?_
    have hb_176 := (Bk.keep (Bk.keep (Bk.keep hk_67 gx_73 ni1) gx_77 ni0) gx_174 ni0)
    refine wk_read (opd 61 (.load 59 (.tmp 60)) 59) rfl (.slice s.oa s.out.length s.oc) (fun w'_ g_ => x_load (b := p) (off := 4) (by kernel_rfl) (by kernel_rfl) (g_.keep hb_176.1) (by kernel_rfl)) ?_
    have hs_177 : SlE w_165 9 (some ⟨b_166, 0, none⟩) b_166 0 encS [(⟨(⟨m_15.kind, s.own, s.peer, s.view, (s.pushed + 1), m_15.na, m_15.nb, m_15.noff, m_15.nc, m_15.N, m_15.wa, m_15.wb, m_15.woff, m_15.wc, m_15.W⟩ : MsgR), false, 0⟩ : SndR)] := SlE.of_cells hk_175.1 encS_len (by rfl)
    have hb_187 : OwNG γ_171 w_165 (k + 1) 65 9 s.oa s.og s.oc encS s.out s.orest := (OwNG.keep (OwNG.keep (OwNG.keep (OwNG.keep (OwNG.keep (OwNG.keep (OwNG.keep (OwNG.keep (OwNG.keep (OwNG.keep (OwNG.keep (OwNG.keep h.ho gx_10 ni0) gx_16 ni0) gx_25 ni1) gx_29 ni0) gx_37 ni1) gx_43 ni1) gx_49 ni1) gx_55 ni0) gx_66 ni1) gx_73 ni1) gx_77 ni0) gx_174 ni0)
    have on_188 : OwNG γ_171 w_165 (k + 1) 65 9 s.oa s.og s.oc encS s.out s.orest := hb_187
    refine wk_append (M := ([(⟨(⟨m_15.kind, s.own, s.peer, s.view, (s.pushed + 1), m_15.na, m_15.nb, m_15.noff, m_15.nc, m_15.N, m_15.wa, m_15.wb, m_15.woff, m_15.wc, m_15.W⟩ : MsgR), false, 0⟩ : SndR)])) (L := s.out) (a := s.oa) (g := s.og) (c := s.oc) (ax := (some ⟨b_166, 0, none⟩)) (bx := b_166) (offx := 0) (cx := 1) (e := 65) (sz := 9) (by_ := 96) (opd 65 (.call ⟨.builtin .append, #[.tmp 61, .tmp 64], #[59, 59]⟩) 59) rfl (by kernel_rfl) (by kernel_rfl) encS_len (by kernel_rfl) on_188.1 (by kernel_rfl) hs_177 (by simp) encS_one (by constructor <;> (simp only [List.length_singleton]; omega)) (fun w_178 b_179 cap_180 rest_181 hb_182 e_183 sz_184 lt_185 ho_186 => ⟨?_, ?_⟩)
    · exact trivial
    obtain ⟨γ_189, hg_190, hn_191⟩ := cls_new γ_171 w_165.heap.size (k + 1)
    have gx_192 : GX [k + 1] w_165 γ_171 w_178 γ_189 := OwNG.gx on_188 e_183 hg_190
    have hk_193 : OwnG γ_189 w_178 (k + 1) 65 9 b_179 cap_180 encS (s.out ++ ([(⟨(⟨m_15.kind, s.own, s.peer, s.view, (s.pushed + 1), m_15.na, m_15.nb, m_15.noff, m_15.nc, m_15.N, m_15.wa, m_15.wb, m_15.woff, m_15.wc, m_15.W⟩ : MsgR), false, 0⟩ : SndR)])) rest_181 := ⟨ho_186, OwNG.appc on_188 hb_182 hg_190 hn_191⟩
    have hsz_194 := e_183.size
    refine wpn 66 (.tmp 57) ⟨p, 0, none⟩ ?_
    refine wpf 67 61 (.tmp 66) 4 p 0 4 4 ?_
    have hb_195 := (Bk.keep hb_176 gx_192 ni1)
    refine wk_store (b := p) (off := 4) (cs' := #[.int .i64 s.own, .int .i64 s.peer, .int .u32 s.view, .int .i64 s.now, .slice (some ⟨b_179, 0, none⟩) ((s.out ++ ([(⟨(⟨m_15.kind, s.own, s.peer, s.view, (s.pushed + 1), m_15.na, m_15.nb, m_15.noff, m_15.nc, m_15.N, m_15.wa, m_15.wb, m_15.woff, m_15.wc, m_15.W⟩ : MsgR), false, 0⟩ : SndR)])).length) cap_180, .int .u32 (s.pushed + 1), .int .u32 s.told, .int .u32 s.next, .slice s.ha s.held.length s.hc]) (vs := #[.slice (some ⟨b_179, 0, none⟩) ((s.out ++ ([(⟨(⟨m_15.kind, s.own, s.peer, s.view, (s.pushed + 1), m_15.na, m_15.nb, m_15.noff, m_15.nc, m_15.N, m_15.wa, m_15.wb, m_15.woff, m_15.wc, m_15.W⟩ : MsgR), false, 0⟩ : SndR)])).length) cap_180]) (opn (.store 59 (.tmp 67) (.tmp 65)) 0) rfl (by kernel_rfl) (by kernel_rfl) (by kernel_rfl) (by kernel_rfl) hb_195.1 (Nat.le_of_ble_eq_true rfl) (by kernel_rfl) (by kernel_rfl) (fun w_196 e_197 sz_198 hb_199 => ⟨?_, ?_⟩)
    · exact trivial
    have gx_200 : GX [k] w_178 γ_189 w_196 γ_189 := GX.ext1 e_197 hb_195.2 (fun _ _ => rfl)
    have hk_201 : Bk γ_189 w_196 p k (.cells #[.int .i64 s.own, .int .i64 s.peer, .int .u32 s.view, .int .i64 s.now, .slice (some ⟨b_179, 0, none⟩) ((s.out ++ ([(⟨(⟨m_15.kind, s.own, s.peer, s.view, (s.pushed + 1), m_15.na, m_15.nb, m_15.noff, m_15.nc, m_15.N, m_15.wa, m_15.wb, m_15.woff, m_15.wc, m_15.W⟩ : MsgR), false, 0⟩ : SndR)])).length) cap_180, .int .u32 (s.pushed + 1), .int .u32 s.told, .int .u32 s.next, .slice s.ha s.held.length s.hc] 61 (0, 0)) := ⟨hb_199, hb_195.2⟩
    refine wk_nil ?_
    refine wkP_nil ?_
    refine thn_n ?_
    refine g_seq (x := lCN6_28) (y := lCN6_29) (by kernel_rfl) ?_
    refine g_region (ops := lCR6_10) (id := 10) (by kernel_rfl) [pu 0] (by kernel_rfl) (by kernel_rfl) ?_
    refine wpa 4 (.const (.int .i64 0)) 24 (.int .i64 0) ?_
    refine wk_nil ?_
    refine thn_n ?_
    refine g_ret (by kernel_rfl) ?_
    refine ends1_r (v := .int .i64 0) rfl (by kernel_rfl) ?_
    have hb_202 := (MOk.keep (MOk.keep (MOk.keep (MOk.keep (MOk.keep (MOk.keep (MOk.keep hb_51 gx_55 ni0) gx_66 ni1) gx_73 ni1) gx_77 ni0) gx_174 ni0) gx_192 ni1) gx_200 ni1)
    have hz_ : MOk γ_189 w_196 (⟨m_15.kind, s.own, s.peer, s.view, (s.pushed + 1), m_15.na, m_15.nb, m_15.noff, m_15.nc, m_15.N, m_15.wa, m_15.wb, m_15.woff, m_15.wc, m_15.W⟩ : MsgR) := ⟨(hb_202).n, (hb_202).w, by omega, by show 0 ≤ s.pushed + 1 ∧ s.pushed + 1 < 4294967296; omega, (hb_202).nr, (hb_202).nl, (hb_202).wl⟩
    have hb_203 := (OwnG.keep hk_193 gx_200 ni1)
    have hb_204 : OwNG γ_189 w_196 (k + 2) 32 7 s.ha s.hg s.hc encM s.held s.hrest := (OwNG.keep (OwNG.keep (OwNG.keep (OwNG.keep (OwNG.keep (OwNG.keep (OwNG.keep (OwNG.keep (OwNG.keep (OwNG.keep (OwNG.keep (OwNG.keep (OwNG.keep (OwNG.keep h.hh gx_10 ni0) gx_16 ni0) gx_25 ni1) gx_29 ni0) gx_37 ni1) gx_43 ni1) gx_49 ni1) gx_55 ni0) gx_66 ni1) gx_73 ni1) gx_77 ni0) gx_174 ni0) gx_192 ni1) gx_200 ni1)
    have hb_205 : AllOk γ_189 w_196 (s.out.map (·.m)) := (AllOk.keep (AllOk.keep (AllOk.keep (AllOk.keep (AllOk.keep (AllOk.keep (AllOk.keep (AllOk.keep (AllOk.keep (AllOk.keep (AllOk.keep (AllOk.keep (AllOk.keep (AllOk.keep h.ao gx_10 ni0) gx_16 ni0) gx_25 ni1) gx_29 ni0) gx_37 ni1) gx_43 ni1) gx_49 ni1) gx_55 ni0) gx_66 ni1) gx_73 ni1) gx_77 ni0) gx_174 ni0) gx_192 ni1) gx_200 ni1)
    have hb_206 : AllOk γ_189 w_196 s.held := (AllOk.keep (AllOk.keep (AllOk.keep (AllOk.keep (AllOk.keep (AllOk.keep (AllOk.keep (AllOk.keep (AllOk.keep (AllOk.keep (AllOk.keep (AllOk.keep (AllOk.keep (AllOk.keep h.ah gx_10 ni0) gx_16 ni0) gx_25 ni1) gx_29 ni0) gx_37 ni1) gx_43 ni1) gx_49 ni1) gx_55 ni0) gx_66 ni1) gx_73 ni1) gx_77 ni0) gx_174 ni0) gx_192 ni1) gx_200 ni1)
    exact h3 (by omega) (by omega) (by omega) (by omega) _ _ (⟨m_15.kind, s.own, s.peer, s.view, (s.pushed + 1), m_15.na, m_15.nb, m_15.noff, m_15.nc, m_15.N, m_15.wa, m_15.wb, m_15.woff, m_15.wc, m_15.W⟩ : MsgR) (GX.trans (GX.trans (GX.then0 (GX.then_same (GX.thenNew (GX.trans (GX.trans (GX.thenNew (GX.thenNew (GX.thenNew (GX.then_same (GX.thenNew (GX.trans (GX.then0 (GX.refl [k, k + 1] _ _) e_3 hg_8) gx_16 (fun _ h_ => absurd h_ List.not_mem_nil)) e_22 (by intro y_ hy_; simp only [List.mem_cons, List.not_mem_nil, or_false] at hy_; omega) (fun _ _ => rfl)) sm_28) e_34 (by intro y_ hy_; simp only [List.mem_cons, List.not_mem_nil, or_false] at hy_; omega) (fun _ _ => rfl)) e_40 (by intro y_ hy_; simp only [List.mem_cons, List.not_mem_nil, or_false] at hy_; omega) (fun _ _ => rfl)) e_46 (by intro y_ hy_; simp only [List.mem_cons, List.not_mem_nil, or_false] at hy_; omega) (fun _ _ => rfl)) gx_55 (fun _ h_ => absurd h_ List.not_mem_nil)) gx_66 (by intro c_ hc_; simp only [List.mem_cons, List.not_mem_nil, or_false] at hc_ ⊢; omega)) e_70 (by intro y_ hy_; simp only [List.mem_cons, List.not_mem_nil, or_false] at hy_; omega) (fun _ _ => rfl)) sm_76) e_168 hg_172) gx_192 (by intro c_ hc_; simp only [List.mem_cons, List.not_mem_nil, or_false] at hc_ ⊢; omega)) gx_200 (by intro c_ hc_; simp only [List.mem_cons, List.not_mem_nil, or_false] at hc_ ⊢; omega)) ⟨hk_201, (OwNG.of hb_203), hb_204, (by rw [List.map_append]; exact AllOk.add hb_205 hz_), hb_206, h_b1, by show 0 ≤ s.pushed + 1 ∧ s.pushed + 1 < 4294967296; omega, h_b3, h_b4, h_b5, (by show (s.out ++ [_]).length ≤ 1024; rw [List.length_append, List.length_singleton]; omega), h_l2, (fun j_ hj_ => by rw [getD_app hj_]; split; exact h_l3 j_ ‹_›; exact ⟨Int.le_refl _, h_b5.1⟩)⟩  (by simp only [MsgR.abs, ek_m_15, eN_m_15, eW_m_15])
  refine wkc 24 26 #[.tmp 23] #[32] 4 #[.agg #[.int .i64 m_15.kind, .int .i64 s.own, .int .i64 s.peer, .int .u32 s.view, .int .u32 m_15.seq, .slice m_15.na m_15.N.length m_15.nc, .slice m_15.wa m_15.W.length m_15.wc]] Try.func26 (good_c (γ := γ_14) (m := (⟨m_15.kind, s.own, s.peer, s.view, m_15.seq, m_15.na, m_15.nb, m_15.noff, m_15.nc, m_15.N, m_15.wa, m_15.wb, m_15.woff, m_15.wc, m_15.W⟩ : MsgR)) (decide_eq_false h_52) (fun w_207 γ_208 gx_209 => ⟨?_, ?_⟩))
  · exact trivial
  have hsz_210 := gx_209.size
  refine wk_pure (opd 25 (.unOp .not 4 (.tmp 24)) 4) rfl (.bool true) (fun _ => y_not (p := false) (by kernel_rfl) rfl) ?_
  refine wpm 26 (.tmp 25) 4 (.bool true) ?_
  refine wks 27 ?_
  refine wks 28 ?_
  refine wks 29 ?_
  refine wpt 30 (.tmp 26) (.const (.bool true)) (.tmp 29) 4 (.bool true) ?_
  refine wpa 22 (.tmp 30) 4 (.bool true) ?_
  refine wk_nil ?_
  refine thn_n ?_
  refine g_cond_t (o := .tmp 22) (x := lCN6_12) (y := lCN6_13) (by kernel_rfl) (by kernel_rfl) ?_
  refine g_seq (x := lCN6_14) (y := lCN6_15) (by kernel_rfl) ?_
  refine g_region (ops := lCR6_4) (id := 4) (by kernel_rfl) [pu 0] (by kernel_rfl) (by kernel_rfl) ?_
  refine wpa 4 (.const (.int .i64 1)) 24 (.int .i64 1) ?_
  refine wk_nil ?_
  refine thn_n ?_
  refine g_ret (by kernel_rfl) ?_
  refine blk_r ?_
  refine thn_r ?_
  refine ends1_r (v := .int .i64 1) rfl (by kernel_rfl) ?_
  exact h1 (by omega) _ _ (GX.trans (GX.thenNew (GX.thenNew (GX.thenNew (GX.then_same (GX.thenNew (GX.trans (GX.then0 (GX.refl [] _ _) e_3 hg_8) gx_16 (fun _ h_ => absurd h_ List.not_mem_nil)) e_22 (by intro y_ hy_; simp only [List.mem_cons, List.not_mem_nil, or_false] at hy_; omega) (fun _ _ => rfl)) sm_28) e_34 (by intro y_ hy_; simp only [List.mem_cons, List.not_mem_nil, or_false] at hy_; omega) (fun _ _ => rfl)) e_40 (by intro y_ hy_; simp only [List.mem_cons, List.not_mem_nil, or_false] at hy_; omega) (fun _ _ => rfl)) e_46 (by intro y_ hy_; simp only [List.mem_cons, List.not_mem_nil, or_false] at hy_; omega) (fun _ _ => rfl)) gx_209 (fun _ h_ => absurd h_ List.not_mem_nil))

end Go.Proofs.Ytpcdldakilkldaa
