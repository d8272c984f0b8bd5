/-
  Links: contracts of functions, step by step (X1).
-/
import Derived.Test.YtpcdldakilkldaaX0
set_option linter.unusedSimpArgs false
set_option linter.unusedVariables false
namespace Go.Proofs.Ytpcdldakilkldaa
open Go Go.Wk

noncomputable def lX1N1_0 : Code := (Try.f15.body).getD .skip
noncomputable def lX1N1_1 : Code := s1 lX1N1_0
noncomputable def lX1N1_2 : Code := s2 lX1N1_0
noncomputable def lX1R1_0 : Array Oper := rops lX1N1_1
noncomputable def lX1N1_3 : Code := s1 lX1N1_2
noncomputable def lX1N1_4 : Code := s2 lX1N1_2
noncomputable def lX1R1_1 : Array Oper := rops lX1N1_3
theorem mayLink_c {own peer : Int} {w : World} {γ : Nat → Nat} {t : Bool} (ht : decide ((0 ≤ own ∧ own < 16) ∧ (0 ≤ peer ∧ peer < 16) ∧ own ≠ peer) = t) {K : Value → World → Prop} (hK : ∀ w', SameMem w w' → K (.bool t) w') : CallsV Try.prog 15 #[.int .i64 own, .int .i64 peer] w K := by
  refine callsV_of (c := lX1N1_0) Try.func15 (by kernel_rfl) (n := 16) (by kernel_rfl) ?_
  refine g_seq (x := lX1N1_1) (y := lX1N1_2) (by kernel_rfl) ?_
  refine g_region (ops := lX1R1_0) (id := 0) (by kernel_rfl) [pu 0] (by kernel_rfl) (by kernel_rfl) ?_
  refine wpa 4 (.const (.bool false)) 4 (.bool false) ?_
  refine wk_nil ?_
  refine thn_n ?_
  refine g_seq (x := lX1N1_3) (y := lX1N1_4) (by kernel_rfl) ?_
  refine g_region (ops := lX1R1_1) (id := 1) (by kernel_rfl) [pu 0, lo 1, pu 2, pu 3, lo 4, pu 5, pu 6, pu 7, pu 8, pu 9, pu 10, pu 11] (by kernel_rfl) (by kernel_rfl) ?_
  refine wpm 5 (.tmp 0) 3 (.int .i64 own) ?_
  by_cases h_1 : 0 ≤ own ∧ own < 16
  · refine wkc 6 31 #[.tmp 5] #[3] 4 #[.int .i64 own] Try.func31 (id_c (decide_eq_true h_1) (fun w_2 sm_3 => ⟨?_, ?_⟩))
    · exact trivial
    have gx_4 := GX.same [] γ sm_3
    have hsz_5 : w_2.heap.size = w.heap.size := by rw [sm_3.heap]
    refine wpm 7 (.tmp 6) 4 (.bool true) ?_
    refine wk_pure (opg 8 (.move (.tmp 1)) 3 2 true) (by kernel_rfl) (.int .i64 peer) (fun _ => y_move (by kernel_rfl)) ?_
    by_cases h_6 : 0 ≤ peer ∧ peer < 16
    · refine wk_call (opg 9 (.call ⟨.value (.func 31), #[.tmp 8], #[3]⟩) 4 2 true) (by kernel_rfl) 31 #[.int .i64 peer] (x_call Try.func31 (by kernel_rfl) (c := (Try.f31.body).getD .skip) (by kernel_rfl) (by kernel_rfl) (by kernel_rfl)) (id_c (decide_eq_true h_6) (fun w_7 sm_8 => ⟨?_, ?_⟩))
      · exact trivial
      have gx_9 := GX.same [] γ sm_8
      have hsz_10 : w_7.heap.size = w_2.heap.size := by rw [sm_8.heap]
      refine wpt 10 (.tmp 7) (.tmp 9) (.const (.bool false)) 4 (.bool true) ?_
      refine wpm 11 (.tmp 10) 4 (.bool true) ?_
      refine wk_pure (opg 12 (.move (.tmp 0)) 3 6 true) (by kernel_rfl) (.int .i64 own) (fun _ => y_move (by kernel_rfl)) ?_
      refine wk_pure (opg 13 (.move (.tmp 1)) 3 6 true) (by kernel_rfl) (.int .i64 peer) (fun _ => y_move (by kernel_rfl)) ?_
      by_cases h_11 : (own : Int) ≠ peer
      · refine wk_pure (opg 14 (.binOp .neq 3 (.tmp 12) (.tmp 13) 3) 4 6 true) (by kernel_rfl) (.bool true) (fun _ => y_neq (k := .i64) (a := own) (b := peer) (by kernel_rfl) (by kernel_rfl) (decide_eq_true h_11)) ?_
        refine wpt 15 (.tmp 11) (.tmp 14) (.const (.bool false)) 4 (.bool true) ?_
        refine wpa 4 (.tmp 15) 4 (.bool true) ?_
        refine wk_nil ?_
        refine thn_n ?_
        refine g_ret (by kernel_rfl) ?_
        refine ends1_r (v := .bool true) rfl (by kernel_rfl) ?_
        have e_ : true = t := by rw [← ht]; exact (decide_eq_true (by omega)).symm
        rw [e_]
        exact hK _ (SameMem.trans (SameMem.trans (SameMem.refl _) sm_3) sm_8)
      refine wk_pure (opg 14 (.binOp .neq 3 (.tmp 12) (.tmp 13) 3) 4 6 true) (by kernel_rfl) (.bool false) (fun _ => y_neq (k := .i64) (a := own) (b := peer) (by kernel_rfl) (by kernel_rfl) (decide_eq_false h_11)) ?_
      refine wpt 15 (.tmp 11) (.tmp 14) (.const (.bool false)) 4 (.bool false) ?_
      refine wpa 4 (.tmp 15) 4 (.bool false) ?_
      refine wk_nil ?_
      refine thn_n ?_
      refine g_ret (by kernel_rfl) ?_
      refine ends1_r (v := .bool false) rfl (by kernel_rfl) ?_
      have e_ : false = t := by rw [← ht]; exact (decide_eq_false (by omega)).symm
      rw [e_]
      exact hK _ (SameMem.trans (SameMem.trans (SameMem.refl _) sm_3) sm_8)
    refine wk_call (opg 9 (.call ⟨.value (.func 31), #[.tmp 8], #[3]⟩) 4 2 true) (by kernel_rfl) 31 #[.int .i64 peer] (x_call Try.func31 (by kernel_rfl) (c := (Try.f31.body).getD .skip) (by kernel_rfl) (by kernel_rfl) (by kernel_rfl)) (id_c (decide_eq_false h_6) (fun w_12 sm_13 => ⟨?_, ?_⟩))
    · exact trivial
    have gx_14 := GX.same [] γ sm_13
    have hsz_15 : w_12.heap.size = w_2.heap.size := by rw [sm_13.heap]
    refine wpt 10 (.tmp 7) (.tmp 9) (.const (.bool false)) 4 (.bool false) ?_
    refine wpm 11 (.tmp 10) 4 (.bool false) ?_
    refine wks 12 ?_
    refine wks 13 ?_
    refine wks 14 ?_
    refine wpk 15 (.tmp 11) (.tmp 14) (.const (.bool false)) 4 (.bool false) ?_
    refine wpa 4 (.tmp 15) 4 (.bool false) ?_
    refine wk_nil ?_
    refine thn_n ?_
    refine g_ret (by kernel_rfl) ?_
    refine ends1_r (v := .bool false) rfl (by kernel_rfl) ?_
    have e_ : false = t := by rw [← ht]; exact (decide_eq_false (by omega)).symm
    rw [e_]
    exact hK _ (SameMem.trans (SameMem.trans (SameMem.refl _) sm_3) sm_13)
  refine wkc 6 31 #[.tmp 5] #[3] 4 #[.int .i64 own] Try.func31 (id_c (decide_eq_false h_1) (fun w_16 sm_17 => ⟨?_, ?_⟩))
  · exact trivial
  have gx_18 := GX.same [] γ sm_17
  have hsz_19 : w_16.heap.size = w.heap.size := by rw [sm_17.heap]
  refine wpm 7 (.tmp 6) 4 (.bool false) ?_
  refine wks 8 ?_
  refine wks 9 ?_
  refine wpk 10 (.tmp 7) (.tmp 9) (.const (.bool false)) 4 (.bool false) ?_
  refine wpm 11 (.tmp 10) 4 (.bool false) ?_
  refine wks 12 ?_
  refine wks 13 ?_
  refine wks 14 ?_
  refine wpk 15 (.tmp 11) (.tmp 14) (.const (.bool false)) 4 (.bool false) ?_
  refine wpa 4 (.tmp 15) 4 (.bool false) ?_
  refine wk_nil ?_
  refine thn_n ?_
  refine g_ret (by kernel_rfl) ?_
  refine ends1_r (v := .bool false) rfl (by kernel_rfl) ?_
  have e_ : false = t := by rw [← ht]; exact (decide_eq_false (by omega)).symm
  rw [e_]
  exact hK _ (SameMem.trans (SameMem.refl _) sm_17)

noncomputable def lX1N2_0 : Code := (Try.f21.body).getD .skip
noncomputable def lX1N2_1 : Code := s1 lX1N2_0
noncomputable def lX1N2_2 : Code := s2 lX1N2_0
noncomputable def lX1R2_0 : Array Oper := rops lX1N2_1
noncomputable def lX1N2_3 : Code := s1 lX1N2_2
noncomputable def lX1N2_4 : Code := s2 lX1N2_2
noncomputable def lX1R2_1 : Array Oper := rops lX1N2_3
theorem waitingR_c {s : RfR} {k p : Nat} {w : World} {γ : Nat → Nat} (h : RefAt γ w k p s) (hk : 10 ≤ k ∧ k ≤ 900)  {K : Value → World → Prop} (hK : ∀ w', SameMem w w' → K (.int .i64 ((s.out.length : Nat) : Int)) w') : CallsV Try.prog 21 #[.pointer (some ⟨p, 0, none⟩)] w K := by
  refine callsV_of (c := lX1N2_0) Try.func21 (by kernel_rfl) (n := 8) (by kernel_rfl) ?_
  have hp : Bk γ w p k (.cells #[.int .i64 s.own, .int .i64 s.peer, .int .u32 s.view, .slice s.oa s.out.length s.oc, .int .u32 s.last, .int .u32 0, .int .u32 s.told, .slice s.ha s.held.length s.hc, .int .u32 s.come, .int .i64 s.now] 46 (0, 0)) := h.hp
  have h_b1 := h.b1
  have h_b2 := h.b2
  have h_b3 := h.b3
  have h_b4 := h.b4
  have h_b5 := h.b5
  have h_l1 := h.l1
  have h_l2 := h.l2
  have h_l3 := h.l3
  have h_hn := h.hn
  have h_pl := hp.lt
  refine g_seq (x := lX1N2_1) (y := lX1N2_2) (by kernel_rfl) ?_
  refine g_region (ops := lX1R2_0) (id := 0) (by kernel_rfl) [pu 0] (by kernel_rfl) (by kernel_rfl) ?_
  refine wpa 2 (.const (.int .i64 0)) 3 (.int .i64 0) ?_
  refine wk_nil ?_
  refine thn_n ?_
  refine g_seq (x := lX1N2_3) (y := lX1N2_4) (by kernel_rfl) ?_
  refine g_region (ops := lX1R2_1) (id := 1) (by kernel_rfl) [pu 0, pu 1, pu 2, lo 3, pu 4, pu 5] (by kernel_rfl) (by kernel_rfl) ?_
  refine wpm 3 (.tmp 0) 42 (.pointer (some ⟨p, 0, none⟩)) ?_
  refine wpn 4 (.tmp 3) ⟨p, 0, none⟩ ?_
  refine wpf 5 46 (.tmp 4) 3 p 0 3 3 ?_
  refine wpl 6 43 (.tmp 5) (.slice s.oa s.out.length s.oc) p 3 hp.1 ?_
  refine wk_pure (opd 7 (.call ⟨.builtin .len, #[.tmp 6], #[43]⟩) 3) rfl (.int .i64 ((s.out.length : Nat) : Int)) (fun _ => x_len (a := s.oa) (n := s.out.length) (c := s.oc) (by kernel_rfl) (by kernel_rfl)) ?_
  refine wpa 2 (.tmp 7) 3 (.int .i64 ((s.out.length : Nat) : Int)) ?_
  refine wk_nil ?_
  refine thn_n ?_
  refine g_ret (by kernel_rfl) ?_
  refine ends1_r (v := .int .i64 ((s.out.length : Nat) : Int)) rfl (by kernel_rfl) ?_
  exact hK _ (SameMem.refl _)

noncomputable def lX1N3_0 : Code := (Try.f22.body).getD .skip
noncomputable def lX1N3_1 : Code := s1 lX1N3_0
noncomputable def lX1N3_2 : Code := s2 lX1N3_0
noncomputable def lX1R3_0 : Array Oper := rops lX1N3_1
noncomputable def lX1N3_3 : Code := s1 lX1N3_2
noncomputable def lX1N3_4 : Code := s2 lX1N3_2
noncomputable def lX1R3_1 : Array Oper := rops lX1N3_3
theorem aheadR_c {s : RfR} {k p : Nat} {w : World} {γ : Nat → Nat} (h : RefAt γ w k p s) (hk : 10 ≤ k ∧ k ≤ 900)  {K : Value → World → Prop} (hK : ∀ w', SameMem w w' → K (.int .i64 ((s.held.length : Nat) : Int)) w') : CallsV Try.prog 22 #[.pointer (some ⟨p, 0, none⟩)] w K := by
  refine callsV_of (c := lX1N3_0) Try.func22 (by kernel_rfl) (n := 8) (by kernel_rfl) ?_
  have hp : Bk γ w p k (.cells #[.int .i64 s.own, .int .i64 s.peer, .int .u32 s.view, .slice s.oa s.out.length s.oc, .int .u32 s.last, .int .u32 0, .int .u32 s.told, .slice s.ha s.held.length s.hc, .int .u32 s.come, .int .i64 s.now] 46 (0, 0)) := h.hp
  have h_b1 := h.b1
  have h_b2 := h.b2
  have h_b3 := h.b3
  have h_b4 := h.b4
  have h_b5 := h.b5
  have h_l1 := h.l1
  have h_l2 := h.l2
  have h_l3 := h.l3
  have h_hn := h.hn
  have h_pl := hp.lt
  refine g_seq (x := lX1N3_1) (y := lX1N3_2) (by kernel_rfl) ?_
  refine g_region (ops := lX1R3_0) (id := 0) (by kernel_rfl) [pu 0] (by kernel_rfl) (by kernel_rfl) ?_
  refine wpa 2 (.const (.int .i64 0)) 3 (.int .i64 0) ?_
  refine wk_nil ?_
  refine thn_n ?_
  refine g_seq (x := lX1N3_3) (y := lX1N3_4) (by kernel_rfl) ?_
  refine g_region (ops := lX1R3_1) (id := 1) (by kernel_rfl) [pu 0, pu 1, pu 2, lo 3, pu 4, pu 5] (by kernel_rfl) (by kernel_rfl) ?_
  refine wpm 3 (.tmp 0) 42 (.pointer (some ⟨p, 0, none⟩)) ?_
  refine wpn 4 (.tmp 3) ⟨p, 0, none⟩ ?_
  refine wpf 5 46 (.tmp 4) 7 p 0 7 7 ?_
  refine wpl 6 44 (.tmp 5) (.slice s.ha s.held.length s.hc) p 7 hp.1 ?_
  refine wk_pure (opd 7 (.call ⟨.builtin .len, #[.tmp 6], #[44]⟩) 3) rfl (.int .i64 ((s.held.length : Nat) : Int)) (fun _ => x_len (a := s.ha) (n := s.held.length) (c := s.hc) (by kernel_rfl) (by kernel_rfl)) ?_
  refine wpa 2 (.tmp 7) 3 (.int .i64 ((s.held.length : Nat) : Int)) ?_
  refine wk_nil ?_
  refine thn_n ?_
  refine g_ret (by kernel_rfl) ?_
  refine ends1_r (v := .int .i64 ((s.held.length : Nat) : Int)) rfl (by kernel_rfl) ?_
  exact hK _ (SameMem.refl _)

noncomputable def lX1N4_0 : Code := (Try.f23.body).getD .skip
noncomputable def lX1N4_1 : Code := s1 lX1N4_0
noncomputable def lX1N4_2 : Code := s2 lX1N4_0
noncomputable def lX1R4_0 : Array Oper := rops lX1N4_1
noncomputable def lX1N4_3 : Code := s1 lX1N4_2
noncomputable def lX1N4_4 : Code := s2 lX1N4_2
noncomputable def lX1R4_1 : Array Oper := rops lX1N4_3
theorem nextR_c {s : RfR} {k p : Nat} {w : World} {γ : Nat → Nat} (h : RefAt γ w k p s) (hk : 10 ≤ k ∧ k ≤ 900)  {K : Value → World → Prop} (hK : ∀ w', SameMem w w' → K (.int .u32 (s.come + 1)) w') : CallsV Try.prog 23 #[.pointer (some ⟨p, 0, none⟩)] w K := by
  refine callsV_of (c := lX1N4_0) Try.func23 (by kernel_rfl) (n := 8) (by kernel_rfl) ?_
  have hp : Bk γ w p k (.cells #[.int .i64 s.own, .int .i64 s.peer, .int .u32 s.view, .slice s.oa s.out.length s.oc, .int .u32 s.last, .int .u32 0, .int .u32 s.told, .slice s.ha s.held.length s.hc, .int .u32 s.come, .int .i64 s.now] 46 (0, 0)) := h.hp
  have h_b1 := h.b1
  have h_b2 := h.b2
  have h_b3 := h.b3
  have h_b4 := h.b4
  have h_b5 := h.b5
  have h_l1 := h.l1
  have h_l2 := h.l2
  have h_l3 := h.l3
  have h_hn := h.hn
  have h_pl := hp.lt
  refine g_seq (x := lX1N4_1) (y := lX1N4_2) (by kernel_rfl) ?_
  refine g_region (ops := lX1R4_0) (id := 0) (by kernel_rfl) [pu 0] (by kernel_rfl) (by kernel_rfl) ?_
  refine wpa 2 (.const (.int .u32 0)) 27 (.int .u32 0) ?_
  refine wk_nil ?_
  refine thn_n ?_
  refine g_seq (x := lX1N4_3) (y := lX1N4_4) (by kernel_rfl) ?_
  refine g_region (ops := lX1R4_1) (id := 1) (by kernel_rfl) [pu 0, pu 1, pu 2, lo 3, pu 4, pu 5] (by kernel_rfl) (by kernel_rfl) ?_
  refine wpm 3 (.tmp 0) 42 (.pointer (some ⟨p, 0, none⟩)) ?_
  refine wpn 4 (.tmp 3) ⟨p, 0, none⟩ ?_
  refine wpf 5 46 (.tmp 4) 8 p 0 8 8 ?_
  refine wpl 6 27 (.tmp 5) (.int .u32 s.come) p 8 hp.1 ?_
  refine wk_pure (opd 7 (.binOp .add 27 (.tmp 6) (.const (.int .u32 1)) 27) 27) rfl (.int .u32 (s.come + 1)) (fun _ => y_add (k := .u32) (a := s.come) (b := 1) (by kernel_rfl) (by kernel_rfl) (u32_to (by omega) rfl)) ?_
  refine wpa 2 (.tmp 7) 27 (.int .u32 (s.come + 1)) ?_
  refine wk_nil ?_
  refine thn_n ?_
  refine g_ret (by kernel_rfl) ?_
  refine ends1_r (v := .int .u32 (s.come + 1)) rfl (by kernel_rfl) ?_
  exact hK _ (SameMem.refl _)

noncomputable def lX1N5_0 : Code := (Try.f34.body).getD .skip
noncomputable def lX1N5_1 : Code := s1 lX1N5_0
noncomputable def lX1N5_2 : Code := s2 lX1N5_0
noncomputable def lX1R5_0 : Array Oper := rops lX1N5_1
noncomputable def lX1N5_3 : Code := s1 lX1N5_2
noncomputable def lX1N5_4 : Code := s2 lX1N5_2
noncomputable def lX1N5_5 : Code := s1 lX1N5_3
noncomputable def lX1N5_6 : Code := s2 lX1N5_3
noncomputable def lX1R5_1 : Array Oper := rops lX1N5_5
noncomputable def lX1N5_7 : Code := s1 lX1N5_6
noncomputable def lX1N5_8 : Code := s1 lX1N5_7
noncomputable def lX1N5_9 : Code := s1 lX1N5_8
noncomputable def lX1N5_10 : Code := s2 lX1N5_8
noncomputable def lX1N5_11 : Code := s1 lX1N5_9
noncomputable def lX1N5_12 : Code := s2 lX1N5_9
noncomputable def lX1R5_2 : Array Oper := rops lX1N5_11
noncomputable def lX1N5_13 : Code := s1 lX1N5_12
noncomputable def lX1N5_14 : Code := s2 lX1N5_12
noncomputable def lX1N5_15 : Code := s1 lX1N5_10
noncomputable def lX1N5_16 : Code := s2 lX1N5_10
noncomputable def lX1N5_17 : Code := s1 lX1N5_15
noncomputable def lX1N5_18 : Code := s1 lX1N5_17
noncomputable def lX1N5_19 : Code := s2 lX1N5_17
noncomputable def lX1R5_4 : Array Oper := rops lX1N5_18
noncomputable def lX1N5_20 : Code := s1 lX1N5_19
noncomputable def lX1N5_21 : Code := s2 lX1N5_19
noncomputable def lX1N5_22 : Code := s1 lX1N5_20
noncomputable def lX1N5_23 : Code := s2 lX1N5_20
noncomputable def lX1R5_5 : Array Oper := rops lX1N5_22
noncomputable def lX1R5_3 : Array Oper := rops lX1N5_16
noncomputable def lX1N5_24 : Code := s1 lX1N5_4
noncomputable def lX1N5_25 : Code := s2 lX1N5_4
noncomputable def lX1R5_6 : Array Oper := rops lX1N5_24
theorem has_c {s : RfR} {k p : Nat} {w : World} {γ : Nat → Nat} (h : RefAt γ w k p s) (hk : 10 ≤ k ∧ k ≤ 900) {seq : Int} {K : Value → World → Prop} (h1 : ∀ k, k < s.held.length → (s.held.getD k M0).seq = seq → (∀ j, j < k → (s.held.getD j M0).seq ≠ seq) → ∀ w' γ', GX [] w γ w' γ' → K (.int .i64 ((k : Nat) : Int)) w')
    (h2 : (∀ j, j < s.held.length → (s.held.getD j M0).seq ≠ seq) → ∀ w' γ', GX [] w γ w' γ' → K (.int .i64 (-1)) w') : CallsV Try.prog 34 #[.pointer (some ⟨p, 0, none⟩), .int .u32 seq] w K := by
  refine callsV_of (c := lX1N5_0) Try.func34 (by kernel_rfl) (n := 26) (by kernel_rfl) ?_
  have hp : Bk γ w p k (.cells #[.int .i64 s.own, .int .i64 s.peer, .int .u32 s.view, .slice s.oa s.out.length s.oc, .int .u32 s.last, .int .u32 0, .int .u32 s.told, .slice s.ha s.held.length s.hc, .int .u32 s.come, .int .i64 s.now] 46 (0, 0)) := h.hp
  have h_b1 := h.b1
  have h_b2 := h.b2
  have h_b3 := h.b3
  have h_b4 := h.b4
  have h_b5 := h.b5
  have h_l1 := h.l1
  have h_l2 := h.l2
  have h_l3 := h.l3
  have h_hn := h.hn
  have h_pl := hp.lt
  refine g_seq (x := lX1N5_1) (y := lX1N5_2) (by kernel_rfl) ?_
  refine g_region (ops := lX1R5_0) (id := 0) (by kernel_rfl) [pu 0] (by kernel_rfl) (by kernel_rfl) ?_
  refine wpa 4 (.const (.int .i64 0)) 3 (.int .i64 0) ?_
  refine wk_nil ?_
  refine thn_n ?_
  refine g_seq (x := lX1N5_3) (y := lX1N5_4) (by kernel_rfl) ?_
  refine g_seq (x := lX1N5_5) (y := lX1N5_6) (by kernel_rfl) ?_
  refine g_region (ops := lX1R5_1) (id := 1) (by kernel_rfl) [pu 0] (by kernel_rfl) (by kernel_rfl) ?_
  refine wpa 5 (.const (.int .i64 0)) 3 (.int .i64 0) ?_
  refine wk_nil ?_
  refine thn_n ?_
  refine g_block (x := lX1N5_7) (id := 0) (by kernel_rfl) ?_
  refine g_loop (x := lX1N5_8) (by kernel_rfl) (fun m_ ρ_ w_ => ∃ (i : Nat) (γ_ : Nat → Nat), m_ = s.held.length - i ∧ (i ≤ s.held.length) ∧ (∀ j, j < i → (s.held.getD j M0).seq ≠ seq) ∧ ρ_ 0 = .pointer (some ⟨p, 0, none⟩) ∧ ρ_ 1 = .int .u32 seq ∧ ρ_ 5 = .int .i64 ((i : Nat) : Int) ∧ Bk γ_ w_ p k (.cells #[.int .i64 s.own, .int .i64 s.peer, .int .u32 s.view, .slice s.oa s.out.length s.oc, .int .u32 s.last, .int .u32 0, .int .u32 s.told, .slice s.ha s.held.length s.hc, .int .u32 s.come, .int .i64 s.now] 46 (0, 0)) ∧ QuG γ_ w_ (k + 1) 71 8 s.oa s.og s.oo s.oc encP s.out ∧ OwNG γ_ w_ (k + 2) 50 7 s.ha s.hg s.hc encM s.held s.hrest ∧ AllOk γ_ w_ (s.out.map (·.m)) ∧ AllOk γ_ w_ s.held ∧ GX [] w γ w_ γ_) (s.held.length - 0) ?_ ?_
  · exact ⟨0, _, rfl, by omega, by intro j hj; omega, (by kernel_rfl), (by kernel_rfl), (by kernel_rfl), hp, h.ho, h.hh, h.ao, h.ah, (GX.refl [] _ _)⟩
  intro m_1 ρ_2 w_3 hI
  obtain ⟨i, γ_5, hm_m_1, hi, hne, f_6, f_7, f_8, hr_9, hr_10, hr_11, hr_12, hr_13, hE_4⟩ := hI
  have hs_w_3 := hE_4.size
  refine g_seq (x := lX1N5_9) (y := lX1N5_10) (by kernel_rfl) ?_
  refine g_seq (x := lX1N5_11) (y := lX1N5_12) (by kernel_rfl) ?_
  refine g_region (ops := lX1R5_2) (id := 2) (by kernel_rfl) [pu 0, pu 1, pu 2, pu 3, lo 4, pu 5, pu 6] (by kernel_rfl) (by kernel_rfl) ?_
  refine wpm 6 (.tmp 5) 3 (.int .i64 ((i : Nat) : Int)) ?_ (Eq.trans (by kernel_rfl) f_8)
  refine wpm 7 (.tmp 0) 42 (.pointer (some ⟨p, 0, none⟩)) ?_ (Eq.trans (by kernel_rfl) f_6)
  refine wpn 8 (.tmp 7) ⟨p, 0, none⟩ ?_
  refine wpf 9 46 (.tmp 8) 7 p 0 7 7 ?_
  refine wpl 10 44 (.tmp 9) (.slice s.ha s.held.length s.hc) p 7 hr_9.1 ?_
  refine wk_pure (opd 11 (.call ⟨.builtin .len, #[.tmp 10], #[44]⟩) 3) rfl (.int .i64 ((s.held.length : Nat) : Int)) (fun _ => x_len (a := s.ha) (n := s.held.length) (c := s.hc) (by kernel_rfl) (by kernel_rfl)) ?_
  by_cases h_14 : (((i : Nat) : Int) : Int) < ((s.held.length : Nat) : Int)
  · refine wk_pure (opd 12 (.binOp .lss 3 (.tmp 6) (.tmp 11) 3) 4) rfl (.bool true) (fun _ => y_lss (k := .i64) (a := ((i : Nat) : Int)) (b := ((s.held.length : Nat) : Int)) (by kernel_rfl) (by kernel_rfl) (decide_eq_true h_14)) ?_
    refine wk_nil ?_
    refine thn_n ?_
    refine g_cond_t (o := .tmp 12) (x := lX1N5_13) (y := lX1N5_14) (by kernel_rfl) (by kernel_rfl) ?_
    refine g_skip (by kernel_rfl) ?_
    refine thn_n ?_
    refine g_seq (x := lX1N5_15) (y := lX1N5_16) (by kernel_rfl) ?_
    refine g_block (x := lX1N5_17) (id := 1) (by kernel_rfl) ?_
    refine g_seq (x := lX1N5_18) (y := lX1N5_19) (by kernel_rfl) ?_
    refine g_region (ops := lX1R5_4) (id := 4) (by kernel_rfl) [pu 0, pu 1, pu 2, lo 3, pu 4, pu 5, pu 6, lo 7, pu 8, pu 9] (by kernel_rfl) (by kernel_rfl) ?_
    refine wpm 15 (.tmp 0) 42 (.pointer (some ⟨p, 0, none⟩)) ?_ (Eq.trans (by kernel_rfl) f_6)
    refine wpn 16 (.tmp 15) ⟨p, 0, none⟩ ?_
    refine wpf 17 46 (.tmp 16) 7 p 0 7 7 ?_
    refine wpl 18 44 (.tmp 17) (.slice s.ha s.held.length s.hc) p 7 hr_9.1 ?_
    refine wpm 19 (.tmp 5) 3 (.int .i64 ((i : Nat) : Int)) ?_ (Eq.trans (by kernel_rfl) f_8)
    refine wk_pure (opd 20 (.indexAddr 44 (.tmp 18) (.tmp 19)) 0) rfl (.pointer (some ⟨s.hg, 0 + (i * 7 + 0), none⟩)) (fun _ => y_ptr (x_indexN (a := s.ha) (b := s.hg) (off := 0) (n := s.held.length) (c := s.hc) (k := .i64) (i := ((i : Nat) : Int)) (e := 50) (sz := 7) (sz' := 7) (by kernel_rfl) hr_11.1.sl (by kernel_rfl) (by kernel_rfl) rfl (by omega) _) (by omega)) ?_
    refine wk_pure (opd 21 (.fieldAddr 50 (.tmp 20) 4) 0) rfl (.pointer (some ⟨s.hg, 0 + (i * 7 + 4), none⟩)) (fun _ => y_ptr (x_fieldAddr (b := s.hg) (off := (0 + (i * 7 + 0))) (o := 4) (by kernel_rfl) (by kernel_rfl)) (by omega)) ?_
    refine wk_val (opd 22 (.load 27 (.tmp 21)) 27) rfl (.int .u32 ((s.held.getD i M0).seq)) (x_load_c (b := s.hg) (off := (0 + (i * 7 + 4))) (by kernel_rfl) (by kernel_rfl) (SlE.get hr_11.1.sl encM_len M0 i 4 (by omega) rfl)) trivial ?_
    refine wpm 23 (.tmp 1) 27 (.int .u32 seq) ?_ (Eq.trans (by kernel_rfl) f_7)
    by_cases h_15 : (((s.held.getD i M0).seq) : Int) = seq
    · refine wk_pure (opd 24 (.binOp .eql 27 (.tmp 22) (.tmp 23) 27) 4) rfl (.bool true) (fun _ => y_eql (k := .u32) (a := ((s.held.getD i M0).seq)) (b := seq) (by kernel_rfl) (by kernel_rfl) (decide_eq_true h_15)) ?_
      refine wk_nil ?_
      refine thn_n ?_
      refine g_cond_t (o := .tmp 24) (x := lX1N5_20) (y := lX1N5_21) (by kernel_rfl) (by kernel_rfl) ?_
      refine g_seq (x := lX1N5_22) (y := lX1N5_23) (by kernel_rfl) ?_
      refine g_region (ops := lX1R5_5) (id := 5) (by kernel_rfl) [pu 0, pu 1] (by kernel_rfl) (by kernel_rfl) ?_
      refine wpm 25 (.tmp 5) 3 (.int .i64 ((i : Nat) : Int)) ?_ (Eq.trans (by kernel_rfl) f_8)
      refine wpa 4 (.tmp 25) 3 (.int .i64 ((i : Nat) : Int)) ?_
      refine wk_nil ?_
      refine thn_n ?_
      refine g_ret (by kernel_rfl) ?_
      refine blk_r ?_
      refine thn_r ?_
      refine thn_r ?_
      refine blk_r ?_
      refine thn_r ?_
      refine ends1_r (v := .int .i64 ((i : Nat) : Int)) rfl (by kernel_rfl) ?_
      exact h1 i (by omega) h_15 hne _ _ hE_4
    refine wk_pure (opd 24 (.binOp .eql 27 (.tmp 22) (.tmp 23) 27) 4) rfl (.bool false) (fun _ => y_eql (k := .u32) (a := ((s.held.getD i M0).seq)) (b := seq) (by kernel_rfl) (by kernel_rfl) (decide_eq_false h_15)) ?_
    refine wk_nil ?_
    refine thn_n ?_
    refine g_cond_f (o := .tmp 24) (x := lX1N5_20) (y := lX1N5_21) (by kernel_rfl) (by kernel_rfl) ?_
    refine g_skip (by kernel_rfl) ?_
    refine blk_n ?_
    refine thn_n ?_
    refine g_region (ops := lX1R5_3) (id := 3) (by kernel_rfl) [pu 0, pu 1, pu 2] (by kernel_rfl) (by kernel_rfl) ?_
    refine wpm 13 (.tmp 5) 3 (.int .i64 ((i : Nat) : Int)) ?_ (Eq.trans (by kernel_rfl) f_8)
    refine wk_pure (opd 14 (.binOp .add 3 (.tmp 13) (.const (.int .i64 1)) 3) 3) rfl (.int .i64 ((i + 1 : Nat) : Int)) (fun _ => y_add (k := .i64) (a := ((i : Nat) : Int)) (b := 1) (by kernel_rfl) (by kernel_rfl) (i64_to (by omega) (by omega))) ?_
    refine wpa 5 (.tmp 14) 3 (.int .i64 ((i + 1 : Nat) : Int)) ?_
    refine wk_nil ?_
    refine thn_n ?_
    exact ⟨_, (by omega), ⟨(i + 1), _, rfl, by omega, by intro j hj; rcases Nat.lt_succ_iff_lt_or_eq.1 hj with h_ | rfl; {exact hne j h_}; {exact h_15}, (Eq.trans (by kernel_rfl) f_6), (Eq.trans (by kernel_rfl) f_7), (by kernel_rfl), hr_9, hr_10, hr_11, hr_12, hr_13, hE_4⟩⟩
  refine wk_pure (opd 12 (.binOp .lss 3 (.tmp 6) (.tmp 11) 3) 4) rfl (.bool false) (fun _ => y_lss (k := .i64) (a := ((i : Nat) : Int)) (b := ((s.held.length : Nat) : Int)) (by kernel_rfl) (by kernel_rfl) (decide_eq_false h_14)) ?_
  refine wk_nil ?_
  refine thn_n ?_
  refine g_cond_f (o := .tmp 12) (x := lX1N5_13) (y := lX1N5_14) (by kernel_rfl) (by kernel_rfl) ?_
  refine g_exit (id := 0) (by kernel_rfl) ?_
  refine thn_e ?_
  refine thn_e ?_
  refine blk_hit ?_
  refine thn_n ?_
  refine g_seq (x := lX1N5_24) (y := lX1N5_25) (by kernel_rfl) ?_
  refine g_region (ops := lX1R5_6) (id := 6) (by kernel_rfl) [pu 0] (by kernel_rfl) (by kernel_rfl) ?_
  refine wk_pure (opd 4 (.assign (.const (.int .i64 (-1)))) 3) rfl (.int .i64 (-1)) (fun _ => y_assign (by kernel_rfl)) ?_
  refine wk_nil ?_
  refine thn_n ?_
  refine g_ret (by kernel_rfl) ?_
  refine ends1_r (v := .int .i64 (-1)) rfl (by kernel_rfl) ?_
  exact h2 (fun j hj => hne j (by omega)) _ _ hE_4

noncomputable def lX1N6_0 : Code := (Try.f35.body).getD .skip
noncomputable def lX1N6_1 : Code := s1 lX1N6_0
noncomputable def lX1N6_2 : Code := s2 lX1N6_0
noncomputable def lX1R6_0 : Array Oper := rops lX1N6_1
noncomputable def lX1N6_3 : Code := s1 lX1N6_2
noncomputable def lX1N6_4 : Code := s2 lX1N6_2
noncomputable def lX1R6_1 : Array Oper := rops lX1N6_3
theorem ack_c {s : RfR} {k p : Nat} {w : World} {γ : Nat → Nat} (h : RefAt γ w k p s) (hk : 10 ≤ k ∧ k ≤ 900)  {K : Value → World → Prop} (hK : ∀ w' γ' v (r : MsgR), GX [] w γ w' γ' → MsgsAt γ' w' v [r] → r.abs = ⟨1, s.own, s.peer, s.view, 0, [s.come], []⟩ → K v w') : CallsV Try.prog 35 #[.pointer (some ⟨p, 0, none⟩)] w K := by
  refine callsV_of (c := lX1N6_0) Try.func35 (by kernel_rfl) (n := 23) (by kernel_rfl) ?_
  have hp : Bk γ w p k (.cells #[.int .i64 s.own, .int .i64 s.peer, .int .u32 s.view, .slice s.oa s.out.length s.oc, .int .u32 s.last, .int .u32 0, .int .u32 s.told, .slice s.ha s.held.length s.hc, .int .u32 s.come, .int .i64 s.now] 46 (0, 0)) := h.hp
  have h_b1 := h.b1
  have h_b2 := h.b2
  have h_b3 := h.b3
  have h_b4 := h.b4
  have h_b5 := h.b5
  have h_l1 := h.l1
  have h_l2 := h.l2
  have h_l3 := h.l3
  have h_hn := h.hn
  have h_pl := hp.lt
  refine g_seq (x := lX1N6_1) (y := lX1N6_2) (by kernel_rfl) ?_
  refine g_region (ops := lX1R6_0) (id := 0) (by kernel_rfl) [pu 0] (by kernel_rfl) (by kernel_rfl) ?_
  refine wpa 2 (.const (.slice none 0 0)) 44 (.slice none 0 0) ?_
  refine wk_nil ?_
  refine thn_n ?_
  refine g_seq (x := lX1N6_3) (y := lX1N6_4) (by kernel_rfl) ?_
  refine g_draw (ops := lX1R6_1) (id := 1) (by kernel_rfl) (fun w w' => Grown w w') [pu 0, pu 1, pu 2, pu 4, pu 5, pu 6, pu 8, pu 9, pu 10, pu 12, pu 13, pu 14, (3, .stab), (7, .stab), (11, .stab), (15, .stab), pu 16, lo 17, pu 18, lo 19, pu 20] (by kernel_rfl) (by kernel_rfl) (fun _ => Grown.refl _) (fun w_1 sm_2 => ?_)
  have gx_3 := GX.same [] γ sm_2
  have hsz_4 : w_1.heap.size = w.heap.size := by rw [sm_2.heap]
  refine wpm 3 (.tmp 0) 42 (.pointer (some ⟨p, 0, none⟩)) ?_
  refine wpn 4 (.tmp 3) ⟨p, 0, none⟩ ?_
  refine wpf 5 46 (.tmp 4) 0 p 0 0 0 ?_
  refine wpm 7 (.tmp 0) 42 (.pointer (some ⟨p, 0, none⟩)) ?_
  refine wpn 8 (.tmp 7) ⟨p, 0, none⟩ ?_
  refine wpf 9 46 (.tmp 8) 1 p 0 1 1 ?_
  refine wpm 11 (.tmp 0) 42 (.pointer (some ⟨p, 0, none⟩)) ?_
  refine wpn 12 (.tmp 11) ⟨p, 0, none⟩ ?_
  refine wpf 13 46 (.tmp 12) 2 p 0 2 2 ?_
  refine wpm 15 (.tmp 0) 42 (.pointer (some ⟨p, 0, none⟩)) ?_
  refine wpn 16 (.tmp 15) ⟨p, 0, none⟩ ?_
  refine wpf 17 46 (.tmp 16) 8 p 0 8 8 ?_
  refine wk_stab (opd 6 (.load 3 (.tmp 5)) 3) rfl (.int .i64 s.own) (fun w'_ g_ => x_load (b := p) (off := 0) (by kernel_rfl) (by kernel_rfl) (Grown.keep g_ (Bk.keep hp gx_3 ni0).1) (by kernel_rfl)) ?_
  refine wk_stab (opd 10 (.load 3 (.tmp 9)) 3) rfl (.int .i64 s.peer) (fun w'_ g_ => x_load (b := p) (off := 1) (by kernel_rfl) (by kernel_rfl) (Grown.keep g_ (Bk.keep hp gx_3 ni0).1) (by kernel_rfl)) ?_
  refine wk_stab (opd 14 (.load 27 (.tmp 13)) 27) rfl (.int .u32 s.view) (fun w'_ g_ => x_load (b := p) (off := 2) (by kernel_rfl) (by kernel_rfl) (Grown.keep g_ (Bk.keep hp gx_3 ni0).1) (by kernel_rfl)) ?_
  refine wk_stab (opd 18 (.load 27 (.tmp 17)) 27) rfl (.int .u32 s.come) (fun w'_ g_ => x_load (b := p) (off := 8) (by kernel_rfl) (by kernel_rfl) (Grown.keep g_ (Bk.keep hp gx_3 ni0).1) (by kernel_rfl)) ?_
  refine wk_pure (opd 19 (.convert 27 2 (.tmp 18)) 2) rfl (.int .i64 s.come) (fun _ => y_conv (q := .u32) (a := s.come) (by kernel_rfl) (by kernel_rfl) (by kernel_rfl) (i64_id (by omega))) ?_
  refine wk_buildSlice (e := 2) (cs := #[.int .i64 s.come]) (opd 20 (.buildSlice 29 1 #[(0, .tmp 19)]) 29) rfl (by kernel_rfl) (fun w_5 b_6 eq_7 e_8 sz_9 hb_10 => ⟨?_, ?_⟩)
  · exact (Grown.trans (Grown.refl _) e_8.grown)
  obtain ⟨γ_11, hg_12, hn_13⟩ := cls_new γ w_1.heap.size 0
  have gx_14 := GX.ext0 [] e_8 hg_12
  have hk_15 : Bk γ_11 w_5 b_6 0 (.cells #[.int .i64 s.come] 2 (0, 0)) := ⟨hb_10, hn_13 _ (by omega)⟩
  refine wk_pure (opd 21 (.build 50 #[(0, .const (.int .i64 1)), (1, .tmp 6), (2, .tmp 10), (3, .tmp 14), (5, .tmp 20)]) 50) rfl (.agg #[.int .i64 1, .int .i64 s.own, .int .i64 s.peer, .int .u32 s.view, .int .u32 0, .slice (some ⟨b_6, 0, none⟩) 1 1, .slice none 0 0]) (fun _ => x_build (by kernel_rfl)) ?_
  refine wk_buildSlice (e := 50) (cs := #[.int .i64 1, .int .i64 s.own, .int .i64 s.peer, .int .u32 s.view, .int .u32 0, .slice (some ⟨b_6, 0, none⟩) 1 1, .slice none 0 0]) (opd 22 (.buildSlice 44 1 #[(0, .tmp 21)]) 44) rfl (by kernel_rfl) (fun w_16 b_17 eq_18 e_19 sz_20 hb_21 => ⟨?_, ?_⟩)
  · exact (Grown.trans (Grown.trans (Grown.refl _) e_8.grown) e_19.grown)
  obtain ⟨γ_22, hg_23, hn_24⟩ := cls_new γ_11 w_5.heap.size 0
  have gx_25 := GX.ext0 [] e_19 hg_23
  have hk_26 : Bk γ_22 w_16 b_17 0 (.cells #[.int .i64 1, .int .i64 s.own, .int .i64 s.peer, .int .u32 s.view, .int .u32 0, .slice (some ⟨b_6, 0, none⟩) 1 1, .slice none 0 0] 50 (0, 0)) := ⟨hb_21, hn_24 _ (by omega)⟩
  refine wpa 2 (.tmp 22) 44 (.slice (some ⟨b_17, 0, none⟩) 1 1) ?_
  refine wk_nil ?_
  refine thn_n ?_
  refine g_ret (by kernel_rfl) ?_
  refine ends1_r (v := .slice (some ⟨b_17, 0, none⟩) 1 1) rfl (by kernel_rfl) ?_
  have hb_27 := (Bk.keep hk_15 gx_25 ni0)
  have hN_ : SlG γ_22 w_16 0 1 (some ⟨b_6, 0, none⟩) b_6 0 encI [s.come] := ⟨SlE.of_cells hb_27.1 encI_len (by kernel_rfl), .inr ⟨Bk.lt hb_27, hb_27.2⟩⟩
  have hM_ : MOk γ_22 w_16 (⟨1, s.own, s.peer, s.view, 0, (some ⟨b_6, 0, none⟩), b_6, 0, 1, [s.come], none, 0, 0, 0, []⟩ : MsgR) := ⟨hN_, SlG.nil _ _ _ _ _ _ _ _, h_b1, by simp, by intro i_; match i_ with | 0 => (show -9223372036854775808 ≤ s.come ∧ s.come ≤ 9223372036854775807; omega) | k_ + 1 => (show (-9223372036854775808 : Int) ≤ 0 ∧ (0 : Int) ≤ 9223372036854775807; omega), by simp, by simp⟩
  exact hK _ _ _ (⟨1, s.own, s.peer, s.view, 0, (some ⟨b_6, 0, none⟩), b_6, 0, 1, [s.come], none, 0, 0, 0, []⟩ : MsgR) (GX.then0 (GX.then0 (GX.then_same (GX.refl [] _ _) sm_2) e_8 hg_12) e_19 hg_23) ⟨_, b_17, 0, _, rfl, ⟨SlE.of_cells hk_26.1 encM_len (by kernel_rfl), .inr ⟨Bk.lt hk_26, hk_26.2⟩⟩, (fun x_ hx_ => by rw [List.mem_singleton.1 hx_]; exact hM_)⟩ rfl

noncomputable def lX1N7_0 : Code := (Try.f16.body).getD .skip
noncomputable def lX1N7_1 : Code := s1 lX1N7_0
noncomputable def lX1N7_2 : Code := s2 lX1N7_0
noncomputable def lX1R7_0 : Array Oper := rops lX1N7_1
noncomputable def lX1N7_3 : Code := s1 lX1N7_2
noncomputable def lX1N7_4 : Code := s2 lX1N7_2
noncomputable def lX1R7_1 : Array Oper := rops lX1N7_3
noncomputable def lX1N7_5 : Code := s1 lX1N7_4
noncomputable def lX1N7_6 : Code := s2 lX1N7_4
noncomputable def lX1N7_7 : Code := s1 lX1N7_5
noncomputable def lX1N7_8 : Code := s2 lX1N7_5
noncomputable def lX1R7_2 : Array Oper := rops lX1N7_7
noncomputable def lX1N7_9 : Code := s1 lX1N7_8
noncomputable def lX1N7_10 : Code := s2 lX1N7_8
noncomputable def lX1N7_11 : Code := s1 lX1N7_9
noncomputable def lX1N7_12 : Code := s2 lX1N7_9
noncomputable def lX1R7_3 : Array Oper := rops lX1N7_11
noncomputable def lX1N7_13 : Code := s1 lX1N7_6
noncomputable def lX1N7_14 : Code := s2 lX1N7_6
noncomputable def lX1N7_15 : Code := s1 lX1N7_13
noncomputable def lX1N7_16 : Code := s2 lX1N7_13
noncomputable def lX1R7_4 : Array Oper := rops lX1N7_15
noncomputable def lX1N7_17 : Code := s1 lX1N7_16
noncomputable def lX1N7_18 : Code := s2 lX1N7_16
noncomputable def lX1N7_19 : Code := s1 lX1N7_17
noncomputable def lX1N7_20 : Code := s2 lX1N7_17
noncomputable def lX1R7_5 : Array Oper := rops lX1N7_19
noncomputable def lX1N7_21 : Code := s1 lX1N7_14
noncomputable def lX1N7_22 : Code := s2 lX1N7_14
noncomputable def lX1R7_6 : Array Oper := rops lX1N7_21
noncomputable def lX1N7_23 : Code := s1 lX1N7_22
noncomputable def lX1N7_24 : Code := s2 lX1N7_22
noncomputable def lX1R7_7 : Array Oper := rops lX1N7_23
noncomputable def lX1N7_25 : Code := s1 lX1N7_24
noncomputable def lX1N7_26 : Code := s2 lX1N7_24
noncomputable def lX1R7_8 : Array Oper := rops lX1N7_25
noncomputable def lX1N7_27 : Code := s1 lX1N7_26
noncomputable def lX1N7_28 : Code := s2 lX1N7_26
noncomputable def lX1R7_9 : Array Oper := rops lX1N7_27
noncomputable def lX1N7_29 : Code := s1 lX1N7_28
noncomputable def lX1N7_30 : Code := s2 lX1N7_28
noncomputable def lX1R7_10 : Array Oper := rops lX1N7_29
noncomputable def lX1N7_31 : Code := s1 lX1N7_30
noncomputable def lX1N7_32 : Code := s2 lX1N7_30
noncomputable def lX1R7_11 : Array Oper := rops lX1N7_31
theorem pushR_c {s : RfR} {k p : Nat} {w : World} {γ : Nat → Nat} (h : RefAt γ w k p s) (hk : 10 ≤ k ∧ k ≤ 900) {m : MsgR} (hm : MOk γ w m) (hlast : s.last < 4294967295) {K : Value → World → Prop} (h1 : ¬ (1 ≤ m.kind ∧ m.kind ≤ 20 ∧ 0 ≤ s.own ∧ s.own < 16 ∧ 0 ≤ s.peer ∧ s.peer < 16 ∧ m.N.length ≤ 500 ∧ m.W.length ≤ 500) ∨ m.kind = 1 → ∀ w' γ', GX [] w γ w' γ' → K (.int .i64 1) w')
    (h2 : (1 ≤ m.kind ∧ m.kind ≤ 20 ∧ 0 ≤ s.own ∧ s.own < 16 ∧ 0 ≤ s.peer ∧ s.peer < 16 ∧ m.N.length ≤ 500 ∧ m.W.length ≤ 500) ∧ m.kind ≠ 1 → 1024 ≤ s.out.length → ∀ w' γ', GX [] w γ w' γ' → K (.int .i64 6) w')
    (h3 : (1 ≤ m.kind ∧ m.kind ≤ 20 ∧ 0 ≤ s.own ∧ s.own < 16 ∧ 0 ≤ s.peer ∧ s.peer < 16 ∧ m.N.length ≤ 500 ∧ m.W.length ≤ 500) → m.kind ≠ 1 → s.out.length < 1024 → ∀ w' γ' (m' : MsgR) {oa og oo oc}, GX [k, k + 1] w γ w' γ' → RefAt γ' w' k p { s with last := s.last + 1, oa := oa, og := og, oo := oo, oc := oc, out := s.out ++ [⟨m', false, 0⟩] } →
      m'.abs = ⟨m.kind, s.own, s.peer, s.view, s.last + 1, m.N, m.W⟩ → K (.int .i64 0) w') : CallsV Try.prog 16 #[.pointer (some ⟨p, 0, none⟩), .agg #[.int .i64 m.kind, .int .i64 m.frm, .int .i64 m.to, .int .u32 m.view, .int .u32 m.seq, .slice m.na m.N.length m.nc, .slice m.wa m.W.length m.wc]] w K := by
  refine callsV_of (c := lX1N7_0) Try.func16 (by kernel_rfl) (n := 67) (by kernel_rfl) ?_
  have hp : Bk γ w p k (.cells #[.int .i64 s.own, .int .i64 s.peer, .int .u32 s.view, .slice s.oa s.out.length s.oc, .int .u32 s.last, .int .u32 0, .int .u32 s.told, .slice s.ha s.held.length s.hc, .int .u32 s.come, .int .i64 s.now] 46 (0, 0)) := h.hp
  have h_b1 := h.b1
  have h_b2 := h.b2
  have h_b3 := h.b3
  have h_b4 := h.b4
  have h_b5 := h.b5
  have h_l1 := h.l1
  have h_l2 := h.l2
  have h_l3 := h.l3
  have h_hn := h.hn
  have h_pl := hp.lt
  refine g_seq (x := lX1N7_1) (y := lX1N7_2) (by kernel_rfl) ?_
  refine g_region (ops := lX1R7_0) (id := 0) (by kernel_rfl) [lo 0, pu 1] (by kernel_rfl) (by kernel_rfl) ?_
  refine wk_box (cs := #[.int .i64 m.kind, .int .i64 m.frm, .int .i64 m.to, .int .u32 m.view, .int .u32 m.seq, .slice m.na m.N.length m.nc, .slice m.wa m.W.length m.wc]) (opd 3 (.box 50 (.tmp 1)) 0) rfl (by kernel_rfl) (fun w_2 b_1 eq_4 e_3 sz_5 hb_6 => ⟨?_, ?_⟩)
  · exact trivial
  obtain ⟨γ_7, hg_8, hn_9⟩ := cls_new γ w.heap.size 11601
  have gx_10 := GX.ext0 [] e_3 hg_8
  have hk_11 : Bk γ_7 w_2 b_1 11601 (.cells #[.int .i64 m.kind, .int .i64 m.frm, .int .i64 m.to, .int .u32 m.view, .int .u32 m.seq, .slice m.na m.N.length m.nc, .slice m.wa m.W.length m.wc] 50 (0, 0)) := ⟨hb_6, hn_9 _ (by omega)⟩
  refine wpa 4 (.const (.int .i64 0)) 24 (.int .i64 0) ?_
  refine wk_nil ?_
  refine thn_n ?_
  refine g_seq (x := lX1N7_3) (y := lX1N7_4) (by kernel_rfl) ?_
  refine g_draw (ops := lX1R7_1) (id := 1) (by kernel_rfl) (fun w w' => ExtW [b_1] w w') [pu 0, pu 1, pu 2, pu 4, pu 5, pu 6, pu 8, pu 9, pu 10, rd 3, pu 12, (7, .stab), (11, .stab), lo 13, pu 14, lo 15, pu 16, lo 17] (by kernel_rfl) (by kernel_rfl) (fun _ => (Ext.refl _ _).toExtW) (fun w_12 sm_13 => ?_)
  have gx_14 := GX.same [] γ_7 sm_13
  have hsz_15 : w_12.heap.size = w_2.heap.size := by rw [sm_13.heap]
  refine wpm 5 (.tmp 0) 42 (.pointer (some ⟨p, 0, none⟩)) ?_
  refine wpn 6 (.tmp 5) ⟨p, 0, none⟩ ?_
  refine wpf 7 46 (.tmp 6) 0 p 0 0 0 ?_
  refine wpm 9 (.tmp 0) 42 (.pointer (some ⟨p, 0, none⟩)) ?_
  refine wpn 10 (.tmp 9) ⟨p, 0, none⟩ ?_
  refine wpf 11 46 (.tmp 10) 1 p 0 1 1 ?_
  refine wpm 13 (.tmp 0) 42 (.pointer (some ⟨p, 0, none⟩)) ?_
  refine wpn 14 (.tmp 13) ⟨p, 0, none⟩ ?_
  refine wpf 15 46 (.tmp 14) 2 p 0 2 2 ?_
  have hb_16 : Bk γ_7 w_12 p k (.cells #[.int .i64 s.own, .int .i64 s.peer, .int .u32 s.view, .slice s.oa s.out.length s.oc, .int .u32 s.last, .int .u32 0, .int .u32 s.told, .slice s.ha s.held.length s.hc, .int .u32 s.come, .int .i64 s.now] 46 (0, 0)) := (Bk.keep (Bk.keep hp gx_10 ni0) gx_14 ni0)
  refine wk_read (opd 8 (.load 3 (.tmp 7)) 3) rfl (.int .i64 s.own) (fun w'_ g_ => x_load (b := p) (off := 0) (by kernel_rfl) (by kernel_rfl) (g_.keep hb_16.1) (by kernel_rfl)) ?_
  refine wpf 17 50 (.tmp 3) 1 b_1 0 1 1 ?_
  refine wk_stab (opd 12 (.load 3 (.tmp 11)) 3) rfl (.int .i64 s.peer) (fun w'_ g_ => x_load (b := p) (off := 1) (by kernel_rfl) (by kernel_rfl) (ExtW.keep g_ hb_16.1 (by simp only [List.mem_cons, List.not_mem_nil, or_false]; omega)) (by kernel_rfl)) ?_
  refine wk_stab (opd 16 (.load 27 (.tmp 15)) 27) rfl (.int .u32 s.view) (fun w'_ g_ => x_load (b := p) (off := 2) (by kernel_rfl) (by kernel_rfl) (ExtW.keep g_ hb_16.1 (by simp only [List.mem_cons, List.not_mem_nil, or_false]; omega)) (by kernel_rfl)) ?_
  have hb_17 := (Bk.keep hk_11 gx_14 ni0)
  refine wk_store (b := b_1) (off := 1) (cs' := #[.int .i64 m.kind, .int .i64 s.own, .int .i64 m.to, .int .u32 m.view, .int .u32 m.seq, .slice m.na m.N.length m.nc, .slice m.wa m.W.length m.wc]) (vs := #[.int .i64 s.own]) (opn (.store 3 (.tmp 17) (.tmp 8)) 0) rfl (by kernel_rfl) (by kernel_rfl) (by kernel_rfl) (by kernel_rfl) hb_17.1 (Nat.le_of_ble_eq_true rfl) (by kernel_rfl) (by kernel_rfl) (fun w_18 e_19 sz_20 hb_21 => ⟨?_, ?_⟩)
  · exact (Ext.then (Ext.refl [b_1] _) e_19 (by intro y_ hy_ _; simp only [List.mem_cons, List.not_mem_nil, or_false] at hy_ ⊢; omega)).toExtW
  have gx_22 : GX [11601] w_12 γ_7 w_18 γ_7 := GX.ext1 e_19 hb_17.2 (fun _ _ => rfl)
  have hk_23 : Bk γ_7 w_18 b_1 11601 (.cells #[.int .i64 m.kind, .int .i64 s.own, .int .i64 m.to, .int .u32 m.view, .int .u32 m.seq, .slice m.na m.N.length m.nc, .slice m.wa m.W.length m.wc] 50 (0, 0)) := ⟨hb_21, hb_17.2⟩
  refine wpf 18 50 (.tmp 3) 2 b_1 0 2 2 ?_
  refine wk_store (b := b_1) (off := 2) (cs' := #[.int .i64 m.kind, .int .i64 s.own, .int .i64 s.peer, .int .u32 m.view, .int .u32 m.seq, .slice m.na m.N.length m.nc, .slice m.wa m.W.length m.wc]) (vs := #[.int .i64 s.peer]) (opn (.store 3 (.tmp 18) (.tmp 12)) 0) rfl (by kernel_rfl) (by kernel_rfl) (by kernel_rfl) (by kernel_rfl) hk_23.1 (Nat.le_of_ble_eq_true rfl) (by kernel_rfl) (by kernel_rfl) (fun w_24 e_25 sz_26 hb_27 => ⟨?_, ?_⟩)
  · exact (Ext.then (Ext.then (Ext.refl [b_1] _) e_19 (by intro y_ hy_ _; simp only [List.mem_cons, List.not_mem_nil, or_false] at hy_ ⊢; omega)) e_25 (by intro y_ hy_ _; simp only [List.mem_cons, List.not_mem_nil, or_false] at hy_ ⊢; omega)).toExtW
  have gx_28 : GX [11601] w_18 γ_7 w_24 γ_7 := GX.ext1 e_25 hk_23.2 (fun _ _ => rfl)
  have hk_29 : Bk γ_7 w_24 b_1 11601 (.cells #[.int .i64 m.kind, .int .i64 s.own, .int .i64 s.peer, .int .u32 m.view, .int .u32 m.seq, .slice m.na m.N.length m.nc, .slice m.wa m.W.length m.wc] 50 (0, 0)) := ⟨hb_27, hk_23.2⟩
  refine wpf 19 50 (.tmp 3) 3 b_1 0 3 3 ?_
  refine wk_store (b := b_1) (off := 3) (cs' := #[.int .i64 m.kind, .int .i64 s.own, .int .i64 s.peer, .int .u32 s.view, .int .u32 m.seq, .slice m.na m.N.length m.nc, .slice m.wa m.W.length m.wc]) (vs := #[.int .u32 s.view]) (opn (.store 27 (.tmp 19) (.tmp 16)) 0) rfl (by kernel_rfl) (by kernel_rfl) (by kernel_rfl) (by kernel_rfl) hk_29.1 (Nat.le_of_ble_eq_true rfl) (by kernel_rfl) (by kernel_rfl) (fun w_30 e_31 sz_32 hb_33 => ⟨?_, ?_⟩)
  · exact (Ext.then (Ext.then (Ext.then (Ext.refl [b_1] _) e_19 (by intro y_ hy_ _; simp only [List.mem_cons, List.not_mem_nil, or_false] at hy_ ⊢; omega)) e_25 (by intro y_ hy_ _; simp only [List.mem_cons, List.not_mem_nil, or_false] at hy_ ⊢; omega)) e_31 (by intro y_ hy_ _; simp only [List.mem_cons, List.not_mem_nil, or_false] at hy_ ⊢; omega)).toExtW
  have gx_34 : GX [11601] w_24 γ_7 w_30 γ_7 := GX.ext1 e_31 hk_29.2 (fun _ _ => rfl)
  have hk_35 : Bk γ_7 w_30 b_1 11601 (.cells #[.int .i64 m.kind, .int .i64 s.own, .int .i64 s.peer, .int .u32 s.view, .int .u32 m.seq, .slice m.na m.N.length m.nc, .slice m.wa m.W.length m.wc] 50 (0, 0)) := ⟨hb_33, hk_29.2⟩
  refine wk_nil ?_
  refine thn_n ?_
  refine g_seq (x := lX1N7_5) (y := lX1N7_6) (by kernel_rfl) ?_
  refine g_seq (x := lX1N7_7) (y := lX1N7_8) (by kernel_rfl) ?_
  refine g_region (ops := lX1R7_2) (id := 2) (by kernel_rfl) [pu 0, lo 1, pu 2, pu 3, lo 4, lo 5, pu 6, pu 7] (by kernel_rfl) (by kernel_rfl) ?_
  refine wpf 20 50 (.tmp 3) 0 b_1 0 0 0 ?_
  refine wpl 21 3 (.tmp 20) (.int .i64 m.kind) b_1 0 hk_35.1 ?_
  by_cases h_36 : (m.kind : Int) = 1
  · refine wk_pure (opd 22 (.binOp .eql 3 (.tmp 21) (.const (.int .i64 1)) 3) 4) rfl (.bool true) (fun _ => y_eql (k := .i64) (a := m.kind) (b := 1) (by kernel_rfl) (by kernel_rfl) (decide_eq_true h_36)) ?_
    refine wpm 23 (.tmp 22) 4 (.bool true) ?_
    refine wks 24 ?_
    refine wks 25 ?_
    refine wks 26 ?_
    refine wpt 27 (.tmp 23) (.const (.bool true)) (.tmp 26) 4 (.bool true) ?_
    refine wk_nil ?_
    refine thn_n ?_
    refine g_cond_t (o := .tmp 27) (x := lX1N7_9) (y := lX1N7_10) (by kernel_rfl) (by kernel_rfl) ?_
    refine g_seq (x := lX1N7_11) (y := lX1N7_12) (by kernel_rfl) ?_
    refine g_region (ops := lX1R7_3) (id := 3) (by kernel_rfl) [pu 0] (by kernel_rfl) (by kernel_rfl) ?_
    refine wpa 4 (.const (.int .i64 1)) 24 (.int .i64 1) ?_
    refine wk_nil ?_
    refine thn_n ?_
    refine g_ret (by kernel_rfl) ?_
    refine thn_r ?_
    refine ends1_r (v := .int .i64 1) rfl (by kernel_rfl) ?_
    exact h1 (by omega) _ _ (GX.thenNew (GX.thenNew (GX.thenNew (GX.then_same (GX.then0 (GX.refl [] _ _) e_3 hg_8) sm_13) e_19 (by intro y_ hy_; simp only [List.mem_cons, List.not_mem_nil, or_false] at hy_; omega) (fun _ _ => rfl)) e_25 (by intro y_ hy_; simp only [List.mem_cons, List.not_mem_nil, or_false] at hy_; omega) (fun _ _ => rfl)) e_31 (by intro y_ hy_; simp only [List.mem_cons, List.not_mem_nil, or_false] at hy_; omega) (fun _ _ => rfl))
  refine wk_pure (opd 22 (.binOp .eql 3 (.tmp 21) (.const (.int .i64 1)) 3) 4) rfl (.bool false) (fun _ => y_eql (k := .i64) (a := m.kind) (b := 1) (by kernel_rfl) (by kernel_rfl) (decide_eq_false h_36)) ?_
  refine wpm 23 (.tmp 22) 4 (.bool false) ?_
  refine wk_val (opg 24 (.load 50 (.tmp 3)) 50 3 false) (by kernel_rfl) (.agg #[.int .i64 m.kind, .int .i64 s.own, .int .i64 s.peer, .int .u32 s.view, .int .u32 m.seq, .slice m.na m.N.length m.nc, .slice m.wa m.W.length m.wc]) (x_load_agg (b := b_1) (off := 0) (n := 7) (by kernel_rfl) (by kernel_rfl) hk_35.1 (Nat.le_of_ble_eq_true rfl) (by kernel_rfl)) trivial ?_
  have hb_37 : MOk γ_7 w_30 m := (MOk.keep (MOk.keep (MOk.keep (MOk.keep (MOk.keep hm gx_10 ni0) gx_14 ni0) gx_22 ni1) gx_28 ni1) gx_34 ni1)
  by_cases h_38 : 1 ≤ m.kind ∧ m.kind ≤ 20 ∧ 0 ≤ s.own ∧ s.own < 16 ∧ 0 ≤ s.peer ∧ s.peer < 16 ∧ m.N.length ≤ 500 ∧ m.W.length ≤ 500
  · refine wk_call (opg 25 (.call ⟨.value (.func 32), #[.tmp 24], #[50]⟩) 4 3 false) (by kernel_rfl) 32 #[.agg #[.int .i64 m.kind, .int .i64 s.own, .int .i64 s.peer, .int .u32 s.view, .int .u32 m.seq, .slice m.na m.N.length m.nc, .slice m.wa m.W.length m.wc]] (x_call Try.func32 (by kernel_rfl) (c := (Try.f32.body).getD .skip) (by kernel_rfl) (by kernel_rfl) (by kernel_rfl)) (may_c (γ := γ_7) (m := (⟨m.kind, s.own, s.peer, s.view, m.seq, m.na, m.nb, m.noff, m.nc, m.N, m.wa, m.wb, m.woff, m.wc, m.W⟩ : MsgR)) (decide_eq_true h_38) (fun w_39 γ_40 gx_41 => ⟨?_, ?_⟩))
    · exact trivial
    have hsz_42 := gx_41.size
    refine wk_pure (opg 26 (.unOp .not 4 (.tmp 25)) 4 3 false) (by kernel_rfl) (.bool false) (fun _ => y_not (p := true) (by kernel_rfl) rfl) ?_
    refine wpk 27 (.tmp 23) (.const (.bool true)) (.tmp 26) 4 (.bool false) ?_
    refine wk_nil ?_
    refine thn_n ?_
    refine g_cond_f (o := .tmp 27) (x := lX1N7_9) (y := lX1N7_10) (by kernel_rfl) (by kernel_rfl) ?_
    refine g_skip (by kernel_rfl) ?_
    refine thn_n ?_
    refine g_seq (x := lX1N7_13) (y := lX1N7_14) (by kernel_rfl) ?_
    refine g_seq (x := lX1N7_15) (y := lX1N7_16) (by kernel_rfl) ?_
    refine g_region (ops := lX1R7_4) (id := 4) (by kernel_rfl) [pu 0, pu 1, pu 2, lo 3, pu 4, pu 5] (by kernel_rfl) (by kernel_rfl) ?_
    refine wpm 28 (.tmp 0) 42 (.pointer (some ⟨p, 0, none⟩)) ?_
    refine wpn 29 (.tmp 28) ⟨p, 0, none⟩ ?_
    refine wpf 30 46 (.tmp 29) 3 p 0 3 3 ?_
    have hb_43 := (Bk.keep (Bk.keep (Bk.keep (Bk.keep hb_16 gx_22 ni1) gx_28 ni1) gx_34 ni1) gx_41 ni0)
    refine wpl 31 43 (.tmp 30) (.slice s.oa s.out.length s.oc) p 3 hb_43.1 ?_
    refine wk_pure (opd 32 (.call ⟨.builtin .len, #[.tmp 31], #[43]⟩) 3) rfl (.int .i64 ((s.out.length : Nat) : Int)) (fun _ => x_len (a := s.oa) (n := s.out.length) (c := s.oc) (by kernel_rfl) (by kernel_rfl)) ?_
    by_cases h_44 : (1024 : Int) ≤ ((s.out.length : Nat) : Int)
    · refine wk_pure (opd 33 (.binOp .geq 3 (.tmp 32) (.const (.int .i64 1024)) 3) 4) rfl (.bool true) (fun _ => y_geq (k := .i64) (a := ((s.out.length : Nat) : Int)) (b := 1024) (by kernel_rfl) (by kernel_rfl) (decide_eq_true h_44)) ?_
      refine wk_nil ?_
      refine thn_n ?_
      refine g_cond_t (o := .tmp 33) (x := lX1N7_17) (y := lX1N7_18) (by kernel_rfl) (by kernel_rfl) ?_
      refine g_seq (x := lX1N7_19) (y := lX1N7_20) (by kernel_rfl) ?_
      refine g_region (ops := lX1R7_5) (id := 5) (by kernel_rfl) [pu 0] (by kernel_rfl) (by kernel_rfl) ?_
      refine wpa 4 (.const (.int .i64 6)) 24 (.int .i64 6) ?_
      refine wk_nil ?_
      refine thn_n ?_
      refine g_ret (by kernel_rfl) ?_
      refine thn_r ?_
      refine ends1_r (v := .int .i64 6) rfl (by kernel_rfl) ?_
      exact h2 (by omega) (by omega) _ _ (GX.trans (GX.thenNew (GX.thenNew (GX.thenNew (GX.then_same (GX.then0 (GX.refl [] _ _) e_3 hg_8) sm_13) e_19 (by intro y_ hy_; simp only [List.mem_cons, List.not_mem_nil, or_false] at hy_; omega) (fun _ _ => rfl)) e_25 (by intro y_ hy_; simp only [List.mem_cons, List.not_mem_nil, or_false] at hy_; omega) (fun _ _ => rfl)) e_31 (by intro y_ hy_; simp only [List.mem_cons, List.not_mem_nil, or_false] at hy_; omega) (fun _ _ => rfl)) gx_41 (fun _ h_ => absurd h_ List.not_mem_nil))
    refine wk_pure (opd 33 (.binOp .geq 3 (.tmp 32) (.const (.int .i64 1024)) 3) 4) rfl (.bool false) (fun _ => y_geq (k := .i64) (a := ((s.out.length : Nat) : Int)) (b := 1024) (by kernel_rfl) (by kernel_rfl) (decide_eq_false h_44)) ?_
    refine wk_nil ?_
    refine thn_n ?_
    refine g_cond_f (o := .tmp 33) (x := lX1N7_17) (y := lX1N7_18) (by kernel_rfl) (by kernel_rfl) ?_
    refine g_skip (by kernel_rfl) ?_
    refine thn_n ?_
    refine g_seq (x := lX1N7_21) (y := lX1N7_22) (by kernel_rfl) ?_
    refine g_region (ops := lX1R7_6) (id := 6) (by kernel_rfl) [pu 0, pu 1, pu 2, lo 3, pu 4, pu 5, pu 6, lo 7] (by kernel_rfl) (by kernel_rfl) ?_
    refine wpm 34 (.tmp 0) 42 (.pointer (some ⟨p, 0, none⟩)) ?_
    refine wpn 35 (.tmp 34) ⟨p, 0, none⟩ ?_
    refine wpf 36 46 (.tmp 35) 4 p 0 4 4 ?_
    refine wpl 37 27 (.tmp 36) (.int .u32 s.last) p 4 hb_43.1 ?_
    refine wk_pure (opd 38 (.binOp .add 27 (.tmp 37) (.const (.int .u32 1)) 27) 27) rfl (.int .u32 (s.last + 1)) (fun _ => y_add (k := .u32) (a := s.last) (b := 1) (by kernel_rfl) (by kernel_rfl) (u32_to (by omega) rfl)) ?_
    refine wpn 39 (.tmp 34) ⟨p, 0, none⟩ ?_
    refine wpf 40 46 (.tmp 39) 4 p 0 4 4 ?_
    refine wk_store (b := p) (off := 4) (cs' := #[.int .i64 s.own, .int .i64 s.peer, .int .u32 s.view, .slice s.oa s.out.length s.oc, .int .u32 (s.last + 1), .int .u32 0, .int .u32 s.told, .slice s.ha s.held.length s.hc, .int .u32 s.come, .int .i64 s.now]) (vs := #[.int .u32 (s.last + 1)]) (opn (.store 27 (.tmp 40) (.tmp 38)) 0) rfl (by kernel_rfl) (by kernel_rfl) (by kernel_rfl) (by kernel_rfl) hb_43.1 (Nat.le_of_ble_eq_true rfl) (by kernel_rfl) (by kernel_rfl) (fun w_45 e_46 sz_47 hb_48 => ⟨?_, ?_⟩)
    · exact trivial
    have gx_49 : GX [k] w_39 γ_40 w_45 γ_40 := GX.ext1 e_46 hb_43.2 (fun _ _ => rfl)
    have hk_50 : Bk γ_40 w_45 p k (.cells #[.int .i64 s.own, .int .i64 s.peer, .int .u32 s.view, .slice s.oa s.out.length s.oc, .int .u32 (s.last + 1), .int .u32 0, .int .u32 s.told, .slice s.ha s.held.length s.hc, .int .u32 s.come, .int .i64 s.now] 46 (0, 0)) := ⟨hb_48, hb_43.2⟩
    refine wk_nil ?_
    refine thn_n ?_
    refine g_seq (x := lX1N7_23) (y := lX1N7_24) (by kernel_rfl) ?_
    refine g_region (ops := lX1R7_7) (id := 7) (by kernel_rfl) [pu 0, pu 1, pu 2, lo 3, pu 4, lo 5] (by kernel_rfl) (by kernel_rfl) ?_
    refine wpm 41 (.tmp 0) 42 (.pointer (some ⟨p, 0, none⟩)) ?_
    refine wpn 42 (.tmp 41) ⟨p, 0, none⟩ ?_
    refine wpf 43 46 (.tmp 42) 4 p 0 4 4 ?_
    refine wpl 44 27 (.tmp 43) (.int .u32 (s.last + 1)) p 4 hk_50.1 ?_
    refine wpf 45 50 (.tmp 3) 4 b_1 0 4 4 ?_
    have hb_51 := (Bk.keep (Bk.keep hk_35 gx_41 ni0) gx_49 ni1)
    refine wk_store (b := b_1) (off := 4) (cs' := #[.int .i64 m.kind, .int .i64 s.own, .int .i64 s.peer, .int .u32 s.view, .int .u32 (s.last + 1), .slice m.na m.N.length m.nc, .slice m.wa m.W.length m.wc]) (vs := #[.int .u32 (s.last + 1)]) (opn (.store 27 (.tmp 45) (.tmp 44)) 0) rfl (by kernel_rfl) (by kernel_rfl) (by kernel_rfl) (by kernel_rfl) hb_51.1 (Nat.le_of_ble_eq_true rfl) (by kernel_rfl) (by kernel_rfl) (fun w_52 e_53 sz_54 hb_55 => ⟨?_, ?_⟩)
    · exact trivial
    have gx_56 : GX [11601] w_45 γ_40 w_52 γ_40 := GX.ext1 e_53 hb_51.2 (fun _ _ => rfl)
    have hk_57 : Bk γ_40 w_52 b_1 11601 (.cells #[.int .i64 m.kind, .int .i64 s.own, .int .i64 s.peer, .int .u32 s.view, .int .u32 (s.last + 1), .slice m.na m.N.length m.nc, .slice m.wa m.W.length m.wc] 50 (0, 0)) := ⟨hb_55, hb_51.2⟩
    refine wk_nil ?_
    refine thn_n ?_
    refine g_seq (x := lX1N7_25) (y := lX1N7_26) (by kernel_rfl) ?_
    refine g_region (ops := lX1R7_8) (id := 8) (by kernel_rfl) [lo 0, pu 1, lo 2, lo 3, pu 4, lo 5] (by kernel_rfl) (by kernel_rfl) ?_
    refine wk_buildSlice (e := 2) (cs := #[]) (opd 46 (.buildSlice 29 0 #[]) 29) rfl (by kernel_rfl) (fun w_58 b_59 eq_60 e_61 sz_62 hb_63 => ⟨?_, ?_⟩)
    · exact trivial
    obtain ⟨γ_64, hg_65, hn_66⟩ := cls_new γ_40 w_52.heap.size 11602
    have gx_67 := GX.ext0 [] e_61 hg_65
    have hk_68 : Bk γ_64 w_58 b_59 11602 (.cells #[] 2 (0, 0)) := ⟨hb_63, hn_66 _ (by omega)⟩
    refine wpf 47 50 (.tmp 3) 5 b_1 0 5 5 ?_
    have hb_69 := (Bk.keep hk_57 gx_67 ni0)
    refine wpl 48 29 (.tmp 47) (.slice m.na m.N.length m.nc) b_1 5 hb_69.1 ?_
    have hb_70 := (SlG.keep (SlG.keep (SlG.keep (SlG.keep hb_37.n gx_41 ni0) gx_49 ni1) gx_56 ni1) gx_67 ni0)
    have on_80 : OwNG γ_64 w_58 11602 2 1 (some ⟨b_59, 0, none⟩) b_59 0 encI ([]) ([]) := (OwNG.of ⟨OwnE.of_cells (M := []) hk_68.1 encI_len (by kernel_rfl) (Nat.zero_le _), hk_68.2⟩)
    refine wk_append_some (M := m.N) (L := ([])) (g := b_59) (cap := 0) (ax := m.na) (bx := m.nb) (offx := m.noff) (cx := m.nc) (e := 2) (sz := 1) (by_ := 8) (opd 49 (.call ⟨.builtin .append, #[.tmp 46, .tmp 48], #[29, 29]⟩) 29) rfl (by kernel_rfl) (by kernel_rfl) encI_len (by kernel_rfl) on_80.1 (by kernel_rfl) hb_70.1  encI_one (by constructor <;> (first | omega | (simp only [List.length_singleton, List.length_nil]; omega))) (fun w_71 b_72 cap_73 rest_74 hb_75 e_76 sz_77 lt_78 ho_79 => ⟨?_, ?_⟩)
    · exact trivial
    obtain ⟨γ_81, hg_82, hn_83⟩ := cls_new γ_64 w_58.heap.size 11602
    have gx_84 : GX [11602] w_58 γ_64 w_71 γ_81 := OwNG.gx on_80 e_76 hg_82
    have hk_85 : OwnG γ_81 w_71 11602 2 1 b_72 cap_73 encI (([]) ++ m.N) rest_74 := ⟨ho_79, OwNG.appc on_80 hb_75 hg_82 hn_83⟩
    have hsz_86 := e_76.size
    refine wpf 50 50 (.tmp 3) 5 b_1 0 5 5 ?_
    have hb_87 := (Bk.keep hb_69 gx_84 ni1)
    refine wk_store (b := b_1) (off := 5) (cs' := #[.int .i64 m.kind, .int .i64 s.own, .int .i64 s.peer, .int .u32 s.view, .int .u32 (s.last + 1), .slice (some ⟨b_72, 0, none⟩) ((([]) ++ m.N).length) cap_73, .slice m.wa m.W.length m.wc]) (vs := #[.slice (some ⟨b_72, 0, none⟩) ((([]) ++ m.N).length) cap_73]) (opn (.store 29 (.tmp 50) (.tmp 49)) 0) rfl (by kernel_rfl) (by kernel_rfl) (by kernel_rfl) (by kernel_rfl) hb_87.1 (Nat.le_of_ble_eq_true rfl) (by kernel_rfl) (by kernel_rfl) (fun w_88 e_89 sz_90 hb_91 => ⟨?_, ?_⟩)
    · exact trivial
    have gx_92 : GX [11601] w_71 γ_81 w_88 γ_81 := GX.ext1 e_89 hb_87.2 (fun _ _ => rfl)
    have hk_93 : Bk γ_81 w_88 b_1 11601 (.cells #[.int .i64 m.kind, .int .i64 s.own, .int .i64 s.peer, .int .u32 s.view, .int .u32 (s.last + 1), .slice (some ⟨b_72, 0, none⟩) ((([]) ++ m.N).length) cap_73, .slice m.wa m.W.length m.wc] 50 (0, 0)) := ⟨hb_91, hb_87.2⟩
    refine wk_nil ?_
    refine thn_n ?_
    refine g_seq (x := lX1N7_27) (y := lX1N7_28) (by kernel_rfl) ?_
    refine g_region (ops := lX1R7_9) (id := 9) (by kernel_rfl) [lo 0, pu 1, lo 2, lo 3, pu 4, lo 5] (by kernel_rfl) (by kernel_rfl) ?_
    refine wk_buildSlice (e := 79) (cs := #[]) (opd 51 (.buildSlice 30 0 #[]) 30) rfl (by kernel_rfl) (fun w_94 b_95 eq_96 e_97 sz_98 hb_99 => ⟨?_, ?_⟩)
    · exact trivial
    obtain ⟨γ_100, hg_101, hn_102⟩ := cls_new γ_81 w_88.heap.size 11603
    have gx_103 := GX.ext0 [] e_97 hg_101
    have hk_104 : Bk γ_100 w_94 b_95 11603 (.cells #[] 79 (0, 0)) := ⟨hb_99, hn_102 _ (by omega)⟩
    refine wpf 52 50 (.tmp 3) 6 b_1 0 6 6 ?_
    have hb_105 := (Bk.keep hk_93 gx_103 ni0)
    refine wpl 53 30 (.tmp 52) (.slice m.wa m.W.length m.wc) b_1 6 hb_105.1 ?_
    have hb_106 := (SlG.keep (SlG.keep (SlG.keep (SlG.keep (SlG.keep (SlG.keep (SlG.keep hb_37.w gx_41 ni0) gx_49 ni1) gx_56 ni1) gx_67 ni0) gx_84 ni1) gx_92 ni1) gx_103 ni0)
    have on_116 : OwNG γ_100 w_94 11603 79 2 (some ⟨b_95, 0, none⟩) b_95 0 encW ([]) ([]) := (OwNG.of ⟨OwnE.of_cells (M := []) hk_104.1 encW_len (by kernel_rfl) (Nat.zero_le _), hk_104.2⟩)
    refine wk_append_some (M := m.W) (L := ([])) (g := b_95) (cap := 0) (ax := m.wa) (bx := m.wb) (offx := m.woff) (cx := m.wc) (e := 79) (sz := 2) (by_ := 16) (opd 54 (.call ⟨.builtin .append, #[.tmp 51, .tmp 53], #[30, 30]⟩) 30) rfl (by kernel_rfl) (by kernel_rfl) encW_len (by kernel_rfl) on_116.1 (by kernel_rfl) hb_106.1  encW_one (by constructor <;> (first | omega | (simp only [List.length_singleton, List.length_nil]; omega))) (fun w_107 b_108 cap_109 rest_110 hb_111 e_112 sz_113 lt_114 ho_115 => ⟨?_, ?_⟩)
    · exact trivial
    obtain ⟨γ_117, hg_118, hn_119⟩ := cls_new γ_100 w_94.heap.size 11603
    have gx_120 : GX [11603] w_94 γ_100 w_107 γ_117 := OwNG.gx on_116 e_112 hg_118
    have hk_121 : OwnG γ_117 w_107 11603 79 2 b_108 cap_109 encW (([]) ++ m.W) rest_110 := ⟨ho_115, OwNG.appc on_116 hb_111 hg_118 hn_119⟩
    have hsz_122 := e_112.size
    refine wpf 55 50 (.tmp 3) 6 b_1 0 6 6 ?_
    have hb_123 := (Bk.keep hb_105 gx_120 ni1)
    refine wk_store (b := b_1) (off := 6) (cs' := #[.int .i64 m.kind, .int .i64 s.own, .int .i64 s.peer, .int .u32 s.view, .int .u32 (s.last + 1), .slice (some ⟨b_72, 0, none⟩) ((([]) ++ m.N).length) cap_73, .slice (some ⟨b_108, 0, none⟩) ((([]) ++ m.W).length) cap_109]) (vs := #[.slice (some ⟨b_108, 0, none⟩) ((([]) ++ m.W).length) cap_109]) (opn (.store 30 (.tmp 55) (.tmp 54)) 0) rfl (by kernel_rfl) (by kernel_rfl) (by kernel_rfl) (by kernel_rfl) hb_123.1 (Nat.le_of_ble_eq_true rfl) (by kernel_rfl) (by kernel_rfl) (fun w_124 e_125 sz_126 hb_127 => ⟨?_, ?_⟩)
    · exact trivial
    have gx_128 : GX [11601] w_107 γ_117 w_124 γ_117 := GX.ext1 e_125 hb_123.2 (fun _ _ => rfl)
    have hk_129 : Bk γ_117 w_124 b_1 11601 (.cells #[.int .i64 m.kind, .int .i64 s.own, .int .i64 s.peer, .int .u32 s.view, .int .u32 (s.last + 1), .slice (some ⟨b_72, 0, none⟩) ((([]) ++ m.N).length) cap_73, .slice (some ⟨b_108, 0, none⟩) ((([]) ++ m.W).length) cap_109] 50 (0, 0)) := ⟨hb_127, hb_123.2⟩
    refine wk_nil ?_
    refine thn_n ?_
    refine g_seq (x := lX1N7_29) (y := lX1N7_30) (by kernel_rfl) ?_
    refine g_fork (ops := lX1R7_10) (id := 10) (by kernel_rfl) (fun _ _ => True) (seqP [(0, .pure), (1, .pure), (2, .pure), (3, .pure)] (.two 4 5 (seqP [(5, .loud), (6, .pure), (7, .loud), (8, .loud), (9, .pure), (10, .pure), (11, .loud)] .nil) (seqP [(6, .pure)] (.two 4 7 (seqP [(7, .loud), (8, .loud), (9, .pure), (10, .pure), (11, .loud)] .nil) (seqP [(4, .read), (8, .loud), (9, .pure), (10, .pure), (11, .loud)] .nil))))) (by kernel_rfl) (by kernel_rfl) (fun _ => trivial) (fun w_130 sm_131 => wkP_seq ?_)
    have gx_132 := GX.same [] γ_117 sm_131
    have hsz_133 : w_130.heap.size = w_124.heap.size := by rw [sm_131.heap]
    refine wpm 56 (.tmp 0) 42 (.pointer (some ⟨p, 0, none⟩)) ?_
    refine wpm 57 (.tmp 0) 42 (.pointer (some ⟨p, 0, none⟩)) ?_
    refine wpn 58 (.tmp 57) ⟨p, 0, none⟩ ?_
    refine wpf 59 46 (.tmp 58) 3 p 0 3 3 ?_
    refine wk_nil ?_
    refine wkP_two ?_ ?_
    · have hb_134 := (Bk.keep (Bk.keep (Bk.keep (Bk.keep (Bk.keep (Bk.keep (Bk.keep (Bk.keep hk_50 gx_56 ni1) gx_67 ni0) gx_84 ni1) gx_92 ni1) gx_103 ni0) gx_120 ni1) gx_128 ni1) gx_132 ni0)
      refine wpl 60 43 (.tmp 59) (.slice s.oa s.out.length s.oc) p 3 hb_134.1 ?_
      refine wk_nil ?_
      refine wkP_seq ?_
      have hb_135 := (Bk.keep hk_129 gx_132 ni0)
      refine wk_val (opd 61 (.load 50 (.tmp 3)) 50) rfl (.agg #[.int .i64 m.kind, .int .i64 s.own, .int .i64 s.peer, .int .u32 s.view, .int .u32 (s.last + 1), .slice (some ⟨b_72, 0, none⟩) ((([]) ++ m.N).length) cap_73, .slice (some ⟨b_108, 0, none⟩) ((([]) ++ m.W).length) cap_109]) (x_load_agg (b := b_1) (off := 0) (n := 7) (by kernel_rfl) (by kernel_rfl) hb_135.1 (Nat.le_of_ble_eq_true rfl) (by kernel_rfl)) trivial ?_
      refine wk_pure (opd 62 (.build 71 #[(0, .tmp 61), (1, .const (.int .i64 (-1)))]) 71) rfl (.agg #[.int .i64 m.kind, .int .i64 s.own, .int .i64 s.peer, .int .u32 s.view, .int .u32 (s.last + 1), .slice (some ⟨b_72, 0, none⟩) ((([]) ++ m.N).length) cap_73, .slice (some ⟨b_108, 0, none⟩) ((([]) ++ m.W).length) cap_109, .int .i64 (-1)]) (fun _ => x_build (by kernel_rfl)) ?_
      refine wk_buildSlice (e := 71) (cs := #[.int .i64 m.kind, .int .i64 s.own, .int .i64 s.peer, .int .u32 s.view, .int .u32 (s.last + 1), .slice (some ⟨b_72, 0, none⟩) ((([]) ++ m.N).length) cap_73, .slice (some ⟨b_108, 0, none⟩) ((([]) ++ m.W).length) cap_109, .int .i64 (-1)]) (opd 63 (.buildSlice 43 1 #[(0, .tmp 62)]) 43) rfl (by kernel_rfl) (fun w_136 b_137 eq_138 e_139 sz_140 hb_141 => ⟨?_, ?_⟩)
      · exact trivial
      obtain ⟨γ_142, hg_143, hn_144⟩ := cls_new γ_117 w_130.heap.size 11604
      have gx_145 := GX.ext0 [] e_139 hg_143
      have hk_146 : Bk γ_142 w_136 b_137 11604 (.cells #[.int .i64 m.kind, .int .i64 s.own, .int .i64 s.peer, .int .u32 s.view, .int .u32 (s.last + 1), .slice (some ⟨b_72, 0, none⟩) ((([]) ++ m.N).length) cap_73, .slice (some ⟨b_108, 0, none⟩) ((([]) ++ m.W).length) cap_109, .int .i64 (-1)] 71 (0, 0)) := ⟨hb_141, hn_144 _ (by omega)⟩
      have hb_147 : QuG γ_142 w_136 (k + 1) 71 8 s.oa s.og s.oo s.oc encP s.out := (QuG.keep (QuG.keep (QuG.keep (QuG.keep (QuG.keep (QuG.keep (QuG.keep (QuG.keep (QuG.keep (QuG.keep (QuG.keep (QuG.keep (QuG.keep (QuG.keep (QuG.keep (QuG.keep h.ho gx_10 ni0) gx_14 ni0) gx_22 ni1) gx_28 ni1) gx_34 ni1) gx_41 ni0) gx_49 ni1) gx_56 ni1) gx_67 ni0) gx_84 ni1) gx_92 ni1) gx_103 ni0) gx_120 ni1) gx_128 ni1) gx_132 ni0) gx_145 ni0)
      have hs_148 : SlE w_136 8 (some ⟨b_137, 0, none⟩) b_137 0 encP [(⟨(⟨m.kind, s.own, s.peer, s.view, (s.last + 1), (some ⟨b_72, 0, none⟩), b_72, 0, cap_73, (([]) ++ m.N), (some ⟨b_108, 0, none⟩), b_108, 0, cap_109, (([]) ++ m.W)⟩ : MsgR), false, 0⟩ : SndR)] := SlE.of_cells hk_146.1 encP_len (by rfl)
      refine wk_append_qu (M := ([(⟨(⟨m.kind, s.own, s.peer, s.view, (s.last + 1), (some ⟨b_72, 0, none⟩), b_72, 0, cap_73, (([]) ++ m.N), (some ⟨b_108, 0, none⟩), b_108, 0, cap_109, (([]) ++ m.W)⟩ : MsgR), false, 0⟩ : SndR)])) (L := s.out) (a := s.oa) (g := s.og) (off := s.oo) (cap := s.oc) (c := (k + 1)) (γ := γ_142) (ax := (some ⟨b_137, 0, none⟩)) (bx := b_137) (offx := 0) (cx := 1) (e := 71) (sz := 8) (by_ := 88) (opd 64 (.call ⟨.builtin .append, #[.tmp 60, .tmp 63], #[43, 43]⟩) 43) rfl (by kernel_rfl) (by kernel_rfl) encP_len (by kernel_rfl) (h_hn) hb_147 (by kernel_rfl) hs_148 (by simp) encP_one (by constructor <;> (first | omega | (simp only [List.length_singleton, List.length_nil]; omega))) (fun w_149 γ_150 a_151 g_152 off_153 cap_154 gx_155 hn_156 ho_157 hN_158 => ⟨?_, ?_⟩)
      · exact trivial
      have hsz_159 := gx_155.size
      refine wpn 65 (.tmp 56) ⟨p, 0, none⟩ ?_
      refine wpf 66 46 (.tmp 65) 3 p 0 3 3 ?_
      have hb_160 := (Bk.keep (Bk.keep hb_134 gx_145 ni0) gx_155 ni1)
      refine wk_store (b := p) (off := 3) (cs' := #[.int .i64 s.own, .int .i64 s.peer, .int .u32 s.view, .slice a_151 ((s.out ++ ([(⟨(⟨m.kind, s.own, s.peer, s.view, (s.last + 1), (some ⟨b_72, 0, none⟩), b_72, 0, cap_73, (([]) ++ m.N), (some ⟨b_108, 0, none⟩), b_108, 0, cap_109, (([]) ++ m.W)⟩ : MsgR), false, 0⟩ : SndR)])).length) cap_154, .int .u32 (s.last + 1), .int .u32 0, .int .u32 s.told, .slice s.ha s.held.length s.hc, .int .u32 s.come, .int .i64 s.now]) (vs := #[.slice a_151 ((s.out ++ ([(⟨(⟨m.kind, s.own, s.peer, s.view, (s.last + 1), (some ⟨b_72, 0, none⟩), b_72, 0, cap_73, (([]) ++ m.N), (some ⟨b_108, 0, none⟩), b_108, 0, cap_109, (([]) ++ m.W)⟩ : MsgR), false, 0⟩ : SndR)])).length) cap_154]) (opn (.store 43 (.tmp 66) (.tmp 64)) 0) rfl (by kernel_rfl) (by kernel_rfl) (by kernel_rfl) (by kernel_rfl) hb_160.1 (Nat.le_of_ble_eq_true rfl) (by kernel_rfl) (by kernel_rfl) (fun w_161 e_162 sz_163 hb_164 => ⟨?_, ?_⟩)
      · exact trivial
      have gx_165 : GX [k] w_149 γ_150 w_161 γ_150 := GX.ext1 e_162 hb_160.2 (fun _ _ => rfl)
      have hk_166 : Bk γ_150 w_161 p k (.cells #[.int .i64 s.own, .int .i64 s.peer, .int .u32 s.view, .slice a_151 ((s.out ++ ([(⟨(⟨m.kind, s.own, s.peer, s.view, (s.last + 1), (some ⟨b_72, 0, none⟩), b_72, 0, cap_73, (([]) ++ m.N), (some ⟨b_108, 0, none⟩), b_108, 0, cap_109, (([]) ++ m.W)⟩ : MsgR), false, 0⟩ : SndR)])).length) cap_154, .int .u32 (s.last + 1), .int .u32 0, .int .u32 s.told, .slice s.ha s.held.length s.hc, .int .u32 s.come, .int .i64 s.now] 46 (0, 0)) := ⟨hb_164, hb_160.2⟩
      refine wk_nil ?_
      refine wkP_nil ?_
      refine thn_n ?_
      refine g_seq (x := lX1N7_31) (y := lX1N7_32) (by kernel_rfl) ?_
      refine g_region (ops := lX1R7_11) (id := 11) (by kernel_rfl) [pu 0] (by kernel_rfl) (by kernel_rfl) ?_
      refine wpa 4 (.const (.int .i64 0)) 24 (.int .i64 0) ?_
      refine wk_nil ?_
      refine thn_n ?_
      refine g_ret (by kernel_rfl) ?_
      refine ends1_r (v := .int .i64 0) rfl (by kernel_rfl) ?_
      have hb_167 := (OwnG.keep (OwnG.keep (OwnG.keep (OwnG.keep (OwnG.keep (OwnG.keep (OwnG.keep (OwnG.keep hk_85 gx_92 ni1) gx_103 ni0) gx_120 ni1) gx_128 ni1) gx_132 ni0) gx_145 ni0) gx_155 ni1) gx_165 ni1)
      have hb_168 := (OwnG.keep (OwnG.keep (OwnG.keep (OwnG.keep (OwnG.keep hk_121 gx_128 ni1) gx_132 ni0) gx_145 ni0) gx_155 ni1) gx_165 ni1)
      obtain ⟨γ_169, hr_170, hr_171, hr_172⟩ := recls γ_150 w.heap.size 11602 0
      have gx_173 : GX [11602] w_161 γ_150 w_161 γ_169 := GX.re w_161 hr_171
      obtain ⟨γ_174, hr_175, hr_176, hr_177⟩ := recls γ_169 w.heap.size 11603 0
      have gx_178 : GX [11603] w_161 γ_169 w_161 γ_174 := GX.re w_161 hr_176
      have hb_179 := (MOk.keep (MOk.keep (MOk.keep (MOk.keep (MOk.keep (MOk.keep (MOk.keep (MOk.keep (MOk.keep (MOk.keep (MOk.keep (MOk.keep (MOk.keep (MOk.keep (MOk.keep hb_37 gx_41 ni0) gx_49 ni1) gx_56 ni1) gx_67 ni0) gx_84 ni1) gx_92 ni1) gx_103 ni0) gx_120 ni1) gx_128 ni1) gx_132 ni0) gx_145 ni0) gx_155 ni1) gx_165 ni1) gx_173 ni1) gx_178 ni1)
      have hm_ := hb_179
      have hsl_180 : SlG γ_174 w_161 0 1 (some ⟨b_72, 0, none⟩) b_72 0 encI (([]) ++ m.N) := (SlG.keep (OwnG.slg (OwnG.re hb_167 hr_172 (appNew hb_75 (.inr (by omega)) (by omega)))) gx_178 (by decide))
      have hsl_181 : SlG γ_174 w_161 0 2 (some ⟨b_108, 0, none⟩) b_108 0 encW (([]) ++ m.W) := (OwnG.slg (OwnG.re (OwnG.keep hb_168 gx_173 ni1) hr_177 (appNew hb_111 (.inr (by omega)) (by omega))))
      have hz_ : MOk γ_174 w_161 (⟨m.kind, s.own, s.peer, s.view, (s.last + 1), (some ⟨b_72, 0, none⟩), b_72, 0, cap_73, (([]) ++ m.N), (some ⟨b_108, 0, none⟩), b_108, 0, cap_109, (([]) ++ m.W)⟩ : MsgR) := ⟨hsl_180, hsl_181, h_b1, by show 0 ≤ s.last + 1 ∧ s.last + 1 < 4294967296; omega, hm_.nr, hm_.nl, hm_.wl⟩
      have hb_182 := (QuG.keep (QuG.keep (QuG.keep ho_157 gx_165 ni1) gx_173 ni1) gx_178 ni1)
      have hb_183 : OwNG γ_174 w_161 (k + 2) 50 7 s.ha s.hg s.hc encM s.held s.hrest := (OwNG.keep (OwNG.keep (OwNG.keep (OwNG.keep (OwNG.keep (OwNG.keep (OwNG.keep (OwNG.keep (OwNG.keep (OwNG.keep (OwNG.keep (OwNG.keep (OwNG.keep (OwNG.keep (OwNG.keep (OwNG.keep (OwNG.keep (OwNG.keep (OwNG.keep (OwNG.keep h.hh gx_10 ni0) gx_14 ni0) gx_22 ni1) gx_28 ni1) gx_34 ni1) gx_41 ni0) gx_49 ni1) gx_56 ni1) gx_67 ni0) gx_84 ni1) gx_92 ni1) gx_103 ni0) gx_120 ni1) gx_128 ni1) gx_132 ni0) gx_145 ni0) gx_155 ni1) gx_165 ni1) gx_173 ni1) gx_178 ni1)
      have hb_184 := (Bk.keep (Bk.keep hk_166 gx_173 ni1) gx_178 ni1)
      have hb_185 : AllOk γ_174 w_161 (s.out.map (·.m)) := (AllOk.keep (AllOk.keep (AllOk.keep (AllOk.keep (AllOk.keep (AllOk.keep (AllOk.keep (AllOk.keep (AllOk.keep (AllOk.keep (AllOk.keep (AllOk.keep (AllOk.keep (AllOk.keep (AllOk.keep (AllOk.keep (AllOk.keep (AllOk.keep (AllOk.keep (AllOk.keep h.ao gx_10 ni0) gx_14 ni0) gx_22 ni1) gx_28 ni1) gx_34 ni1) gx_41 ni0) gx_49 ni1) gx_56 ni1) gx_67 ni0) gx_84 ni1) gx_92 ni1) gx_103 ni0) gx_120 ni1) gx_128 ni1) gx_132 ni0) gx_145 ni0) gx_155 ni1) gx_165 ni1) gx_173 ni1) gx_178 ni1)
      have hb_186 : AllOk γ_174 w_161 s.held := (AllOk.keep (AllOk.keep (AllOk.keep (AllOk.keep (AllOk.keep (AllOk.keep (AllOk.keep (AllOk.keep (AllOk.keep (AllOk.keep (AllOk.keep (AllOk.keep (AllOk.keep (AllOk.keep (AllOk.keep (AllOk.keep (AllOk.keep (AllOk.keep (AllOk.keep (AllOk.keep h.ah gx_10 ni0) gx_14 ni0) gx_22 ni1) gx_28 ni1) gx_34 ni1) gx_41 ni0) gx_49 ni1) gx_56 ni1) gx_67 ni0) gx_84 ni1) gx_92 ni1) gx_103 ni0) gx_120 ni1) gx_128 ni1) gx_132 ni0) gx_145 ni0) gx_155 ni1) gx_165 ni1) gx_173 ni1) gx_178 ni1)
      exact h3 (by omega) (by omega) (by omega) _ _ (⟨m.kind, s.own, s.peer, s.view, (s.last + 1), (some ⟨b_72, 0, none⟩), b_72, 0, cap_73, (([]) ++ m.N), (some ⟨b_108, 0, none⟩), b_108, 0, cap_109, (([]) ++ m.W)⟩ : MsgR) (GX.thenRe (GX.thenRe (GX.trans (GX.trans (GX.then0 (GX.then_same (GX.thenNew (GX.thenNew (GX.then0 (GX.thenNew (GX.thenNew (GX.then0 (GX.thenNew (GX.trans (GX.trans (GX.thenNew (GX.thenNew (GX.thenNew (GX.then_same (GX.then0 (GX.refl [k, k + 1] _ _) e_3 hg_8) sm_13) e_19 (by intro y_ hy_; simp only [List.mem_cons, List.not_mem_nil, or_false] at hy_; omega) (fun _ _ => rfl)) e_25 (by intro y_ hy_; simp only [List.mem_cons, List.not_mem_nil, or_false] at hy_; omega) (fun _ _ => rfl)) e_31 (by intro y_ hy_; simp only [List.mem_cons, List.not_mem_nil, or_false] at hy_; omega) (fun _ _ => rfl)) gx_41 (fun _ h_ => absurd h_ List.not_mem_nil)) gx_49 (by intro c_ hc_; simp only [List.mem_cons, List.not_mem_nil, or_false] at hc_ ⊢; omega)) e_53 (by intro y_ hy_; simp only [List.mem_cons, List.not_mem_nil, or_false] at hy_; omega) (fun _ _ => rfl)) e_61 hg_65) e_76 (OwNG.newS (OwNG.of ⟨OwnE.of_cells (M := []) hk_68.1 encI_len (by kernel_rfl) (Nat.zero_le _), hk_68.2⟩) (by exact .inr (by omega))) hg_82) e_89 (by intro y_ hy_; simp only [List.mem_cons, List.not_mem_nil, or_false] at hy_; omega) (fun _ _ => rfl)) e_97 hg_101) e_112 (OwNG.newS (OwNG.of ⟨OwnE.of_cells (M := []) hk_104.1 encW_len (by kernel_rfl) (Nat.zero_le _), hk_104.2⟩) (by exact .inr (by omega))) hg_118) e_125 (by intro y_ hy_; simp only [List.mem_cons, List.not_mem_nil, or_false] at hy_; omega) (fun _ _ => rfl)) sm_131) e_139 hg_143) gx_155 (by intro c_ hc_; simp only [List.mem_cons, List.not_mem_nil, or_false] at hc_ ⊢; omega)) gx_165 (by intro c_ hc_; simp only [List.mem_cons, List.not_mem_nil, or_false] at hc_ ⊢; omega)) (fun b_ hb_ => hr_170 b_ (by omega))) (fun b_ hb_ => hr_175 b_ (by omega))) ⟨hb_184, hb_182, hb_183, (by rw [List.map_append]; exact AllOk.add hb_185 hz_), hb_186, (fun h_ => absurd h_ hn_156), h_b1, by show 0 ≤ s.last + 1 ∧ s.last + 1 < 4294967296; omega, h_b3, h_b4, h_b5, (by show (s.out ++ [_]).length ≤ 1024; rw [List.length_append, List.length_singleton]; omega), h_l2, (fun j_ hj_ => by rw [getD_app hj_]; split; exact h_l3 j_ ‹_›; exact ⟨Int.le_refl _, h_b5.1⟩)⟩ rfl
    have hb_187 := (Bk.keep hk_129 gx_132 ni0)
    refine wk_val (opd 61 (.load 50 (.tmp 3)) 50) rfl (.agg #[.int .i64 m.kind, .int .i64 s.own, .int .i64 s.peer, .int .u32 s.view, .int .u32 (s.last + 1), .slice (some ⟨b_72, 0, none⟩) ((([]) ++ m.N).length) cap_73, .slice (some ⟨b_108, 0, none⟩) ((([]) ++ m.W).length) cap_109]) (x_load_agg (b := b_1) (off := 0) (n := 7) (by kernel_rfl) (by kernel_rfl) hb_187.1 (Nat.le_of_ble_eq_true rfl) (by kernel_rfl)) trivial ?_
    refine wk_nil ?_
    refine wkP_seq ?_
    refine wk_pure (opd 62 (.build 71 #[(0, .tmp 61), (1, .const (.int .i64 (-1)))]) 71) rfl (.agg #[.int .i64 m.kind, .int .i64 s.own, .int .i64 s.peer, .int .u32 s.view, .int .u32 (s.last + 1), .slice (some ⟨b_72, 0, none⟩) ((([]) ++ m.N).length) cap_73, .slice (some ⟨b_108, 0, none⟩) ((([]) ++ m.W).length) cap_109, .int .i64 (-1)]) (fun _ => x_build (by kernel_rfl)) ?_
    refine wk_nil ?_
    refine wkP_two ?_ ?_
    · have hb_188 := (Bk.keep (Bk.keep (Bk.keep (Bk.keep (Bk.keep (Bk.keep (Bk.keep (Bk.keep hk_50 gx_56 ni1) gx_67 ni0) gx_84 ni1) gx_92 ni1) gx_103 ni0) gx_120 ni1) gx_128 ni1) gx_132 ni0)
      refine wpl 60 43 (.tmp 59) (.slice s.oa s.out.length s.oc) p 3 hb_188.1 ?_
      refine wk_nil ?_
      refine wkP_seq ?_
      refine wk_buildSlice (e := 71) (cs := #[.int .i64 m.kind, .int .i64 s.own, .int .i64 s.peer, .int .u32 s.view, .int .u32 (s.last + 1), .slice (some ⟨b_72, 0, none⟩) ((([]) ++ m.N).length) cap_73, .slice (some ⟨b_108, 0, none⟩) ((([]) ++ m.W).length) cap_109, .int .i64 (-1)]) (opd 63 (.buildSlice 43 1 #[(0, .tmp 62)]) 43) rfl (by kernel_rfl) (fun w_189 b_190 eq_191 e_192 sz_193 hb_194 => ⟨?_, ?_⟩)
      · exact trivial
      obtain ⟨γ_195, hg_196, hn_197⟩ := cls_new γ_117 w_130.heap.size 11605
      have gx_198 := GX.ext0 [] e_192 hg_196
      have hk_199 : Bk γ_195 w_189 b_190 11605 (.cells #[.int .i64 m.kind, .int .i64 s.own, .int .i64 s.peer, .int .u32 s.view, .int .u32 (s.last + 1), .slice (some ⟨b_72, 0, none⟩) ((([]) ++ m.N).length) cap_73, .slice (some ⟨b_108, 0, none⟩) ((([]) ++ m.W).length) cap_109, .int .i64 (-1)] 71 (0, 0)) := ⟨hb_194, hn_197 _ (by omega)⟩
      have hb_200 : QuG γ_195 w_189 (k + 1) 71 8 s.oa s.og s.oo s.oc encP s.out := (QuG.keep (QuG.keep (QuG.keep (QuG.keep (QuG.keep (QuG.keep (QuG.keep (QuG.keep (QuG.keep (QuG.keep (QuG.keep (QuG.keep (QuG.keep (QuG.keep (QuG.keep (QuG.keep h.ho gx_10 ni0) gx_14 ni0) gx_22 ni1) gx_28 ni1) gx_34 ni1) gx_41 ni0) gx_49 ni1) gx_56 ni1) gx_67 ni0) gx_84 ni1) gx_92 ni1) gx_103 ni0) gx_120 ni1) gx_128 ni1) gx_132 ni0) gx_198 ni0)
      have hs_201 : SlE w_189 8 (some ⟨b_190, 0, none⟩) b_190 0 encP [(⟨(⟨m.kind, s.own, s.peer, s.view, (s.last + 1), (some ⟨b_72, 0, none⟩), b_72, 0, cap_73, (([]) ++ m.N), (some ⟨b_108, 0, none⟩), b_108, 0, cap_109, (([]) ++ m.W)⟩ : MsgR), false, 0⟩ : SndR)] := SlE.of_cells hk_199.1 encP_len (by rfl)
      refine wk_append_qu (M := ([(⟨(⟨m.kind, s.own, s.peer, s.view, (s.last + 1), (some ⟨b_72, 0, none⟩), b_72, 0, cap_73, (([]) ++ m.N), (some ⟨b_108, 0, none⟩), b_108, 0, cap_109, (([]) ++ m.W)⟩ : MsgR), false, 0⟩ : SndR)])) (L := s.out) (a := s.oa) (g := s.og) (off := s.oo) (cap := s.oc) (c := (k + 1)) (γ := γ_195) (ax := (some ⟨b_190, 0, none⟩)) (bx := b_190) (offx := 0) (cx := 1) (e := 71) (sz := 8) (by_ := 88) (opd 64 (.call ⟨.builtin .append, #[.tmp 60, .tmp 63], #[43, 43]⟩) 43) rfl (by kernel_rfl) (by kernel_rfl) encP_len (by kernel_rfl) (h_hn) hb_200 (by kernel_rfl) hs_201 (by simp) encP_one (by constructor <;> (first | omega | (simp only [List.length_singleton, List.length_nil]; omega))) (fun w_202 γ_203 a_204 g_205 off_206 cap_207 gx_208 hn_209 ho_210 hN_211 => ⟨?_, ?_⟩)
      · exact trivial
      have hsz_212 := gx_208.size
      refine wpn 65 (.tmp 56) ⟨p, 0, none⟩ ?_
      refine wpf 66 46 (.tmp 65) 3 p 0 3 3 ?_
      have hb_213 := (Bk.keep (Bk.keep hb_188 gx_198 ni0) gx_208 ni1)
      refine wk_store (b := p) (off := 3) (cs' := #[.int .i64 s.own, .int .i64 s.peer, .int .u32 s.view, .slice a_204 ((s.out ++ ([(⟨(⟨m.kind, s.own, s.peer, s.view, (s.last + 1), (some ⟨b_72, 0, none⟩), b_72, 0, cap_73, (([]) ++ m.N), (some ⟨b_108, 0, none⟩), b_108, 0, cap_109, (([]) ++ m.W)⟩ : MsgR), false, 0⟩ : SndR)])).length) cap_207, .int .u32 (s.last + 1), .int .u32 0, .int .u32 s.told, .slice s.ha s.held.length s.hc, .int .u32 s.come, .int .i64 s.now]) (vs := #[.slice a_204 ((s.out ++ ([(⟨(⟨m.kind, s.own, s.peer, s.view, (s.last + 1), (some ⟨b_72, 0, none⟩), b_72, 0, cap_73, (([]) ++ m.N), (some ⟨b_108, 0, none⟩), b_108, 0, cap_109, (([]) ++ m.W)⟩ : MsgR), false, 0⟩ : SndR)])).length) cap_207]) (opn (.store 43 (.tmp 66) (.tmp 64)) 0) rfl (by kernel_rfl) (by kernel_rfl) (by kernel_rfl) (by kernel_rfl) hb_213.1 (Nat.le_of_ble_eq_true rfl) (by kernel_rfl) (by kernel_rfl) (fun w_214 e_215 sz_216 hb_217 => ⟨?_, ?_⟩)
      · exact trivial
      have gx_218 : GX [k] w_202 γ_203 w_214 γ_203 := GX.ext1 e_215 hb_213.2 (fun _ _ => rfl)
      have hk_219 : Bk γ_203 w_214 p k (.cells #[.int .i64 s.own, .int .i64 s.peer, .int .u32 s.view, .slice a_204 ((s.out ++ ([(⟨(⟨m.kind, s.own, s.peer, s.view, (s.last + 1), (some ⟨b_72, 0, none⟩), b_72, 0, cap_73, (([]) ++ m.N), (some ⟨b_108, 0, none⟩), b_108, 0, cap_109, (([]) ++ m.W)⟩ : MsgR), false, 0⟩ : SndR)])).length) cap_207, .int .u32 (s.last + 1), .int .u32 0, .int .u32 s.told, .slice s.ha s.held.length s.hc, .int .u32 s.come, .int .i64 s.now] 46 (0, 0)) := ⟨hb_217, hb_213.2⟩
      refine wk_nil ?_
      refine wkP_nil ?_
      refine thn_n ?_
      refine g_seq (x := lX1N7_31) (y := lX1N7_32) (by kernel_rfl) ?_
      refine g_region (ops := lX1R7_11) (id := 11) (by kernel_rfl) [pu 0] (by kernel_rfl) (by kernel_rfl) ?_
      refine wpa 4 (.const (.int .i64 0)) 24 (.int .i64 0) ?_
      refine wk_nil ?_
      refine thn_n ?_
      refine g_ret (by kernel_rfl) ?_
      refine ends1_r (v := .int .i64 0) rfl (by kernel_rfl) ?_
      have hb_220 := (OwnG.keep (OwnG.keep (OwnG.keep (OwnG.keep (OwnG.keep (OwnG.keep (OwnG.keep (OwnG.keep hk_85 gx_92 ni1) gx_103 ni0) gx_120 ni1) gx_128 ni1) gx_132 ni0) gx_198 ni0) gx_208 ni1) gx_218 ni1)
      have hb_221 := (OwnG.keep (OwnG.keep (OwnG.keep (OwnG.keep (OwnG.keep hk_121 gx_128 ni1) gx_132 ni0) gx_198 ni0) gx_208 ni1) gx_218 ni1)
      obtain ⟨γ_222, hr_223, hr_224, hr_225⟩ := recls γ_203 w.heap.size 11602 0
      have gx_226 : GX [11602] w_214 γ_203 w_214 γ_222 := GX.re w_214 hr_224
      obtain ⟨γ_227, hr_228, hr_229, hr_230⟩ := recls γ_222 w.heap.size 11603 0
      have gx_231 : GX [11603] w_214 γ_222 w_214 γ_227 := GX.re w_214 hr_229
      have hb_232 := (MOk.keep (MOk.keep (MOk.keep (MOk.keep (MOk.keep (MOk.keep (MOk.keep (MOk.keep (MOk.keep (MOk.keep (MOk.keep (MOk.keep (MOk.keep (MOk.keep (MOk.keep hb_37 gx_41 ni0) gx_49 ni1) gx_56 ni1) gx_67 ni0) gx_84 ni1) gx_92 ni1) gx_103 ni0) gx_120 ni1) gx_128 ni1) gx_132 ni0) gx_198 ni0) gx_208 ni1) gx_218 ni1) gx_226 ni1) gx_231 ni1)
      have hm_ := hb_232
      have hsl_233 : SlG γ_227 w_214 0 1 (some ⟨b_72, 0, none⟩) b_72 0 encI (([]) ++ m.N) := (SlG.keep (OwnG.slg (OwnG.re hb_220 hr_225 (appNew hb_75 (.inr (by omega)) (by omega)))) gx_231 (by decide))
      have hsl_234 : SlG γ_227 w_214 0 2 (some ⟨b_108, 0, none⟩) b_108 0 encW (([]) ++ m.W) := (OwnG.slg (OwnG.re (OwnG.keep hb_221 gx_226 ni1) hr_230 (appNew hb_111 (.inr (by omega)) (by omega))))
      have hz_ : MOk γ_227 w_214 (⟨m.kind, s.own, s.peer, s.view, (s.last + 1), (some ⟨b_72, 0, none⟩), b_72, 0, cap_73, (([]) ++ m.N), (some ⟨b_108, 0, none⟩), b_108, 0, cap_109, (([]) ++ m.W)⟩ : MsgR) := ⟨hsl_233, hsl_234, h_b1, by show 0 ≤ s.last + 1 ∧ s.last + 1 < 4294967296; omega, hm_.nr, hm_.nl, hm_.wl⟩
      have hb_235 := (QuG.keep (QuG.keep (QuG.keep ho_210 gx_218 ni1) gx_226 ni1) gx_231 ni1)
      have hb_236 : OwNG γ_227 w_214 (k + 2) 50 7 s.ha s.hg s.hc encM s.held s.hrest := (OwNG.keep (OwNG.keep (OwNG.keep (OwNG.keep (OwNG.keep (OwNG.keep (OwNG.keep (OwNG.keep (OwNG.keep (OwNG.keep (OwNG.keep (OwNG.keep (OwNG.keep (OwNG.keep (OwNG.keep (OwNG.keep (OwNG.keep (OwNG.keep (OwNG.keep (OwNG.keep h.hh gx_10 ni0) gx_14 ni0) gx_22 ni1) gx_28 ni1) gx_34 ni1) gx_41 ni0) gx_49 ni1) gx_56 ni1) gx_67 ni0) gx_84 ni1) gx_92 ni1) gx_103 ni0) gx_120 ni1) gx_128 ni1) gx_132 ni0) gx_198 ni0) gx_208 ni1) gx_218 ni1) gx_226 ni1) gx_231 ni1)
      have hb_237 := (Bk.keep (Bk.keep hk_219 gx_226 ni1) gx_231 ni1)
      have hb_238 : AllOk γ_227 w_214 (s.out.map (·.m)) := (AllOk.keep (AllOk.keep (AllOk.keep (AllOk.keep (AllOk.keep (AllOk.keep (AllOk.keep (AllOk.keep (AllOk.keep (AllOk.keep (AllOk.keep (AllOk.keep (AllOk.keep (AllOk.keep (AllOk.keep (AllOk.keep (AllOk.keep (AllOk.keep (AllOk.keep (AllOk.keep h.ao gx_10 ni0) gx_14 ni0) gx_22 ni1) gx_28 ni1) gx_34 ni1) gx_41 ni0) gx_49 ni1) gx_56 ni1) gx_67 ni0) gx_84 ni1) gx_92 ni1) gx_103 ni0) gx_120 ni1) gx_128 ni1) gx_132 ni0) gx_198 ni0) gx_208 ni1) gx_218 ni1) gx_226 ni1) gx_231 ni1)
      have hb_239 : AllOk γ_227 w_214 s.held := (AllOk.keep (AllOk.keep (AllOk.keep (AllOk.keep (AllOk.keep (AllOk.keep (AllOk.keep (AllOk.keep (AllOk.keep (AllOk.keep (AllOk.keep (AllOk.keep (AllOk.keep (AllOk.keep (AllOk.keep (AllOk.keep (AllOk.keep (AllOk.keep (AllOk.keep (AllOk.keep h.ah gx_10 ni0) gx_14 ni0) gx_22 ni1) gx_28 ni1) gx_34 ni1) gx_41 ni0) gx_49 ni1) gx_56 ni1) gx_67 ni0) gx_84 ni1) gx_92 ni1) gx_103 ni0) gx_120 ni1) gx_128 ni1) gx_132 ni0) gx_198 ni0) gx_208 ni1) gx_218 ni1) gx_226 ni1) gx_231 ni1)
      exact h3 (by omega) (by omega) (by omega) _ _ (⟨m.kind, s.own, s.peer, s.view, (s.last + 1), (some ⟨b_72, 0, none⟩), b_72, 0, cap_73, (([]) ++ m.N), (some ⟨b_108, 0, none⟩), b_108, 0, cap_109, (([]) ++ m.W)⟩ : MsgR) (GX.thenRe (GX.thenRe (GX.trans (GX.trans (GX.then0 (GX.then_same (GX.thenNew (GX.thenNew (GX.then0 (GX.thenNew (GX.thenNew (GX.then0 (GX.thenNew (GX.trans (GX.trans (GX.thenNew (GX.thenNew (GX.thenNew (GX.then_same (GX.then0 (GX.refl [k, k + 1] _ _) e_3 hg_8) sm_13) e_19 (by intro y_ hy_; simp only [List.mem_cons, List.not_mem_nil, or_false] at hy_; omega) (fun _ _ => rfl)) e_25 (by intro y_ hy_; simp only [List.mem_cons, List.not_mem_nil, or_false] at hy_; omega) (fun _ _ => rfl)) e_31 (by intro y_ hy_; simp only [List.mem_cons, List.not_mem_nil, or_false] at hy_; omega) (fun _ _ => rfl)) gx_41 (fun _ h_ => absurd h_ List.not_mem_nil)) gx_49 (by intro c_ hc_; simp only [List.mem_cons, List.not_mem_nil, or_false] at hc_ ⊢; omega)) e_53 (by intro y_ hy_; simp only [List.mem_cons, List.not_mem_nil, or_false] at hy_; omega) (fun _ _ => rfl)) e_61 hg_65) e_76 (OwNG.newS (OwNG.of ⟨OwnE.of_cells (M := []) hk_68.1 encI_len (by kernel_rfl) (Nat.zero_le _), hk_68.2⟩) (by exact .inr (by omega))) hg_82) e_89 (by intro y_ hy_; simp only [List.mem_cons, List.not_mem_nil, or_false] at hy_; omega) (fun _ _ => rfl)) e_97 hg_101) e_112 (OwNG.newS (OwNG.of ⟨OwnE.of_cells (M := []) hk_104.1 encW_len (by kernel_rfl) (Nat.zero_le _), hk_104.2⟩) (by exact .inr (by omega))) hg_118) e_125 (by intro y_ hy_; simp only [List.mem_cons, List.not_mem_nil, or_false] at hy_; omega) (fun _ _ => rfl)) sm_131) e_192 hg_196) gx_208 (by intro c_ hc_; simp only [List.mem_cons, List.not_mem_nil, or_false] at hc_ ⊢; omega)) gx_218 (by intro c_ hc_; simp only [List.mem_cons, List.not_mem_nil, or_false] at hc_ ⊢; omega)) (fun b_ hb_ => hr_223 b_ (by omega))) (fun b_ hb_ => hr_228 b_ (by omega))) ⟨hb_237, hb_235, hb_236, (by rw [List.map_append]; exact AllOk.add hb_238 hz_), hb_239, (fun h_ => absurd h_ hn_209), h_b1, by show 0 ≤ s.last + 1 ∧ s.last + 1 < 4294967296; omega, h_b3, h_b4, h_b5, (by show (s.out ++ [_]).length ≤ 1024; rw [List.length_append, List.length_singleton]; omega), h_l2, (fun j_ hj_ => by rw [getD_app hj_]; split; exact h_l3 j_ ‹_›; exact ⟨Int.le_refl _, h_b5.1⟩)⟩ rfl
    refine wk_buildSlice (e := 71) (cs := #[.int .i64 m.kind, .int .i64 s.own, .int .i64 s.peer, .int .u32 s.view, .int .u32 (s.last + 1), .slice (some ⟨b_72, 0, none⟩) ((([]) ++ m.N).length) cap_73, .slice (some ⟨b_108, 0, none⟩) ((([]) ++ m.W).length) cap_109, .int .i64 (-1)]) (opd 63 (.buildSlice 43 1 #[(0, .tmp 62)]) 43) rfl (by kernel_rfl) (fun w_240 b_241 eq_242 e_243 sz_244 hb_245 => ⟨?_, ?_⟩)
    · exact trivial
    obtain ⟨γ_246, hg_247, hn_248⟩ := cls_new γ_117 w_130.heap.size 11606
    have gx_249 := GX.ext0 [] e_243 hg_247
    have hk_250 : Bk γ_246 w_240 b_241 11606 (.cells #[.int .i64 m.kind, .int .i64 s.own, .int .i64 s.peer, .int .u32 s.view, .int .u32 (s.last + 1), .slice (some ⟨b_72, 0, none⟩) ((([]) ++ m.N).length) cap_73, .slice (some ⟨b_108, 0, none⟩) ((([]) ++ m.W).length) cap_109, .int .i64 (-1)] 71 (0, 0)) := ⟨hb_245, hn_248 _ (by omega)⟩
    refine wk_nil ?_
    refine wkP_seq ?_
    have hb_251 := (Bk.keep (Bk.keep (Bk.keep (Bk.keep (Bk.keep (Bk.keep (Bk.keep (Bk.keep (Bk.keep hk_50 gx_56 ni1) gx_67 ni0) gx_84 ni1) gx_92 ni1) gx_103 ni0) gx_120 ni1) gx_128 ni1) gx_132 ni0) gx_249 ni0)
    refine wk_read (opd 60 (.load 43 (.tmp 59)) 43) rfl (.slice s.oa s.out.length s.oc) (fun w'_ g_ => x_load (b := p) (off := 3) (by kernel_rfl) (by kernel_rfl) (g_.keep hb_251.1) (by kernel_rfl)) ?_
    have hb_252 : QuG γ_246 w_240 (k + 1) 71 8 s.oa s.og s.oo s.oc encP s.out := (QuG.keep (QuG.keep (QuG.keep (QuG.keep (QuG.keep (QuG.keep (QuG.keep (QuG.keep (QuG.keep (QuG.keep (QuG.keep (QuG.keep (QuG.keep (QuG.keep (QuG.keep (QuG.keep h.ho gx_10 ni0) gx_14 ni0) gx_22 ni1) gx_28 ni1) gx_34 ni1) gx_41 ni0) gx_49 ni1) gx_56 ni1) gx_67 ni0) gx_84 ni1) gx_92 ni1) gx_103 ni0) gx_120 ni1) gx_128 ni1) gx_132 ni0) gx_249 ni0)
    have hs_253 : SlE w_240 8 (some ⟨b_241, 0, none⟩) b_241 0 encP [(⟨(⟨m.kind, s.own, s.peer, s.view, (s.last + 1), (some ⟨b_72, 0, none⟩), b_72, 0, cap_73, (([]) ++ m.N), (some ⟨b_108, 0, none⟩), b_108, 0, cap_109, (([]) ++ m.W)⟩ : MsgR), false, 0⟩ : SndR)] := SlE.of_cells hk_250.1 encP_len (by rfl)
    refine wk_append_qu (M := ([(⟨(⟨m.kind, s.own, s.peer, s.view, (s.last + 1), (some ⟨b_72, 0, none⟩), b_72, 0, cap_73, (([]) ++ m.N), (some ⟨b_108, 0, none⟩), b_108, 0, cap_109, (([]) ++ m.W)⟩ : MsgR), false, 0⟩ : SndR)])) (L := s.out) (a := s.oa) (g := s.og) (off := s.oo) (cap := s.oc) (c := (k + 1)) (γ := γ_246) (ax := (some ⟨b_241, 0, none⟩)) (bx := b_241) (offx := 0) (cx := 1) (e := 71) (sz := 8) (by_ := 88) (opd 64 (.call ⟨.builtin .append, #[.tmp 60, .tmp 63], #[43, 43]⟩) 43) rfl (by kernel_rfl) (by kernel_rfl) encP_len (by kernel_rfl) (h_hn) hb_252 (by kernel_rfl) hs_253 (by simp) encP_one (by constructor <;> (first | omega | (simp only [List.length_singleton, List.length_nil]; omega))) (fun w_254 γ_255 a_256 g_257 off_258 cap_259 gx_260 hn_261 ho_262 hN_263 => ⟨?_, ?_⟩)
    · exact trivial
    have hsz_264 := gx_260.size
    refine wpn 65 (.tmp 56) ⟨p, 0, none⟩ ?_
    refine wpf 66 46 (.tmp 65) 3 p 0 3 3 ?_
    have hb_265 := (Bk.keep hb_251 gx_260 ni1)
    refine wk_store (b := p) (off := 3) (cs' := #[.int .i64 s.own, .int .i64 s.peer, .int .u32 s.view, .slice a_256 ((s.out ++ ([(⟨(⟨m.kind, s.own, s.peer, s.view, (s.last + 1), (some ⟨b_72, 0, none⟩), b_72, 0, cap_73, (([]) ++ m.N), (some ⟨b_108, 0, none⟩), b_108, 0, cap_109, (([]) ++ m.W)⟩ : MsgR), false, 0⟩ : SndR)])).length) cap_259, .int .u32 (s.last + 1), .int .u32 0, .int .u32 s.told, .slice s.ha s.held.length s.hc, .int .u32 s.come, .int .i64 s.now]) (vs := #[.slice a_256 ((s.out ++ ([(⟨(⟨m.kind, s.own, s.peer, s.view, (s.last + 1), (some ⟨b_72, 0, none⟩), b_72, 0, cap_73, (([]) ++ m.N), (some ⟨b_108, 0, none⟩), b_108, 0, cap_109, (([]) ++ m.W)⟩ : MsgR), false, 0⟩ : SndR)])).length) cap_259]) (opn (.store 43 (.tmp 66) (.tmp 64)) 0) rfl (by kernel_rfl) (by kernel_rfl) (by kernel_rfl) (by kernel_rfl) hb_265.1 (Nat.le_of_ble_eq_true rfl) (by kernel_rfl) (by kernel_rfl) (fun w_266 e_267 sz_268 hb_269 => ⟨?_, ?_⟩)
    · exact trivial
    have gx_270 : GX [k] w_254 γ_255 w_266 γ_255 := GX.ext1 e_267 hb_265.2 (fun _ _ => rfl)
    have hk_271 : Bk γ_255 w_266 p k (.cells #[.int .i64 s.own, .int .i64 s.peer, .int .u32 s.view, .slice a_256 ((s.out ++ ([(⟨(⟨m.kind, s.own, s.peer, s.view, (s.last + 1), (some ⟨b_72, 0, none⟩), b_72, 0, cap_73, (([]) ++ m.N), (some ⟨b_108, 0, none⟩), b_108, 0, cap_109, (([]) ++ m.W)⟩ : MsgR), false, 0⟩ : SndR)])).length) cap_259, .int .u32 (s.last + 1), .int .u32 0, .int .u32 s.told, .slice s.ha s.held.length s.hc, .int .u32 s.come, .int .i64 s.now] 46 (0, 0)) := ⟨hb_269, hb_265.2⟩
    refine wk_nil ?_
    refine wkP_nil ?_
    refine thn_n ?_
    refine g_seq (x := lX1N7_31) (y := lX1N7_32) (by kernel_rfl) ?_
    refine g_region (ops := lX1R7_11) (id := 11) (by kernel_rfl) [pu 0] (by kernel_rfl) (by kernel_rfl) ?_
    refine wpa 4 (.const (.int .i64 0)) 24 (.int .i64 0) ?_
    refine wk_nil ?_
    refine thn_n ?_
    refine g_ret (by kernel_rfl) ?_
    refine ends1_r (v := .int .i64 0) rfl (by kernel_rfl) ?_
    have hb_272 := (OwnG.keep (OwnG.keep (OwnG.keep (OwnG.keep (OwnG.keep (OwnG.keep (OwnG.keep (OwnG.keep hk_85 gx_92 ni1) gx_103 ni0) gx_120 ni1) gx_128 ni1) gx_132 ni0) gx_249 ni0) gx_260 ni1) gx_270 ni1)
    have hb_273 := (OwnG.keep (OwnG.keep (OwnG.keep (OwnG.keep (OwnG.keep hk_121 gx_128 ni1) gx_132 ni0) gx_249 ni0) gx_260 ni1) gx_270 ni1)
    obtain ⟨γ_274, hr_275, hr_276, hr_277⟩ := recls γ_255 w.heap.size 11602 0
    have gx_278 : GX [11602] w_266 γ_255 w_266 γ_274 := GX.re w_266 hr_276
    obtain ⟨γ_279, hr_280, hr_281, hr_282⟩ := recls γ_274 w.heap.size 11603 0
    have gx_283 : GX [11603] w_266 γ_274 w_266 γ_279 := GX.re w_266 hr_281
    have hb_284 := (MOk.keep (MOk.keep (MOk.keep (MOk.keep (MOk.keep (MOk.keep (MOk.keep (MOk.keep (MOk.keep (MOk.keep (MOk.keep (MOk.keep (MOk.keep (MOk.keep (MOk.keep hb_37 gx_41 ni0) gx_49 ni1) gx_56 ni1) gx_67 ni0) gx_84 ni1) gx_92 ni1) gx_103 ni0) gx_120 ni1) gx_128 ni1) gx_132 ni0) gx_249 ni0) gx_260 ni1) gx_270 ni1) gx_278 ni1) gx_283 ni1)
    have hm_ := hb_284
    have hsl_285 : SlG γ_279 w_266 0 1 (some ⟨b_72, 0, none⟩) b_72 0 encI (([]) ++ m.N) := (SlG.keep (OwnG.slg (OwnG.re hb_272 hr_277 (appNew hb_75 (.inr (by omega)) (by omega)))) gx_283 (by decide))
    have hsl_286 : SlG γ_279 w_266 0 2 (some ⟨b_108, 0, none⟩) b_108 0 encW (([]) ++ m.W) := (OwnG.slg (OwnG.re (OwnG.keep hb_273 gx_278 ni1) hr_282 (appNew hb_111 (.inr (by omega)) (by omega))))
    have hz_ : MOk γ_279 w_266 (⟨m.kind, s.own, s.peer, s.view, (s.last + 1), (some ⟨b_72, 0, none⟩), b_72, 0, cap_73, (([]) ++ m.N), (some ⟨b_108, 0, none⟩), b_108, 0, cap_109, (([]) ++ m.W)⟩ : MsgR) := ⟨hsl_285, hsl_286, h_b1, by show 0 ≤ s.last + 1 ∧ s.last + 1 < 4294967296; omega, hm_.nr, hm_.nl, hm_.wl⟩
    have hb_287 := (QuG.keep (QuG.keep (QuG.keep ho_262 gx_270 ni1) gx_278 ni1) gx_283 ni1)
    have hb_288 : OwNG γ_279 w_266 (k + 2) 50 7 s.ha s.hg s.hc encM s.held s.hrest := (OwNG.keep (OwNG.keep (OwNG.keep (OwNG.keep (OwNG.keep (OwNG.keep (OwNG.keep (OwNG.keep (OwNG.keep (OwNG.keep (OwNG.keep (OwNG.keep (OwNG.keep (OwNG.keep (OwNG.keep (OwNG.keep (OwNG.keep (OwNG.keep (OwNG.keep (OwNG.keep h.hh gx_10 ni0) gx_14 ni0) gx_22 ni1) gx_28 ni1) gx_34 ni1) gx_41 ni0) gx_49 ni1) gx_56 ni1) gx_67 ni0) gx_84 ni1) gx_92 ni1) gx_103 ni0) gx_120 ni1) gx_128 ni1) gx_132 ni0) gx_249 ni0) gx_260 ni1) gx_270 ni1) gx_278 ni1) gx_283 ni1)
    have hb_289 := (Bk.keep (Bk.keep hk_271 gx_278 ni1) gx_283 ni1)
    have hb_290 : AllOk γ_279 w_266 (s.out.map (·.m)) := (AllOk.keep (AllOk.keep (AllOk.keep (AllOk.keep (AllOk.keep (AllOk.keep (AllOk.keep (AllOk.keep (AllOk.keep (AllOk.keep (AllOk.keep (AllOk.keep (AllOk.keep (AllOk.keep (AllOk.keep (AllOk.keep (AllOk.keep (AllOk.keep (AllOk.keep (AllOk.keep h.ao gx_10 ni0) gx_14 ni0) gx_22 ni1) gx_28 ni1) gx_34 ni1) gx_41 ni0) gx_49 ni1) gx_56 ni1) gx_67 ni0) gx_84 ni1) gx_92 ni1) gx_103 ni0) gx_120 ni1) gx_128 ni1) gx_132 ni0) gx_249 ni0) gx_260 ni1) gx_270 ni1) gx_278 ni1) gx_283 ni1)
    have hb_291 : AllOk γ_279 w_266 s.held := (AllOk.keep (AllOk.keep (AllOk.keep (AllOk.keep (AllOk.keep (AllOk.keep (AllOk.keep (AllOk.keep (AllOk.keep (AllOk.keep (AllOk.keep (AllOk.keep (AllOk.keep (AllOk.keep (AllOk.keep (AllOk.keep (AllOk.keep (AllOk.keep (AllOk.keep (AllOk.keep h.ah gx_10 ni0) gx_14 ni0) gx_22 ni1) gx_28 ni1) gx_34 ni1) gx_41 ni0) gx_49 ni1) gx_56 ni1) gx_67 ni0) gx_84 ni1) gx_92 ni1) gx_103 ni0) gx_120 ni1) gx_128 ni1) gx_132 ni0) gx_249 ni0) gx_260 ni1) gx_270 ni1) gx_278 ni1) gx_283 ni1)
    exact h3 (by omega) (by omega) (by omega) _ _ (⟨m.kind, s.own, s.peer, s.view, (s.last + 1), (some ⟨b_72, 0, none⟩), b_72, 0, cap_73, (([]) ++ m.N), (some ⟨b_108, 0, none⟩), b_108, 0, cap_109, (([]) ++ m.W)⟩ : MsgR) (GX.thenRe (GX.thenRe (GX.trans (GX.trans (GX.then0 (GX.then_same (GX.thenNew (GX.thenNew (GX.then0 (GX.thenNew (GX.thenNew (GX.then0 (GX.thenNew (GX.trans (GX.trans (GX.thenNew (GX.thenNew (GX.thenNew (GX.then_same (GX.then0 (GX.refl [k, k + 1] _ _) e_3 hg_8) sm_13) e_19 (by intro y_ hy_; simp only [List.mem_cons, List.not_mem_nil, or_false] at hy_; omega) (fun _ _ => rfl)) e_25 (by intro y_ hy_; simp only [List.mem_cons, List.not_mem_nil, or_false] at hy_; omega) (fun _ _ => rfl)) e_31 (by intro y_ hy_; simp only [List.mem_cons, List.not_mem_nil, or_false] at hy_; omega) (fun _ _ => rfl)) gx_41 (fun _ h_ => absurd h_ List.not_mem_nil)) gx_49 (by intro c_ hc_; simp only [List.mem_cons, List.not_mem_nil, or_false] at hc_ ⊢; omega)) e_53 (by intro y_ hy_; simp only [List.mem_cons, List.not_mem_nil, or_false] at hy_; omega) (fun _ _ => rfl)) e_61 hg_65) e_76 (OwNG.newS (OwNG.of ⟨OwnE.of_cells (M := []) hk_68.1 encI_len (by kernel_rfl) (Nat.zero_le _), hk_68.2⟩) (by exact .inr (by omega))) hg_82) e_89 (by intro y_ hy_; simp only [List.mem_cons, List.not_mem_nil, or_false] at hy_; omega) (fun _ _ => rfl)) e_97 hg_101) e_112 (OwNG.newS (OwNG.of ⟨OwnE.of_cells (M := []) hk_104.1 encW_len (by kernel_rfl) (Nat.zero_le _), hk_104.2⟩) (by exact .inr (by omega))) hg_118) e_125 (by intro y_ hy_; simp only [List.mem_cons, List.not_mem_nil, or_false] at hy_; omega) (fun _ _ => rfl)) sm_131) e_243 hg_247) gx_260 (by intro c_ hc_; simp only [List.mem_cons, List.not_mem_nil, or_false] at hc_ ⊢; omega)) gx_270 (by intro c_ hc_; simp only [List.mem_cons, List.not_mem_nil, or_false] at hc_ ⊢; omega)) (fun b_ hb_ => hr_275 b_ (by omega))) (fun b_ hb_ => hr_280 b_ (by omega))) ⟨hb_289, hb_287, hb_288, (by rw [List.map_append]; exact AllOk.add hb_290 hz_), hb_291, (fun h_ => absurd h_ hn_261), h_b1, by show 0 ≤ s.last + 1 ∧ s.last + 1 < 4294967296; omega, h_b3, h_b4, h_b5, (by show (s.out ++ [_]).length ≤ 1024; rw [List.length_append, List.length_singleton]; omega), h_l2, (fun j_ hj_ => by rw [getD_app hj_]; split; exact h_l3 j_ ‹_›; exact ⟨Int.le_refl _, h_b5.1⟩)⟩ rfl
  refine wk_call (opg 25 (.call ⟨.value (.func 32), #[.tmp 24], #[50]⟩) 4 3 false) (by kernel_rfl) 32 #[.agg #[.int .i64 m.kind, .int .i64 s.own, .int .i64 s.peer, .int .u32 s.view, .int .u32 m.seq, .slice m.na m.N.length m.nc, .slice m.wa m.W.length m.wc]] (x_call Try.func32 (by kernel_rfl) (c := (Try.f32.body).getD .skip) (by kernel_rfl) (by kernel_rfl) (by kernel_rfl)) (may_c (γ := γ_7) (m := (⟨m.kind, s.own, s.peer, s.view, m.seq, m.na, m.nb, m.noff, m.nc, m.N, m.wa, m.wb, m.woff, m.wc, m.W⟩ : MsgR)) (decide_eq_false h_38) (fun w_292 γ_293 gx_294 => ⟨?_, ?_⟩))
  · exact trivial
  have hsz_295 := gx_294.size
  refine wk_pure (opg 26 (.unOp .not 4 (.tmp 25)) 4 3 false) (by kernel_rfl) (.bool true) (fun _ => y_not (p := false) (by kernel_rfl) rfl) ?_
  refine wpk 27 (.tmp 23) (.const (.bool true)) (.tmp 26) 4 (.bool true) ?_
  refine wk_nil ?_
  refine thn_n ?_
  refine g_cond_t (o := .tmp 27) (x := lX1N7_9) (y := lX1N7_10) (by kernel_rfl) (by kernel_rfl) ?_
  refine g_seq (x := lX1N7_11) (y := lX1N7_12) (by kernel_rfl) ?_
  refine g_region (ops := lX1R7_3) (id := 3) (by kernel_rfl) [pu 0] (by kernel_rfl) (by kernel_rfl) ?_
  refine wpa 4 (.const (.int .i64 1)) 24 (.int .i64 1) ?_
  refine wk_nil ?_
  refine thn_n ?_
  refine g_ret (by kernel_rfl) ?_
  refine thn_r ?_
  refine ends1_r (v := .int .i64 1) rfl (by kernel_rfl) ?_
  exact h1 (by omega) _ _ (GX.trans (GX.thenNew (GX.thenNew (GX.thenNew (GX.then_same (GX.then0 (GX.refl [] _ _) e_3 hg_8) sm_13) e_19 (by intro y_ hy_; simp only [List.mem_cons, List.not_mem_nil, or_false] at hy_; omega) (fun _ _ => rfl)) e_25 (by intro y_ hy_; simp only [List.mem_cons, List.not_mem_nil, or_false] at hy_; omega) (fun _ _ => rfl)) e_31 (by intro y_ hy_; simp only [List.mem_cons, List.not_mem_nil, or_false] at hy_; omega) (fun _ _ => rfl)) gx_294 (fun _ h_ => absurd h_ List.not_mem_nil))

end Go.Proofs.Ytpcdldakilkldaa
