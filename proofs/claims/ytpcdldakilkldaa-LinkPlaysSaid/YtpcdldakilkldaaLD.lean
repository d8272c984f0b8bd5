/-
  Links: contracts of functions, step by step (D).
-/
import Derived.Test.YtpcdldakilkldaaLC
set_option linter.unusedSimpArgs false
set_option linter.unusedVariables false
namespace Go.Proofs.Ytpcdldakilkldaa
open Go Go.Wk

noncomputable def lDN1_0 : Code := (Try.f29.body).getD .skip
noncomputable def lDN1_1 : Code := s1 lDN1_0
noncomputable def lDN1_2 : Code := s2 lDN1_0
noncomputable def lDR1_0 : Array Oper := rops lDN1_1
noncomputable def lDN1_3 : Code := s1 lDN1_2
noncomputable def lDN1_4 : Code := s2 lDN1_2
noncomputable def lDR1_1 : Array Oper := rops lDN1_3
theorem answer_c {s : LkR} {k p : Nat} {w : World} {γ : Nat → Nat} (h : LinkAt γ w k p s) (hk : 10 ≤ k ∧ k ≤ 900)  {K : Value → World → Prop} (hK : ∀ w' γ' v (r : MsgR), GX [] w γ w' γ' → MsgsAt γ' w' v [r] → r.abs = ⟨1, s.own, s.peer, s.view, 0, [s.next - 1], []⟩ → K v w') : CallsV Try.prog 29 #[.pointer (some ⟨p, 0, none⟩)] w K := by
  refine callsV_of (c := lDN1_0) Try.func29 (by kernel_rfl) (n := 24) (by kernel_rfl) ?_
  have hp : Bk γ w p k (.cells #[.int .i64 s.own, .int .i64 s.peer, .int .u32 s.view, .int .i64 s.now, .slice s.oa s.out.length s.oc, .int .u32 s.pushed, .int .u32 s.told, .int .u32 s.next, .slice s.ha s.held.length s.hc] 61 (0, 0)) := h.hp
  have h_b1 := h.b1
  have h_b2 := h.b2
  have h_b3 := h.b3
  have h_b4 := h.b4
  have h_b5 := h.b5
  have h_l1 := h.l1
  have h_l2 := h.l2
  have h_l3 := h.l3
  have h_pl := hp.lt
  refine g_seq (x := lDN1_1) (y := lDN1_2) (by kernel_rfl) ?_
  refine g_region (ops := lDR1_0) (id := 0) (by kernel_rfl) [pu 0] (by kernel_rfl) (by kernel_rfl) ?_
  refine wpa 2 (.const (.slice none 0 0)) 33 (.slice none 0 0) ?_
  refine wk_nil ?_
  refine thn_n ?_
  refine g_seq (x := lDN1_3) (y := lDN1_4) (by kernel_rfl) ?_
  refine g_draw (ops := lDR1_1) (id := 1) (by kernel_rfl) (fun w w' => Grown w w') [pu 0, pu 1, pu 2, pu 4, pu 5, pu 6, pu 8, pu 9, pu 10, pu 12, pu 13, pu 14, (3, .stab), (7, .stab), (11, .stab), (15, .stab), pu 16, pu 17, lo 18, pu 19, lo 20, pu 21] (by kernel_rfl) (by kernel_rfl) (fun _ => Grown.refl _) (fun w_1 sm_2 => ?_)
  have gx_3 := GX.same [] γ sm_2
  have hsz_4 : w_1.heap.size = w.heap.size := by rw [sm_2.heap]
  refine wpm 3 (.tmp 0) 23 (.pointer (some ⟨p, 0, none⟩)) ?_
  refine wpn 4 (.tmp 3) ⟨p, 0, none⟩ ?_
  refine wpf 5 61 (.tmp 4) 0 p 0 0 0 ?_
  refine wpm 7 (.tmp 0) 23 (.pointer (some ⟨p, 0, none⟩)) ?_
  refine wpn 8 (.tmp 7) ⟨p, 0, none⟩ ?_
  refine wpf 9 61 (.tmp 8) 1 p 0 1 1 ?_
  refine wpm 11 (.tmp 0) 23 (.pointer (some ⟨p, 0, none⟩)) ?_
  refine wpn 12 (.tmp 11) ⟨p, 0, none⟩ ?_
  refine wpf 13 61 (.tmp 12) 2 p 0 2 2 ?_
  refine wpm 15 (.tmp 0) 23 (.pointer (some ⟨p, 0, none⟩)) ?_
  refine wpn 16 (.tmp 15) ⟨p, 0, none⟩ ?_
  refine wpf 17 61 (.tmp 16) 7 p 0 7 7 ?_
  refine wk_stab (opd 6 (.load 3 (.tmp 5)) 3) rfl (.int .i64 s.own) (fun w'_ g_ => x_load (b := p) (off := 0) (by kernel_rfl) (by kernel_rfl) (Grown.keep g_ (Bk.keep hp gx_3 ni0).1) (by kernel_rfl)) ?_
  refine wk_stab (opd 10 (.load 3 (.tmp 9)) 3) rfl (.int .i64 s.peer) (fun w'_ g_ => x_load (b := p) (off := 1) (by kernel_rfl) (by kernel_rfl) (Grown.keep g_ (Bk.keep hp gx_3 ni0).1) (by kernel_rfl)) ?_
  refine wk_stab (opd 14 (.load 27 (.tmp 13)) 27) rfl (.int .u32 s.view) (fun w'_ g_ => x_load (b := p) (off := 2) (by kernel_rfl) (by kernel_rfl) (Grown.keep g_ (Bk.keep hp gx_3 ni0).1) (by kernel_rfl)) ?_
  refine wk_stab (opd 18 (.load 27 (.tmp 17)) 27) rfl (.int .u32 s.next) (fun w'_ g_ => x_load (b := p) (off := 7) (by kernel_rfl) (by kernel_rfl) (Grown.keep g_ (Bk.keep hp gx_3 ni0).1) (by kernel_rfl)) ?_
  refine wk_pure (opd 19 (.convert 27 2 (.tmp 18)) 2) rfl (.int .i64 s.next) (fun _ => y_conv (q := .u32) (a := s.next) (by kernel_rfl) (by kernel_rfl) (by kernel_rfl) (i64_id (by omega))) ?_
  refine wk_pure (opd 20 (.binOp .sub 2 (.tmp 19) (.const (.int .i64 1)) 2) 2) rfl (.int .i64 (s.next - 1)) (fun _ => y_sub (k := .i64) (a := s.next) (b := 1) (by kernel_rfl) (by kernel_rfl) (i64_id (by omega))) ?_
  refine wk_buildSlice (e := 2) (cs := #[.int .i64 (s.next - 1)]) (opd 21 (.buildSlice 29 1 #[(0, .tmp 20)]) 29) rfl (by kernel_rfl) (fun w_5 b_6 eq_7 e_8 sz_9 hb_10 => ⟨?_, ?_⟩)
  · exact (Grown.trans (Grown.refl _) e_8.grown)
  obtain ⟨γ_11, hg_12, hn_13⟩ := cls_new γ w_1.heap.size 0
  have gx_14 := GX.ext0 [] e_8 hg_12
  have hk_15 : Bk γ_11 w_5 b_6 0 (.cells #[.int .i64 (s.next - 1)] 2 (0, 0)) := ⟨hb_10, hn_13 _ (by omega)⟩
  refine wk_pure (opd 22 (.build 32 #[(0, .const (.int .i64 1)), (1, .tmp 6), (2, .tmp 10), (3, .tmp 14), (5, .tmp 21)]) 32) rfl (.agg #[.int .i64 1, .int .i64 s.own, .int .i64 s.peer, .int .u32 s.view, .int .u32 0, .slice (some ⟨b_6, 0, none⟩) 1 1, .slice none 0 0]) (fun _ => x_build (by kernel_rfl)) ?_
  refine wk_buildSlice (e := 32) (cs := #[.int .i64 1, .int .i64 s.own, .int .i64 s.peer, .int .u32 s.view, .int .u32 0, .slice (some ⟨b_6, 0, none⟩) 1 1, .slice none 0 0]) (opd 23 (.buildSlice 33 1 #[(0, .tmp 22)]) 33) rfl (by kernel_rfl) (fun w_16 b_17 eq_18 e_19 sz_20 hb_21 => ⟨?_, ?_⟩)
  · exact (Grown.trans (Grown.trans (Grown.refl _) e_8.grown) e_19.grown)
  obtain ⟨γ_22, hg_23, hn_24⟩ := cls_new γ_11 w_5.heap.size 0
  have gx_25 := GX.ext0 [] e_19 hg_23
  have hk_26 : Bk γ_22 w_16 b_17 0 (.cells #[.int .i64 1, .int .i64 s.own, .int .i64 s.peer, .int .u32 s.view, .int .u32 0, .slice (some ⟨b_6, 0, none⟩) 1 1, .slice none 0 0] 32 (0, 0)) := ⟨hb_21, hn_24 _ (by omega)⟩
  refine wpa 2 (.tmp 23) 33 (.slice (some ⟨b_17, 0, none⟩) 1 1) ?_
  refine wk_nil ?_
  refine thn_n ?_
  refine g_ret (by kernel_rfl) ?_
  refine ends1_r (v := .slice (some ⟨b_17, 0, none⟩) 1 1) rfl (by kernel_rfl) ?_
  have hb_27 := (Bk.keep hk_15 gx_25 ni0)
  have hN_ : SlG γ_22 w_16 0 1 (some ⟨b_6, 0, none⟩) b_6 0 encI [s.next - 1] := ⟨SlE.of_cells hb_27.1 encI_len (by kernel_rfl), .inr ⟨Bk.lt hb_27, hb_27.2⟩⟩
  have hM_ : MOk γ_22 w_16 (⟨1, s.own, s.peer, s.view, 0, (some ⟨b_6, 0, none⟩), b_6, 0, 1, [(s.next - 1)], none, 0, 0, 0, []⟩ : MsgR) := ⟨hN_, SlG.nil _ _ _ _ _ _ _ _, h_b1, by simp, by intro i_; match i_ with | 0 => (show -9223372036854775808 ≤ s.next - 1 ∧ s.next - 1 ≤ 9223372036854775807; omega) | k_ + 1 => (show (-9223372036854775808 : Int) ≤ 0 ∧ (0 : Int) ≤ 9223372036854775807; omega), by simp, by simp⟩
  exact hK _ _ _ (⟨1, s.own, s.peer, s.view, 0, (some ⟨b_6, 0, none⟩), b_6, 0, 1, [(s.next - 1)], none, 0, 0, 0, []⟩ : MsgR) (GX.then0 (GX.then0 (GX.then_same (GX.refl [] _ _) sm_2) e_8 hg_12) e_19 hg_23) ⟨_, b_17, 0, _, rfl, ⟨SlE.of_cells hk_26.1 encM_len (by kernel_rfl), .inr ⟨Bk.lt hk_26, hk_26.2⟩⟩, (fun x_ hx_ => by rw [List.mem_singleton.1 hx_]; exact hM_)⟩ rfl

noncomputable def lDN2_0 : Code := (Try.f43.body).getD .skip
noncomputable def lDN2_1 : Code := s1 lDN2_0
noncomputable def lDN2_2 : Code := s2 lDN2_0
noncomputable def lDR2_0 : Array Oper := rops lDN2_1
noncomputable def lDN2_3 : Code := s1 lDN2_2
noncomputable def lDN2_4 : Code := s2 lDN2_2
noncomputable def lDR2_1 : Array Oper := rops lDN2_3
theorem findf_c {m : MsgR} {q cq : Nat} {seq : Int} {w : World} {γ : Nat → Nat} {t : Bool} (hq : Bk γ w q cq (.cells #[.int .u32 seq] 27 (0, 0))) (ht : decide (m.seq = seq) = t) {K : Value → World → Prop} (hK : ∀ w' γ', GX [] w γ w' γ' → K (.bool t) w') : CallsV Try.prog 43 #[.agg #[.int .i64 m.kind, .int .i64 m.frm, .int .i64 m.to, .int .u32 m.view, .int .u32 m.seq, .slice m.na m.N.length m.nc, .slice m.wa m.W.length m.wc], .pointer (some ⟨q, 0, none⟩)] w K := by
  refine callsV_of (c := lDN2_0) Try.func43 (by kernel_rfl) (n := 8) (by kernel_rfl) ?_
  have hql := hq.lt
  refine g_seq (x := lDN2_1) (y := lDN2_2) (by kernel_rfl) ?_
  refine g_region (ops := lDR2_0) (id := 0) (by kernel_rfl) [lo 0, pu 1] (by kernel_rfl) (by kernel_rfl) ?_
  refine wk_box (cs := #[.int .i64 m.kind, .int .i64 m.frm, .int .i64 m.to, .int .u32 m.view, .int .u32 m.seq, .slice m.na m.N.length m.nc, .slice m.wa m.W.length m.wc]) (opd 2 (.box 32 (.tmp 0)) 0) rfl (by kernel_rfl) (fun w_2 b_1 eq_4 e_3 sz_5 hb_6 => ⟨?_, ?_⟩)
  · exact trivial
  obtain ⟨γ_7, hg_8, hn_9⟩ := cls_new γ w.heap.size 14301
  have gx_10 := GX.ext0 [] e_3 hg_8
  have hk_11 : Bk γ_7 w_2 b_1 14301 (.cells #[.int .i64 m.kind, .int .i64 m.frm, .int .i64 m.to, .int .u32 m.view, .int .u32 m.seq, .slice m.na m.N.length m.nc, .slice m.wa m.W.length m.wc] 32 (0, 0)) := ⟨hb_6, hn_9 _ (by omega)⟩
  refine wpa 3 (.const (.bool false)) 4 (.bool false) ?_
  refine wk_nil ?_
  refine thn_n ?_
  refine g_seq (x := lDN2_3) (y := lDN2_4) (by kernel_rfl) ?_
  refine g_region (ops := lDR2_1) (id := 1) (by kernel_rfl) [pu 0, lo 1, lo 2, pu 3, pu 4] (by kernel_rfl) (by kernel_rfl) ?_
  refine wpf 4 32 (.tmp 2) 4 b_1 0 4 4 ?_
  refine wpl 5 27 (.tmp 4) (.int .u32 m.seq) b_1 4 hk_11.1 ?_
  have hb_12 : Bk γ_7 w_2 q cq (.cells #[.int .u32 seq] 27 (0, 0)) := (Bk.keep hq gx_10 ni0)
  refine wpl 6 27 (.tmp 1) (.int .u32 seq) q 0 hb_12.1 ?_
  by_cases h_13 : (m.seq : Int) = seq
  · refine wk_pure (opd 7 (.binOp .eql 27 (.tmp 5) (.tmp 6) 27) 4) rfl (.bool true) (fun _ => y_eql (k := .u32) (a := m.seq) (b := seq) (by kernel_rfl) (by kernel_rfl) (decide_eq_true h_13)) ?_
    refine wpa 3 (.tmp 7) 4 (.bool true) ?_
    refine wk_nil ?_
    refine thn_n ?_
    refine g_ret (by kernel_rfl) ?_
    refine ends1_r (v := .bool true) rfl (by kernel_rfl) ?_
    have e_ : true = t := by rw [← ht]; exact (decide_eq_true (by omega)).symm
    rw [e_]
    exact hK _ _ (GX.then0 (GX.refl [] _ _) e_3 hg_8)
  refine wk_pure (opd 7 (.binOp .eql 27 (.tmp 5) (.tmp 6) 27) 4) rfl (.bool false) (fun _ => y_eql (k := .u32) (a := m.seq) (b := seq) (by kernel_rfl) (by kernel_rfl) (decide_eq_false h_13)) ?_
  refine wpa 3 (.tmp 7) 4 (.bool false) ?_
  refine wk_nil ?_
  refine thn_n ?_
  refine g_ret (by kernel_rfl) ?_
  refine ends1_r (v := .bool false) rfl (by kernel_rfl) ?_
  have e_ : false = t := by rw [← ht]; exact (decide_eq_false (by omega)).symm
  rw [e_]
  exact hK _ _ (GX.then0 (GX.refl [] _ _) e_3 hg_8)

noncomputable def lDN3_0 : Code := (Try.f42.body).getD .skip
noncomputable def lDN3_1 : Code := s1 lDN3_0
noncomputable def lDN3_2 : Code := s2 lDN3_0
noncomputable def lDR3_0 : Array Oper := rops lDN3_1
noncomputable def lDN3_3 : Code := s1 lDN3_2
noncomputable def lDN3_4 : Code := s2 lDN3_2
noncomputable def lDN3_5 : Code := s1 lDN3_3
noncomputable def lDN3_6 : Code := s2 lDN3_3
noncomputable def lDR3_1 : Array Oper := rops lDN3_5
noncomputable def lDN3_7 : Code := s1 lDN3_6
noncomputable def lDN3_8 : Code := s1 lDN3_7
noncomputable def lDN3_9 : Code := s1 lDN3_8
noncomputable def lDN3_10 : Code := s2 lDN3_8
noncomputable def lDR3_2 : Array Oper := rops lDN3_9
noncomputable def lDN3_11 : Code := s1 lDN3_10
noncomputable def lDN3_12 : Code := s2 lDN3_10
noncomputable def lDN3_13 : Code := s1 lDN3_11
noncomputable def lDN3_14 : Code := s2 lDN3_11
noncomputable def lDN3_15 : Code := s1 lDN3_12
noncomputable def lDN3_16 : Code := s2 lDN3_12
noncomputable def lDN3_17 : Code := s1 lDN3_15
noncomputable def lDN3_18 : Code := s1 lDN3_17
noncomputable def lDN3_19 : Code := s2 lDN3_17
noncomputable def lDR3_3 : Array Oper := rops lDN3_18
noncomputable def lDN3_20 : Code := s1 lDN3_19
noncomputable def lDN3_21 : Code := s2 lDN3_19
noncomputable def lDR3_4 : Array Oper := rops lDN3_20
noncomputable def lDN3_22 : Code := s1 lDN3_21
noncomputable def lDN3_23 : Code := s2 lDN3_21
noncomputable def lDN3_24 : Code := s1 lDN3_22
noncomputable def lDN3_25 : Code := s2 lDN3_22
noncomputable def lDR3_5 : Array Oper := rops lDN3_24
noncomputable def lDR3_6 : Array Oper := rops lDN3_16
noncomputable def lDN3_26 : Code := s1 lDN3_4
noncomputable def lDN3_27 : Code := s2 lDN3_4
noncomputable def lDR3_7 : Array Oper := rops lDN3_26
theorem idxM_c {a : Option Addr} {b off c q cq cl : Nat} {L : List MsgR} {seq : Int} {w : World} {γ : Nat → Nat} (hs : SlG γ w cl 7 a b off encM L) (hl : L.length ≤ 1000000) (hq : Bk γ w q cq (.cells #[.int .u32 seq] 27 (0, 0))) {K : Value → World → Prop} (h1 : ∀ k, k < L.length → (L.getD k M0).seq = seq → (∀ j, j < k → (L.getD j M0).seq ≠ seq) → ∀ w' γ', GX [] w γ w' γ' → K (.int .i64 ((k : Nat) : Int)) w')
    (h2 : (∀ j, j < L.length → (L.getD j M0).seq ≠ seq) → ∀ w' γ', GX [] w γ w' γ' → K (.int .i64 (-1)) w') : CallsV Try.prog 42 #[.slice a L.length c, .func (.func 43) #[] #[.pointer (some ⟨q, 0, none⟩)]] w K := by
  refine callsV_of (c := lDN3_0) Try.func42 (by kernel_rfl) (n := 19) (by kernel_rfl) ?_
  have hql := hq.lt
  refine g_seq (x := lDN3_1) (y := lDN3_2) (by kernel_rfl) ?_
  refine g_region (ops := lDR3_0) (id := 0) (by kernel_rfl) [pu 0] (by kernel_rfl) (by kernel_rfl) ?_
  refine wpa 4 (.const (.int .i64 0)) 3 (.int .i64 0) ?_
  refine wk_nil ?_
  refine thn_n ?_
  refine g_seq (x := lDN3_3) (y := lDN3_4) (by kernel_rfl) ?_
  refine g_seq (x := lDN3_5) (y := lDN3_6) (by kernel_rfl) ?_
  refine g_region (ops := lDR3_1) (id := 1) (by kernel_rfl) [pu 0, pu 1, pu 2] (by kernel_rfl) (by kernel_rfl) ?_
  refine wpm 6 (.tmp 0) 33 (.slice a L.length c) ?_
  refine wk_pure (opd 7 (.call ⟨.builtin .len, #[.tmp 6], #[33]⟩) 3) rfl (.int .i64 ((L.length : Nat) : Int)) (fun _ => x_len (a := a) (n := L.length) (c := c) (by kernel_rfl) (by kernel_rfl)) ?_
  refine wpm 8 (.const (.int .i64 0)) 3 (.int .i64 0) ?_
  refine wk_nil ?_
  refine thn_n ?_
  refine g_block (x := lDN3_7) (id := 0) (by kernel_rfl) ?_
  refine g_loop (x := lDN3_8) (by kernel_rfl) (fun m_ ρ_ w_ => ∃ (k : Nat) (γ_ : Nat → Nat), m_ = L.length - k ∧ (k ≤ L.length) ∧ (∀ j, j < k → (L.getD j M0).seq ≠ seq) ∧ ρ_ 0 = .slice a L.length c ∧ ρ_ 1 = .func (.func 43) #[] #[.pointer (some ⟨q, 0, none⟩)] ∧ ρ_ 7 = .int .i64 ((L.length : Nat) : Int) ∧ ρ_ 8 = .int .i64 ((k : Nat) : Int) ∧ SlG γ_ w_ cl 7 a b off encM L ∧ Bk γ_ w_ q cq (.cells #[.int .u32 seq] 27 (0, 0)) ∧ GX [] w γ w_ γ_) (L.length - 0) ?_ ?_
  · exact ⟨0, _, rfl, by omega, by intro j hj; omega, (by kernel_rfl), (by kernel_rfl), (by kernel_rfl), (by kernel_rfl), hs, hq, (GX.refl [] _ _)⟩
  intro m_1 ρ_2 w_3 hI
  obtain ⟨k, γ_5, hm_m_1, hk, hne, f_6, f_7, f_8, f_9, hr_10, hr_11, hE_4⟩ := hI
  have hs_w_3 := hE_4.size
  refine g_seq (x := lDN3_9) (y := lDN3_10) (by kernel_rfl) ?_
  refine g_region (ops := lDR3_2) (id := 2) (by kernel_rfl) [pu 0] (by kernel_rfl) (by kernel_rfl) ?_
  by_cases h_12 : (((k : Nat) : Int) : Int) < ((L.length : Nat) : Int)
  · refine wk_pure (opd 9 (.binOp .lss 3 (.tmp 8) (.tmp 7) 3) 0) rfl (.bool true) (fun _ => y_lss (k := .i64) (a := ((k : Nat) : Int)) (b := ((L.length : Nat) : Int)) (Eq.trans (by kernel_rfl) f_9) (Eq.trans (by kernel_rfl) f_8) (decide_eq_true h_12)) ?_
    refine wk_nil ?_
    refine thn_n ?_
    refine g_seq (x := lDN3_11) (y := lDN3_12) (by kernel_rfl) ?_
    refine g_cond_t (o := .tmp 9) (x := lDN3_13) (y := lDN3_14) (by kernel_rfl) (by kernel_rfl) ?_
    refine g_skip (by kernel_rfl) ?_
    refine thn_n ?_
    refine g_seq (x := lDN3_15) (y := lDN3_16) (by kernel_rfl) ?_
    refine g_block (x := lDN3_17) (id := 1) (by kernel_rfl) ?_
    refine g_seq (x := lDN3_18) (y := lDN3_19) (by kernel_rfl) ?_
    refine g_region (ops := lDR3_3) (id := 3) (by kernel_rfl) [pu 0, pu 1] (by kernel_rfl) (by kernel_rfl) ?_
    refine wpm 10 (.tmp 8) 3 (.int .i64 ((k : Nat) : Int)) ?_ (Eq.trans (by kernel_rfl) f_9)
    refine wpa 5 (.tmp 10) 3 (.int .i64 ((k : Nat) : Int)) ?_
    refine wk_nil ?_
    refine thn_n ?_
    refine g_seq (x := lDN3_20) (y := lDN3_21) (by kernel_rfl) ?_
    refine g_region (ops := lDR3_4) (id := 4) (by kernel_rfl) [pu 0, pu 1, pu 2, pu 3, lo 4, lo 5] (by kernel_rfl) (by kernel_rfl) ?_
    refine wpm 11 (.tmp 1) 63 (.func (.func 43) #[] #[.pointer (some ⟨q, 0, none⟩)]) ?_ (Eq.trans (by kernel_rfl) f_7)
    refine wpm 12 (.tmp 0) 33 (.slice a L.length c) ?_ (Eq.trans (by kernel_rfl) f_6)
    refine wpm 13 (.tmp 5) 3 (.int .i64 ((k : Nat) : Int)) ?_
    refine wk_pure (opd 14 (.indexAddr 33 (.tmp 12) (.tmp 13)) 0) rfl (.pointer (some ⟨b, off + (k * 7 + 0), none⟩)) (fun _ => y_ptr (x_indexN (a := a) (b := b) (off := off) (n := L.length) (c := c) (k := .i64) (i := ((k : Nat) : Int)) (e := 32) (sz := 7) (sz' := 7) (by kernel_rfl) hr_10.1 (by kernel_rfl) (by kernel_rfl) rfl (by omega) _) (by omega)) ?_
    refine wk_val (opd 15 (.load 32 (.tmp 14)) 32) rfl (.agg #[.int .i64 ((L.getD k M0).kind), .int .i64 ((L.getD k M0).frm), .int .i64 ((L.getD k M0).to), .int .u32 ((L.getD k M0).view), .int .u32 ((L.getD k M0).seq), .slice ((L.getD k M0).na) ((L.getD k M0).N.length) ((L.getD k M0).nc), .slice ((L.getD k M0).wa) ((L.getD k M0).W.length) ((L.getD k M0).wc)]) (x_load_cs (b := b) (off := (off + (k * 7 + 0))) (n := 7) (vs := [.int .i64 ((L.getD k M0).kind), .int .i64 ((L.getD k M0).frm), .int .i64 ((L.getD k M0).to), .int .u32 ((L.getD k M0).view), .int .u32 ((L.getD k M0).seq), .slice ((L.getD k M0).na) ((L.getD k M0).N.length) ((L.getD k M0).nc), .slice ((L.getD k M0).wa) ((L.getD k M0).W.length) ((L.getD k M0).wc)]) (by kernel_rfl) (by kernel_rfl) rfl (SlE.getN hr_10.1 encM_len M0 k 0 (by omega) rfl)) trivial ?_
    by_cases h_13 : (L.getD k M0).seq = seq
    · refine wk_call (opd 16 (.call ⟨.value (.tmp 11), #[.tmp 15], #[32]⟩) 4) rfl 43 #[.agg #[.int .i64 ((L.getD k M0).kind), .int .i64 ((L.getD k M0).frm), .int .i64 ((L.getD k M0).to), .int .u32 ((L.getD k M0).view), .int .u32 ((L.getD k M0).seq), .slice ((L.getD k M0).na) ((L.getD k M0).N.length) ((L.getD k M0).nc), .slice ((L.getD k M0).wa) ((L.getD k M0).W.length) ((L.getD k M0).wc)], .pointer (some ⟨q, 0, none⟩)] (x_callv (first := #[]) (caps := #[.pointer (some ⟨q, 0, none⟩)]) Try.func43 (by kernel_rfl) (c := (Try.f43.body).getD .skip) (by kernel_rfl) (by kernel_rfl) (by kernel_rfl)) (findf_c (γ := γ_5) (m := (L.getD k M0)) hr_11 (decide_eq_true h_13) (fun w_14 γ_15 gx_16 => ⟨?_, ?_⟩))
      · exact trivial
      have hsz_17 := gx_16.size
      refine wk_nil ?_
      refine thn_n ?_
      refine g_cond_t (o := .tmp 16) (x := lDN3_22) (y := lDN3_23) (by kernel_rfl) (by kernel_rfl) ?_
      refine g_seq (x := lDN3_24) (y := lDN3_25) (by kernel_rfl) ?_
      refine g_region (ops := lDR3_5) (id := 5) (by kernel_rfl) [pu 0, pu 1] (by kernel_rfl) (by kernel_rfl) ?_
      refine wpm 17 (.tmp 5) 3 (.int .i64 ((k : Nat) : Int)) ?_
      refine wpa 4 (.tmp 17) 3 (.int .i64 ((k : Nat) : Int)) ?_
      refine wk_nil ?_
      refine thn_n ?_
      refine g_ret (by kernel_rfl) ?_
      refine blk_r ?_
      refine thn_r ?_
      refine thn_r ?_
      refine blk_r ?_
      refine thn_r ?_
      refine ends1_r (v := .int .i64 ((k : Nat) : Int)) rfl (by kernel_rfl) ?_
      exact h1 k (by omega) h_13 hne _ _ (GX.trans hE_4 gx_16 (fun _ h_ => absurd h_ List.not_mem_nil))
    refine wk_call (opd 16 (.call ⟨.value (.tmp 11), #[.tmp 15], #[32]⟩) 4) rfl 43 #[.agg #[.int .i64 ((L.getD k M0).kind), .int .i64 ((L.getD k M0).frm), .int .i64 ((L.getD k M0).to), .int .u32 ((L.getD k M0).view), .int .u32 ((L.getD k M0).seq), .slice ((L.getD k M0).na) ((L.getD k M0).N.length) ((L.getD k M0).nc), .slice ((L.getD k M0).wa) ((L.getD k M0).W.length) ((L.getD k M0).wc)], .pointer (some ⟨q, 0, none⟩)] (x_callv (first := #[]) (caps := #[.pointer (some ⟨q, 0, none⟩)]) Try.func43 (by kernel_rfl) (c := (Try.f43.body).getD .skip) (by kernel_rfl) (by kernel_rfl) (by kernel_rfl)) (findf_c (γ := γ_5) (m := (L.getD k M0)) hr_11 (decide_eq_false h_13) (fun w_18 γ_19 gx_20 => ⟨?_, ?_⟩))
    · exact trivial
    have hsz_21 := gx_20.size
    refine wk_nil ?_
    refine thn_n ?_
    refine g_cond_f (o := .tmp 16) (x := lDN3_22) (y := lDN3_23) (by kernel_rfl) (by kernel_rfl) ?_
    refine g_skip (by kernel_rfl) ?_
    refine blk_n ?_
    refine thn_n ?_
    refine g_region (ops := lDR3_6) (id := 6) (by kernel_rfl) [pu 0, pu 1] (by kernel_rfl) (by kernel_rfl) ?_
    refine wk_pure (opd 18 (.binOp .add 3 (.tmp 8) (.const (.int .i64 1)) 3) 3) rfl (.int .i64 ((k + 1 : Nat) : Int)) (fun _ => y_add (k := .i64) (a := ((k : Nat) : Int)) (b := 1) (Eq.trans (by kernel_rfl) f_9) (by kernel_rfl) (i64_to (by omega) (by omega))) ?_
    refine wpm 8 (.tmp 18) 3 (.int .i64 ((k + 1 : Nat) : Int)) ?_
    refine wk_nil ?_
    refine thn_n ?_
    have hb_22 := (SlG.keep hr_10 gx_20 ni0)
    have hb_23 := (Bk.keep hr_11 gx_20 ni0)
    exact ⟨_, (by omega), ⟨(k + 1), _, rfl, by omega, by intro j hj; rcases Nat.lt_succ_iff_lt_or_eq.1 hj with h_ | rfl; {exact hne j h_}; {exact h_13}, (Eq.trans (by kernel_rfl) f_6), (Eq.trans (by kernel_rfl) f_7), (Eq.trans (by kernel_rfl) f_8), (by kernel_rfl), hb_22, hb_23, (GX.trans hE_4 gx_20 (fun _ h_ => absurd h_ List.not_mem_nil))⟩⟩
  refine wk_pure (opd 9 (.binOp .lss 3 (.tmp 8) (.tmp 7) 3) 0) rfl (.bool false) (fun _ => y_lss (k := .i64) (a := ((k : Nat) : Int)) (b := ((L.length : Nat) : Int)) (Eq.trans (by kernel_rfl) f_9) (Eq.trans (by kernel_rfl) f_8) (decide_eq_false h_12)) ?_
  refine wk_nil ?_
  refine thn_n ?_
  refine g_seq (x := lDN3_11) (y := lDN3_12) (by kernel_rfl) ?_
  refine g_cond_f (o := .tmp 9) (x := lDN3_13) (y := lDN3_14) (by kernel_rfl) (by kernel_rfl) ?_
  refine g_exit (id := 0) (by kernel_rfl) ?_
  refine thn_e ?_
  refine thn_e ?_
  refine blk_hit ?_
  refine thn_n ?_
  refine g_seq (x := lDN3_26) (y := lDN3_27) (by kernel_rfl) ?_
  refine g_region (ops := lDR3_7) (id := 7) (by kernel_rfl) [pu 0] (by kernel_rfl) (by kernel_rfl) ?_
  refine wk_pure (opd 4 (.assign (.const (.int .i64 (-1)))) 3) rfl (.int .i64 (-1)) (fun _ => y_assign (by kernel_rfl)) ?_
  refine wk_nil ?_
  refine thn_n ?_
  refine g_ret (by kernel_rfl) ?_
  refine ends1_r (v := .int .i64 (-1)) rfl (by kernel_rfl) ?_
  exact h2 (fun j hj => hne j (by omega)) _ _ hE_4

noncomputable def lDN4_0 : Code := (Try.f28.body).getD .skip
noncomputable def lDN4_1 : Code := s1 lDN4_0
noncomputable def lDN4_2 : Code := s2 lDN4_0
noncomputable def lDR4_0 : Array Oper := rops lDN4_1
noncomputable def lDN4_3 : Code := s1 lDN4_2
noncomputable def lDN4_4 : Code := s2 lDN4_2
noncomputable def lDR4_1 : Array Oper := rops lDN4_3
theorem find_c {s : LkR} {k p : Nat} {w : World} {γ : Nat → Nat} (h : LinkAt γ w k p s) (hk : 10 ≤ k ∧ k ≤ 900) {seq : Int} {K : Value → World → Prop} (h1 : ∀ k, k < s.held.length → (s.held.getD k M0).seq = seq → (∀ j, j < k → (s.held.getD j M0).seq ≠ seq) → ∀ w' γ', GX [] w γ w' γ' → K (.int .i64 ((k : Nat) : Int)) w')
    (h2 : (∀ j, j < s.held.length → (s.held.getD j M0).seq ≠ seq) → ∀ w' γ', GX [] w γ w' γ' → K (.int .i64 (-1)) w') : CallsV Try.prog 28 #[.pointer (some ⟨p, 0, none⟩), .int .u32 seq] w K := by
  refine callsV_of (c := lDN4_0) Try.func28 (by kernel_rfl) (n := 11) (by kernel_rfl) ?_
  have hp : Bk γ w p k (.cells #[.int .i64 s.own, .int .i64 s.peer, .int .u32 s.view, .int .i64 s.now, .slice s.oa s.out.length s.oc, .int .u32 s.pushed, .int .u32 s.told, .int .u32 s.next, .slice s.ha s.held.length s.hc] 61 (0, 0)) := h.hp
  have h_b1 := h.b1
  have h_b2 := h.b2
  have h_b3 := h.b3
  have h_b4 := h.b4
  have h_b5 := h.b5
  have h_l1 := h.l1
  have h_l2 := h.l2
  have h_l3 := h.l3
  have h_pl := hp.lt
  refine g_seq (x := lDN4_1) (y := lDN4_2) (by kernel_rfl) ?_
  refine g_region (ops := lDR4_0) (id := 0) (by kernel_rfl) [lo 0, pu 1] (by kernel_rfl) (by kernel_rfl) ?_
  refine wk_box (cs := #[.int .u32 seq]) (opd 3 (.box 27 (.tmp 1)) 0) rfl (by kernel_rfl) (fun w_2 b_1 eq_4 e_3 sz_5 hb_6 => ⟨?_, ?_⟩)
  · exact trivial
  obtain ⟨γ_7, hg_8, hn_9⟩ := cls_new γ w.heap.size 12801
  have gx_10 := GX.ext0 [] e_3 hg_8
  have hk_11 : Bk γ_7 w_2 b_1 12801 (.cells #[.int .u32 seq] 27 (0, 0)) := ⟨hb_6, hn_9 _ (by omega)⟩
  refine wpa 4 (.const (.int .i64 0)) 3 (.int .i64 0) ?_
  refine wk_nil ?_
  refine thn_n ?_
  refine g_seq (x := lDN4_3) (y := lDN4_4) (by kernel_rfl) ?_
  refine g_region (ops := lDR4_1) (id := 1) (by kernel_rfl) [pu 0, pu 1, pu 2, lo 3, pu 4, lo 5, pu 6] (by kernel_rfl) (by kernel_rfl) ?_
  refine wpm 5 (.tmp 0) 23 (.pointer (some ⟨p, 0, none⟩)) ?_
  refine wpn 6 (.tmp 5) ⟨p, 0, none⟩ ?_
  refine wpf 7 61 (.tmp 6) 8 p 0 8 8 ?_
  have hb_12 : Bk γ_7 w_2 p k (.cells #[.int .i64 s.own, .int .i64 s.peer, .int .u32 s.view, .int .i64 s.now, .slice s.oa s.out.length s.oc, .int .u32 s.pushed, .int .u32 s.told, .int .u32 s.next, .slice s.ha s.held.length s.hc] 61 (0, 0)) := (Bk.keep hp gx_10 ni0)
  refine wpl 8 33 (.tmp 7) (.slice s.ha s.held.length s.hc) p 8 hb_12.1 ?_
  refine wk_pure (opd 9 (.makeFunc (.func 43) #[] #[.tmp 3]) 63) rfl (.func (.func 43) #[] #[.pointer (some ⟨b_1, 0, none⟩)]) (fun _ => y_makeFunc (fv := #[]) (cv := #[.pointer (some ⟨b_1, 0, none⟩)]) (by kernel_rfl) (by kernel_rfl)) ?_
  have hb_13 : OwNG γ_7 w_2 (k + 2) 32 7 s.ha s.hg s.hc encM s.held s.hrest := (OwNG.keep h.hh gx_10 ni0)
  refine wkc 10 42 #[.tmp 8, .tmp 9] #[33, 63] 3 #[.slice s.ha s.held.length s.hc, .func (.func 43) #[] #[.pointer (some ⟨b_1, 0, none⟩)]] Try.func42 (idxM_c (γ := γ_7) (q := b_1) (OwNG.slg hb_13) (by omega) hk_11 (fun k_14 hk_15 he_16 hn_17 w_18 γ_19 gx_20 => ⟨?_, ?_⟩) (fun hn_21 w_22 γ_23 gx_24 => ⟨?_, ?_⟩))
  · exact trivial
  · have hsz_25 := gx_20.size
    refine wpa 4 (.tmp 10) 3 (.int .i64 ((k_14 : Nat) : Int)) ?_
    refine wk_nil ?_
    refine thn_n ?_
    refine g_ret (by kernel_rfl) ?_
    refine ends1_r (v := .int .i64 ((k_14 : Nat) : Int)) rfl (by kernel_rfl) ?_
    exact h1 _ hk_15 he_16 hn_17 _ _ (GX.trans (GX.then0 (GX.refl [] _ _) e_3 hg_8) gx_20 (fun _ h_ => absurd h_ List.not_mem_nil))
  · exact trivial
  have hsz_26 := gx_24.size
  refine wpa 4 (.tmp 10) 3 (.int .i64 (-1)) ?_
  refine wk_nil ?_
  refine thn_n ?_
  refine g_ret (by kernel_rfl) ?_
  refine ends1_r (v := .int .i64 (-1)) rfl (by kernel_rfl) ?_
  exact h2 hn_21 _ _ (GX.trans (GX.then0 (GX.refl [] _ _) e_3 hg_8) gx_24 (fun _ h_ => absurd h_ List.not_mem_nil))

theorem flat_all {α : Type} {enc : α → List Value} (h1 : ∀ x, (enc x).all Value.oneCell' = true) (L : List α) : (flat enc L).all Value.oneCell' = true := by
  simp only [flat, List.all_flatMap, List.all_eq_true]
  exact fun x _ => List.all_eq_true.1 (h1 x)

noncomputable def lDN5_0 : Code := (Try.f44.body).getD .skip
noncomputable def lDN5_1 : Code := s1 lDN5_0
noncomputable def lDN5_2 : Code := s2 lDN5_0
noncomputable def lDR5_0 : Array Oper := rops lDN5_1
noncomputable def lDN5_3 : Code := s1 lDN5_2
noncomputable def lDN5_4 : Code := s2 lDN5_2
noncomputable def lDR5_1 : Array Oper := rops lDN5_3
noncomputable def lDN5_5 : Code := s1 lDN5_4
noncomputable def lDN5_6 : Code := s2 lDN5_4
noncomputable def lDN5_7 : Code := s1 lDN5_5
noncomputable def lDN5_8 : Code := s2 lDN5_5
noncomputable def lDR5_2 : Array Oper := rops lDN5_7
noncomputable def lDN5_9 : Code := s1 lDN5_8
noncomputable def lDN5_10 : Code := s2 lDN5_8
noncomputable def lDN5_11 : Code := s1 lDN5_6
noncomputable def lDN5_12 : Code := s2 lDN5_6
noncomputable def lDR5_4 : Array Oper := rops lDN5_11
noncomputable def lDN5_13 : Code := s1 lDN5_12
noncomputable def lDN5_14 : Code := s2 lDN5_12
noncomputable def lDR5_5 : Array Oper := rops lDN5_13
noncomputable def lDN5_15 : Code := s1 lDN5_14
noncomputable def lDN5_16 : Code := s2 lDN5_14
noncomputable def lDR5_6 : Array Oper := rops lDN5_15
noncomputable def lDN5_17 : Code := s1 lDN5_16
noncomputable def lDN5_18 : Code := s2 lDN5_16
noncomputable def lDR5_7 : Array Oper := rops lDN5_17
theorem delM_c {g cap i c : Nat} {L : List MsgR} {rest : List Value} {w : World} {γ : Nat → Nat} (hg : OwnG γ w c 32 7 g cap encM L rest) (hi : i < L.length) (hl : L.length ≤ 1000000) {K : Value → World → Prop} (hK : ∀ w' γ' rest', GX [c] w γ w' γ' → OwnG γ' w' c 32 7 g cap encM (L.eraseIdx i) rest' → K (.slice (some ⟨g, 0, none⟩) (L.eraseIdx i).length cap) w') : CallsV Try.prog 44 #[.slice (some ⟨g, 0, none⟩) L.length cap, .int .i64 ((i : Nat) : Int), .int .i64 ((i + 1 : Nat) : Int)] w K := by
  refine callsV_of (c := lDN5_0) Try.func44 (by kernel_rfl) (n := 33) (by kernel_rfl) ?_
  have hgl := hg.lt
  have hle := hg.1.le
  refine g_seq (x := lDN5_1) (y := lDN5_2) (by kernel_rfl) ?_
  refine g_region (ops := lDR5_0) (id := 0) (by kernel_rfl) [pu 0] (by kernel_rfl) (by kernel_rfl) ?_
  refine wpa 6 (.const (.slice none 0 0)) 33 (.slice none 0 0) ?_
  refine wk_nil ?_
  refine thn_n ?_
  refine g_seq (x := lDN5_3) (y := lDN5_4) (by kernel_rfl) ?_
  refine g_region (ops := lDR5_1) (id := 1) (by kernel_rfl) [pu 0, pu 1, pu 2, pu 3, pu 4, pu 5] (by kernel_rfl) (by kernel_rfl) ?_
  refine wpm 8 (.tmp 0) 33 (.slice (some ⟨g, 0, none⟩) L.length cap) ?_
  refine wpm 9 (.tmp 1) 3 (.int .i64 ((i : Nat) : Int)) ?_
  refine wpm 10 (.tmp 2) 3 (.int .i64 ((i + 1 : Nat) : Int)) ?_
  refine wpm 11 (.tmp 0) 33 (.slice (some ⟨g, 0, none⟩) L.length cap) ?_
  refine wk_pure (opd 12 (.call ⟨.builtin .len, #[.tmp 11], #[33]⟩) 3) rfl (.int .i64 ((L.length : Nat) : Int)) (fun _ => x_len (a := some ⟨g, 0, none⟩) (n := L.length) (c := cap) (by kernel_rfl) (by kernel_rfl)) ?_
  refine wk_pure (opd 13 (.slice 33 (.tmp 8) (some (.tmp 9)) (some (.tmp 10)) (some (.tmp 12))) 33) rfl (.slice (cutA (some ⟨g, 0, none⟩) L.length i 7) (i + 1 - i) (L.length - i)) (fun _ => x_cut3 (a := some ⟨g, 0, none⟩) (n := L.length) (c := cap) (sz := 7) (e := 32) (k := .i64) (q := .i64) (p := .i64) (li := ((i : Nat) : Int)) (hi' := ((i + 1 : Nat) : Int)) (mi := ((L.length : Nat) : Int)) (by kernel_rfl) (by kernel_rfl) (by kernel_rfl) (by kernel_rfl) (by kernel_rfl) rfl rfl rfl (by omega)) ?_
  refine wk_nil ?_
  refine thn_n ?_
  refine g_seq (x := lDN5_5) (y := lDN5_6) (by kernel_rfl) ?_
  refine g_seq (x := lDN5_7) (y := lDN5_8) (by kernel_rfl) ?_
  refine g_region (ops := lDR5_2) (id := 2) (by kernel_rfl) [pu 0, pu 1, pu 2] (by kernel_rfl) (by kernel_rfl) ?_
  refine wpm 14 (.tmp 1) 3 (.int .i64 ((i : Nat) : Int)) ?_
  refine wpm 15 (.tmp 2) 3 (.int .i64 ((i + 1 : Nat) : Int)) ?_
  refine wk_pure (opd 16 (.binOp .eql 3 (.tmp 14) (.tmp 15) 3) 4) rfl (.bool false) (fun _ => y_eql (k := .i64) (a := ((i : Nat) : Int)) (b := ((i + 1 : Nat) : Int)) (by kernel_rfl) (by kernel_rfl) (decide_eq_false (by omega))) ?_
  refine wk_nil ?_
  refine thn_n ?_
  refine g_cond_f (o := .tmp 16) (x := lDN5_9) (y := lDN5_10) (by kernel_rfl) (by kernel_rfl) ?_
  refine g_skip (by kernel_rfl) ?_
  refine thn_n ?_
  refine g_seq (x := lDN5_11) (y := lDN5_12) (by kernel_rfl) ?_
  refine g_region (ops := lDR5_4) (id := 4) (by kernel_rfl) [pu 0, pu 1, pu 2] (by kernel_rfl) (by kernel_rfl) ?_
  refine wpm 18 (.tmp 0) 33 (.slice (some ⟨g, 0, none⟩) L.length cap) ?_
  refine wk_pure (opd 19 (.call ⟨.builtin .len, #[.tmp 18], #[33]⟩) 3) rfl (.int .i64 ((L.length : Nat) : Int)) (fun _ => x_len (a := some ⟨g, 0, none⟩) (n := L.length) (c := cap) (by kernel_rfl) (by kernel_rfl)) ?_
  refine wpa 7 (.tmp 19) 3 (.int .i64 ((L.length : Nat) : Int)) ?_
  refine wk_nil ?_
  refine thn_n ?_
  refine g_seq (x := lDN5_13) (y := lDN5_14) (by kernel_rfl) ?_
  refine g_draw (ops := lDR5_5) (id := 5) (by kernel_rfl) (fun _ _ => True) [pu 0, pu 1, pu 2, pu 3, pu 4, pu 5, lo 6, pu 7] (by kernel_rfl) (by kernel_rfl) (fun _ => trivial) (fun w_1 sm_2 => ?_)
  have gx_3 := GX.same [] γ sm_2
  have hsz_4 : w_1.heap.size = w.heap.size := by rw [sm_2.heap]
  refine wpm 20 (.tmp 0) 33 (.slice (some ⟨g, 0, none⟩) L.length cap) ?_
  refine wpm 21 (.tmp 1) 3 (.int .i64 ((i : Nat) : Int)) ?_
  refine wk_pure (opd 22 (.slice 33 (.tmp 20) none (some (.tmp 21)) none) 33) rfl (.slice (some ⟨g, 0, none⟩) i cap) (fun _ => x_cutH0 (a := some ⟨g, 0, none⟩) (n := L.length) (c := cap) (sz := 7) (e := 32) (q := .i64) (hi' := ((i : Nat) : Int)) (h := i) (by kernel_rfl) (by kernel_rfl) (by kernel_rfl) rfl (by omega)) ?_
  refine wpm 23 (.tmp 0) 33 (.slice (some ⟨g, 0, none⟩) L.length cap) ?_
  refine wpm 24 (.tmp 2) 3 (.int .i64 ((i + 1 : Nat) : Int)) ?_
  refine wk_pure (opd 25 (.slice 33 (.tmp 23) (some (.tmp 24)) none none) 33) rfl (.slice (cutA (some ⟨g, 0, none⟩) cap (i + 1) 7) (L.drop (i + 1)).length (cap - (i + 1))) (fun _ => y_slice (x_cutL (a := some ⟨g, 0, none⟩) (n := L.length) (c := cap) (sz := 7) (e := 32) (k := .i64) (li := ((i + 1 : Nat) : Int)) (l := i + 1) (by kernel_rfl) (by kernel_rfl) (by kernel_rfl) rfl (by omega)) (by rw [List.length_drop])) ?_
  have hb_5 : OwnG γ w_1 c 32 7 g cap encM L rest := (OwnG.keep hg gx_3 ni0)
  have hcut : SlE w_1 7 (cutA (some ⟨g, 0, none⟩) cap (i + 1) 7) g (0 + (i + 1) * 7) encM ((L.drop (i + 1)).take (L.length - (i + 1))) := SlE.cut (Own.sl hb_5.1) encM_len cap (i + 1) (L.length - (i + 1)) (by omega) (by omega)
  rw [List.take_of_length_le (by rw [List.length_drop]; exact Nat.le_refl _)] at hcut
  refine wk_append_fit (xs := flat encM L ++ rest) (news := flat encM (L.drop (i + 1))) (n := i) (m := (L.drop (i + 1)).length) (c := cap) (cx := cap - (i + 1)) (ax := cutA (some ⟨g, 0, none⟩) cap (i + 1) 7) (by_ := 80) (g := g) (off := 0) (e := 32) (sz := 7) (opd 26 (.call ⟨.builtin .append, #[.tmp 22, .tmp 25], #[33, 33]⟩) 33) rfl (by kernel_rfl) (by kernel_rfl) hb_5.1.block (by kernel_rfl) hcut (by rw [List.length_drop]; omega) (by rw [List.length_append, flat_len encM_len, flat_len encM_len, List.length_drop]; omega) (flat_all encM_one _) (fun w_6 e_7 sz_8 hb_9 => ⟨?_, ?_⟩)
  · exact trivial
  have gx_10 : GX [c] w_1 γ w_6 γ := GX.ext1 e_7 hb_5.2 (fun _ _ => rfl)
  have hn1 : i + (L.drop (i + 1)).length = L.length - 1 := by rw [List.length_drop]; omega
  refine wpa 0 (.tmp 26) 33 (.slice (some ⟨g, 0, none⟩) (i + (L.drop (i + 1)).length) cap) ?_
  refine wk_nil ?_
  refine thn_n ?_
  refine g_seq (x := lDN5_15) (y := lDN5_16) (by kernel_rfl) ?_
  refine g_region (ops := lDR5_6) (id := 6) (by kernel_rfl) [pu 0, pu 1, pu 2, pu 3, pu 4, lo 5] (by kernel_rfl) (by kernel_rfl) ?_
  refine wpm 27 (.tmp 0) 33 (.slice (some ⟨g, 0, none⟩) (i + (L.drop (i + 1)).length) cap) ?_
  refine wpm 28 (.tmp 0) 33 (.slice (some ⟨g, 0, none⟩) (i + (L.drop (i + 1)).length) cap) ?_
  refine wk_pure (opd 29 (.call ⟨.builtin .len, #[.tmp 28], #[33]⟩) 3) rfl (.int .i64 ((i + (L.drop (i + 1)).length : Nat) : Int)) (fun _ => x_len (a := some ⟨g, 0, none⟩) (n := (i + (L.drop (i + 1)).length)) (c := cap) (by kernel_rfl) (by kernel_rfl)) ?_
  refine wpm 30 (.tmp 7) 3 (.int .i64 ((L.length : Nat) : Int)) ?_
  refine wk_pure (opd 31 (.slice 33 (.tmp 27) (some (.tmp 29)) (some (.tmp 30)) none) 33) rfl (.slice (cutA (some ⟨g, 0, none⟩) cap (L.length - 1) 7) 1 (cap - (L.length - 1))) (fun _ => y_slice (x_cut (li := ((i + (L.drop (i + 1)).length : Nat) : Int)) (hi' := ((L.length : Nat) : Int)) (a := some ⟨g, 0, none⟩) (c := cap) (sz := 7) (e := 32) (k := .i64) (q := .i64) (n := i + (L.drop (i + 1)).length) (l := L.length - 1) (h := L.length) (by kernel_rfl) (by kernel_rfl) (by kernel_rfl) (by kernel_rfl) (by omega) rfl (by omega)) (by omega)) ?_
  refine wk_clear (zs := [.int .i64 0, .int .i64 0, .int .i64 0, .int .u32 0, .int .u32 0, .slice none 0 0, .slice none 0 0]) (n := 1) (by_ := 80) (a := cutA (some ⟨g, 0, none⟩) cap (L.length - 1) 7) (c := cap - (L.length - 1)) (g := g) (off := (L.length - 1) * 7) (e := 32) (sz := 7) (opn (.call ⟨.builtin .clear, #[.tmp 31], #[33]⟩) 0) rfl (by kernel_rfl) (by kernel_rfl) rfl (by kernel_rfl) (fun _ => by unfold cutA; rw [if_neg (by omega)]; exact congrArg some (Addr.add_off g 0 _ |>.trans (by rw [Nat.zero_add]))) hb_9 (by simp only [List.length_append, List.length_take, List.length_drop, flat_len encM_len]; omega) (by kernel_rfl) (fun w_11 e_12 sz_13 hb_14 => ⟨?_, ?_⟩)
  · exact trivial
  have gx_15 : GX [c] w_6 γ w_11 γ := GX.ext1 e_12 (hb_5.2 : _) (fun _ _ => rfl)
  have ho_16 := OwnE.delete (w1 := w_11) hb_5.1 encM_len (i := i) (by omega) (zs := [.int .i64 0, .int .i64 0, .int .i64 0, .int .u32 0, .int .u32 0, .slice none 0 0, .slice none 0 0]) rfl (by rw [hb_14, ← del_cells encM_len L rest [.int .i64 0, .int .i64 0, .int .i64 0, .int .u32 0, .int .u32 0, .slice none 0 0, .slice none 0 0] i (by omega) rfl])
  refine wk_nil ?_
  refine thn_n ?_
  refine g_seq (x := lDN5_17) (y := lDN5_18) (by kernel_rfl) ?_
  refine g_region (ops := lDR5_7) (id := 7) (by kernel_rfl) [pu 0, pu 1] (by kernel_rfl) (by kernel_rfl) ?_
  refine wpm 32 (.tmp 0) 33 (.slice (some ⟨g, 0, none⟩) (i + (L.drop (i + 1)).length) cap) ?_
  refine wpa 6 (.tmp 32) 33 (.slice (some ⟨g, 0, none⟩) (i + (L.drop (i + 1)).length) cap) ?_
  refine wk_nil ?_
  refine thn_n ?_
  refine g_ret (by kernel_rfl) ?_
  refine ends1_r (v := .slice (some ⟨g, 0, none⟩) (i + (L.drop (i + 1)).length) cap) rfl (by kernel_rfl) ?_
  have hl_ : (L.eraseIdx i).length = L.length - 1 := List.length_eraseIdx_of_lt hi
  have hK_ := hK _ _ _ (GX.trans (GX.trans (GX.then_same (GX.refl [c] _ _) sm_2) gx_10 (fun _ h_ => h_)) gx_15 (fun _ h_ => h_)) ⟨ho_16, hb_5.2⟩
  exact (by rw [hl_] at hK_; rw [hn1]; exact hK_)

end Go.Proofs.Ytpcdldakilkldaa
