/-
  Links: contracts of functions, step by step (G).
-/
import Derived.Test.YtpcdldakilkldaaLF
set_option linter.unusedSimpArgs false
set_option linter.unusedVariables false
namespace Go.Proofs.Ytpcdldakilkldaa
open Go Go.Wk

noncomputable def lGN1_0 : Code := (Try.f41.body).getD .skip
noncomputable def lGN1_1 : Code := s1 lGN1_0
noncomputable def lGN1_2 : Code := s2 lGN1_0
noncomputable def lGR1_0 : Array Oper := rops lGN1_1
noncomputable def lGN1_3 : Code := s1 lGN1_2
noncomputable def lGN1_4 : Code := s2 lGN1_2
noncomputable def lGR1_1 : Array Oper := rops lGN1_3
theorem confirmf_c {x : SndR} {m : MsgR} {q cq cn : Nat} {w : World} {γ : Nat → Nat} {t : Bool} (hq : Bk γ w q cq (.cells #[.int .i64 m.kind, .int .i64 m.frm, .int .i64 m.to, .int .u32 m.view, .int .u32 m.seq, .slice m.na m.N.length m.nc, .slice m.wa m.W.length m.wc] 32 (0, 0))) (hN : SlG γ w cn 1 m.na m.nb m.noff encI m.N) (hl : m.N.length = 1) (hx : 0 ≤ x.m.seq ∧ x.m.seq < 4294967296) (ht : decide (x.m.seq ≤ m.N.getD 0 0) = t) {K : Value → World → Prop} (hK : ∀ w' γ', GX [] w γ w' γ' → K (.bool t) w') : CallsV Try.prog 41 #[.agg #[.int .i64 x.m.kind, .int .i64 x.m.frm, .int .i64 x.m.to, .int .u32 x.m.view, .int .u32 x.m.seq, .slice x.m.na x.m.N.length x.m.nc, .slice x.m.wa x.m.W.length x.m.wc, .bool x.sent, .int .i64 x.at_], .pointer (some ⟨q, 0, none⟩)] w K := by
  refine callsV_of (c := lGN1_0) Try.func41 (by kernel_rfl) (n := 13) (by kernel_rfl) ?_
  have hql := hq.lt
  refine g_seq (x := lGN1_1) (y := lGN1_2) (by kernel_rfl) ?_
  refine g_region (ops := lGR1_0) (id := 0) (by kernel_rfl) [lo 0, pu 1] (by kernel_rfl) (by kernel_rfl) ?_
  refine wk_box (cs := #[.int .i64 x.m.kind, .int .i64 x.m.frm, .int .i64 x.m.to, .int .u32 x.m.view, .int .u32 x.m.seq, .slice x.m.na x.m.N.length x.m.nc, .slice x.m.wa x.m.W.length x.m.wc, .bool x.sent, .int .i64 x.at_]) (opd 2 (.box 65 (.tmp 0)) 0) rfl (by kernel_rfl) (fun w_2 b_1 eq_4 e_3 sz_5 hb_6 => ⟨?_, ?_⟩)
  · exact trivial
  obtain ⟨γ_7, hg_8, hn_9⟩ := cls_new γ w.heap.size 14101
  have gx_10 := GX.ext0 [] e_3 hg_8
  have hk_11 : Bk γ_7 w_2 b_1 14101 (.cells #[.int .i64 x.m.kind, .int .i64 x.m.frm, .int .i64 x.m.to, .int .u32 x.m.view, .int .u32 x.m.seq, .slice x.m.na x.m.N.length x.m.nc, .slice x.m.wa x.m.W.length x.m.wc, .bool x.sent, .int .i64 x.at_] 65 (0, 0)) := ⟨hb_6, hn_9 _ (by omega)⟩
  refine wpa 3 (.const (.bool false)) 4 (.bool false) ?_
  refine wk_nil ?_
  refine thn_n ?_
  refine g_seq (x := lGN1_3) (y := lGN1_4) (by kernel_rfl) ?_
  refine g_draw (ops := lGR1_1) (id := 1) (by kernel_rfl) (fun _ _ => True) [pu 0, pu 1, pu 4, rd 2, pu 3, rd 5, pu 6, rd 7, pu 8, pu 9] (by kernel_rfl) (by kernel_rfl) (fun _ => trivial) (fun w_12 sm_13 => ?_)
  have gx_14 := GX.same [] γ_7 sm_13
  have hsz_15 : w_12.heap.size = w_2.heap.size := by rw [sm_13.heap]
  refine wpf 4 65 (.tmp 2) 0 b_1 0 0 0 ?_
  refine wpf 5 32 (.tmp 4) 4 b_1 0 4 4 ?_
  refine wpf 8 32 (.tmp 1) 5 q 0 5 5 ?_
  have hb_16 := (Bk.keep hk_11 gx_14 ni0)
  refine wk_read (opd 6 (.load 27 (.tmp 5)) 27) rfl (.int .u32 x.m.seq) (fun w'_ g_ => x_load (b := b_1) (off := 4) (by kernel_rfl) (by kernel_rfl) (g_.keep hb_16.1) (by kernel_rfl)) ?_
  refine wk_pure (opd 7 (.convert 27 2 (.tmp 6)) 2) rfl (.int .i64 x.m.seq) (fun _ => y_conv (q := .u32) (a := x.m.seq) (by kernel_rfl) (by kernel_rfl) (by kernel_rfl) (i64_id (by omega))) ?_
  have hb_17 : Bk γ_7 w_12 q cq (.cells #[.int .i64 m.kind, .int .i64 m.frm, .int .i64 m.to, .int .u32 m.view, .int .u32 m.seq, .slice m.na m.N.length m.nc, .slice m.wa m.W.length m.wc] 32 (0, 0)) := (Bk.keep (Bk.keep hq gx_10 ni0) gx_14 ni0)
  refine wk_read (opd 9 (.load 29 (.tmp 8)) 29) rfl (.slice m.na m.N.length m.nc) (fun w'_ g_ => x_load (b := q) (off := 5) (by kernel_rfl) (by kernel_rfl) (g_.keep hb_17.1) (by kernel_rfl)) ?_
  have hb_18 : SlG γ_7 w_12 cn 1 m.na m.nb m.noff encI m.N := (SlG.keep (SlG.keep hN gx_10 ni0) gx_14 ni0)
  refine wk_pure (opd 10 (.indexAddr 29 (.tmp 9) (.const (.int .i64 0))) 0) rfl (.pointer (some ⟨m.nb, m.noff + (0 * 1 + 0), none⟩)) (fun _ => y_ptr (x_indexN (a := m.na) (b := m.nb) (off := m.noff) (n := m.N.length) (c := m.nc) (k := .i64) (i := 0) (e := 2) (sz := 1) (sz' := 1) (by kernel_rfl) hb_18.1 (by kernel_rfl) (by kernel_rfl) rfl (by omega) _) (by omega)) ?_
  refine wk_read (opd 11 (.load 2 (.tmp 10)) 2) rfl (.int .i64 (m.N.getD 0 0)) (fun w'_ g_ => x_load_c (b := m.nb) (off := (m.noff + (0 * 1 + 0))) (by kernel_rfl) (by kernel_rfl) (SlE.get (g_.keepSl hb_18.1) encI_len 0 0 0 (by omega) rfl)) ?_
  by_cases h_19 : (x.m.seq : Int) ≤ (m.N.getD 0 0)
  · refine wk_pure (opd 12 (.binOp .leq 2 (.tmp 7) (.tmp 11) 2) 4) rfl (.bool true) (fun _ => y_leq (k := .i64) (a := x.m.seq) (b := (m.N.getD 0 0)) (by kernel_rfl) (by kernel_rfl) (decide_eq_true h_19)) ?_
    refine wpa 3 (.tmp 12) 4 (.bool true) ?_
    refine wk_nil ?_
    refine thn_n ?_
    refine g_ret (by kernel_rfl) ?_
    refine ends1_r (v := .bool true) rfl (by kernel_rfl) ?_
    have e_ : true = t := by rw [← ht]; exact (decide_eq_true (by omega)).symm
    rw [e_]
    exact hK _ _ (GX.then_same (GX.then0 (GX.refl [] _ _) e_3 hg_8) sm_13)
  refine wk_pure (opd 12 (.binOp .leq 2 (.tmp 7) (.tmp 11) 2) 4) rfl (.bool false) (fun _ => y_leq (k := .i64) (a := x.m.seq) (b := (m.N.getD 0 0)) (by kernel_rfl) (by kernel_rfl) (decide_eq_false h_19)) ?_
  refine wpa 3 (.tmp 12) 4 (.bool false) ?_
  refine wk_nil ?_
  refine thn_n ?_
  refine g_ret (by kernel_rfl) ?_
  refine ends1_r (v := .bool false) rfl (by kernel_rfl) ?_
  have e_ : false = t := by rw [← ht]; exact (decide_eq_false (by omega)).symm
  rw [e_]
  exact hK _ _ (GX.then_same (GX.then0 (GX.refl [] _ _) e_3 hg_8) sm_13)

noncomputable def lGN2_0 : Code := (Try.f47.body).getD .skip
noncomputable def lGN2_1 : Code := s1 lGN2_0
noncomputable def lGN2_2 : Code := s2 lGN2_0
noncomputable def lGR2_0 : Array Oper := rops lGN2_1
noncomputable def lGN2_3 : Code := s1 lGN2_2
noncomputable def lGN2_4 : Code := s2 lGN2_2
noncomputable def lGN2_5 : Code := s1 lGN2_3
noncomputable def lGN2_6 : Code := s2 lGN2_3
noncomputable def lGR2_1 : Array Oper := rops lGN2_5
noncomputable def lGN2_7 : Code := s1 lGN2_6
noncomputable def lGN2_8 : Code := s1 lGN2_7
noncomputable def lGN2_9 : Code := s1 lGN2_8
noncomputable def lGN2_10 : Code := s2 lGN2_8
noncomputable def lGR2_2 : Array Oper := rops lGN2_9
noncomputable def lGN2_11 : Code := s1 lGN2_10
noncomputable def lGN2_12 : Code := s2 lGN2_10
noncomputable def lGN2_13 : Code := s1 lGN2_11
noncomputable def lGN2_14 : Code := s2 lGN2_11
noncomputable def lGN2_15 : Code := s1 lGN2_12
noncomputable def lGN2_16 : Code := s2 lGN2_12
noncomputable def lGN2_17 : Code := s1 lGN2_15
noncomputable def lGN2_18 : Code := s1 lGN2_17
noncomputable def lGN2_19 : Code := s2 lGN2_17
noncomputable def lGR2_3 : Array Oper := rops lGN2_18
noncomputable def lGN2_20 : Code := s1 lGN2_19
noncomputable def lGN2_21 : Code := s2 lGN2_19
noncomputable def lGR2_4 : Array Oper := rops lGN2_20
noncomputable def lGN2_22 : Code := s1 lGN2_21
noncomputable def lGN2_23 : Code := s2 lGN2_21
noncomputable def lGN2_24 : Code := s1 lGN2_22
noncomputable def lGN2_25 : Code := s2 lGN2_22
noncomputable def lGR2_5 : Array Oper := rops lGN2_24
noncomputable def lGR2_6 : Array Oper := rops lGN2_16
noncomputable def lGN2_26 : Code := s1 lGN2_4
noncomputable def lGN2_27 : Code := s2 lGN2_4
noncomputable def lGR2_7 : Array Oper := rops lGN2_26
theorem idxS_c {L : List SndR} {m : MsgR} {q cq cn : Nat} {w : World} {γ : Nat → Nat} {a : Option Addr} {b off c cl : Nat} (hs : SlG γ w cl 9 a b off encS L) (hL : L.length ≤ 1024) (hsq : ∀ j, j < L.length → 0 ≤ (L.getD j S0).m.seq ∧ (L.getD j S0).m.seq < 4294967296) (hq : Bk γ w q cq (.cells #[.int .i64 m.kind, .int .i64 m.frm, .int .i64 m.to, .int .u32 m.view, .int .u32 m.seq, .slice m.na m.N.length m.nc, .slice m.wa m.W.length m.wc] 32 (0, 0))) (hN : SlG γ w cn 1 m.na m.nb m.noff encI m.N) (hl : m.N.length = 1) {K : Value → World → Prop} (h1 : ∀ k, k < L.length → (L.getD k S0).m.seq ≤ m.N.getD 0 0 → (∀ j, j < k → ¬ (L.getD j S0).m.seq ≤ m.N.getD 0 0) → ∀ w' γ', GX [] w γ w' γ' → K (.int .i64 ((k : Nat) : Int)) w')
    (h2 : (∀ j, j < L.length → ¬ (L.getD j S0).m.seq ≤ m.N.getD 0 0) → ∀ w' γ', GX [] w γ w' γ' → K (.int .i64 (-1)) w') : CallsV Try.prog 47 #[.slice a L.length c, .func (.func 41) #[] #[.pointer (some ⟨q, 0, none⟩)]] w K := by
  refine callsV_of (c := lGN2_0) Try.func47 (by kernel_rfl) (n := 19) (by kernel_rfl) ?_
  have hql := hq.lt
  refine g_seq (x := lGN2_1) (y := lGN2_2) (by kernel_rfl) ?_
  refine g_region (ops := lGR2_0) (id := 0) (by kernel_rfl) [pu 0] (by kernel_rfl) (by kernel_rfl) ?_
  refine wpa 4 (.const (.int .i64 0)) 3 (.int .i64 0) ?_
  refine wk_nil ?_
  refine thn_n ?_
  refine g_seq (x := lGN2_3) (y := lGN2_4) (by kernel_rfl) ?_
  refine g_seq (x := lGN2_5) (y := lGN2_6) (by kernel_rfl) ?_
  refine g_region (ops := lGR2_1) (id := 1) (by kernel_rfl) [pu 0, pu 1, pu 2] (by kernel_rfl) (by kernel_rfl) ?_
  refine wpm 6 (.tmp 0) 59 (.slice a L.length c) ?_
  refine wk_pure (opd 7 (.call ⟨.builtin .len, #[.tmp 6], #[59]⟩) 3) rfl (.int .i64 ((L.length : Nat) : Int)) (fun _ => x_len (a := a) (n := L.length) (c := c) (by kernel_rfl) (by kernel_rfl)) ?_
  refine wpm 8 (.const (.int .i64 0)) 3 (.int .i64 0) ?_
  refine wk_nil ?_
  refine thn_n ?_
  refine g_block (x := lGN2_7) (id := 0) (by kernel_rfl) ?_
  refine g_loop (x := lGN2_8) (by kernel_rfl) (fun m_ ρ_ w_ => ∃ (k : Nat) (γ_ : Nat → Nat), m_ = L.length - k ∧ (k ≤ L.length) ∧ (∀ j, j < k → ¬ (L.getD j S0).m.seq ≤ m.N.getD 0 0) ∧ ρ_ 0 = .slice a L.length c ∧ ρ_ 1 = .func (.func 41) #[] #[.pointer (some ⟨q, 0, none⟩)] ∧ ρ_ 7 = .int .i64 ((L.length : Nat) : Int) ∧ ρ_ 8 = .int .i64 ((k : Nat) : Int) ∧ SlG γ_ w_ cl 9 a b off encS L ∧ Bk γ_ w_ q cq (.cells #[.int .i64 m.kind, .int .i64 m.frm, .int .i64 m.to, .int .u32 m.view, .int .u32 m.seq, .slice m.na m.N.length m.nc, .slice m.wa m.W.length m.wc] 32 (0, 0)) ∧ SlG γ_ w_ cn 1 m.na m.nb m.noff encI m.N ∧ GX [] w γ w_ γ_) (L.length - 0) ?_ ?_
  · exact ⟨0, _, rfl, by omega, by intro j hj; omega, (by kernel_rfl), (by kernel_rfl), (by kernel_rfl), (by kernel_rfl), hs, hq, hN, (GX.refl [] _ _)⟩
  intro m_1 ρ_2 w_3 hI
  obtain ⟨k, γ_5, hm_m_1, hk, hne, f_6, f_7, f_8, f_9, hr_10, hr_11, hr_12, hE_4⟩ := hI
  have hs_w_3 := hE_4.size
  refine g_seq (x := lGN2_9) (y := lGN2_10) (by kernel_rfl) ?_
  refine g_region (ops := lGR2_2) (id := 2) (by kernel_rfl) [pu 0] (by kernel_rfl) (by kernel_rfl) ?_
  by_cases h_13 : (((k : Nat) : Int) : Int) < ((L.length : Nat) : Int)
  · refine wk_pure (opd 9 (.binOp .lss 3 (.tmp 8) (.tmp 7) 3) 0) rfl (.bool true) (fun _ => y_lss (k := .i64) (a := ((k : Nat) : Int)) (b := ((L.length : Nat) : Int)) (Eq.trans (by kernel_rfl) f_9) (Eq.trans (by kernel_rfl) f_8) (decide_eq_true h_13)) ?_
    refine wk_nil ?_
    refine thn_n ?_
    refine g_seq (x := lGN2_11) (y := lGN2_12) (by kernel_rfl) ?_
    refine g_cond_t (o := .tmp 9) (x := lGN2_13) (y := lGN2_14) (by kernel_rfl) (by kernel_rfl) ?_
    refine g_skip (by kernel_rfl) ?_
    refine thn_n ?_
    refine g_seq (x := lGN2_15) (y := lGN2_16) (by kernel_rfl) ?_
    refine g_block (x := lGN2_17) (id := 1) (by kernel_rfl) ?_
    refine g_seq (x := lGN2_18) (y := lGN2_19) (by kernel_rfl) ?_
    refine g_region (ops := lGR2_3) (id := 3) (by kernel_rfl) [pu 0, pu 1] (by kernel_rfl) (by kernel_rfl) ?_
    refine wpm 10 (.tmp 8) 3 (.int .i64 ((k : Nat) : Int)) ?_ (Eq.trans (by kernel_rfl) f_9)
    refine wpa 5 (.tmp 10) 3 (.int .i64 ((k : Nat) : Int)) ?_
    refine wk_nil ?_
    refine thn_n ?_
    refine g_seq (x := lGN2_20) (y := lGN2_21) (by kernel_rfl) ?_
    refine g_region (ops := lGR2_4) (id := 4) (by kernel_rfl) [pu 0, pu 1, pu 2, pu 3, lo 4, lo 5] (by kernel_rfl) (by kernel_rfl) ?_
    refine wpm 11 (.tmp 1) 86 (.func (.func 41) #[] #[.pointer (some ⟨q, 0, none⟩)]) ?_ (Eq.trans (by kernel_rfl) f_7)
    refine wpm 12 (.tmp 0) 59 (.slice a L.length c) ?_ (Eq.trans (by kernel_rfl) f_6)
    refine wpm 13 (.tmp 5) 3 (.int .i64 ((k : Nat) : Int)) ?_
    refine wk_pure (opd 14 (.indexAddr 59 (.tmp 12) (.tmp 13)) 0) rfl (.pointer (some ⟨b, off + (k * 9 + 0), none⟩)) (fun _ => y_ptr (x_indexN (a := a) (b := b) (off := off) (n := L.length) (c := c) (k := .i64) (i := ((k : Nat) : Int)) (e := 65) (sz := 9) (sz' := 9) (by kernel_rfl) hr_10.1 (by kernel_rfl) (by kernel_rfl) rfl (by omega) _) (by omega)) ?_
    refine wk_val (opd 15 (.load 65 (.tmp 14)) 65) rfl (.agg #[.int .i64 ((L.getD k S0).m.kind), .int .i64 ((L.getD k S0).m.frm), .int .i64 ((L.getD k S0).m.to), .int .u32 ((L.getD k S0).m.view), .int .u32 ((L.getD k S0).m.seq), .slice ((L.getD k S0).m.na) ((L.getD k S0).m.N.length) ((L.getD k S0).m.nc), .slice ((L.getD k S0).m.wa) ((L.getD k S0).m.W.length) ((L.getD k S0).m.wc), .bool ((L.getD k S0).sent), .int .i64 ((L.getD k S0).at_)]) (x_load_cs (b := b) (off := (off + (k * 9 + 0))) (n := 9) (vs := [.int .i64 ((L.getD k S0).m.kind), .int .i64 ((L.getD k S0).m.frm), .int .i64 ((L.getD k S0).m.to), .int .u32 ((L.getD k S0).m.view), .int .u32 ((L.getD k S0).m.seq), .slice ((L.getD k S0).m.na) ((L.getD k S0).m.N.length) ((L.getD k S0).m.nc), .slice ((L.getD k S0).m.wa) ((L.getD k S0).m.W.length) ((L.getD k S0).m.wc), .bool ((L.getD k S0).sent), .int .i64 ((L.getD k S0).at_)]) (by kernel_rfl) (by kernel_rfl) rfl (SlE.getN hr_10.1 encS_len S0 k 0 (by omega) rfl)) trivial ?_
    by_cases h_14 : (L.getD k S0).m.seq ≤ m.N.getD 0 0
    · refine wk_call (opd 16 (.call ⟨.value (.tmp 11), #[.tmp 15], #[65]⟩) 4) rfl 41 #[.agg #[.int .i64 ((L.getD k S0).m.kind), .int .i64 ((L.getD k S0).m.frm), .int .i64 ((L.getD k S0).m.to), .int .u32 ((L.getD k S0).m.view), .int .u32 ((L.getD k S0).m.seq), .slice ((L.getD k S0).m.na) ((L.getD k S0).m.N.length) ((L.getD k S0).m.nc), .slice ((L.getD k S0).m.wa) ((L.getD k S0).m.W.length) ((L.getD k S0).m.wc), .bool ((L.getD k S0).sent), .int .i64 ((L.getD k S0).at_)], .pointer (some ⟨q, 0, none⟩)] (x_callv (first := #[]) (caps := #[.pointer (some ⟨q, 0, none⟩)]) Try.func41 (by kernel_rfl) (c := (Try.f41.body).getD .skip) (by kernel_rfl) (by kernel_rfl) (by kernel_rfl)) (confirmf_c (γ := γ_5) (x := (L.getD k S0)) (m := m) hr_11 hr_12 hl (hsq k (by omega)) (decide_eq_true h_14) (fun w_15 γ_16 gx_17 => ⟨?_, ?_⟩))
      · exact trivial
      have hsz_18 := gx_17.size
      refine wk_nil ?_
      refine thn_n ?_
      refine g_cond_t (o := .tmp 16) (x := lGN2_22) (y := lGN2_23) (by kernel_rfl) (by kernel_rfl) ?_
      refine g_seq (x := lGN2_24) (y := lGN2_25) (by kernel_rfl) ?_
      refine g_region (ops := lGR2_5) (id := 5) (by kernel_rfl) [pu 0, pu 1] (by kernel_rfl) (by kernel_rfl) ?_
      refine wpm 17 (.tmp 5) 3 (.int .i64 ((k : Nat) : Int)) ?_
      refine wpa 4 (.tmp 17) 3 (.int .i64 ((k : Nat) : Int)) ?_
      refine wk_nil ?_
      refine thn_n ?_
      refine g_ret (by kernel_rfl) ?_
      refine blk_r ?_
      refine thn_r ?_
      refine thn_r ?_
      refine blk_r ?_
      refine thn_r ?_
      refine ends1_r (v := .int .i64 ((k : Nat) : Int)) rfl (by kernel_rfl) ?_
      exact h1 k (by omega) h_14 hne _ _ (GX.trans hE_4 gx_17 (fun _ h_ => absurd h_ List.not_mem_nil))
    refine wk_call (opd 16 (.call ⟨.value (.tmp 11), #[.tmp 15], #[65]⟩) 4) rfl 41 #[.agg #[.int .i64 ((L.getD k S0).m.kind), .int .i64 ((L.getD k S0).m.frm), .int .i64 ((L.getD k S0).m.to), .int .u32 ((L.getD k S0).m.view), .int .u32 ((L.getD k S0).m.seq), .slice ((L.getD k S0).m.na) ((L.getD k S0).m.N.length) ((L.getD k S0).m.nc), .slice ((L.getD k S0).m.wa) ((L.getD k S0).m.W.length) ((L.getD k S0).m.wc), .bool ((L.getD k S0).sent), .int .i64 ((L.getD k S0).at_)], .pointer (some ⟨q, 0, none⟩)] (x_callv (first := #[]) (caps := #[.pointer (some ⟨q, 0, none⟩)]) Try.func41 (by kernel_rfl) (c := (Try.f41.body).getD .skip) (by kernel_rfl) (by kernel_rfl) (by kernel_rfl)) (confirmf_c (γ := γ_5) (x := (L.getD k S0)) (m := m) hr_11 hr_12 hl (hsq k (by omega)) (decide_eq_false h_14) (fun w_19 γ_20 gx_21 => ⟨?_, ?_⟩))
    · exact trivial
    have hsz_22 := gx_21.size
    refine wk_nil ?_
    refine thn_n ?_
    refine g_cond_f (o := .tmp 16) (x := lGN2_22) (y := lGN2_23) (by kernel_rfl) (by kernel_rfl) ?_
    refine g_skip (by kernel_rfl) ?_
    refine blk_n ?_
    refine thn_n ?_
    refine g_region (ops := lGR2_6) (id := 6) (by kernel_rfl) [pu 0, pu 1] (by kernel_rfl) (by kernel_rfl) ?_
    refine wk_pure (opd 18 (.binOp .add 3 (.tmp 8) (.const (.int .i64 1)) 3) 3) rfl (.int .i64 ((k + 1 : Nat) : Int)) (fun _ => y_add (k := .i64) (a := ((k : Nat) : Int)) (b := 1) (Eq.trans (by kernel_rfl) f_9) (by kernel_rfl) (i64_to (by omega) (by omega))) ?_
    refine wpm 8 (.tmp 18) 3 (.int .i64 ((k + 1 : Nat) : Int)) ?_
    refine wk_nil ?_
    refine thn_n ?_
    have hb_23 := (SlG.keep hr_10 gx_21 ni0)
    have hb_24 := (Bk.keep hr_11 gx_21 ni0)
    have hb_25 := (SlG.keep hr_12 gx_21 ni0)
    exact ⟨_, (by omega), ⟨(k + 1), _, rfl, by omega, by intro j hj; rcases Nat.lt_succ_iff_lt_or_eq.1 hj with h_ | rfl; {exact hne j h_}; {exact h_14}, (Eq.trans (by kernel_rfl) f_6), (Eq.trans (by kernel_rfl) f_7), (Eq.trans (by kernel_rfl) f_8), (by kernel_rfl), hb_23, hb_24, hb_25, (GX.trans hE_4 gx_21 (fun _ h_ => absurd h_ List.not_mem_nil))⟩⟩
  refine wk_pure (opd 9 (.binOp .lss 3 (.tmp 8) (.tmp 7) 3) 0) rfl (.bool false) (fun _ => y_lss (k := .i64) (a := ((k : Nat) : Int)) (b := ((L.length : Nat) : Int)) (Eq.trans (by kernel_rfl) f_9) (Eq.trans (by kernel_rfl) f_8) (decide_eq_false h_13)) ?_
  refine wk_nil ?_
  refine thn_n ?_
  refine g_seq (x := lGN2_11) (y := lGN2_12) (by kernel_rfl) ?_
  refine g_cond_f (o := .tmp 9) (x := lGN2_13) (y := lGN2_14) (by kernel_rfl) (by kernel_rfl) ?_
  refine g_exit (id := 0) (by kernel_rfl) ?_
  refine thn_e ?_
  refine thn_e ?_
  refine blk_hit ?_
  refine thn_n ?_
  refine g_seq (x := lGN2_26) (y := lGN2_27) (by kernel_rfl) ?_
  refine g_region (ops := lGR2_7) (id := 7) (by kernel_rfl) [pu 0] (by kernel_rfl) (by kernel_rfl) ?_
  refine wk_pure (opd 4 (.assign (.const (.int .i64 (-1)))) 3) rfl (.int .i64 (-1)) (fun _ => y_assign (by kernel_rfl)) ?_
  refine wk_nil ?_
  refine thn_n ?_
  refine g_ret (by kernel_rfl) ?_
  refine ends1_r (v := .int .i64 (-1)) rfl (by kernel_rfl) ?_
  exact h2 (fun j hj => hne j (by omega)) _ _ hE_4

def ZS : List Value := [.int .i64 0, .int .i64 0, .int .i64 0, .int .u32 0, .int .u32 0, .slice none 0 0, .slice none 0 0, .bool false, .int .i64 0]

noncomputable def lGN3_0 : Code := (Try.f40.body).getD .skip
noncomputable def lGN3_1 : Code := s1 lGN3_0
noncomputable def lGN3_2 : Code := s2 lGN3_0
noncomputable def lGR3_0 : Array Oper := rops lGN3_1
noncomputable def lGN3_3 : Code := s1 lGN3_2
noncomputable def lGN3_4 : Code := s2 lGN3_2
noncomputable def lGR3_1 : Array Oper := rops lGN3_3
noncomputable def lGN3_5 : Code := s1 lGN3_4
noncomputable def lGN3_6 : Code := s2 lGN3_4
noncomputable def lGN3_7 : Code := s1 lGN3_5
noncomputable def lGN3_8 : Code := s2 lGN3_5
noncomputable def lGR3_2 : Array Oper := rops lGN3_7
noncomputable def lGN3_9 : Code := s1 lGN3_8
noncomputable def lGN3_10 : Code := s2 lGN3_8
noncomputable def lGN3_11 : Code := s1 lGN3_6
noncomputable def lGN3_12 : Code := s2 lGN3_6
noncomputable def lGN3_13 : Code := s1 lGN3_11
noncomputable def lGN3_14 : Code := s2 lGN3_11
noncomputable def lGR3_4 : Array Oper := rops lGN3_13
noncomputable def lGN3_15 : Code := s1 lGN3_14
noncomputable def lGN3_16 : Code := s1 lGN3_15
noncomputable def lGN3_17 : Code := s1 lGN3_16
noncomputable def lGN3_18 : Code := s2 lGN3_16
noncomputable def lGN3_19 : Code := s1 lGN3_17
noncomputable def lGN3_20 : Code := s2 lGN3_17
noncomputable def lGR3_5 : Array Oper := rops lGN3_19
noncomputable def lGN3_21 : Code := s1 lGN3_20
noncomputable def lGN3_22 : Code := s2 lGN3_20
noncomputable def lGN3_23 : Code := s1 lGN3_18
noncomputable def lGN3_24 : Code := s2 lGN3_18
noncomputable def lGN3_25 : Code := s1 lGN3_23
noncomputable def lGN3_26 : Code := s1 lGN3_25
noncomputable def lGN3_27 : Code := s2 lGN3_25
noncomputable def lGR3_7 : Array Oper := rops lGN3_26
noncomputable def lGN3_28 : Code := s1 lGN3_27
noncomputable def lGN3_29 : Code := s2 lGN3_27
noncomputable def lGR3_8 : Array Oper := rops lGN3_28
noncomputable def lGN3_30 : Code := s1 lGN3_29
noncomputable def lGN3_31 : Code := s2 lGN3_29
noncomputable def lGR3_6 : Array Oper := rops lGN3_24
noncomputable def lGN3_32 : Code := s1 lGN3_30
noncomputable def lGN3_33 : Code := s2 lGN3_30
noncomputable def lGR3_9 : Array Oper := rops lGN3_32
noncomputable def lGR3_10 : Array Oper := rops lGN3_33
noncomputable def lGN3_34 : Code := s1 lGN3_12
noncomputable def lGN3_35 : Code := s2 lGN3_12
noncomputable def lGR3_11 : Array Oper := rops lGN3_34
noncomputable def lGN3_36 : Code := s1 lGN3_35
noncomputable def lGN3_37 : Code := s2 lGN3_35
noncomputable def lGR3_12 : Array Oper := rops lGN3_36
noncomputable def lGN3_38 : Code := s1 lGN3_9
noncomputable def lGN3_39 : Code := s2 lGN3_9
noncomputable def lGR3_3 : Array Oper := rops lGN3_38
theorem delF_c {L : List SndR} {m : MsgR} {q cq cn : Nat} {w : World} {γ : Nat → Nat} {a : Option Addr} {g cap c : Nat} {rest : List Value} (hg : OwNG γ w c 65 9 a g cap encS L rest) (hc : c ≠ cq ∧ c ≠ cn ∧ c ≤ 1000 ∧ cq < 14000 ∧ cn < 14000) (hL : L.length ≤ 1024) (hsq : ∀ j, j < L.length → 0 ≤ (L.getD j S0).m.seq ∧ (L.getD j S0).m.seq < 4294967296) (hq : Bk γ w q cq (.cells #[.int .i64 m.kind, .int .i64 m.frm, .int .i64 m.to, .int .u32 m.view, .int .u32 m.seq, .slice m.na m.N.length m.nc, .slice m.wa m.W.length m.wc] 32 (0, 0))) (hN : SlG γ w cn 1 m.na m.nb m.noff encI m.N) (hl : m.N.length = 1) {K : Value → World → Prop} (hK : ∀ w' γ' rest', GX [c] w γ w' γ' → OwNG γ' w' c 65 9 a g cap encS (L.filter (keepS (m.N.getD 0 0))) rest' → K (.slice a (L.filter (keepS (m.N.getD 0 0))).length cap) w') : CallsV Try.prog 40 #[.slice a L.length cap, .func (.func 41) #[] #[.pointer (some ⟨q, 0, none⟩)]] w K := by
  refine callsV_of (c := lGN3_0) Try.func40 (by kernel_rfl) (n := 42) (by kernel_rfl) ?_
  have hql := hq.lt
  have hle := OwN.le hg.1
  refine g_seq (x := lGN3_1) (y := lGN3_2) (by kernel_rfl) ?_
  refine g_region (ops := lGR3_0) (id := 0) (by kernel_rfl) [pu 0] (by kernel_rfl) (by kernel_rfl) ?_
  refine wpa 4 (.const (.slice none 0 0)) 59 (.slice none 0 0) ?_
  refine wk_nil ?_
  refine thn_n ?_
  refine g_seq (x := lGN3_3) (y := lGN3_4) (by kernel_rfl) ?_
  refine g_region (ops := lGR3_1) (id := 1) (by kernel_rfl) [pu 0, pu 1, lo 2, pu 3] (by kernel_rfl) (by kernel_rfl) ?_
  refine wpm 8 (.tmp 0) 59 (.slice a L.length cap) ?_
  refine wpm 9 (.tmp 1) 86 (.func (.func 41) #[] #[.pointer (some ⟨q, 0, none⟩)]) ?_
  refine wkc 10 47 #[.tmp 8, .tmp 9] #[59, 86] 3 #[.slice a L.length cap, .func (.func 41) #[] #[.pointer (some ⟨q, 0, none⟩)]] Try.func47 (idxS_c (γ := γ) (q := q) (m := m) (L := L) (OwNG.slg hg) (by omega) hsq hq hN hl (fun k_1 hk_2 he_3 hn_4 w_5 γ_6 gx_7 => ⟨?_, ?_⟩) (fun hn_8 w_9 γ_10 gx_11 => ⟨?_, ?_⟩))
  · exact trivial
  · have hsz_12 := gx_7.size
    refine wpa 5 (.tmp 10) 3 (.int .i64 ((k_1 : Nat) : Int)) ?_
    refine wk_nil ?_
    refine thn_n ?_
    refine g_seq (x := lGN3_5) (y := lGN3_6) (by kernel_rfl) ?_
    refine g_seq (x := lGN3_7) (y := lGN3_8) (by kernel_rfl) ?_
    refine g_region (ops := lGR3_2) (id := 2) (by kernel_rfl) [pu 0, pu 1] (by kernel_rfl) (by kernel_rfl) ?_
    refine wpm 11 (.tmp 5) 3 (.int .i64 ((k_1 : Nat) : Int)) ?_
    refine wk_pure (opd 12 (.binOp .eql 3 (.tmp 11) (.const (.int .i64 (-1))) 3) 4) rfl (.bool false) (fun _ => y_eql (k := .i64) (a := ((k_1 : Nat) : Int)) (b := (-1)) (by kernel_rfl) (by kernel_rfl) (decide_eq_false (by omega))) ?_
    refine wk_nil ?_
    refine thn_n ?_
    refine g_cond_f (o := .tmp 12) (x := lGN3_9) (y := lGN3_10) (by kernel_rfl) (by kernel_rfl) ?_
    refine g_skip (by kernel_rfl) ?_
    refine thn_n ?_
    refine g_seq (x := lGN3_11) (y := lGN3_12) (by kernel_rfl) ?_
    refine g_seq (x := lGN3_13) (y := lGN3_14) (by kernel_rfl) ?_
    refine g_region (ops := lGR3_4) (id := 4) (by kernel_rfl) [pu 0, pu 1, pu 2] (by kernel_rfl) (by kernel_rfl) ?_
    refine wpm 14 (.tmp 5) 3 (.int .i64 ((k_1 : Nat) : Int)) ?_
    refine wk_pure (opd 15 (.binOp .add 3 (.tmp 14) (.const (.int .i64 1)) 3) 3) rfl (.int .i64 ((k_1 + 1 : Nat) : Int)) (fun _ => y_add (k := .i64) (a := ((k_1 : Nat) : Int)) (b := 1) (by kernel_rfl) (by kernel_rfl) (i64_to (by omega) (by omega))) ?_
    refine wpa 6 (.tmp 15) 3 (.int .i64 ((k_1 + 1 : Nat) : Int)) ?_
    refine wk_nil ?_
    refine thn_n ?_
    refine g_block (x := lGN3_15) (id := 0) (by kernel_rfl) ?_
    have hb_13 : OwNG γ_6 w_5 c 65 9 a g cap encS L rest := (OwNG.keep hg gx_7 ni0)
    have hb_14 : Bk γ_6 w_5 q cq (.cells #[.int .i64 m.kind, .int .i64 m.frm, .int .i64 m.to, .int .u32 m.view, .int .u32 m.seq, .slice m.na m.N.length m.nc, .slice m.wa m.W.length m.wc] 32 (0, 0)) := (Bk.keep hq gx_7 ni0)
    have hb_15 : SlG γ_6 w_5 cn 1 m.na m.nb m.noff encI m.N := (SlG.keep hN gx_7 ni0)
    refine g_loop (x := lGN3_16) (by kernel_rfl) (fun m_ ρ_ w_ => ∃ (i : Nat) (j : Nat) (A : List SndR) (γ_ : Nat → Nat), m_ = L.length - j ∧ (i < j) ∧ (j ≤ L.length) ∧ (A.length = L.length) ∧ (A.take i = (L.take j).filter (keepS (m.N.getD 0 0))) ∧ (∀ t, j ≤ t → A.getD t S0 = L.getD t S0) ∧ ρ_ 0 = .slice a L.length cap ∧ ρ_ 1 = .func (.func 41) #[] #[.pointer (some ⟨q, 0, none⟩)] ∧ ρ_ 4 = .slice none 0 0 ∧ ρ_ 5 = .int .i64 ((i : Nat) : Int) ∧ ρ_ 6 = .int .i64 ((j : Nat) : Int) ∧ Bk γ_ w_ q cq (.cells #[.int .i64 m.kind, .int .i64 m.frm, .int .i64 m.to, .int .u32 m.view, .int .u32 m.seq, .slice m.na m.N.length m.nc, .slice m.wa m.W.length m.wc] 32 (0, 0)) ∧ SlG γ_ w_ cn 1 m.na m.nb m.noff encI m.N ∧ OwNG γ_ w_ c 65 9 a g cap encS A rest ∧ GX [c] w γ w_ γ_) (L.length - (k_1 + 1)) ?_ ?_
    · exact ⟨k_1, (k_1 + 1), L, _, rfl, by omega, by omega, by rfl, by exact filt_init hk_2 he_3 hn_4, by intro t_ _; rfl, (by kernel_rfl), (by kernel_rfl), (by kernel_rfl), (by kernel_rfl), (by kernel_rfl), hb_14, hb_15, hb_13, (GX.trans (GX.refl [c] _ _) gx_7 (fun _ h_ => absurd h_ List.not_mem_nil))⟩
    intro m_16 ρ_17 w_18 hI
    obtain ⟨i, j, A, γ_20, hm_m_16, hij, hj, hlen, hpre, hsame, f_21, f_22, f_23, f_24, f_25, hr_26, hr_27, hr_28, hE_19⟩ := hI
    have hs_w_18 := hE_19.size
    refine g_seq (x := lGN3_17) (y := lGN3_18) (by kernel_rfl) ?_
    refine g_seq (x := lGN3_19) (y := lGN3_20) (by kernel_rfl) ?_
    refine g_region (ops := lGR3_5) (id := 5) (by kernel_rfl) [pu 0, pu 1, pu 2, pu 3] (by kernel_rfl) (by kernel_rfl) ?_
    refine wpm 16 (.tmp 6) 3 (.int .i64 ((j : Nat) : Int)) ?_ (Eq.trans (by kernel_rfl) f_25)
    refine wpm 17 (.tmp 0) 59 (.slice a L.length cap) ?_ (Eq.trans (by kernel_rfl) f_21)
    refine wk_pure (opd 18 (.call ⟨.builtin .len, #[.tmp 17], #[59]⟩) 3) rfl (.int .i64 ((L.length : Nat) : Int)) (fun _ => x_len (a := a) (n := L.length) (c := cap) (by kernel_rfl) (by kernel_rfl)) ?_
    by_cases h_29 : (((j : Nat) : Int) : Int) < ((L.length : Nat) : Int)
    · refine wk_pure (opd 19 (.binOp .lss 3 (.tmp 16) (.tmp 18) 3) 4) rfl (.bool true) (fun _ => y_lss (k := .i64) (a := ((j : Nat) : Int)) (b := ((L.length : Nat) : Int)) (by kernel_rfl) (by kernel_rfl) (decide_eq_true h_29)) ?_
      refine wk_nil ?_
      refine thn_n ?_
      refine g_cond_t (o := .tmp 19) (x := lGN3_21) (y := lGN3_22) (by kernel_rfl) (by kernel_rfl) ?_
      refine g_skip (by kernel_rfl) ?_
      refine thn_n ?_
      refine g_seq (x := lGN3_23) (y := lGN3_24) (by kernel_rfl) ?_
      refine g_block (x := lGN3_25) (id := 1) (by kernel_rfl) ?_
      refine g_seq (x := lGN3_26) (y := lGN3_27) (by kernel_rfl) ?_
      refine g_region (ops := lGR3_7) (id := 7) (by kernel_rfl) [pu 0, pu 1, pu 2, lo 3, lo 4, lo 5] (by kernel_rfl) (by kernel_rfl) ?_
      refine wpm 22 (.tmp 0) 59 (.slice a L.length cap) ?_ (Eq.trans (by kernel_rfl) f_21)
      refine wpm 23 (.tmp 6) 3 (.int .i64 ((j : Nat) : Int)) ?_ (Eq.trans (by kernel_rfl) f_25)
      refine wk_pure (opd 24 (.indexAddr 59 (.tmp 22) (.tmp 23)) 0) rfl (.pointer (some ⟨g, 0 + (j * 9 + 0), none⟩)) (fun _ => y_ptr (x_indexN (a := a) (b := g) (off := 0) (n := L.length) (c := cap) (k := .i64) (i := ((j : Nat) : Int)) (e := 65) (sz := 9) (sz' := 9) (by kernel_rfl) hr_28.1.sl (by kernel_rfl) (by kernel_rfl) (by omega) (by omega) _) (by omega)) ?_
      refine wk_val (opd 25 (.load 65 (.tmp 24)) 65) rfl (.agg #[.int .i64 ((A.getD j S0).m.kind), .int .i64 ((A.getD j S0).m.frm), .int .i64 ((A.getD j S0).m.to), .int .u32 ((A.getD j S0).m.view), .int .u32 ((A.getD j S0).m.seq), .slice ((A.getD j S0).m.na) ((A.getD j S0).m.N.length) ((A.getD j S0).m.nc), .slice ((A.getD j S0).m.wa) ((A.getD j S0).m.W.length) ((A.getD j S0).m.wc), .bool ((A.getD j S0).sent), .int .i64 ((A.getD j S0).at_)]) (x_load_cs (b := g) (off := (0 + (j * 9 + 0))) (n := 9) (vs := [.int .i64 ((A.getD j S0).m.kind), .int .i64 ((A.getD j S0).m.frm), .int .i64 ((A.getD j S0).m.to), .int .u32 ((A.getD j S0).m.view), .int .u32 ((A.getD j S0).m.seq), .slice ((A.getD j S0).m.na) ((A.getD j S0).m.N.length) ((A.getD j S0).m.nc), .slice ((A.getD j S0).m.wa) ((A.getD j S0).m.W.length) ((A.getD j S0).m.wc), .bool ((A.getD j S0).sent), .int .i64 ((A.getD j S0).at_)]) (by kernel_rfl) (by kernel_rfl) rfl (SlE.getN hr_28.1.sl encS_len S0 j 0 (by omega) rfl)) trivial ?_
      refine wk_alloc (z := #[.int .i64 0, .int .i64 0, .int .i64 0, .int .u32 0, .int .u32 0, .slice none 0 0, .slice none 0 0, .bool false, .int .i64 0]) (opd 7 (.alloc 65) 0) rfl (by kernel_rfl) (fun w_31 b_30 eq_33 e_32 sz_34 hb_35 => ⟨?_, ?_⟩)
      · exact trivial
      obtain ⟨γ_36, hg_37, hn_38⟩ := cls_new γ_20 w_18.heap.size 14001
      have gx_39 := GX.ext0 [] e_32 hg_37
      have hk_40 : Bk γ_36 w_31 b_30 14001 (.cells #[.int .i64 0, .int .i64 0, .int .i64 0, .int .u32 0, .int .u32 0, .slice none 0 0, .slice none 0 0, .bool false, .int .i64 0] 65 (0, 0)) := ⟨hb_35, hn_38 _ (by omega)⟩
      refine wk_store (b := b_30) (off := 0) (cs' := #[.int .i64 ((A.getD j S0).m.kind), .int .i64 ((A.getD j S0).m.frm), .int .i64 ((A.getD j S0).m.to), .int .u32 ((A.getD j S0).m.view), .int .u32 ((A.getD j S0).m.seq), .slice ((A.getD j S0).m.na) ((A.getD j S0).m.N.length) ((A.getD j S0).m.nc), .slice ((A.getD j S0).m.wa) ((A.getD j S0).m.W.length) ((A.getD j S0).m.wc), .bool ((A.getD j S0).sent), .int .i64 ((A.getD j S0).at_)]) (vs := #[.int .i64 ((A.getD j S0).m.kind), .int .i64 ((A.getD j S0).m.frm), .int .i64 ((A.getD j S0).m.to), .int .u32 ((A.getD j S0).m.view), .int .u32 ((A.getD j S0).m.seq), .slice ((A.getD j S0).m.na) ((A.getD j S0).m.N.length) ((A.getD j S0).m.nc), .slice ((A.getD j S0).m.wa) ((A.getD j S0).m.W.length) ((A.getD j S0).m.wc), .bool ((A.getD j S0).sent), .int .i64 ((A.getD j S0).at_)]) (opn (.store 65 (.tmp 7) (.tmp 25)) 0) rfl (by kernel_rfl) (by kernel_rfl) (by kernel_rfl) (by kernel_rfl) hk_40.1 (Nat.le_of_ble_eq_true rfl) (by kernel_rfl) (by kernel_rfl) (fun w_41 e_42 sz_43 hb_44 => ⟨?_, ?_⟩)
      · exact trivial
      have gx_45 : GX [14001] w_31 γ_36 w_41 γ_36 := GX.ext1 e_42 hk_40.2 (fun _ _ => rfl)
      have hk_46 : Bk γ_36 w_41 b_30 14001 (.cells #[.int .i64 ((A.getD j S0).m.kind), .int .i64 ((A.getD j S0).m.frm), .int .i64 ((A.getD j S0).m.to), .int .u32 ((A.getD j S0).m.view), .int .u32 ((A.getD j S0).m.seq), .slice ((A.getD j S0).m.na) ((A.getD j S0).m.N.length) ((A.getD j S0).m.nc), .slice ((A.getD j S0).m.wa) ((A.getD j S0).m.W.length) ((A.getD j S0).m.wc), .bool ((A.getD j S0).sent), .int .i64 ((A.getD j S0).at_)] 65 (0, 0)) := ⟨hb_44, hk_40.2⟩
      refine wk_nil ?_
      refine thn_n ?_
      refine g_seq (x := lGN3_28) (y := lGN3_29) (by kernel_rfl) ?_
      refine g_region (ops := lGR3_8) (id := 8) (by kernel_rfl) [pu 0, lo 1, lo 2, pu 3] (by kernel_rfl) (by kernel_rfl) ?_
      refine wpm 26 (.tmp 1) 86 (.func (.func 41) #[] #[.pointer (some ⟨q, 0, none⟩)]) ?_ (Eq.trans (by kernel_rfl) f_22)
      refine wk_val (opd 27 (.load 65 (.tmp 7)) 65) rfl (.agg #[.int .i64 ((A.getD j S0).m.kind), .int .i64 ((A.getD j S0).m.frm), .int .i64 ((A.getD j S0).m.to), .int .u32 ((A.getD j S0).m.view), .int .u32 ((A.getD j S0).m.seq), .slice ((A.getD j S0).m.na) ((A.getD j S0).m.N.length) ((A.getD j S0).m.nc), .slice ((A.getD j S0).m.wa) ((A.getD j S0).m.W.length) ((A.getD j S0).m.wc), .bool ((A.getD j S0).sent), .int .i64 ((A.getD j S0).at_)]) (x_load_agg (b := b_30) (off := 0) (n := 9) (by kernel_rfl) (by kernel_rfl) hk_46.1 (Nat.le_of_ble_eq_true rfl) (by kernel_rfl)) trivial ?_
      have hb_47 := (Bk.keep (Bk.keep hr_26 gx_39 ni0) gx_45 ni1)
      have hb_48 := (SlG.keep (SlG.keep hr_27 gx_39 ni0) gx_45 ni1)
      by_cases h_49 : (A.getD j S0).m.seq ≤ m.N.getD 0 0
      · refine wk_call (opd 28 (.call ⟨.value (.tmp 26), #[.tmp 27], #[65]⟩) 4) rfl 41 #[.agg #[.int .i64 ((A.getD j S0).m.kind), .int .i64 ((A.getD j S0).m.frm), .int .i64 ((A.getD j S0).m.to), .int .u32 ((A.getD j S0).m.view), .int .u32 ((A.getD j S0).m.seq), .slice ((A.getD j S0).m.na) ((A.getD j S0).m.N.length) ((A.getD j S0).m.nc), .slice ((A.getD j S0).m.wa) ((A.getD j S0).m.W.length) ((A.getD j S0).m.wc), .bool ((A.getD j S0).sent), .int .i64 ((A.getD j S0).at_)], .pointer (some ⟨q, 0, none⟩)] (x_callv (first := #[]) (caps := #[.pointer (some ⟨q, 0, none⟩)]) Try.func41 (by kernel_rfl) (c := (Try.f41.body).getD .skip) (by kernel_rfl) (by kernel_rfl) (by kernel_rfl)) (confirmf_c (γ := γ_36) (x := (A.getD j S0)) (m := m) hb_47 hb_48 hl ((by rw [hsame j (Nat.le_refl _)]; exact hsq j (by omega))) (decide_eq_true h_49) (fun w_50 γ_51 gx_52 => ⟨?_, ?_⟩))
        · exact trivial
        have hsz_53 := gx_52.size
        refine wk_pure (opd 29 (.unOp .not 4 (.tmp 28)) 4) rfl (.bool false) (fun _ => y_not (p := true) (by kernel_rfl) rfl) ?_
        refine wk_nil ?_
        refine thn_n ?_
        refine g_cond_f (o := .tmp 29) (x := lGN3_30) (y := lGN3_31) (by kernel_rfl) (by kernel_rfl) ?_
        refine g_skip (by kernel_rfl) ?_
        refine blk_n ?_
        refine thn_n ?_
        refine g_region (ops := lGR3_6) (id := 6) (by kernel_rfl) [pu 0, pu 1, pu 2] (by kernel_rfl) (by kernel_rfl) ?_
        refine wpm 20 (.tmp 6) 3 (.int .i64 ((j : Nat) : Int)) ?_ (Eq.trans (by kernel_rfl) f_25)
        refine wk_pure (opd 21 (.binOp .add 3 (.tmp 20) (.const (.int .i64 1)) 3) 3) rfl (.int .i64 ((j + 1 : Nat) : Int)) (fun _ => y_add (k := .i64) (a := ((j : Nat) : Int)) (b := 1) (by kernel_rfl) (by kernel_rfl) (i64_to (by omega) (by omega))) ?_
        refine wpa 6 (.tmp 21) 3 (.int .i64 ((j + 1 : Nat) : Int)) ?_
        refine wk_nil ?_
        refine thn_n ?_
        have hb_54 := (Bk.keep hb_47 gx_52 ni0)
        have hb_55 := (SlG.keep hb_48 gx_52 ni0)
        have hb_56 := (OwNG.keep (OwNG.keep (OwNG.keep hr_28 gx_39 ni0) gx_45 ni1) gx_52 ni0)
        exact ⟨_, (by omega), ⟨i, (j + 1), A, _, rfl, by omega, by omega, by omega, by rw [hpre, filt_no (by omega) (hsame j (Nat.le_refl _) ▸ h_49)], by intro t_ ht_; exact hsame t_ (by omega), (Eq.trans (by kernel_rfl) f_21), (Eq.trans (by kernel_rfl) f_22), (Eq.trans (by kernel_rfl) f_23), (Eq.trans (by kernel_rfl) f_24), (by kernel_rfl), hb_54, hb_55, hb_56, (GX.trans (GX.thenNew (GX.then0 hE_19 e_32 hg_37) e_42 (by intro y_ hy_; simp only [List.mem_cons, List.not_mem_nil, or_false] at hy_; omega) (fun _ _ => rfl)) gx_52 (fun _ h_ => absurd h_ List.not_mem_nil))⟩⟩
      refine wk_call (opd 28 (.call ⟨.value (.tmp 26), #[.tmp 27], #[65]⟩) 4) rfl 41 #[.agg #[.int .i64 ((A.getD j S0).m.kind), .int .i64 ((A.getD j S0).m.frm), .int .i64 ((A.getD j S0).m.to), .int .u32 ((A.getD j S0).m.view), .int .u32 ((A.getD j S0).m.seq), .slice ((A.getD j S0).m.na) ((A.getD j S0).m.N.length) ((A.getD j S0).m.nc), .slice ((A.getD j S0).m.wa) ((A.getD j S0).m.W.length) ((A.getD j S0).m.wc), .bool ((A.getD j S0).sent), .int .i64 ((A.getD j S0).at_)], .pointer (some ⟨q, 0, none⟩)] (x_callv (first := #[]) (caps := #[.pointer (some ⟨q, 0, none⟩)]) Try.func41 (by kernel_rfl) (c := (Try.f41.body).getD .skip) (by kernel_rfl) (by kernel_rfl) (by kernel_rfl)) (confirmf_c (γ := γ_36) (x := (A.getD j S0)) (m := m) hb_47 hb_48 hl ((by rw [hsame j (Nat.le_refl _)]; exact hsq j (by omega))) (decide_eq_false h_49) (fun w_57 γ_58 gx_59 => ⟨?_, ?_⟩))
      · exact trivial
      have hsz_60 := gx_59.size
      refine wk_pure (opd 29 (.unOp .not 4 (.tmp 28)) 4) rfl (.bool true) (fun _ => y_not (p := false) (by kernel_rfl) rfl) ?_
      refine wk_nil ?_
      refine thn_n ?_
      refine g_cond_t (o := .tmp 29) (x := lGN3_30) (y := lGN3_31) (by kernel_rfl) (by kernel_rfl) ?_
      refine g_seq (x := lGN3_32) (y := lGN3_33) (by kernel_rfl) ?_
      refine g_region (ops := lGR3_9) (id := 9) (by kernel_rfl) [pu 0, pu 1, lo 2, pu 3, lo 4] (by kernel_rfl) (by kernel_rfl) ?_
      refine wpm 30 (.tmp 0) 59 (.slice a L.length cap) ?_ (Eq.trans (by kernel_rfl) f_21)
      refine wpm 31 (.tmp 5) 3 (.int .i64 ((i : Nat) : Int)) ?_ (Eq.trans (by kernel_rfl) f_24)
      have hb_61 := (Bk.keep hk_46 gx_59 ni0)
      refine wk_val (opd 32 (.load 65 (.tmp 7)) 65) rfl (.agg #[.int .i64 ((A.getD j S0).m.kind), .int .i64 ((A.getD j S0).m.frm), .int .i64 ((A.getD j S0).m.to), .int .u32 ((A.getD j S0).m.view), .int .u32 ((A.getD j S0).m.seq), .slice ((A.getD j S0).m.na) ((A.getD j S0).m.N.length) ((A.getD j S0).m.nc), .slice ((A.getD j S0).m.wa) ((A.getD j S0).m.W.length) ((A.getD j S0).m.wc), .bool ((A.getD j S0).sent), .int .i64 ((A.getD j S0).at_)]) (x_load_agg (b := b_30) (off := 0) (n := 9) (by kernel_rfl) (by kernel_rfl) hb_61.1 (Nat.le_of_ble_eq_true rfl) (by kernel_rfl)) trivial ?_
      have hb_62 := (OwNG.keep (OwNG.keep (OwNG.keep hr_28 gx_39 ni0) gx_45 ni1) gx_59 ni0)
      refine wk_pure (opd 33 (.indexAddr 59 (.tmp 30) (.tmp 31)) 0) rfl (.pointer (some ⟨g, 0 + (i * 9 + 0), none⟩)) (fun _ => y_ptr (x_indexN (a := a) (b := g) (off := 0) (n := L.length) (c := cap) (k := .i64) (i := ((i : Nat) : Int)) (e := 65) (sz := 9) (sz' := 9) (by kernel_rfl) hb_62.1.sl (by kernel_rfl) (by kernel_rfl) (by omega) (by omega) _) (by omega)) ?_
      refine wk_store_owN (b := g) (k := i) (f := 0) (sz := 9) (vs := [.int .i64 ((A.getD j S0).m.kind), .int .i64 ((A.getD j S0).m.frm), .int .i64 ((A.getD j S0).m.to), .int .u32 ((A.getD j S0).m.view), .int .u32 ((A.getD j S0).m.seq), .slice ((A.getD j S0).m.na) ((A.getD j S0).m.N.length) ((A.getD j S0).m.nc), .slice ((A.getD j S0).m.wa) ((A.getD j S0).m.W.length) ((A.getD j S0).m.wc), .bool ((A.getD j S0).sent), .int .i64 ((A.getD j S0).at_)]) (A.getD j S0) S0 (opn (.store 65 (.tmp 33) (.tmp 32)) 0) rfl (by kernel_rfl) (by kernel_rfl) (by kernel_rfl) (by kernel_rfl) hb_62.1 encS_len (by omega) rfl (Nat.le_of_ble_eq_true rfl) (by rfl) (fun w_63 e_64 sz_65 ho_66 => ⟨?_, ?_⟩)
      · exact trivial
      have gx_67 : GX [c] w_57 γ_58 w_63 γ_58 := GX.ext1 e_64 (OwNG.own hb_62 (by omega)).2.2 (fun _ _ => rfl)
      have hk_68 : OwNG γ_58 w_63 c 65 9 a g cap encS (A.set i (A.getD j S0)) rest := ⟨ho_66, hb_62.2⟩
      refine wk_nil ?_
      refine thn_n ?_
      refine g_region (ops := lGR3_10) (id := 10) (by kernel_rfl) [pu 0, pu 1, pu 2] (by kernel_rfl) (by kernel_rfl) ?_
      refine wpm 34 (.tmp 5) 3 (.int .i64 ((i : Nat) : Int)) ?_ (Eq.trans (by kernel_rfl) f_24)
      refine wk_pure (opd 35 (.binOp .add 3 (.tmp 34) (.const (.int .i64 1)) 3) 3) rfl (.int .i64 ((i + 1 : Nat) : Int)) (fun _ => y_add (k := .i64) (a := ((i : Nat) : Int)) (b := 1) (by kernel_rfl) (by kernel_rfl) (i64_to (by omega) (by omega))) ?_
      refine wpa 5 (.tmp 35) 3 (.int .i64 ((i + 1 : Nat) : Int)) ?_
      refine wk_nil ?_
      refine blk_n ?_
      refine thn_n ?_
      refine g_region (ops := lGR3_6) (id := 6) (by kernel_rfl) [pu 0, pu 1, pu 2] (by kernel_rfl) (by kernel_rfl) ?_
      refine wpm 20 (.tmp 6) 3 (.int .i64 ((j : Nat) : Int)) ?_ (Eq.trans (by kernel_rfl) f_25)
      refine wk_pure (opd 21 (.binOp .add 3 (.tmp 20) (.const (.int .i64 1)) 3) 3) rfl (.int .i64 ((j + 1 : Nat) : Int)) (fun _ => y_add (k := .i64) (a := ((j : Nat) : Int)) (b := 1) (by kernel_rfl) (by kernel_rfl) (i64_to (by omega) (by omega))) ?_
      refine wpa 6 (.tmp 21) 3 (.int .i64 ((j + 1 : Nat) : Int)) ?_
      refine wk_nil ?_
      refine thn_n ?_
      have hb_69 := (Bk.keep (Bk.keep hb_47 gx_59 ni0) gx_67 ni1)
      have hb_70 := (SlG.keep (SlG.keep hb_48 gx_59 ni0) gx_67 ni1)
      exact ⟨_, (by omega), ⟨(i + 1), (j + 1), (A.set i (A.getD j S0)), _, rfl, by omega, by omega, by rw [List.length_set]; exact hlen, by rw [take_set' (by omega), hpre, filt_yes (by omega) (hsame j (Nat.le_refl _) ▸ h_49), hsame j (Nat.le_refl _)], by intro t_ ht_; rw [getD_set (by omega), if_neg (by omega)]; exact hsame t_ (by omega), (Eq.trans (by kernel_rfl) f_21), (Eq.trans (by kernel_rfl) f_22), (Eq.trans (by kernel_rfl) f_23), (by kernel_rfl), (by kernel_rfl), hb_69, hb_70, hk_68, (GX.trans (GX.trans (GX.thenNew (GX.then0 hE_19 e_32 hg_37) e_42 (by intro y_ hy_; simp only [List.mem_cons, List.not_mem_nil, or_false] at hy_; omega) (fun _ _ => rfl)) gx_59 (fun _ h_ => absurd h_ List.not_mem_nil)) gx_67 (fun _ h_ => h_))⟩⟩
    refine wk_pure (opd 19 (.binOp .lss 3 (.tmp 16) (.tmp 18) 3) 4) rfl (.bool false) (fun _ => y_lss (k := .i64) (a := ((j : Nat) : Int)) (b := ((L.length : Nat) : Int)) (by kernel_rfl) (by kernel_rfl) (decide_eq_false h_29)) ?_
    refine wk_nil ?_
    refine thn_n ?_
    refine g_cond_f (o := .tmp 19) (x := lGN3_21) (y := lGN3_22) (by kernel_rfl) (by kernel_rfl) ?_
    refine g_exit (id := 0) (by kernel_rfl) ?_
    refine thn_e ?_
    refine thn_e ?_
    refine blk_hit ?_
    refine thn_n ?_
    refine g_seq (x := lGN3_34) (y := lGN3_35) (by kernel_rfl) ?_
    refine g_region (ops := lGR3_11) (id := 11) (by kernel_rfl) [pu 0, pu 1, pu 2, lo 3] (by kernel_rfl) (by kernel_rfl) ?_
    refine wpm 36 (.tmp 0) 59 (.slice a L.length cap) ?_ (Eq.trans (by kernel_rfl) f_21)
    refine wpm 37 (.tmp 5) 3 (.int .i64 ((i : Nat) : Int)) ?_ (Eq.trans (by kernel_rfl) f_24)
    refine wk_pure (opd 38 (.slice 59 (.tmp 36) (some (.tmp 37)) none none) 59) rfl (.slice (cutA a cap i 9) (A.length - i) (cap - i)) (fun _ => y_slice (x_cutL (a := a) (n := L.length) (c := cap) (sz := 9) (e := 65) (k := .i64) (li := ((i : Nat) : Int)) (l := i) (by kernel_rfl) (by kernel_rfl) (by kernel_rfl) rfl (by omega)) (by omega)) ?_
    obtain ⟨haA, hOA⟩ := OwNG.own hr_28 (by omega : 0 < A.length)
    refine wk_clear (zs := ZS) (n := A.length - i) (by_ := 96) (a := cutA a cap i 9) (c := cap - i) (g := g) (off := i * 9) (e := 65) (sz := 9) (opn (.call ⟨.builtin .clear, #[.tmp 38], #[59]⟩) 0) rfl (by kernel_rfl) (by kernel_rfl) rfl (by kernel_rfl) (fun h_ => by rw [haA]; unfold cutA; rw [if_neg (by omega)]; exact congrArg some (Addr.add_off g 0 _ |>.trans (by rw [Nat.zero_add]))) hOA.1.block (by simp only [List.length_append, flat_len encS_len]; have h_ := Nat.mul_le_mul_right 9 (show i + (A.length - i) ≤ A.length by omega); rw [Nat.add_mul] at h_; omega) (by kernel_rfl) (fun w_71 e_72 sz_73 hb_74 => ⟨?_, ?_⟩)
    · exact trivial
    have gx_75 : GX [c] w_18 γ_20 w_71 γ_20 := GX.ext1 e_72 hOA.2 (fun _ _ => rfl)
    have hfin := OwnE.clear (w1 := w_71) hOA.1 encS_len (i := i) (by omega) (zs := ZS) rfl hb_74
    refine wk_nil ?_
    refine thn_n ?_
    refine g_seq (x := lGN3_36) (y := lGN3_37) (by kernel_rfl) ?_
    refine g_region (ops := lGR3_12) (id := 12) (by kernel_rfl) [pu 0, pu 1, pu 2, pu 3] (by kernel_rfl) (by kernel_rfl) ?_
    refine wpm 39 (.tmp 0) 59 (.slice a L.length cap) ?_ (Eq.trans (by kernel_rfl) f_21)
    refine wpm 40 (.tmp 5) 3 (.int .i64 ((i : Nat) : Int)) ?_ (Eq.trans (by kernel_rfl) f_24)
    refine wk_pure (opd 41 (.slice 59 (.tmp 39) none (some (.tmp 40)) none) 59) rfl (.slice a i cap) (fun _ => x_cutH0 (a := a) (n := L.length) (c := cap) (sz := 9) (e := 65) (q := .i64) (hi' := ((i : Nat) : Int)) (h := i) (by kernel_rfl) (by kernel_rfl) (by kernel_rfl) rfl (by omega)) ?_
    refine wpa 4 (.tmp 41) 59 (.slice a i cap) ?_
    refine wk_nil ?_
    refine thn_n ?_
    refine g_ret (by kernel_rfl) ?_
    refine ends1_r (v := .slice a i cap) rfl (by kernel_rfl) ?_
    have hjn : j = L.length := by omega
    have hA_ : A.take i = L.filter (keepS (m.N.getD 0 0)) := by rw [hpre, hjn, List.take_of_length_le (Nat.le_refl _)]
    have hAl : (A.take i).length = i := by rw [List.length_take]; omega
    have hK_ := hK _ _ _ (GX.trans hE_19 gx_75 (fun _ h_ => h_)) (hA_ ▸ (⟨.inr ⟨haA, hfin⟩, .inr hOA.2⟩ : OwNG γ_20 w_71 c 65 9 a g cap encS (A.take i) _))
    exact (by rw [← hA_, hAl] at hK_; exact hK_)
  · exact trivial
  have hsz_76 := gx_11.size
  refine wpa 5 (.tmp 10) 3 (.int .i64 (-1)) ?_
  refine wk_nil ?_
  refine thn_n ?_
  refine g_seq (x := lGN3_5) (y := lGN3_6) (by kernel_rfl) ?_
  refine g_seq (x := lGN3_7) (y := lGN3_8) (by kernel_rfl) ?_
  refine g_region (ops := lGR3_2) (id := 2) (by kernel_rfl) [pu 0, pu 1] (by kernel_rfl) (by kernel_rfl) ?_
  refine wpm 11 (.tmp 5) 3 (.int .i64 (-1)) ?_
  refine wk_pure (opd 12 (.binOp .eql 3 (.tmp 11) (.const (.int .i64 (-1))) 3) 4) rfl (.bool true) (fun _ => y_eql (k := .i64) (a := (-1)) (b := (-1)) (by kernel_rfl) (by kernel_rfl) (by decide)) ?_
  refine wk_nil ?_
  refine thn_n ?_
  refine g_cond_t (o := .tmp 12) (x := lGN3_9) (y := lGN3_10) (by kernel_rfl) (by kernel_rfl) ?_
  refine g_seq (x := lGN3_38) (y := lGN3_39) (by kernel_rfl) ?_
  refine g_region (ops := lGR3_3) (id := 3) (by kernel_rfl) [pu 0, pu 1] (by kernel_rfl) (by kernel_rfl) ?_
  refine wpm 13 (.tmp 0) 59 (.slice a L.length cap) ?_
  refine wpa 4 (.tmp 13) 59 (.slice a L.length cap) ?_
  refine wk_nil ?_
  refine thn_n ?_
  refine g_ret (by kernel_rfl) ?_
  refine thn_r ?_
  refine ends1_r (v := .slice a L.length cap) rfl (by kernel_rfl) ?_
  have hb_77 : OwNG γ_10 w_9 c 65 9 a g cap encS L rest := (OwNG.keep hg gx_11 ni0)
  have hall : L.filter (keepS (m.N.getD 0 0)) = L := by have h_ := filt_all L.length (Nat.le_refl _) hn_8; rwa [List.take_of_length_le (Nat.le_refl _)] at h_
  have hK_ := hK _ _ rest (GX.trans (GX.refl [c] _ _) gx_11 (fun _ h_ => absurd h_ List.not_mem_nil)) (hall.symm ▸ hb_77)
  exact (by rw [hall] at hK_; exact hK_)

end Go.Proofs.Ytpcdldakilkldaa
