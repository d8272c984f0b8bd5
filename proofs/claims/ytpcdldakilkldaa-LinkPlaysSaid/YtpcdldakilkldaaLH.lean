/-
  Links: contracts of functions, step by step (H).
-/
import Derived.Test.YtpcdldakilkldaaLG
set_option linter.unusedSimpArgs false
set_option linter.unusedVariables false
namespace Go.Proofs.Ytpcdldakilkldaa
open Go Go.Wk

theorem l3_filter {n0 b : Int} {L : List SndR} (h : ∀ j, j < L.length → 0 ≤ (L.getD j S0).at_ ∧ (L.getD j S0).at_ ≤ b) : ∀ j, j < (L.filter (keepS n0)).length → 0 ≤ ((L.filter (keepS n0)).getD j S0).at_ ∧ ((L.filter (keepS n0)).getD j S0).at_ ≤ b := by
  intro j hj
  have e : (L.filter (keepS n0)).getD j S0 = (L.filter (keepS n0))[j] := by simp [List.getD, hj]
  rw [e]
  have hm := (List.mem_filter.1 (List.getElem_mem hj)).1
  obtain ⟨i, hi, he⟩ := List.getElem_of_mem hm
  have := h i hi
  have e2 : L.getD i S0 = L[i] := by simp [List.getD, hi]
  rw [e2, he] at this
  exact this
theorem filter_sub {n0 : Int} {L : List SndR} : ∀ m ∈ (L.filter (keepS n0)).map (·.m), m ∈ L.map (·.m) := by
  intro m hm
  obtain ⟨x, hx, rfl⟩ := List.mem_map.1 hm
  exact List.mem_map.2 ⟨x, (List.mem_filter.1 hx).1, rfl⟩
theorem seqs_of {γ : Nat → Nat} {w : World} {L : List SndR} (h : AllOk γ w (L.map (·.m))) : ∀ j, j < L.length → 0 ≤ (L.getD j S0).m.seq ∧ (L.getD j S0).m.seq < 4294967296 := fun j hj => (h.getS hj).s0

noncomputable def lHN1_0 : Code := (Try.f27.body).getD .skip
noncomputable def lHN1_1 : Code := s1 lHN1_0
noncomputable def lHN1_2 : Code := s2 lHN1_0
noncomputable def lHR1_0 : Array Oper := rops lHN1_1
noncomputable def lHN1_3 : Code := s1 lHN1_2
noncomputable def lHN1_4 : Code := s2 lHN1_2
noncomputable def lHN1_5 : Code := s1 lHN1_3
noncomputable def lHN1_6 : Code := s2 lHN1_3
noncomputable def lHR1_1 : Array Oper := rops lHN1_5
noncomputable def lHN1_7 : Code := s1 lHN1_6
noncomputable def lHN1_8 : Code := s2 lHN1_6
noncomputable def lHN1_9 : Code := s1 lHN1_7
noncomputable def lHN1_10 : Code := s2 lHN1_7
noncomputable def lHR1_2 : Array Oper := rops lHN1_9
noncomputable def lHN1_11 : Code := s1 lHN1_4
noncomputable def lHN1_12 : Code := s2 lHN1_4
noncomputable def lHR1_3 : Array Oper := rops lHN1_11
noncomputable def lHN1_13 : Code := s1 lHN1_12
noncomputable def lHN1_14 : Code := s2 lHN1_12
noncomputable def lHR1_4 : Array Oper := rops lHN1_13
theorem confirm_c {s : LkR} {k p : Nat} {w : World} {γ : Nat → Nat} (h : LinkAt γ w k p s) (hk : 10 ≤ k ∧ k ≤ 900) {m : MsgR} (hm : MOk γ w m) {K : Value → World → Prop} (h1 : (m.seq ≠ 0 ∨ 0 < m.W.length ∨ m.N.length ≠ 1 ∨ m.N.getD 0 0 < 0 ∨ s.told < m.N.getD 0 0) → ∀ w' γ', GX [] w γ w' γ' → K (.int .i64 3) w')
    (h2 : ¬ (m.seq ≠ 0 ∨ 0 < m.W.length ∨ m.N.length ≠ 1 ∨ m.N.getD 0 0 < 0 ∨ s.told < m.N.getD 0 0) → ∀ w' γ' {orest}, GX [k, k + 1] w γ w' γ' → LinkAt γ' w' k p { s with out := s.out.filter (keepS (m.N.getD 0 0)), orest := orest } → K (.int .i64 0) w') : CallsV Try.prog 27 #[.pointer (some ⟨p, 0, none⟩), .agg #[.int .i64 m.kind, .int .i64 m.frm, .int .i64 m.to, .int .u32 m.view, .int .u32 m.seq, .slice m.na m.N.length m.nc, .slice m.wa m.W.length m.wc]] w K := by
  refine callsV_of (c := lHN1_0) Try.func27 (by kernel_rfl) (n := 48) (by kernel_rfl) ?_
  have hp : Bk γ w p k (.cells #[.int .i64 s.own, .int .i64 s.peer, .int .u32 s.view, .int .i64 s.now, .slice s.oa s.out.length s.oc, .int .u32 s.pushed, .int .u32 s.told, .int .u32 s.next, .slice s.ha s.held.length s.hc] 61 (0, 0)) := h.hp
  have h_b1 := h.b1
  have h_b2 := h.b2
  have h_b3 := h.b3
  have h_b4 := h.b4
  have h_b5 := h.b5
  have h_l1 := h.l1
  have h_l2 := h.l2
  have h_l3 := h.l3
  have h_pl := hp.lt
  have hnr := hm.nr 0
  refine g_seq (x := lHN1_1) (y := lHN1_2) (by kernel_rfl) ?_
  refine g_region (ops := lHR1_0) (id := 0) (by kernel_rfl) [lo 0, pu 1] (by kernel_rfl) (by kernel_rfl) ?_
  refine wk_box (cs := #[.int .i64 m.kind, .int .i64 m.frm, .int .i64 m.to, .int .u32 m.view, .int .u32 m.seq, .slice m.na m.N.length m.nc, .slice m.wa m.W.length m.wc]) (opd 3 (.box 32 (.tmp 1)) 0) rfl (by kernel_rfl) (fun w_2 b_1 eq_4 e_3 sz_5 hb_6 => ⟨?_, ?_⟩)
  · exact trivial
  obtain ⟨γ_7, hg_8, hn_9⟩ := cls_new γ w.heap.size 12701
  have gx_10 := GX.ext0 [] e_3 hg_8
  have hk_11 : Bk γ_7 w_2 b_1 12701 (.cells #[.int .i64 m.kind, .int .i64 m.frm, .int .i64 m.to, .int .u32 m.view, .int .u32 m.seq, .slice m.na m.N.length m.nc, .slice m.wa m.W.length m.wc] 32 (0, 0)) := ⟨hb_6, hn_9 _ (by omega)⟩
  refine wpa 4 (.const (.int .i64 0)) 24 (.int .i64 0) ?_
  refine wk_nil ?_
  refine thn_n ?_
  refine g_seq (x := lHN1_3) (y := lHN1_4) (by kernel_rfl) ?_
  refine g_seq (x := lHN1_5) (y := lHN1_6) (by kernel_rfl) ?_
  refine g_draw (ops := lHR1_1) (id := 1) (by kernel_rfl) (fun _ _ => True) [pu 0, rd 1, pu 2, pu 3, pu 4, rd 5, pu 6, pu 7, pu 8, pu 9, pu 10, rd 11, pu 12, pu 13, pu 14, pu 15, pu 16, rd 17, pu 18, rd 19, pu 20, pu 21, pu 22, pu 23, pu 27, pu 28, pu 29, rd 24, pu 25, rd 26, rd 30, pu 31, pu 32, pu 33] (by kernel_rfl) (by kernel_rfl) (fun _ => trivial) (fun w_12 sm_13 => ?_)
  have gx_14 := GX.same [] γ_7 sm_13
  have hsz_15 : w_12.heap.size = w_2.heap.size := by rw [sm_13.heap]
  refine wpf 5 32 (.tmp 3) 4 b_1 0 4 4 ?_
  have hb_16 := (Bk.keep hk_11 gx_14 ni0)
  refine wk_read (opd 6 (.load 27 (.tmp 5)) 27) rfl (.int .u32 m.seq) (fun w'_ g_ => x_load (b := b_1) (off := 4) (by kernel_rfl) (by kernel_rfl) (g_.keep hb_16.1) (by kernel_rfl)) ?_
  by_cases h_17 : (m.seq : Int) ≠ 0
  · refine wk_pure (opd 7 (.binOp .neq 27 (.tmp 6) (.const (.int .u32 0)) 27) 4) rfl (.bool true) (fun _ => y_neq (k := .u32) (a := m.seq) (b := 0) (by kernel_rfl) (by kernel_rfl) (decide_eq_true h_17)) ?_
    refine wpm 8 (.tmp 7) 4 (.bool true) ?_
    refine wks 9 ?_
    refine wks 10 ?_
    refine wks 11 ?_
    refine wks 12 ?_
    refine wpt 13 (.tmp 8) (.const (.bool true)) (.tmp 12) 4 (.bool true) ?_
    refine wpm 14 (.tmp 13) 4 (.bool true) ?_
    refine wks 15 ?_
    refine wks 16 ?_
    refine wks 17 ?_
    refine wks 18 ?_
    refine wpt 19 (.tmp 14) (.const (.bool true)) (.tmp 18) 4 (.bool true) ?_
    refine wpm 20 (.tmp 19) 4 (.bool true) ?_
    refine wks 21 ?_
    refine wks 22 ?_
    refine wks 23 ?_
    refine wks 24 ?_
    refine wks 25 ?_
    refine wpt 26 (.tmp 20) (.const (.bool true)) (.tmp 25) 4 (.bool true) ?_
    refine wpm 27 (.tmp 26) 4 (.bool true) ?_
    refine wks 28 ?_
    refine wks 32 ?_
    refine wks 33 ?_
    refine wks 34 ?_
    refine wks 29 ?_
    refine wks 30 ?_
    refine wks 31 ?_
    refine wks 35 ?_
    refine wks 36 ?_
    refine wks 37 ?_
    refine wpt 38 (.tmp 27) (.const (.bool true)) (.tmp 37) 4 (.bool true) ?_
    refine wk_nil ?_
    refine thn_n ?_
    refine g_cond_t (o := .tmp 38) (x := lHN1_7) (y := lHN1_8) (by kernel_rfl) (by kernel_rfl) ?_
    refine g_seq (x := lHN1_9) (y := lHN1_10) (by kernel_rfl) ?_
    refine g_region (ops := lHR1_2) (id := 2) (by kernel_rfl) [pu 0] (by kernel_rfl) (by kernel_rfl) ?_
    refine wpa 4 (.const (.int .i64 3)) 24 (.int .i64 3) ?_
    refine wk_nil ?_
    refine thn_n ?_
    refine g_ret (by kernel_rfl) ?_
    refine thn_r ?_
    refine ends1_r (v := .int .i64 3) rfl (by kernel_rfl) ?_
    exact h1 (by omega) _ _ (GX.then_same (GX.then0 (GX.refl [] _ _) e_3 hg_8) sm_13)
  refine wk_pure (opd 7 (.binOp .neq 27 (.tmp 6) (.const (.int .u32 0)) 27) 4) rfl (.bool false) (fun _ => y_neq (k := .u32) (a := m.seq) (b := 0) (by kernel_rfl) (by kernel_rfl) (decide_eq_false h_17)) ?_
  refine wpm 8 (.tmp 7) 4 (.bool false) ?_
  refine wk_pure (opg 9 (.fieldAddr 32 (.tmp 3) 6) 0 3 false) (by kernel_rfl) (.pointer (some ⟨b_1, 6, none⟩)) (fun _ => x_fieldAddr (b := b_1) (off := 0) (o := 6) (by kernel_rfl) (by kernel_rfl)) ?_
  refine wk_read (opg 10 (.load 30 (.tmp 9)) 30 3 false) (by kernel_rfl) (.slice m.wa m.W.length m.wc) (fun w'_ g_ => x_load (b := b_1) (off := 6) (by kernel_rfl) (by kernel_rfl) (g_.keep hb_16.1) (by kernel_rfl)) ?_
  refine wk_pure (opg 11 (.call ⟨.builtin .len, #[.tmp 10], #[30]⟩) 3 3 false) (by kernel_rfl) (.int .i64 ((m.W.length : Nat) : Int)) (fun _ => x_len (a := m.wa) (n := m.W.length) (c := m.wc) (by kernel_rfl) (by kernel_rfl)) ?_
  by_cases h_18 : (0 : Int) < ((m.W.length : Nat) : Int)
  · refine wk_pure (opg 12 (.binOp .gtr 3 (.tmp 11) (.const (.int .i64 0)) 3) 4 3 false) (by kernel_rfl) (.bool true) (fun _ => y_gtr (k := .i64) (a := ((m.W.length : Nat) : Int)) (b := 0) (by kernel_rfl) (by kernel_rfl) (decide_eq_true h_18)) ?_
    refine wpk 13 (.tmp 8) (.const (.bool true)) (.tmp 12) 4 (.bool true) ?_
    refine wpm 14 (.tmp 13) 4 (.bool true) ?_
    refine wks 15 ?_
    refine wks 16 ?_
    refine wks 17 ?_
    refine wks 18 ?_
    refine wpt 19 (.tmp 14) (.const (.bool true)) (.tmp 18) 4 (.bool true) ?_
    refine wpm 20 (.tmp 19) 4 (.bool true) ?_
    refine wks 21 ?_
    refine wks 22 ?_
    refine wks 23 ?_
    refine wks 24 ?_
    refine wks 25 ?_
    refine wpt 26 (.tmp 20) (.const (.bool true)) (.tmp 25) 4 (.bool true) ?_
    refine wpm 27 (.tmp 26) 4 (.bool true) ?_
    refine wks 28 ?_
    refine wks 32 ?_
    refine wks 33 ?_
    refine wks 34 ?_
    refine wks 29 ?_
    refine wks 30 ?_
    refine wks 31 ?_
    refine wks 35 ?_
    refine wks 36 ?_
    refine wks 37 ?_
    refine wpt 38 (.tmp 27) (.const (.bool true)) (.tmp 37) 4 (.bool true) ?_
    refine wk_nil ?_
    refine thn_n ?_
    refine g_cond_t (o := .tmp 38) (x := lHN1_7) (y := lHN1_8) (by kernel_rfl) (by kernel_rfl) ?_
    refine g_seq (x := lHN1_9) (y := lHN1_10) (by kernel_rfl) ?_
    refine g_region (ops := lHR1_2) (id := 2) (by kernel_rfl) [pu 0] (by kernel_rfl) (by kernel_rfl) ?_
    refine wpa 4 (.const (.int .i64 3)) 24 (.int .i64 3) ?_
    refine wk_nil ?_
    refine thn_n ?_
    refine g_ret (by kernel_rfl) ?_
    refine thn_r ?_
    refine ends1_r (v := .int .i64 3) rfl (by kernel_rfl) ?_
    exact h1 (by omega) _ _ (GX.then_same (GX.then0 (GX.refl [] _ _) e_3 hg_8) sm_13)
  refine wk_pure (opg 12 (.binOp .gtr 3 (.tmp 11) (.const (.int .i64 0)) 3) 4 3 false) (by kernel_rfl) (.bool false) (fun _ => y_gtr (k := .i64) (a := ((m.W.length : Nat) : Int)) (b := 0) (by kernel_rfl) (by kernel_rfl) (decide_eq_false h_18)) ?_
  refine wpk 13 (.tmp 8) (.const (.bool true)) (.tmp 12) 4 (.bool false) ?_
  refine wpm 14 (.tmp 13) 4 (.bool false) ?_
  refine wk_pure (opg 15 (.fieldAddr 32 (.tmp 3) 5) 0 9 false) (by kernel_rfl) (.pointer (some ⟨b_1, 5, none⟩)) (fun _ => x_fieldAddr (b := b_1) (off := 0) (o := 5) (by kernel_rfl) (by kernel_rfl)) ?_
  refine wk_read (opg 16 (.load 29 (.tmp 15)) 29 9 false) (by kernel_rfl) (.slice m.na m.N.length m.nc) (fun w'_ g_ => x_load (b := b_1) (off := 5) (by kernel_rfl) (by kernel_rfl) (g_.keep hb_16.1) (by kernel_rfl)) ?_
  refine wk_pure (opg 17 (.call ⟨.builtin .len, #[.tmp 16], #[29]⟩) 3 9 false) (by kernel_rfl) (.int .i64 ((m.N.length : Nat) : Int)) (fun _ => x_len (a := m.na) (n := m.N.length) (c := m.nc) (by kernel_rfl) (by kernel_rfl)) ?_
  by_cases h_19 : (((m.N.length : Nat) : Int) : Int) ≠ 1
  · refine wk_pure (opg 18 (.binOp .neq 3 (.tmp 17) (.const (.int .i64 1)) 3) 4 9 false) (by kernel_rfl) (.bool true) (fun _ => y_neq (k := .i64) (a := ((m.N.length : Nat) : Int)) (b := 1) (by kernel_rfl) (by kernel_rfl) (decide_eq_true h_19)) ?_
    refine wpk 19 (.tmp 14) (.const (.bool true)) (.tmp 18) 4 (.bool true) ?_
    refine wpm 20 (.tmp 19) 4 (.bool true) ?_
    refine wks 21 ?_
    refine wks 22 ?_
    refine wks 23 ?_
    refine wks 24 ?_
    refine wks 25 ?_
    refine wpt 26 (.tmp 20) (.const (.bool true)) (.tmp 25) 4 (.bool true) ?_
    refine wpm 27 (.tmp 26) 4 (.bool true) ?_
    refine wks 28 ?_
    refine wks 32 ?_
    refine wks 33 ?_
    refine wks 34 ?_
    refine wks 29 ?_
    refine wks 30 ?_
    refine wks 31 ?_
    refine wks 35 ?_
    refine wks 36 ?_
    refine wks 37 ?_
    refine wpt 38 (.tmp 27) (.const (.bool true)) (.tmp 37) 4 (.bool true) ?_
    refine wk_nil ?_
    refine thn_n ?_
    refine g_cond_t (o := .tmp 38) (x := lHN1_7) (y := lHN1_8) (by kernel_rfl) (by kernel_rfl) ?_
    refine g_seq (x := lHN1_9) (y := lHN1_10) (by kernel_rfl) ?_
    refine g_region (ops := lHR1_2) (id := 2) (by kernel_rfl) [pu 0] (by kernel_rfl) (by kernel_rfl) ?_
    refine wpa 4 (.const (.int .i64 3)) 24 (.int .i64 3) ?_
    refine wk_nil ?_
    refine thn_n ?_
    refine g_ret (by kernel_rfl) ?_
    refine thn_r ?_
    refine ends1_r (v := .int .i64 3) rfl (by kernel_rfl) ?_
    exact h1 (by omega) _ _ (GX.then_same (GX.then0 (GX.refl [] _ _) e_3 hg_8) sm_13)
  refine wk_pure (opg 18 (.binOp .neq 3 (.tmp 17) (.const (.int .i64 1)) 3) 4 9 false) (by kernel_rfl) (.bool false) (fun _ => y_neq (k := .i64) (a := ((m.N.length : Nat) : Int)) (b := 1) (by kernel_rfl) (by kernel_rfl) (decide_eq_false h_19)) ?_
  refine wpk 19 (.tmp 14) (.const (.bool true)) (.tmp 18) 4 (.bool false) ?_
  refine wpm 20 (.tmp 19) 4 (.bool false) ?_
  refine wk_pure (opg 21 (.fieldAddr 32 (.tmp 3) 5) 0 15 false) (by kernel_rfl) (.pointer (some ⟨b_1, 5, none⟩)) (fun _ => x_fieldAddr (b := b_1) (off := 0) (o := 5) (by kernel_rfl) (by kernel_rfl)) ?_
  refine wk_read (opg 22 (.load 29 (.tmp 21)) 29 15 false) (by kernel_rfl) (.slice m.na m.N.length m.nc) (fun w'_ g_ => x_load (b := b_1) (off := 5) (by kernel_rfl) (by kernel_rfl) (g_.keep hb_16.1) (by kernel_rfl)) ?_
  have hb_20 : MOk γ_7 w_12 m := (MOk.keep (MOk.keep hm gx_10 ni0) gx_14 ni0)
  refine wk_pure (opg 23 (.indexAddr 29 (.tmp 22) (.const (.int .i64 0))) 0 15 false) (by kernel_rfl) (.pointer (some ⟨m.nb, m.noff + (0 * 1 + 0), none⟩)) (fun _ => y_ptr (x_indexN (a := m.na) (b := m.nb) (off := m.noff) (n := m.N.length) (c := m.nc) (k := .i64) (i := 0) (e := 2) (sz := 1) (sz' := 1) (by kernel_rfl) hb_20.n.1 (by kernel_rfl) (by kernel_rfl) rfl (by omega) _) (by omega)) ?_
  refine wk_read (opg 24 (.load 2 (.tmp 23)) 2 15 false) (by kernel_rfl) (.int .i64 (m.N.getD 0 0)) (fun w'_ g_ => x_load_c (b := m.nb) (off := (m.noff + (0 * 1 + 0))) (by kernel_rfl) (by kernel_rfl) (SlE.get (g_.keepSl hb_20.n.1) encI_len 0 0 0 (by omega) rfl)) ?_
  by_cases h_21 : ((m.N.getD 0 0) : Int) < 0
  · refine wk_pure (opg 25 (.binOp .lss 2 (.tmp 24) (.const (.int .i64 0)) 2) 4 15 false) (by kernel_rfl) (.bool true) (fun _ => y_lss (k := .i64) (a := (m.N.getD 0 0)) (b := 0) (by kernel_rfl) (by kernel_rfl) (decide_eq_true h_21)) ?_
    refine wpk 26 (.tmp 20) (.const (.bool true)) (.tmp 25) 4 (.bool true) ?_
    refine wpm 27 (.tmp 26) 4 (.bool true) ?_
    refine wks 28 ?_
    refine wks 32 ?_
    refine wks 33 ?_
    refine wks 34 ?_
    refine wks 29 ?_
    refine wks 30 ?_
    refine wks 31 ?_
    refine wks 35 ?_
    refine wks 36 ?_
    refine wks 37 ?_
    refine wpt 38 (.tmp 27) (.const (.bool true)) (.tmp 37) 4 (.bool true) ?_
    refine wk_nil ?_
    refine thn_n ?_
    refine g_cond_t (o := .tmp 38) (x := lHN1_7) (y := lHN1_8) (by kernel_rfl) (by kernel_rfl) ?_
    refine g_seq (x := lHN1_9) (y := lHN1_10) (by kernel_rfl) ?_
    refine g_region (ops := lHR1_2) (id := 2) (by kernel_rfl) [pu 0] (by kernel_rfl) (by kernel_rfl) ?_
    refine wpa 4 (.const (.int .i64 3)) 24 (.int .i64 3) ?_
    refine wk_nil ?_
    refine thn_n ?_
    refine g_ret (by kernel_rfl) ?_
    refine thn_r ?_
    refine ends1_r (v := .int .i64 3) rfl (by kernel_rfl) ?_
    exact h1 (by omega) _ _ (GX.then_same (GX.then0 (GX.refl [] _ _) e_3 hg_8) sm_13)
  refine wk_pure (opg 25 (.binOp .lss 2 (.tmp 24) (.const (.int .i64 0)) 2) 4 15 false) (by kernel_rfl) (.bool false) (fun _ => y_lss (k := .i64) (a := (m.N.getD 0 0)) (b := 0) (by kernel_rfl) (by kernel_rfl) (decide_eq_false h_21)) ?_
  refine wpk 26 (.tmp 20) (.const (.bool true)) (.tmp 25) 4 (.bool false) ?_
  refine wpm 27 (.tmp 26) 4 (.bool false) ?_
  refine wk_pure (opg 28 (.fieldAddr 32 (.tmp 3) 5) 0 22 false) (by kernel_rfl) (.pointer (some ⟨b_1, 5, none⟩)) (fun _ => x_fieldAddr (b := b_1) (off := 0) (o := 5) (by kernel_rfl) (by kernel_rfl)) ?_
  refine wk_pure (opg 32 (.move (.tmp 0)) 23 22 false) (by kernel_rfl) (.pointer (some ⟨p, 0, none⟩)) (fun _ => y_move (by kernel_rfl)) ?_
  refine wk_pure (opg 33 (.nilCheck (.tmp 32)) 0 22 false) (by kernel_rfl) (.pointer (some ⟨p, 0, none⟩)) (fun _ => x_nilCheck (by kernel_rfl)) ?_
  refine wk_pure (opg 34 (.fieldAddr 61 (.tmp 33) 6) 0 22 false) (by kernel_rfl) (.pointer (some ⟨p, 6, none⟩)) (fun _ => x_fieldAddr (b := p) (off := 0) (o := 6) (by kernel_rfl) (by kernel_rfl)) ?_
  refine wk_read (opg 29 (.load 29 (.tmp 28)) 29 22 false) (by kernel_rfl) (.slice m.na m.N.length m.nc) (fun w'_ g_ => x_load (b := b_1) (off := 5) (by kernel_rfl) (by kernel_rfl) (g_.keep hb_16.1) (by kernel_rfl)) ?_
  refine wk_pure (opg 30 (.indexAddr 29 (.tmp 29) (.const (.int .i64 0))) 0 22 false) (by kernel_rfl) (.pointer (some ⟨m.nb, m.noff + (0 * 1 + 0), none⟩)) (fun _ => y_ptr (x_indexN (a := m.na) (b := m.nb) (off := m.noff) (n := m.N.length) (c := m.nc) (k := .i64) (i := 0) (e := 2) (sz := 1) (sz' := 1) (by kernel_rfl) hb_20.n.1 (by kernel_rfl) (by kernel_rfl) rfl (by omega) _) (by omega)) ?_
  refine wk_read (opg 31 (.load 2 (.tmp 30)) 2 22 false) (by kernel_rfl) (.int .i64 (m.N.getD 0 0)) (fun w'_ g_ => x_load_c (b := m.nb) (off := (m.noff + (0 * 1 + 0))) (by kernel_rfl) (by kernel_rfl) (SlE.get (g_.keepSl hb_20.n.1) encI_len 0 0 0 (by omega) rfl)) ?_
  have hb_22 : Bk γ_7 w_12 p k (.cells #[.int .i64 s.own, .int .i64 s.peer, .int .u32 s.view, .int .i64 s.now, .slice s.oa s.out.length s.oc, .int .u32 s.pushed, .int .u32 s.told, .int .u32 s.next, .slice s.ha s.held.length s.hc] 61 (0, 0)) := (Bk.keep (Bk.keep hp gx_10 ni0) gx_14 ni0)
  refine wk_read (opg 35 (.load 27 (.tmp 34)) 27 22 false) (by kernel_rfl) (.int .u32 s.told) (fun w'_ g_ => x_load (b := p) (off := 6) (by kernel_rfl) (by kernel_rfl) (g_.keep hb_22.1) (by kernel_rfl)) ?_
  refine wk_pure (opg 36 (.convert 27 2 (.tmp 35)) 2 22 false) (by kernel_rfl) (.int .i64 s.told) (fun _ => y_conv (q := .u32) (a := s.told) (by kernel_rfl) (by kernel_rfl) (by kernel_rfl) (i64_id (by omega))) ?_
  by_cases h_23 : (s.told : Int) < (m.N.getD 0 0)
  · refine wk_pure (opg 37 (.binOp .gtr 2 (.tmp 31) (.tmp 36) 2) 4 22 false) (by kernel_rfl) (.bool true) (fun _ => y_gtr (k := .i64) (a := (m.N.getD 0 0)) (b := s.told) (by kernel_rfl) (by kernel_rfl) (decide_eq_true h_23)) ?_
    refine wpk 38 (.tmp 27) (.const (.bool true)) (.tmp 37) 4 (.bool true) ?_
    refine wk_nil ?_
    refine thn_n ?_
    refine g_cond_t (o := .tmp 38) (x := lHN1_7) (y := lHN1_8) (by kernel_rfl) (by kernel_rfl) ?_
    refine g_seq (x := lHN1_9) (y := lHN1_10) (by kernel_rfl) ?_
    refine g_region (ops := lHR1_2) (id := 2) (by kernel_rfl) [pu 0] (by kernel_rfl) (by kernel_rfl) ?_
    refine wpa 4 (.const (.int .i64 3)) 24 (.int .i64 3) ?_
    refine wk_nil ?_
    refine thn_n ?_
    refine g_ret (by kernel_rfl) ?_
    refine thn_r ?_
    refine ends1_r (v := .int .i64 3) rfl (by kernel_rfl) ?_
    exact h1 (by omega) _ _ (GX.then_same (GX.then0 (GX.refl [] _ _) e_3 hg_8) sm_13)
  refine wk_pure (opg 37 (.binOp .gtr 2 (.tmp 31) (.tmp 36) 2) 4 22 false) (by kernel_rfl) (.bool false) (fun _ => y_gtr (k := .i64) (a := (m.N.getD 0 0)) (b := s.told) (by kernel_rfl) (by kernel_rfl) (decide_eq_false h_23)) ?_
  refine wpk 38 (.tmp 27) (.const (.bool true)) (.tmp 37) 4 (.bool false) ?_
  refine wk_nil ?_
  refine thn_n ?_
  refine g_cond_f (o := .tmp 38) (x := lHN1_7) (y := lHN1_8) (by kernel_rfl) (by kernel_rfl) ?_
  refine g_skip (by kernel_rfl) ?_
  refine thn_n ?_
  refine g_seq (x := lHN1_11) (y := lHN1_12) (by kernel_rfl) ?_
  refine g_region (ops := lHR1_3) (id := 3) (by kernel_rfl) [pu 0, pu 1, pu 2, pu 3, lo 4, pu 5, lo 6, pu 7, pu 8, lo 9] (by kernel_rfl) (by kernel_rfl) ?_
  refine wpm 39 (.tmp 0) 23 (.pointer (some ⟨p, 0, none⟩)) ?_
  refine wpm 40 (.tmp 0) 23 (.pointer (some ⟨p, 0, none⟩)) ?_
  refine wpn 41 (.tmp 40) ⟨p, 0, none⟩ ?_
  refine wpf 42 61 (.tmp 41) 4 p 0 4 4 ?_
  refine wpl 43 59 (.tmp 42) (.slice s.oa s.out.length s.oc) p 4 hb_22.1 ?_
  refine wk_pure (opd 44 (.makeFunc (.func 41) #[] #[.tmp 3]) 86) rfl (.func (.func 41) #[] #[.pointer (some ⟨b_1, 0, none⟩)]) (fun _ => y_makeFunc (fv := #[]) (cv := #[.pointer (some ⟨b_1, 0, none⟩)]) (by kernel_rfl) (by kernel_rfl)) ?_
  have hb_24 : OwNG γ_7 w_12 (k + 1) 65 9 s.oa s.og s.oc encS s.out s.orest := (OwNG.keep (OwNG.keep h.ho gx_10 ni0) gx_14 ni0)
  have hb_25 : AllOk γ_7 w_12 (s.out.map (·.m)) := (AllOk.keep (AllOk.keep h.ao gx_10 ni0) gx_14 ni0)
  refine wkc 45 40 #[.tmp 43, .tmp 44] #[59, 86] 59 #[.slice s.oa s.out.length s.oc, .func (.func 41) #[] #[.pointer (some ⟨b_1, 0, none⟩)]] Try.func40 (delF_c (γ := γ_7) (q := b_1) (m := m) (c := k + 1) (L := s.out) hb_24 (by omega) h_l1 (seqs_of hb_25) hb_16 (hb_20).n (by omega) (fun w_26 γ_27 rest_28 gx_29 hO_30 => ⟨?_, ?_⟩))
  · exact trivial
  have hsz_31 := gx_29.size
  refine wpn 46 (.tmp 39) ⟨p, 0, none⟩ ?_
  refine wpf 47 61 (.tmp 46) 4 p 0 4 4 ?_
  have hb_32 := (Bk.keep hb_22 gx_29 ni1)
  refine wk_store (b := p) (off := 4) (cs' := #[.int .i64 s.own, .int .i64 s.peer, .int .u32 s.view, .int .i64 s.now, .slice s.oa ((s.out.filter (keepS (m.N.getD 0 0))).length) s.oc, .int .u32 s.pushed, .int .u32 s.told, .int .u32 s.next, .slice s.ha s.held.length s.hc]) (vs := #[.slice s.oa ((s.out.filter (keepS (m.N.getD 0 0))).length) s.oc]) (opn (.store 59 (.tmp 47) (.tmp 45)) 0) rfl (by kernel_rfl) (by kernel_rfl) (by kernel_rfl) (by kernel_rfl) hb_32.1 (Nat.le_of_ble_eq_true rfl) (by kernel_rfl) (by kernel_rfl) (fun w_33 e_34 sz_35 hb_36 => ⟨?_, ?_⟩)
  · exact trivial
  have gx_37 : GX [k] w_26 γ_27 w_33 γ_27 := GX.ext1 e_34 hb_32.2 (fun _ _ => rfl)
  have hk_38 : Bk γ_27 w_33 p k (.cells #[.int .i64 s.own, .int .i64 s.peer, .int .u32 s.view, .int .i64 s.now, .slice s.oa ((s.out.filter (keepS (m.N.getD 0 0))).length) s.oc, .int .u32 s.pushed, .int .u32 s.told, .int .u32 s.next, .slice s.ha s.held.length s.hc] 61 (0, 0)) := ⟨hb_36, hb_32.2⟩
  refine wk_nil ?_
  refine thn_n ?_
  refine g_seq (x := lHN1_13) (y := lHN1_14) (by kernel_rfl) ?_
  refine g_region (ops := lHR1_4) (id := 4) (by kernel_rfl) [pu 0] (by kernel_rfl) (by kernel_rfl) ?_
  refine wpa 4 (.const (.int .i64 0)) 24 (.int .i64 0) ?_
  refine wk_nil ?_
  refine thn_n ?_
  refine g_ret (by kernel_rfl) ?_
  refine ends1_r (v := .int .i64 0) rfl (by kernel_rfl) ?_
  have hb_39 := (OwNG.keep hO_30 gx_37 ni1)
  have hb_40 : OwNG γ_27 w_33 (k + 2) 32 7 s.ha s.hg s.hc encM s.held s.hrest := (OwNG.keep (OwNG.keep (OwNG.keep (OwNG.keep h.hh gx_10 ni0) gx_14 ni0) gx_29 ni1) gx_37 ni1)
  have hb_41 := (AllOk.keep (AllOk.keep hb_25 gx_29 ni1) gx_37 ni1)
  have hb_42 : AllOk γ_27 w_33 s.held := (AllOk.keep (AllOk.keep (AllOk.keep (AllOk.keep h.ah gx_10 ni0) gx_14 ni0) gx_29 ni1) gx_37 ni1)
  exact h2 (by omega) _ _ (orest := rest_28) (GX.trans (GX.trans (GX.then_same (GX.then0 (GX.refl [k, k + 1] _ _) e_3 hg_8) sm_13) gx_29 (by intro c_ hc_; simp only [List.mem_cons, List.not_mem_nil, or_false] at hc_ ⊢; omega)) gx_37 (by intro c_ hc_; simp only [List.mem_cons, List.not_mem_nil, or_false] at hc_ ⊢; omega)) ⟨hk_38, hb_39, hb_40, AllOk.sub hb_41 filter_sub, hb_42, h_b1, h_b2, h_b3, h_b4, h_b5, (Nat.le_trans (List.length_filter_le _ _) h_l1), h_l2, l3_filter h_l3⟩

noncomputable def lHN2_0 : Code := (Try.f11.body).getD .skip
noncomputable def lHN2_1 : Code := s1 lHN2_0
noncomputable def lHN2_2 : Code := s2 lHN2_0
noncomputable def lHR2_0 : Array Oper := rops lHN2_1
noncomputable def lHN2_3 : Code := s1 lHN2_2
noncomputable def lHN2_4 : Code := s2 lHN2_2
noncomputable def lHN2_5 : Code := s1 lHN2_3
noncomputable def lHN2_6 : Code := s1 lHN2_5
noncomputable def lHN2_7 : Code := s2 lHN2_5
noncomputable def lHR2_1 : Array Oper := rops lHN2_6
noncomputable def lHN2_8 : Code := s1 lHN2_7
noncomputable def lHN2_9 : Code := s2 lHN2_7
noncomputable def lHN2_10 : Code := s1 lHN2_8
noncomputable def lHN2_11 : Code := s2 lHN2_8
noncomputable def lHR2_2 : Array Oper := rops lHN2_10
noncomputable def lHN2_12 : Code := s1 lHN2_9
noncomputable def lHN2_13 : Code := s2 lHN2_9
noncomputable def lHR2_3 : Array Oper := rops lHN2_12
noncomputable def lHN2_14 : Code := s1 lHN2_13
noncomputable def lHN2_15 : Code := s2 lHN2_13
noncomputable def lHN2_16 : Code := s1 lHN2_14
noncomputable def lHN2_17 : Code := s2 lHN2_14
noncomputable def lHR2_4 : Array Oper := rops lHN2_16
noncomputable def lHN2_18 : Code := s1 lHN2_15
noncomputable def lHN2_19 : Code := s2 lHN2_15
noncomputable def lHR2_5 : Array Oper := rops lHN2_18
noncomputable def lHN2_20 : Code := s1 lHN2_19
noncomputable def lHN2_21 : Code := s2 lHN2_19
noncomputable def lHN2_22 : Code := s1 lHN2_20
noncomputable def lHN2_23 : Code := s2 lHN2_20
noncomputable def lHR2_6 : Array Oper := rops lHN2_22
noncomputable def lHN2_24 : Code := s1 lHN2_21
noncomputable def lHN2_25 : Code := s2 lHN2_21
noncomputable def lHR2_7 : Array Oper := rops lHN2_24
noncomputable def lHN2_26 : Code := s1 lHN2_25
noncomputable def lHN2_27 : Code := s2 lHN2_25
noncomputable def lHN2_28 : Code := s1 lHN2_26
noncomputable def lHN2_29 : Code := s2 lHN2_26
noncomputable def lHR2_8 : Array Oper := rops lHN2_28
noncomputable def lHN2_30 : Code := s1 lHN2_27
noncomputable def lHN2_31 : Code := s2 lHN2_27
noncomputable def lHR2_9 : Array Oper := rops lHN2_30
noncomputable def lHN2_32 : Code := s1 lHN2_31
noncomputable def lHN2_33 : Code := s2 lHN2_31
noncomputable def lHN2_34 : Code := s1 lHN2_32
noncomputable def lHN2_35 : Code := s2 lHN2_32
noncomputable def lHR2_10 : Array Oper := rops lHN2_34
noncomputable def lHN2_36 : Code := s1 lHN2_33
noncomputable def lHN2_37 : Code := s2 lHN2_33
noncomputable def lHR2_11 : Array Oper := rops lHN2_36
noncomputable def lHN2_38 : Code := s1 lHN2_37
noncomputable def lHN2_39 : Code := s2 lHN2_37
noncomputable def lHN2_40 : Code := s1 lHN2_38
noncomputable def lHN2_41 : Code := s2 lHN2_38
noncomputable def lHR2_12 : Array Oper := rops lHN2_40
noncomputable def lHN2_42 : Code := s1 lHN2_4
noncomputable def lHN2_43 : Code := s2 lHN2_4
noncomputable def lHR2_13 : Array Oper := rops lHN2_42
noncomputable def lHN2_44 : Code := s1 lHN2_43
noncomputable def lHN2_45 : Code := s2 lHN2_43
noncomputable def lHR2_14 : Array Oper := rops lHN2_44
noncomputable def lHN2_46 : Code := s1 lHN2_45
noncomputable def lHN2_47 : Code := s2 lHN2_45
noncomputable def lHR2_15 : Array Oper := rops lHN2_46
theorem get_c {s : LkR} {k p : Nat} {w : World} {γ : Nat → Nat} (h : LinkAt γ w k p s) (hk : 10 ≤ k ∧ k ≤ 900) {m : MsgR} (hm : MOk γ w m) (hh : s.held.length < 1000000) {K : Value → World → Prop} (h1 : m.frm ≠ s.peer ∨ m.to ≠ s.own → ∀ w' γ', GX [] w γ w' γ' → K (.tuple #[.slice none 0 0, .slice none 0 0, .int .i64 1]) w')
    (h2 : (m.frm = s.peer ∧ m.to = s.own) → m.view ≠ s.view → ∀ w' γ', GX [] w γ w' γ' → K (.tuple #[.slice none 0 0, .slice none 0 0, .int .i64 8]) w')
    (h3 : (m.frm = s.peer ∧ m.to = s.own) → m.view = s.view → m.kind = 1 → (m.seq ≠ 0 ∨ 0 < m.W.length ∨ m.N.length ≠ 1 ∨ m.N.getD 0 0 < 0 ∨ s.told < m.N.getD 0 0) → ∀ w' γ', GX [] w γ w' γ' → K (.tuple #[.slice none 0 0, .slice none 0 0, .int .i64 3]) w')
    (h4 : (m.frm = s.peer ∧ m.to = s.own) → m.view = s.view → m.kind = 1 → ¬ (m.seq ≠ 0 ∨ 0 < m.W.length ∨ m.N.length ≠ 1 ∨ m.N.getD 0 0 < 0 ∨ s.told < m.N.getD 0 0) → ∀ w' γ' {orest}, GX [k, k + 1] w γ w' γ' → LinkAt γ' w' k p { s with out := s.out.filter (keepS (m.N.getD 0 0)), orest := orest } → K (.tuple #[.slice none 0 0, .slice none 0 0, .int .i64 0]) w')
    (h5 : (m.frm = s.peer ∧ m.to = s.own) → m.view = s.view → m.kind ≠ 1 → m.seq = 0 → ∀ w' γ', GX [] w γ w' γ' → K (.tuple #[.slice none 0 0, .slice none 0 0, .int .i64 3]) w')
    (h6 : (m.frm = s.peer ∧ m.to = s.own) → m.view = s.view → m.kind ≠ 1 → m.seq ≠ 0 → (m.seq < s.next ∨ ∃ j, idxOf (s.held.map MsgR.abs) m.seq = some j) → ∀ w' γ' v (r : MsgR), GX [] w γ w' γ' → MsgsAt γ' w' v [r] →
      r.abs = ⟨1, s.own, s.peer, s.view, 0, [s.next - 1], []⟩ → K (.tuple #[.slice none 0 0, v, .int .i64 8]) w')
    (h7 : (m.frm = s.peer ∧ m.to = s.own) → m.view = s.view → m.kind ≠ 1 → m.seq ≠ 0 → s.next ≤ m.seq → idxOf (s.held.map MsgR.abs) m.seq = none → 32 ≤ m.seq - s.next → ∀ w' γ', GX [] w γ w' γ' → K (.tuple #[.slice none 0 0, .slice none 0 0, .int .i64 6]) w')
    (h8 : (m.frm = s.peer ∧ m.to = s.own) → m.view = s.view → m.kind ≠ 1 → m.seq ≠ 0 → s.next ≤ m.seq → idxOf (s.held.map MsgR.abs) m.seq = none → m.seq - s.next < 32 → ∀ w' γ' v v2 (outs : List MsgR) (r : MsgR) {L : List MsgR} {la lg lc lrest nx}, GX [k, k + 2] w γ w' γ' →
      MsgsAt γ' w' v outs → MsgsAt γ' w' v2 [r] → LinkAt γ' w' k p { s with next := nx, ha := la, hg := lg, hc := lc, held := L, hrest := lrest } →
      (outs.map MsgR.abs, L.map MsgR.abs, nx) = readyG (s.held.length + 2) [] (s.held.map MsgR.abs ++ [m.abs]) s.next → r.abs = ⟨1, s.own, s.peer, s.view, 0, [nx - 1], []⟩ → K (.tuple #[v, v2, .int .i64 0]) w') : CallsV Try.prog 11 #[.pointer (some ⟨p, 0, none⟩), .agg #[.int .i64 m.kind, .int .i64 m.frm, .int .i64 m.to, .int .u32 m.view, .int .u32 m.seq, .slice m.na m.N.length m.nc, .slice m.wa m.W.length m.wc]] w K := by
  refine callsV_of (c := lHN2_0) Try.func11 (by kernel_rfl) (n := 86) (by kernel_rfl) ?_
  have hp : Bk γ w p k (.cells #[.int .i64 s.own, .int .i64 s.peer, .int .u32 s.view, .int .i64 s.now, .slice s.oa s.out.length s.oc, .int .u32 s.pushed, .int .u32 s.told, .int .u32 s.next, .slice s.ha s.held.length s.hc] 61 (0, 0)) := h.hp
  have h_b1 := h.b1
  have h_b2 := h.b2
  have h_b3 := h.b3
  have h_b4 := h.b4
  have h_b5 := h.b5
  have h_l1 := h.l1
  have h_l2 := h.l2
  have h_l3 := h.l3
  have h_pl := hp.lt
  have hmv := hm.v0
  have hms := hm.s0
  refine g_seq (x := lHN2_1) (y := lHN2_2) (by kernel_rfl) ?_
  refine g_region (ops := lHR2_0) (id := 0) (by kernel_rfl) [lo 0, pu 1, pu 2, pu 3] (by kernel_rfl) (by kernel_rfl) ?_
  refine wk_box (cs := #[.int .i64 m.kind, .int .i64 m.frm, .int .i64 m.to, .int .u32 m.view, .int .u32 m.seq, .slice m.na m.N.length m.nc, .slice m.wa m.W.length m.wc]) (opd 3 (.box 32 (.tmp 1)) 0) rfl (by kernel_rfl) (fun w_2 b_1 eq_4 e_3 sz_5 hb_6 => ⟨?_, ?_⟩)
  · exact trivial
  obtain ⟨γ_7, hg_8, hn_9⟩ := cls_new γ w.heap.size 11101
  have gx_10 := GX.ext0 [] e_3 hg_8
  have hk_11 : Bk γ_7 w_2 b_1 11101 (.cells #[.int .i64 m.kind, .int .i64 m.frm, .int .i64 m.to, .int .u32 m.view, .int .u32 m.seq, .slice m.na m.N.length m.nc, .slice m.wa m.W.length m.wc] 32 (0, 0)) := ⟨hb_6, hn_9 _ (by omega)⟩
  refine wpa 4 (.const (.slice none 0 0)) 33 (.slice none 0 0) ?_
  refine wpa 5 (.const (.slice none 0 0)) 33 (.slice none 0 0) ?_
  refine wpa 6 (.const (.int .i64 0)) 24 (.int .i64 0) ?_
  refine wk_nil ?_
  refine thn_n ?_
  refine g_seq (x := lHN2_3) (y := lHN2_4) (by kernel_rfl) ?_
  refine g_block (x := lHN2_5) (id := 0) (by kernel_rfl) ?_
  refine g_seq (x := lHN2_6) (y := lHN2_7) (by kernel_rfl) ?_
  refine g_draw (ops := lHR2_1) (id := 1) (by kernel_rfl) (fun _ _ => True) [pu 0, pu 2, pu 3, pu 4, rd 1, rd 5, pu 6, pu 7, pu 8, pu 10, pu 11, pu 12, rd 9, rd 13, pu 14, pu 15, pu 16] (by kernel_rfl) (by kernel_rfl) (fun _ => trivial) (fun w_12 sm_13 => ?_)
  have gx_14 := GX.same [] γ_7 sm_13
  have hsz_15 : w_12.heap.size = w_2.heap.size := by rw [sm_13.heap]
  refine wpf 9 32 (.tmp 3) 1 b_1 0 1 1 ?_
  refine wpm 11 (.tmp 0) 23 (.pointer (some ⟨p, 0, none⟩)) ?_
  refine wpn 12 (.tmp 11) ⟨p, 0, none⟩ ?_
  refine wpf 13 61 (.tmp 12) 1 p 0 1 1 ?_
  have hb_16 := (Bk.keep hk_11 gx_14 ni0)
  refine wk_read (opd 10 (.load 3 (.tmp 9)) 3) rfl (.int .i64 m.frm) (fun w'_ g_ => x_load (b := b_1) (off := 1) (by kernel_rfl) (by kernel_rfl) (g_.keep hb_16.1) (by kernel_rfl)) ?_
  have hb_17 : Bk γ_7 w_12 p k (.cells #[.int .i64 s.own, .int .i64 s.peer, .int .u32 s.view, .int .i64 s.now, .slice s.oa s.out.length s.oc, .int .u32 s.pushed, .int .u32 s.told, .int .u32 s.next, .slice s.ha s.held.length s.hc] 61 (0, 0)) := (Bk.keep (Bk.keep hp gx_10 ni0) gx_14 ni0)
  refine wk_read (opd 14 (.load 3 (.tmp 13)) 3) rfl (.int .i64 s.peer) (fun w'_ g_ => x_load (b := p) (off := 1) (by kernel_rfl) (by kernel_rfl) (g_.keep hb_17.1) (by kernel_rfl)) ?_
  by_cases h_18 : (m.frm : Int) ≠ s.peer
  · refine wk_pure (opd 15 (.binOp .neq 3 (.tmp 10) (.tmp 14) 3) 4) rfl (.bool true) (fun _ => y_neq (k := .i64) (a := m.frm) (b := s.peer) (by kernel_rfl) (by kernel_rfl) (decide_eq_true h_18)) ?_
    refine wpm 16 (.tmp 15) 4 (.bool true) ?_
    refine wks 17 ?_
    refine wks 19 ?_
    refine wks 20 ?_
    refine wks 21 ?_
    refine wks 18 ?_
    refine wks 22 ?_
    refine wks 23 ?_
    refine wpt 24 (.tmp 16) (.const (.bool true)) (.tmp 23) 4 (.bool true) ?_
    refine wpa 8 (.tmp 24) 4 (.bool true) ?_
    refine wk_nil ?_
    refine thn_n ?_
    refine g_cond_t (o := .tmp 8) (x := lHN2_8) (y := lHN2_9) (by kernel_rfl) (by kernel_rfl) ?_
    refine g_seq (x := lHN2_10) (y := lHN2_11) (by kernel_rfl) ?_
    refine g_region (ops := lHR2_2) (id := 2) (by kernel_rfl) [pu 0, pu 1, pu 2] (by kernel_rfl) (by kernel_rfl) ?_
    refine wpa 4 (.const (.slice none 0 0)) 33 (.slice none 0 0) ?_
    refine wpa 5 (.const (.slice none 0 0)) 33 (.slice none 0 0) ?_
    refine wpa 6 (.const (.int .i64 1)) 24 (.int .i64 1) ?_
    refine wk_nil ?_
    refine thn_n ?_
    refine g_ret (by kernel_rfl) ?_
    refine blk_r ?_
    refine thn_r ?_
    refine ends3_r (v := .slice none 0 0) (v' := .slice none 0 0) (v'' := .int .i64 1) rfl (by kernel_rfl) (by kernel_rfl) (by kernel_rfl) ?_
    exact h1 (by omega) _ _ (GX.then_same (GX.then0 (GX.refl [] _ _) e_3 hg_8) sm_13)
  refine wk_pure (opd 15 (.binOp .neq 3 (.tmp 10) (.tmp 14) 3) 4) rfl (.bool false) (fun _ => y_neq (k := .i64) (a := m.frm) (b := s.peer) (by kernel_rfl) (by kernel_rfl) (decide_eq_false h_18)) ?_
  refine wpm 16 (.tmp 15) 4 (.bool false) ?_
  refine wk_pure (opg 17 (.fieldAddr 32 (.tmp 3) 2) 0 7 false) (by kernel_rfl) (.pointer (some ⟨b_1, 2, none⟩)) (fun _ => x_fieldAddr (b := b_1) (off := 0) (o := 2) (by kernel_rfl) (by kernel_rfl)) ?_
  refine wk_pure (opg 19 (.move (.tmp 0)) 23 7 false) (by kernel_rfl) (.pointer (some ⟨p, 0, none⟩)) (fun _ => y_move (by kernel_rfl)) ?_
  refine wk_pure (opg 20 (.nilCheck (.tmp 19)) 0 7 false) (by kernel_rfl) (.pointer (some ⟨p, 0, none⟩)) (fun _ => x_nilCheck (by kernel_rfl)) ?_
  refine wk_pure (opg 21 (.fieldAddr 61 (.tmp 20) 0) 0 7 false) (by kernel_rfl) (.pointer (some ⟨p, 0, none⟩)) (fun _ => x_fieldAddr (b := p) (off := 0) (o := 0) (by kernel_rfl) (by kernel_rfl)) ?_
  refine wk_read (opg 18 (.load 3 (.tmp 17)) 3 7 false) (by kernel_rfl) (.int .i64 m.to) (fun w'_ g_ => x_load (b := b_1) (off := 2) (by kernel_rfl) (by kernel_rfl) (g_.keep hb_16.1) (by kernel_rfl)) ?_
  refine wk_read (opg 22 (.load 3 (.tmp 21)) 3 7 false) (by kernel_rfl) (.int .i64 s.own) (fun w'_ g_ => x_load (b := p) (off := 0) (by kernel_rfl) (by kernel_rfl) (g_.keep hb_17.1) (by kernel_rfl)) ?_
  by_cases h_19 : (m.to : Int) ≠ s.own
  · refine wk_pure (opg 23 (.binOp .neq 3 (.tmp 18) (.tmp 22) 3) 4 7 false) (by kernel_rfl) (.bool true) (fun _ => y_neq (k := .i64) (a := m.to) (b := s.own) (by kernel_rfl) (by kernel_rfl) (decide_eq_true h_19)) ?_
    refine wpk 24 (.tmp 16) (.const (.bool true)) (.tmp 23) 4 (.bool true) ?_
    refine wpa 8 (.tmp 24) 4 (.bool true) ?_
    refine wk_nil ?_
    refine thn_n ?_
    refine g_cond_t (o := .tmp 8) (x := lHN2_8) (y := lHN2_9) (by kernel_rfl) (by kernel_rfl) ?_
    refine g_seq (x := lHN2_10) (y := lHN2_11) (by kernel_rfl) ?_
    refine g_region (ops := lHR2_2) (id := 2) (by kernel_rfl) [pu 0, pu 1, pu 2] (by kernel_rfl) (by kernel_rfl) ?_
    refine wpa 4 (.const (.slice none 0 0)) 33 (.slice none 0 0) ?_
    refine wpa 5 (.const (.slice none 0 0)) 33 (.slice none 0 0) ?_
    refine wpa 6 (.const (.int .i64 1)) 24 (.int .i64 1) ?_
    refine wk_nil ?_
    refine thn_n ?_
    refine g_ret (by kernel_rfl) ?_
    refine blk_r ?_
    refine thn_r ?_
    refine ends3_r (v := .slice none 0 0) (v' := .slice none 0 0) (v'' := .int .i64 1) rfl (by kernel_rfl) (by kernel_rfl) (by kernel_rfl) ?_
    exact h1 (by omega) _ _ (GX.then_same (GX.then0 (GX.refl [] _ _) e_3 hg_8) sm_13)
  refine wk_pure (opg 23 (.binOp .neq 3 (.tmp 18) (.tmp 22) 3) 4 7 false) (by kernel_rfl) (.bool false) (fun _ => y_neq (k := .i64) (a := m.to) (b := s.own) (by kernel_rfl) (by kernel_rfl) (decide_eq_false h_19)) ?_
  refine wpk 24 (.tmp 16) (.const (.bool true)) (.tmp 23) 4 (.bool false) ?_
  refine wpa 8 (.tmp 24) 4 (.bool false) ?_
  refine wk_nil ?_
  refine thn_n ?_
  refine g_cond_f (o := .tmp 8) (x := lHN2_8) (y := lHN2_9) (by kernel_rfl) (by kernel_rfl) ?_
  refine g_seq (x := lHN2_12) (y := lHN2_13) (by kernel_rfl) ?_
  refine g_draw (ops := lHR2_3) (id := 3) (by kernel_rfl) (fun _ _ => True) [pu 0, pu 2, pu 3, pu 4, rd 1, rd 5, pu 6, pu 7] (by kernel_rfl) (by kernel_rfl) (fun _ => trivial) (fun w_20 sm_21 => ?_)
  have gx_22 := GX.same [] γ_7 sm_21
  have hsz_23 : w_20.heap.size = w_12.heap.size := by rw [sm_21.heap]
  refine wpf 26 32 (.tmp 3) 3 b_1 0 3 3 ?_
  refine wpm 28 (.tmp 0) 23 (.pointer (some ⟨p, 0, none⟩)) ?_
  refine wpn 29 (.tmp 28) ⟨p, 0, none⟩ ?_
  refine wpf 30 61 (.tmp 29) 2 p 0 2 2 ?_
  have hb_24 := (Bk.keep hb_16 gx_22 ni0)
  refine wk_read (opd 27 (.load 27 (.tmp 26)) 27) rfl (.int .u32 m.view) (fun w'_ g_ => x_load (b := b_1) (off := 3) (by kernel_rfl) (by kernel_rfl) (g_.keep hb_24.1) (by kernel_rfl)) ?_
  have hb_25 := (Bk.keep hb_17 gx_22 ni0)
  refine wk_read (opd 31 (.load 27 (.tmp 30)) 27) rfl (.int .u32 s.view) (fun w'_ g_ => x_load (b := p) (off := 2) (by kernel_rfl) (by kernel_rfl) (g_.keep hb_25.1) (by kernel_rfl)) ?_
  by_cases h_26 : (m.view : Int) ≠ s.view
  · refine wk_pure (opd 32 (.binOp .neq 27 (.tmp 27) (.tmp 31) 27) 4) rfl (.bool true) (fun _ => y_neq (k := .u32) (a := m.view) (b := s.view) (by kernel_rfl) (by kernel_rfl) (decide_eq_true h_26)) ?_
    refine wpa 25 (.tmp 32) 4 (.bool true) ?_
    refine wk_nil ?_
    refine thn_n ?_
    refine g_cond_t (o := .tmp 25) (x := lHN2_14) (y := lHN2_15) (by kernel_rfl) (by kernel_rfl) ?_
    refine g_seq (x := lHN2_16) (y := lHN2_17) (by kernel_rfl) ?_
    refine g_region (ops := lHR2_4) (id := 4) (by kernel_rfl) [pu 0, pu 1, pu 2] (by kernel_rfl) (by kernel_rfl) ?_
    refine wpa 4 (.const (.slice none 0 0)) 33 (.slice none 0 0) ?_
    refine wpa 5 (.const (.slice none 0 0)) 33 (.slice none 0 0) ?_
    refine wpa 6 (.const (.int .i64 8)) 24 (.int .i64 8) ?_
    refine wk_nil ?_
    refine thn_n ?_
    refine g_ret (by kernel_rfl) ?_
    refine blk_r ?_
    refine thn_r ?_
    refine ends3_r (v := .slice none 0 0) (v' := .slice none 0 0) (v'' := .int .i64 8) rfl (by kernel_rfl) (by kernel_rfl) (by kernel_rfl) ?_
    exact h2 (by omega) (by omega) _ _ (GX.then_same (GX.then_same (GX.then0 (GX.refl [] _ _) e_3 hg_8) sm_13) sm_21)
  refine wk_pure (opd 32 (.binOp .neq 27 (.tmp 27) (.tmp 31) 27) 4) rfl (.bool false) (fun _ => y_neq (k := .u32) (a := m.view) (b := s.view) (by kernel_rfl) (by kernel_rfl) (decide_eq_false h_26)) ?_
  refine wpa 25 (.tmp 32) 4 (.bool false) ?_
  refine wk_nil ?_
  refine thn_n ?_
  refine g_cond_f (o := .tmp 25) (x := lHN2_14) (y := lHN2_15) (by kernel_rfl) (by kernel_rfl) ?_
  refine g_seq (x := lHN2_18) (y := lHN2_19) (by kernel_rfl) ?_
  refine g_region (ops := lHR2_5) (id := 5) (by kernel_rfl) [pu 0, lo 1, pu 2, pu 3] (by kernel_rfl) (by kernel_rfl) ?_
  refine wpf 34 32 (.tmp 3) 0 b_1 0 0 0 ?_
  refine wpl 35 3 (.tmp 34) (.int .i64 m.kind) b_1 0 hb_24.1 ?_
  by_cases h_27 : (m.kind : Int) = 1
  · refine wk_pure (opd 36 (.binOp .eql 3 (.tmp 35) (.const (.int .i64 1)) 3) 4) rfl (.bool true) (fun _ => y_eql (k := .i64) (a := m.kind) (b := 1) (by kernel_rfl) (by kernel_rfl) (decide_eq_true h_27)) ?_
    refine wpa 33 (.tmp 36) 4 (.bool true) ?_
    refine wk_nil ?_
    refine thn_n ?_
    refine g_cond_t (o := .tmp 33) (x := lHN2_20) (y := lHN2_21) (by kernel_rfl) (by kernel_rfl) ?_
    refine g_seq (x := lHN2_22) (y := lHN2_23) (by kernel_rfl) ?_
    refine g_region (ops := lHR2_6) (id := 6) (by kernel_rfl) [pu 0, lo 1, lo 2, pu 3, pu 4, pu 5] (by kernel_rfl) (by kernel_rfl) ?_
    refine wpm 37 (.tmp 0) 23 (.pointer (some ⟨p, 0, none⟩)) ?_
    refine wk_val (opd 38 (.load 32 (.tmp 3)) 32) rfl (.agg #[.int .i64 m.kind, .int .i64 m.frm, .int .i64 m.to, .int .u32 m.view, .int .u32 m.seq, .slice m.na m.N.length m.nc, .slice m.wa m.W.length m.wc]) (x_load_agg (b := b_1) (off := 0) (n := 7) (by kernel_rfl) (by kernel_rfl) hb_24.1 (Nat.le_of_ble_eq_true rfl) (by kernel_rfl)) trivial ?_
    have hb_28 : OwNG γ_7 w_20 (k + 1) 65 9 s.oa s.og s.oc encS s.out s.orest := (OwNG.keep (OwNG.keep (OwNG.keep h.ho gx_10 ni0) gx_14 ni0) gx_22 ni0)
    have hb_29 : OwNG γ_7 w_20 (k + 2) 32 7 s.ha s.hg s.hc encM s.held s.hrest := (OwNG.keep (OwNG.keep (OwNG.keep h.hh gx_10 ni0) gx_14 ni0) gx_22 ni0)
    have hb_30 : AllOk γ_7 w_20 (s.out.map (·.m)) := (AllOk.keep (AllOk.keep (AllOk.keep h.ao gx_10 ni0) gx_14 ni0) gx_22 ni0)
    have hb_31 : AllOk γ_7 w_20 s.held := (AllOk.keep (AllOk.keep (AllOk.keep h.ah gx_10 ni0) gx_14 ni0) gx_22 ni0)
    have hL_32 : LinkAt γ_7 w_20 k p (⟨s.own, s.peer, s.view, s.now, s.oa, s.og, s.oc, s.out, s.orest, s.pushed, s.told, s.next, s.ha, s.hg, s.hc, s.held, s.hrest⟩ : LkR) := ⟨hb_25, hb_28, hb_29, hb_30, hb_31, h_b1, h_b2, h_b3, h_b4, h_b5, h_l1, (by first | exact h_l2 | (show (s.held ++ [_]).length ≤ 1000000; rw [List.length_append, List.length_singleton]; omega)), h_l3⟩
    have hb_43 : MOk γ_7 w_20 m := (MOk.keep (MOk.keep (MOk.keep hm gx_10 ni0) gx_14 ni0) gx_22 ni0)
    refine wkc 39 27 #[.tmp 37, .tmp 38] #[23, 32] 24 #[.pointer (some ⟨p, 0, none⟩), .agg #[.int .i64 m.kind, .int .i64 m.frm, .int .i64 m.to, .int .u32 m.view, .int .u32 m.seq, .slice m.na m.N.length m.nc, .slice m.wa m.W.length m.wc]] Try.func27 (confirm_c (s := s) (m := m) hL_32 hk hb_43 (fun hb_33 w_34 γ_35 gx_36 => ⟨?_, ?_⟩) (fun hb_37 w_38 γ_39 or_40 gx_41 hL_42 => ⟨?_, ?_⟩))
    · exact trivial
    · have hsz_44 := gx_36.size
      refine wpa 4 (.const (.slice none 0 0)) 33 (.slice none 0 0) ?_
      refine wpa 5 (.const (.slice none 0 0)) 33 (.slice none 0 0) ?_
      refine wpa 6 (.tmp 39) 24 (.int .i64 3) ?_
      refine wk_nil ?_
      refine thn_n ?_
      refine g_ret (by kernel_rfl) ?_
      refine blk_r ?_
      refine thn_r ?_
      refine ends3_r (v := .slice none 0 0) (v' := .slice none 0 0) (v'' := .int .i64 3) rfl (by kernel_rfl) (by kernel_rfl) (by kernel_rfl) ?_
      exact h3 (by omega) (by omega) (by omega) hb_33 _ _ (GX.trans (GX.then_same (GX.then_same (GX.then0 (GX.refl [] _ _) e_3 hg_8) sm_13) sm_21) gx_36 (fun _ h_ => absurd h_ List.not_mem_nil))
    · exact trivial
    have hsz_45 := gx_41.size
    refine wpa 4 (.const (.slice none 0 0)) 33 (.slice none 0 0) ?_
    refine wpa 5 (.const (.slice none 0 0)) 33 (.slice none 0 0) ?_
    refine wpa 6 (.tmp 39) 24 (.int .i64 0) ?_
    refine wk_nil ?_
    refine thn_n ?_
    refine g_ret (by kernel_rfl) ?_
    refine blk_r ?_
    refine thn_r ?_
    refine ends3_r (v := .slice none 0 0) (v' := .slice none 0 0) (v'' := .int .i64 0) rfl (by kernel_rfl) (by kernel_rfl) (by kernel_rfl) ?_
    exact h4 (by omega) (by omega) (by omega) hb_37 _ _ (orest := or_40) (GX.trans (GX.then_same (GX.then_same (GX.then0 (GX.refl [k, k + 1] _ _) e_3 hg_8) sm_13) sm_21) gx_41 (fun _ h_ => h_)) hL_42
  refine wk_pure (opd 36 (.binOp .eql 3 (.tmp 35) (.const (.int .i64 1)) 3) 4) rfl (.bool false) (fun _ => y_eql (k := .i64) (a := m.kind) (b := 1) (by kernel_rfl) (by kernel_rfl) (decide_eq_false h_27)) ?_
  refine wpa 33 (.tmp 36) 4 (.bool false) ?_
  refine wk_nil ?_
  refine thn_n ?_
  refine g_cond_f (o := .tmp 33) (x := lHN2_20) (y := lHN2_21) (by kernel_rfl) (by kernel_rfl) ?_
  refine g_seq (x := lHN2_24) (y := lHN2_25) (by kernel_rfl) ?_
  refine g_region (ops := lHR2_7) (id := 7) (by kernel_rfl) [pu 0, lo 1, pu 2, pu 3] (by kernel_rfl) (by kernel_rfl) ?_
  refine wpf 41 32 (.tmp 3) 4 b_1 0 4 4 ?_
  refine wpl 42 27 (.tmp 41) (.int .u32 m.seq) b_1 4 hb_24.1 ?_
  by_cases h_46 : (m.seq : Int) = 0
  · refine wk_pure (opd 43 (.binOp .eql 27 (.tmp 42) (.const (.int .u32 0)) 27) 4) rfl (.bool true) (fun _ => y_eql (k := .u32) (a := m.seq) (b := 0) (by kernel_rfl) (by kernel_rfl) (decide_eq_true h_46)) ?_
    refine wpa 40 (.tmp 43) 4 (.bool true) ?_
    refine wk_nil ?_
    refine thn_n ?_
    refine g_cond_t (o := .tmp 40) (x := lHN2_26) (y := lHN2_27) (by kernel_rfl) (by kernel_rfl) ?_
    refine g_seq (x := lHN2_28) (y := lHN2_29) (by kernel_rfl) ?_
    refine g_region (ops := lHR2_8) (id := 8) (by kernel_rfl) [pu 0, pu 1, pu 2] (by kernel_rfl) (by kernel_rfl) ?_
    refine wpa 4 (.const (.slice none 0 0)) 33 (.slice none 0 0) ?_
    refine wpa 5 (.const (.slice none 0 0)) 33 (.slice none 0 0) ?_
    refine wpa 6 (.const (.int .i64 3)) 24 (.int .i64 3) ?_
    refine wk_nil ?_
    refine thn_n ?_
    refine g_ret (by kernel_rfl) ?_
    refine blk_r ?_
    refine thn_r ?_
    refine ends3_r (v := .slice none 0 0) (v' := .slice none 0 0) (v'' := .int .i64 3) rfl (by kernel_rfl) (by kernel_rfl) (by kernel_rfl) ?_
    exact h5 (by omega) (by omega) (by omega) (by omega) _ _ (GX.then_same (GX.then_same (GX.then0 (GX.refl [] _ _) e_3 hg_8) sm_13) sm_21)
  refine wk_pure (opd 43 (.binOp .eql 27 (.tmp 42) (.const (.int .u32 0)) 27) 4) rfl (.bool false) (fun _ => y_eql (k := .u32) (a := m.seq) (b := 0) (by kernel_rfl) (by kernel_rfl) (decide_eq_false h_46)) ?_
  refine wpa 40 (.tmp 43) 4 (.bool false) ?_
  refine wk_nil ?_
  refine thn_n ?_
  refine g_cond_f (o := .tmp 40) (x := lHN2_26) (y := lHN2_27) (by kernel_rfl) (by kernel_rfl) ?_
  refine g_seq (x := lHN2_30) (y := lHN2_31) (by kernel_rfl) ?_
  refine g_draw (ops := lHR2_9) (id := 9) (by kernel_rfl) (fun w w' => Grown w w') [pu 0, pu 2, pu 3, pu 4, (1, .stab), (5, .stab), pu 6, pu 7, pu 8, pu 9, rd 10, lo 11, pu 12, pu 13, pu 14] (by kernel_rfl) (by kernel_rfl) (fun _ => Grown.refl _) (fun w_47 sm_48 => ?_)
  have gx_49 := GX.same [] γ_7 sm_48
  have hsz_50 : w_47.heap.size = w_20.heap.size := by rw [sm_48.heap]
  refine wpf 45 32 (.tmp 3) 4 b_1 0 4 4 ?_
  refine wpm 47 (.tmp 0) 23 (.pointer (some ⟨p, 0, none⟩)) ?_
  refine wpn 48 (.tmp 47) ⟨p, 0, none⟩ ?_
  refine wpf 49 61 (.tmp 48) 7 p 0 7 7 ?_
  refine wk_stab (opd 46 (.load 27 (.tmp 45)) 27) rfl (.int .u32 m.seq) (fun w'_ g_ => x_load (b := b_1) (off := 4) (by kernel_rfl) (by kernel_rfl) (Grown.keep g_ (Bk.keep hb_24 gx_49 ni0).1) (by kernel_rfl)) ?_
  refine wk_stab (opd 50 (.load 27 (.tmp 49)) 27) rfl (.int .u32 s.next) (fun w'_ g_ => x_load (b := p) (off := 7) (by kernel_rfl) (by kernel_rfl) (Grown.keep g_ (Bk.keep hb_25 gx_49 ni0).1) (by kernel_rfl)) ?_
  by_cases h_51 : (m.seq : Int) < s.next
  · refine wk_pure (opd 51 (.binOp .lss 27 (.tmp 46) (.tmp 50) 27) 4) rfl (.bool true) (fun _ => y_lss (k := .u32) (a := m.seq) (b := s.next) (by kernel_rfl) (by kernel_rfl) (decide_eq_true h_51)) ?_
    refine wpm 52 (.tmp 51) 4 (.bool true) ?_
    refine wks 53 ?_
    refine wks 54 ?_
    refine wks 55 ?_
    refine wks 56 ?_
    refine wks 57 ?_
    refine wpt 58 (.tmp 52) (.const (.bool true)) (.tmp 57) 4 (.bool true) ?_
    refine wpa 44 (.tmp 58) 4 (.bool true) ?_
    refine wk_nil ?_
    refine thn_n ?_
    refine g_cond_t (o := .tmp 44) (x := lHN2_32) (y := lHN2_33) (by kernel_rfl) (by kernel_rfl) ?_
    refine g_seq (x := lHN2_34) (y := lHN2_35) (by kernel_rfl) ?_
    refine g_region (ops := lHR2_10) (id := 10) (by kernel_rfl) [pu 0, lo 1, pu 2, pu 3, pu 4] (by kernel_rfl) (by kernel_rfl) ?_
    refine wpm 59 (.tmp 0) 23 (.pointer (some ⟨p, 0, none⟩)) ?_
    have hb_52 := (Bk.keep hb_25 gx_49 ni0)
    have hb_53 : OwNG γ_7 w_47 (k + 1) 65 9 s.oa s.og s.oc encS s.out s.orest := (OwNG.keep (OwNG.keep (OwNG.keep (OwNG.keep h.ho gx_10 ni0) gx_14 ni0) gx_22 ni0) gx_49 ni0)
    have hb_54 : OwNG γ_7 w_47 (k + 2) 32 7 s.ha s.hg s.hc encM s.held s.hrest := (OwNG.keep (OwNG.keep (OwNG.keep (OwNG.keep h.hh gx_10 ni0) gx_14 ni0) gx_22 ni0) gx_49 ni0)
    have hb_55 : AllOk γ_7 w_47 (s.out.map (·.m)) := (AllOk.keep (AllOk.keep (AllOk.keep (AllOk.keep h.ao gx_10 ni0) gx_14 ni0) gx_22 ni0) gx_49 ni0)
    have hb_56 : AllOk γ_7 w_47 s.held := (AllOk.keep (AllOk.keep (AllOk.keep (AllOk.keep h.ah gx_10 ni0) gx_14 ni0) gx_22 ni0) gx_49 ni0)
    have hL_57 : LinkAt γ_7 w_47 k p (⟨s.own, s.peer, s.view, s.now, s.oa, s.og, s.oc, s.out, s.orest, s.pushed, s.told, s.next, s.ha, s.hg, s.hc, s.held, s.hrest⟩ : LkR) := ⟨hb_52, hb_53, hb_54, hb_55, hb_56, h_b1, h_b2, h_b3, h_b4, h_b5, h_l1, (by first | exact h_l2 | (show (s.held ++ [_]).length ≤ 1000000; rw [List.length_append, List.length_singleton]; omega)), h_l3⟩
    refine wkc 60 29 #[.tmp 59] #[23] 33 #[.pointer (some ⟨p, 0, none⟩)] Try.func29 (answer_c (s := s) hL_57 hk (fun w_58 γ_59 v_60 r_61 gx_62 hM_63 ha_64 => ⟨?_, ?_⟩))
    · exact trivial
    have hsz_65 := gx_62.size
    refine wpa 4 (.const (.slice none 0 0)) 33 (.slice none 0 0) ?_
    refine wpa 5 (.tmp 60) 33 v_60 ?_
    refine wpa 6 (.const (.int .i64 8)) 24 (.int .i64 8) ?_
    refine wk_nil ?_
    refine thn_n ?_
    refine g_ret (by kernel_rfl) ?_
    refine blk_r ?_
    refine thn_r ?_
    refine ends3_r (v := .slice none 0 0) (v' := v_60) (v'' := .int .i64 8) rfl (by kernel_rfl) (by kernel_rfl) (by kernel_rfl) ?_
    exact h6 (by omega) (by omega) (by omega) (by omega) (.inl (by omega)) _ _ _ _ (GX.trans (GX.then_same (GX.then_same (GX.then_same (GX.then0 (GX.refl [] _ _) e_3 hg_8) sm_13) sm_21) sm_48) gx_62 (fun _ h_ => absurd h_ List.not_mem_nil)) hM_63 ha_64
  refine wk_pure (opd 51 (.binOp .lss 27 (.tmp 46) (.tmp 50) 27) 4) rfl (.bool false) (fun _ => y_lss (k := .u32) (a := m.seq) (b := s.next) (by kernel_rfl) (by kernel_rfl) (decide_eq_false h_51)) ?_
  refine wpm 52 (.tmp 51) 4 (.bool false) ?_
  refine wk_pure (opg 53 (.move (.tmp 0)) 23 7 false) (by kernel_rfl) (.pointer (some ⟨p, 0, none⟩)) (fun _ => y_move (by kernel_rfl)) ?_
  refine wk_pure (opg 54 (.fieldAddr 32 (.tmp 3) 4) 0 7 false) (by kernel_rfl) (.pointer (some ⟨b_1, 4, none⟩)) (fun _ => x_fieldAddr (b := b_1) (off := 0) (o := 4) (by kernel_rfl) (by kernel_rfl)) ?_
  have hb_66 := (Bk.keep hb_24 gx_49 ni0)
  refine wk_read (opg 55 (.load 27 (.tmp 54)) 27 7 false) (by kernel_rfl) (.int .u32 m.seq) (fun w'_ g_ => x_load (b := b_1) (off := 4) (by kernel_rfl) (by kernel_rfl) (g_.keep hb_66.1) (by kernel_rfl)) ?_
  have hb_67 := (Bk.keep hb_25 gx_49 ni0)
  have hb_68 : OwNG γ_7 w_47 (k + 1) 65 9 s.oa s.og s.oc encS s.out s.orest := (OwNG.keep (OwNG.keep (OwNG.keep (OwNG.keep h.ho gx_10 ni0) gx_14 ni0) gx_22 ni0) gx_49 ni0)
  have hb_69 : OwNG γ_7 w_47 (k + 2) 32 7 s.ha s.hg s.hc encM s.held s.hrest := (OwNG.keep (OwNG.keep (OwNG.keep (OwNG.keep h.hh gx_10 ni0) gx_14 ni0) gx_22 ni0) gx_49 ni0)
  have hb_70 : AllOk γ_7 w_47 (s.out.map (·.m)) := (AllOk.keep (AllOk.keep (AllOk.keep (AllOk.keep h.ao gx_10 ni0) gx_14 ni0) gx_22 ni0) gx_49 ni0)
  have hb_71 : AllOk γ_7 w_47 s.held := (AllOk.keep (AllOk.keep (AllOk.keep (AllOk.keep h.ah gx_10 ni0) gx_14 ni0) gx_22 ni0) gx_49 ni0)
  have hL_72 : LinkAt γ_7 w_47 k p (⟨s.own, s.peer, s.view, s.now, s.oa, s.og, s.oc, s.out, s.orest, s.pushed, s.told, s.next, s.ha, s.hg, s.hc, s.held, s.hrest⟩ : LkR) := ⟨hb_67, hb_68, hb_69, hb_70, hb_71, h_b1, h_b2, h_b3, h_b4, h_b5, h_l1, (by first | exact h_l2 | (show (s.held ++ [_]).length ≤ 1000000; rw [List.length_append, List.length_singleton]; omega)), h_l3⟩
  refine wk_call (opg 56 (.call ⟨.value (.func 28), #[.tmp 53, .tmp 55], #[23, 27]⟩) 3 7 false) (by kernel_rfl) 28 #[.pointer (some ⟨p, 0, none⟩), .int .u32 m.seq] (x_call Try.func28 (by kernel_rfl) (c := (Try.f28.body).getD .skip) (by kernel_rfl) (by kernel_rfl) (by kernel_rfl)) (find_c (s := s) hL_72 hk (fun k_73 hk_74 he_75 hn_76 w_77 γ_78 gx_79 => ⟨?_, ?_⟩) (fun hn_80 w_81 γ_82 gx_83 => ⟨?_, ?_⟩))
  · exact (Grown.trans (Grown.refl _) (GX.grown gx_79))
  · have hsz_84 := gx_79.size
    refine wk_pure (opg 57 (.binOp .geq 3 (.tmp 56) (.const (.int .i64 0)) 3) 4 7 false) (by kernel_rfl) (.bool true) (fun _ => y_geq (k := .i64) (a := ((k_73 : Nat) : Int)) (b := 0) (by kernel_rfl) (by kernel_rfl) (decide_eq_true (by omega))) ?_
    refine wpk 58 (.tmp 52) (.const (.bool true)) (.tmp 57) 4 (.bool true) ?_
    refine wpa 44 (.tmp 58) 4 (.bool true) ?_
    refine wk_nil ?_
    refine thn_n ?_
    refine g_cond_t (o := .tmp 44) (x := lHN2_32) (y := lHN2_33) (by kernel_rfl) (by kernel_rfl) ?_
    refine g_seq (x := lHN2_34) (y := lHN2_35) (by kernel_rfl) ?_
    refine g_region (ops := lHR2_10) (id := 10) (by kernel_rfl) [pu 0, lo 1, pu 2, pu 3, pu 4] (by kernel_rfl) (by kernel_rfl) ?_
    refine wpm 59 (.tmp 0) 23 (.pointer (some ⟨p, 0, none⟩)) ?_
    have hb_85 := (Bk.keep hb_67 gx_79 ni0)
    have hb_86 := (OwNG.keep hb_68 gx_79 ni0)
    have hb_87 := (OwNG.keep hb_69 gx_79 ni0)
    have hb_88 := (AllOk.keep hb_70 gx_79 ni0)
    have hb_89 := (AllOk.keep hb_71 gx_79 ni0)
    have hL_90 : LinkAt γ_78 w_77 k p (⟨s.own, s.peer, s.view, s.now, s.oa, s.og, s.oc, s.out, s.orest, s.pushed, s.told, s.next, s.ha, s.hg, s.hc, s.held, s.hrest⟩ : LkR) := ⟨hb_85, hb_86, hb_87, hb_88, hb_89, h_b1, h_b2, h_b3, h_b4, h_b5, h_l1, (by first | exact h_l2 | (show (s.held ++ [_]).length ≤ 1000000; rw [List.length_append, List.length_singleton]; omega)), h_l3⟩
    refine wkc 60 29 #[.tmp 59] #[23] 33 #[.pointer (some ⟨p, 0, none⟩)] Try.func29 (answer_c (s := s) hL_90 hk (fun w_91 γ_92 v_93 r_94 gx_95 hM_96 ha_97 => ⟨?_, ?_⟩))
    · exact trivial
    have hsz_98 := gx_95.size
    refine wpa 4 (.const (.slice none 0 0)) 33 (.slice none 0 0) ?_
    refine wpa 5 (.tmp 60) 33 v_93 ?_
    refine wpa 6 (.const (.int .i64 8)) 24 (.int .i64 8) ?_
    refine wk_nil ?_
    refine thn_n ?_
    refine g_ret (by kernel_rfl) ?_
    refine blk_r ?_
    refine thn_r ?_
    refine ends3_r (v := .slice none 0 0) (v' := v_93) (v'' := .int .i64 8) rfl (by kernel_rfl) (by kernel_rfl) (by kernel_rfl) ?_
    exact h6 (by omega) (by omega) (by omega) (by omega) (.inr ⟨_, idx_some hk_74 he_75 hn_76⟩) _ _ _ _ (GX.trans (GX.trans (GX.then_same (GX.then_same (GX.then_same (GX.then0 (GX.refl [] _ _) e_3 hg_8) sm_13) sm_21) sm_48) gx_79 (fun _ h_ => absurd h_ List.not_mem_nil)) gx_95 (fun _ h_ => absurd h_ List.not_mem_nil)) hM_96 ha_97
  · exact (Grown.trans (Grown.refl _) (GX.grown gx_83))
  have hsz_99 := gx_83.size
  refine wk_pure (opg 57 (.binOp .geq 3 (.tmp 56) (.const (.int .i64 0)) 3) 4 7 false) (by kernel_rfl) (.bool false) (fun _ => y_geq (k := .i64) (a := (-1)) (b := 0) (by kernel_rfl) (by kernel_rfl) (by decide)) ?_
  refine wpk 58 (.tmp 52) (.const (.bool true)) (.tmp 57) 4 (.bool false) ?_
  refine wpa 44 (.tmp 58) 4 (.bool false) ?_
  refine wk_nil ?_
  refine thn_n ?_
  refine g_cond_f (o := .tmp 44) (x := lHN2_32) (y := lHN2_33) (by kernel_rfl) (by kernel_rfl) ?_
  refine g_seq (x := lHN2_36) (y := lHN2_37) (by kernel_rfl) ?_
  refine g_draw (ops := lHR2_11) (id := 11) (by kernel_rfl) (fun _ _ => True) [pu 0, pu 2, pu 3, pu 4, rd 1, rd 5, pu 6, pu 7, pu 8] (by kernel_rfl) (by kernel_rfl) (fun _ => trivial) (fun w_100 sm_101 => ?_)
  have gx_102 := GX.same [] γ_82 sm_101
  have hsz_103 : w_100.heap.size = w_81.heap.size := by rw [sm_101.heap]
  refine wpf 62 32 (.tmp 3) 4 b_1 0 4 4 ?_
  refine wpm 64 (.tmp 0) 23 (.pointer (some ⟨p, 0, none⟩)) ?_
  refine wpn 65 (.tmp 64) ⟨p, 0, none⟩ ?_
  refine wpf 66 61 (.tmp 65) 7 p 0 7 7 ?_
  have hb_104 := (Bk.keep (Bk.keep hb_66 gx_83 ni0) gx_102 ni0)
  refine wk_read (opd 63 (.load 27 (.tmp 62)) 27) rfl (.int .u32 m.seq) (fun w'_ g_ => x_load (b := b_1) (off := 4) (by kernel_rfl) (by kernel_rfl) (g_.keep hb_104.1) (by kernel_rfl)) ?_
  have hb_105 := (Bk.keep (Bk.keep hb_67 gx_83 ni0) gx_102 ni0)
  refine wk_read (opd 67 (.load 27 (.tmp 66)) 27) rfl (.int .u32 s.next) (fun w'_ g_ => x_load (b := p) (off := 7) (by kernel_rfl) (by kernel_rfl) (g_.keep hb_105.1) (by kernel_rfl)) ?_
  refine wk_pure (opd 68 (.binOp .sub 27 (.tmp 63) (.tmp 67) 27) 27) rfl (.int .u32 (m.seq - s.next)) (fun _ => y_sub (k := .u32) (a := m.seq) (b := s.next) (by kernel_rfl) (by kernel_rfl) (u32_to (by omega) rfl)) ?_
  by_cases h_106 : (32 : Int) ≤ (m.seq - s.next)
  · refine wk_pure (opd 69 (.binOp .geq 27 (.tmp 68) (.const (.int .u32 32)) 27) 4) rfl (.bool true) (fun _ => y_geq (k := .u32) (a := (m.seq - s.next)) (b := 32) (by kernel_rfl) (by kernel_rfl) (decide_eq_true h_106)) ?_
    refine wpa 61 (.tmp 69) 4 (.bool true) ?_
    refine wk_nil ?_
    refine thn_n ?_
    refine g_cond_t (o := .tmp 61) (x := lHN2_38) (y := lHN2_39) (by kernel_rfl) (by kernel_rfl) ?_
    refine g_seq (x := lHN2_40) (y := lHN2_41) (by kernel_rfl) ?_
    refine g_region (ops := lHR2_12) (id := 12) (by kernel_rfl) [pu 0, pu 1, pu 2] (by kernel_rfl) (by kernel_rfl) ?_
    refine wpa 4 (.const (.slice none 0 0)) 33 (.slice none 0 0) ?_
    refine wpa 5 (.const (.slice none 0 0)) 33 (.slice none 0 0) ?_
    refine wpa 6 (.const (.int .i64 6)) 24 (.int .i64 6) ?_
    refine wk_nil ?_
    refine thn_n ?_
    refine g_ret (by kernel_rfl) ?_
    refine blk_r ?_
    refine thn_r ?_
    refine ends3_r (v := .slice none 0 0) (v' := .slice none 0 0) (v'' := .int .i64 6) rfl (by kernel_rfl) (by kernel_rfl) (by kernel_rfl) ?_
    exact h7 (by omega) (by omega) (by omega) (by omega) (by omega) (idx_none (L := s.held) hn_80) (by omega) _ _ (GX.then_same (GX.trans (GX.then_same (GX.then_same (GX.then_same (GX.then0 (GX.refl [] _ _) e_3 hg_8) sm_13) sm_21) sm_48) gx_83 (fun _ h_ => absurd h_ List.not_mem_nil)) sm_101)
  refine wk_pure (opd 69 (.binOp .geq 27 (.tmp 68) (.const (.int .u32 32)) 27) 4) rfl (.bool false) (fun _ => y_geq (k := .u32) (a := (m.seq - s.next)) (b := 32) (by kernel_rfl) (by kernel_rfl) (decide_eq_false h_106)) ?_
  refine wpa 61 (.tmp 69) 4 (.bool false) ?_
  refine wk_nil ?_
  refine thn_n ?_
  refine g_cond_f (o := .tmp 61) (x := lHN2_38) (y := lHN2_39) (by kernel_rfl) (by kernel_rfl) ?_
  refine g_skip (by kernel_rfl) ?_
  refine blk_n ?_
  refine thn_n ?_
  refine g_seq (x := lHN2_42) (y := lHN2_43) (by kernel_rfl) ?_
  refine g_fork (ops := lHR2_13) (id := 13) (by kernel_rfl) (fun _ _ => True) (seqP [(0, .pure), (1, .pure), (2, .pure), (3, .pure)] (.two 4 5 (seqP [(5, .loud), (6, .loud), (7, .loud), (8, .loud), (9, .pure), (10, .pure), (11, .loud)] .nil) (seqP [] (.two 4 6 (seqP [(6, .loud), (7, .loud), (8, .loud), (9, .pure), (10, .pure), (11, .loud)] .nil) (seqP [] (.two 4 7 (seqP [(7, .loud), (8, .loud), (9, .pure), (10, .pure), (11, .loud)] .nil) (seqP [(4, .read), (8, .loud), (9, .pure), (10, .pure), (11, .loud)] .nil))))))) (by kernel_rfl) (by kernel_rfl) (fun _ => trivial) (fun w_107 sm_108 => wkP_seq ?_)
  have gx_109 := GX.same [] γ_82 sm_108
  have hsz_110 : w_107.heap.size = w_100.heap.size := by rw [sm_108.heap]
  refine wpm 70 (.tmp 0) 23 (.pointer (some ⟨p, 0, none⟩)) ?_
  refine wpm 71 (.tmp 0) 23 (.pointer (some ⟨p, 0, none⟩)) ?_
  refine wpn 72 (.tmp 71) ⟨p, 0, none⟩ ?_
  refine wpf 73 61 (.tmp 72) 8 p 0 8 8 ?_
  refine wk_nil ?_
  refine wkP_two ?_ ?_
  · have hb_111 := (Bk.keep hb_105 gx_109 ni0)
    refine wpl 74 33 (.tmp 73) (.slice s.ha s.held.length s.hc) p 8 hb_111.1 ?_
    refine wk_nil ?_
    refine wkP_seq ?_
    have hb_112 := (Bk.keep hb_104 gx_109 ni0)
    refine wk_val (opd 75 (.load 32 (.tmp 3)) 32) rfl (.agg #[.int .i64 m.kind, .int .i64 m.frm, .int .i64 m.to, .int .u32 m.view, .int .u32 m.seq, .slice m.na m.N.length m.nc, .slice m.wa m.W.length m.wc]) (x_load_agg (b := b_1) (off := 0) (n := 7) (by kernel_rfl) (by kernel_rfl) hb_112.1 (Nat.le_of_ble_eq_true rfl) (by kernel_rfl)) trivial ?_
    have hb_113 : MOk γ_82 w_107 m := (MOk.keep (MOk.keep (MOk.keep (MOk.keep (MOk.keep (MOk.keep (MOk.keep hm gx_10 ni0) gx_14 ni0) gx_22 ni0) gx_49 ni0) gx_83 ni0) gx_102 ni0) gx_109 ni0)
    refine wkc 76 25 #[.tmp 75] #[32] 32 #[.agg #[.int .i64 m.kind, .int .i64 m.frm, .int .i64 m.to, .int .u32 m.view, .int .u32 m.seq, .slice m.na m.N.length m.nc, .slice m.wa m.W.length m.wc]] Try.func25 (copied_c (γ := γ_82) (m := m) hb_113 (fun w_114 γ_115 m_116 gx_117 hm_118 ha_119 => ⟨?_, ?_⟩))
    · exact trivial
    have hsz_120 := gx_117.size
    have ha_m_116 := abs_eq.1 ha_119
    obtain ⟨ek_m_116, ef_m_116, et_m_116, ev_m_116, es_m_116, eN_m_116, eW_m_116⟩ := ha_m_116
    have el_m_116 := congrArg List.length eN_m_116
    have ew_m_116 := congrArg List.length eW_m_116
    refine wk_buildSlice (e := 32) (cs := #[.int .i64 m_116.kind, .int .i64 m_116.frm, .int .i64 m_116.to, .int .u32 m_116.view, .int .u32 m_116.seq, .slice m_116.na m_116.N.length m_116.nc, .slice m_116.wa m_116.W.length m_116.wc]) (opd 77 (.buildSlice 33 1 #[(0, .tmp 76)]) 33) rfl (by kernel_rfl) (fun w_121 b_122 eq_123 e_124 sz_125 hb_126 => ⟨?_, ?_⟩)
    · exact trivial
    obtain ⟨γ_127, hg_128, hn_129⟩ := cls_new γ_115 w_114.heap.size 11102
    have gx_130 := GX.ext0 [] e_124 hg_128
    have hk_131 : Bk γ_127 w_121 b_122 11102 (.cells #[.int .i64 m_116.kind, .int .i64 m_116.frm, .int .i64 m_116.to, .int .u32 m_116.view, .int .u32 m_116.seq, .slice m_116.na m_116.N.length m_116.nc, .slice m_116.wa m_116.W.length m_116.wc] 32 (0, 0)) := ⟨hb_126, hn_129 _ (by omega)⟩
    have hs_132 : SlE w_121 7 (some ⟨b_122, 0, none⟩) b_122 0 encM [m_116] := SlE.of_cells hk_131.1 encM_len (by rfl)
    have hb_142 := (OwNG.keep (OwNG.keep (OwNG.keep (OwNG.keep (OwNG.keep hb_69 gx_83 ni0) gx_102 ni0) gx_109 ni0) gx_117 ni0) gx_130 ni0)
    have on_143 : OwNG γ_127 w_121 (k + 2) 32 7 s.ha s.hg s.hc encM s.held s.hrest := hb_142
    refine wk_append (M := ([m_116])) (L := s.held) (a := s.ha) (g := s.hg) (c := s.hc) (ax := (some ⟨b_122, 0, none⟩)) (bx := b_122) (offx := 0) (cx := 1) (e := 32) (sz := 7) (by_ := 80) (opd 78 (.call ⟨.builtin .append, #[.tmp 74, .tmp 77], #[33, 33]⟩) 33) rfl (by kernel_rfl) (by kernel_rfl) encM_len (by kernel_rfl) on_143.1 (by kernel_rfl) hs_132 (by simp) encM_one (by constructor <;> (simp only [List.length_singleton]; omega)) (fun w_133 b_134 cap_135 rest_136 hb_137 e_138 sz_139 lt_140 ho_141 => ⟨?_, ?_⟩)
    · exact trivial
    obtain ⟨γ_144, hg_145, hn_146⟩ := cls_new γ_127 w_121.heap.size (k + 2)
    have gx_147 : GX [k + 2] w_121 γ_127 w_133 γ_144 := OwNG.gx on_143 e_138 hg_145
    have hk_148 : OwnG γ_144 w_133 (k + 2) 32 7 b_134 cap_135 encM (s.held ++ ([m_116])) rest_136 := ⟨ho_141, OwNG.appc on_143 hb_137 hg_145 hn_146⟩
    have hsz_149 := e_138.size
    refine wpn 79 (.tmp 70) ⟨p, 0, none⟩ ?_
    refine wpf 80 61 (.tmp 79) 8 p 0 8 8 ?_
    have hb_150 := (Bk.keep (Bk.keep (Bk.keep hb_111 gx_117 ni0) gx_130 ni0) gx_147 ni1)
    refine wk_store (b := p) (off := 8) (cs' := #[.int .i64 s.own, .int .i64 s.peer, .int .u32 s.view, .int .i64 s.now, .slice s.oa s.out.length s.oc, .int .u32 s.pushed, .int .u32 s.told, .int .u32 s.next, .slice (some ⟨b_134, 0, none⟩) ((s.held ++ ([m_116])).length) cap_135]) (vs := #[.slice (some ⟨b_134, 0, none⟩) ((s.held ++ ([m_116])).length) cap_135]) (opn (.store 33 (.tmp 80) (.tmp 78)) 0) rfl (by kernel_rfl) (by kernel_rfl) (by kernel_rfl) (by kernel_rfl) hb_150.1 (Nat.le_of_ble_eq_true rfl) (by kernel_rfl) (by kernel_rfl) (fun w_151 e_152 sz_153 hb_154 => ⟨?_, ?_⟩)
    · exact trivial
    have gx_155 : GX [k] w_133 γ_144 w_151 γ_144 := GX.ext1 e_152 hb_150.2 (fun _ _ => rfl)
    have hk_156 : Bk γ_144 w_151 p k (.cells #[.int .i64 s.own, .int .i64 s.peer, .int .u32 s.view, .int .i64 s.now, .slice s.oa s.out.length s.oc, .int .u32 s.pushed, .int .u32 s.told, .int .u32 s.next, .slice (some ⟨b_134, 0, none⟩) ((s.held ++ ([m_116])).length) cap_135] 61 (0, 0)) := ⟨hb_154, hb_150.2⟩
    refine wk_nil ?_
    refine wkP_nil ?_
    refine thn_n ?_
    refine g_seq (x := lHN2_44) (y := lHN2_45) (by kernel_rfl) ?_
    refine g_region (ops := lHR2_14) (id := 14) (by kernel_rfl) [pu 0, lo 1, pu 2] (by kernel_rfl) (by kernel_rfl) ?_
    refine wpm 81 (.tmp 0) 23 (.pointer (some ⟨p, 0, none⟩)) ?_
    have hb_158 := (AllOk.keep (AllOk.keep (AllOk.keep (AllOk.keep (AllOk.keep (AllOk.keep (AllOk.keep hb_71 gx_83 ni0) gx_102 ni0) gx_109 ni0) gx_117 ni0) gx_130 ni0) gx_147 ni1) gx_155 ni1)
    have hb_159 := (MOk.keep (MOk.keep (MOk.keep hm_118 gx_130 ni0) gx_147 ni1) gx_155 ni1)
    have hah_157 : AllOk γ_144 w_151 (s.held ++ [m_116]) := AllOk.add hb_158 hb_159
    have hb_160 := (OwNG.keep (OwNG.keep (OwNG.keep (OwNG.keep (OwNG.keep (OwNG.keep (OwNG.keep hb_68 gx_83 ni0) gx_102 ni0) gx_109 ni0) gx_117 ni0) gx_130 ni0) gx_147 ni1) gx_155 ni1)
    have hb_161 := (OwnG.keep hk_148 gx_155 ni1)
    have hb_162 := (AllOk.keep (AllOk.keep (AllOk.keep (AllOk.keep (AllOk.keep (AllOk.keep (AllOk.keep hb_70 gx_83 ni0) gx_102 ni0) gx_109 ni0) gx_117 ni0) gx_130 ni0) gx_147 ni1) gx_155 ni1)
    have hL_163 : LinkAt γ_144 w_151 k p (⟨s.own, s.peer, s.view, s.now, s.oa, s.og, s.oc, s.out, s.orest, s.pushed, s.told, s.next, (some ⟨b_134, 0, none⟩), b_134, cap_135, (s.held ++ ([m_116])), rest_136⟩ : LkR) := ⟨hk_156, hb_160, (OwNG.of hb_161), hb_162, hah_157, h_b1, h_b2, h_b3, h_b4, h_b5, h_l1, (by first | exact h_l2 | (show (s.held ++ [_]).length ≤ 1000000; rw [List.length_append, List.length_singleton]; omega)), h_l3⟩
    refine wkc 82 30 #[.tmp 81] #[23] 33 #[.pointer (some ⟨p, 0, none⟩)] Try.func30 (ready_c (s := (⟨s.own, s.peer, s.view, s.now, s.oa, s.og, s.oc, s.out, s.orest, s.pushed, s.told, s.next, (some ⟨b_134, 0, none⟩), b_134, cap_135, (s.held ++ ([m_116])), rest_136⟩ : LkR)) hL_163 hk (fun w_164 γ_165 v_166 outs_167 L_168 la_169 lg_170 lc_171 lrest_172 nx_173 gx_174 hM_175 hL_176 hR_177 => ⟨?_, ?_⟩))
    · exact trivial
    have hsz_178 := gx_174.size
    refine wpa 7 (.tmp 82) 33 v_166 ?_
    refine wk_nil ?_
    refine thn_n ?_
    refine g_seq (x := lHN2_46) (y := lHN2_47) (by kernel_rfl) ?_
    refine g_region (ops := lHR2_15) (id := 15) (by kernel_rfl) [pu 0, pu 1, lo 2, pu 3, pu 4, pu 5] (by kernel_rfl) (by kernel_rfl) ?_
    refine wpm 83 (.tmp 7) 33 v_166 ?_
    refine wpm 84 (.tmp 0) 23 (.pointer (some ⟨p, 0, none⟩)) ?_
    refine wkc 85 29 #[.tmp 84] #[23] 33 #[.pointer (some ⟨p, 0, none⟩)] Try.func29 (answer_c hL_176 hk (fun w_179 γ_180 v_181 r_182 gx_183 hM_184 ha_185 => ⟨?_, ?_⟩))
    · exact trivial
    have hsz_186 := gx_183.size
    refine wpa 4 (.tmp 83) 33 v_166 ?_
    refine wpa 5 (.tmp 85) 33 v_181 ?_
    refine wpa 6 (.const (.int .i64 0)) 24 (.int .i64 0) ?_
    refine wk_nil ?_
    refine thn_n ?_
    refine g_ret (by kernel_rfl) ?_
    refine ends3_r (v := v_166) (v' := v_181) (v'' := .int .i64 0) rfl (by kernel_rfl) (by kernel_rfl) (by kernel_rfl) ?_
    have hR_ := hR_177
    have hRR_ : (outs_167.map MsgR.abs, L_168.map MsgR.abs, nx_173) = readyG (s.held.length + 2) [] (s.held.map MsgR.abs ++ [m.abs]) s.next := by rw [hR_]; show readyG ((s.held ++ [m_116]).length + 1) [] ((s.held ++ [m_116]).map MsgR.abs) s.next = _; rw [List.length_append, List.length_singleton, List.map_append]; show readyG _ [] (_ ++ [m_116.abs]) _ = _; rw [ha_119]
    have hb_187 := (MsgsAt.keep hM_175 gx_183 ni0)
    have hb_188 := (LinkAt.keep hL_176 gx_183 ni0 ni0 ni0 ni0)
    exact h8 (by omega) (by omega) (by omega) (by omega) (by omega) (idx_none (L := s.held) hn_80) (by omega) _ _ _ _ outs_167 r_182 (GX.trans (GX.trans (GX.trans (GX.trans (GX.then0 (GX.trans (GX.then_same (GX.then_same (GX.trans (GX.then_same (GX.then_same (GX.then_same (GX.then0 (GX.refl [k, k + 2] _ _) e_3 hg_8) sm_13) sm_21) sm_48) gx_83 (fun _ h_ => absurd h_ List.not_mem_nil)) sm_101) sm_108) gx_117 (fun _ h_ => absurd h_ List.not_mem_nil)) e_124 hg_128) gx_147 (by intro c_ hc_; simp only [List.mem_cons, List.not_mem_nil, or_false] at hc_ ⊢; omega)) gx_155 (by intro c_ hc_; simp only [List.mem_cons, List.not_mem_nil, or_false] at hc_ ⊢; omega)) gx_174 (fun _ h_ => h_)) gx_183 (fun _ h_ => absurd h_ List.not_mem_nil)) hb_187 hM_184 hb_188 hRR_ ha_185
  have hb_189 := (Bk.keep hb_104 gx_109 ni0)
  refine wk_val (opd 75 (.load 32 (.tmp 3)) 32) rfl (.agg #[.int .i64 m.kind, .int .i64 m.frm, .int .i64 m.to, .int .u32 m.view, .int .u32 m.seq, .slice m.na m.N.length m.nc, .slice m.wa m.W.length m.wc]) (x_load_agg (b := b_1) (off := 0) (n := 7) (by kernel_rfl) (by kernel_rfl) hb_189.1 (Nat.le_of_ble_eq_true rfl) (by kernel_rfl)) trivial ?_
  refine wk_nil ?_
  refine wkP_seq ?_
  refine wk_nil ?_
  refine wkP_two ?_ ?_
  · have hb_190 := (Bk.keep hb_105 gx_109 ni0)
    refine wpl 74 33 (.tmp 73) (.slice s.ha s.held.length s.hc) p 8 hb_190.1 ?_
    refine wk_nil ?_
    refine wkP_seq ?_
    have hb_191 : MOk γ_82 w_107 m := (MOk.keep (MOk.keep (MOk.keep (MOk.keep (MOk.keep (MOk.keep (MOk.keep hm gx_10 ni0) gx_14 ni0) gx_22 ni0) gx_49 ni0) gx_83 ni0) gx_102 ni0) gx_109 ni0)
    refine wkc 76 25 #[.tmp 75] #[32] 32 #[.agg #[.int .i64 m.kind, .int .i64 m.frm, .int .i64 m.to, .int .u32 m.view, .int .u32 m.seq, .slice m.na m.N.length m.nc, .slice m.wa m.W.length m.wc]] Try.func25 (copied_c (γ := γ_82) (m := m) hb_191 (fun w_192 γ_193 m_194 gx_195 hm_196 ha_197 => ⟨?_, ?_⟩))
    · exact trivial
    have hsz_198 := gx_195.size
    have ha_m_194 := abs_eq.1 ha_197
    obtain ⟨ek_m_194, ef_m_194, et_m_194, ev_m_194, es_m_194, eN_m_194, eW_m_194⟩ := ha_m_194
    have el_m_194 := congrArg List.length eN_m_194
    have ew_m_194 := congrArg List.length eW_m_194
    refine wk_buildSlice (e := 32) (cs := #[.int .i64 m_194.kind, .int .i64 m_194.frm, .int .i64 m_194.to, .int .u32 m_194.view, .int .u32 m_194.seq, .slice m_194.na m_194.N.length m_194.nc, .slice m_194.wa m_194.W.length m_194.wc]) (opd 77 (.buildSlice 33 1 #[(0, .tmp 76)]) 33) rfl (by kernel_rfl) (fun w_199 b_200 eq_201 e_202 sz_203 hb_204 => ⟨?_, ?_⟩)
    · exact trivial
    obtain ⟨γ_205, hg_206, hn_207⟩ := cls_new γ_193 w_192.heap.size 11103
    have gx_208 := GX.ext0 [] e_202 hg_206
    have hk_209 : Bk γ_205 w_199 b_200 11103 (.cells #[.int .i64 m_194.kind, .int .i64 m_194.frm, .int .i64 m_194.to, .int .u32 m_194.view, .int .u32 m_194.seq, .slice m_194.na m_194.N.length m_194.nc, .slice m_194.wa m_194.W.length m_194.wc] 32 (0, 0)) := ⟨hb_204, hn_207 _ (by omega)⟩
    have hs_210 : SlE w_199 7 (some ⟨b_200, 0, none⟩) b_200 0 encM [m_194] := SlE.of_cells hk_209.1 encM_len (by rfl)
    have hb_220 := (OwNG.keep (OwNG.keep (OwNG.keep (OwNG.keep (OwNG.keep hb_69 gx_83 ni0) gx_102 ni0) gx_109 ni0) gx_195 ni0) gx_208 ni0)
    have on_221 : OwNG γ_205 w_199 (k + 2) 32 7 s.ha s.hg s.hc encM s.held s.hrest := hb_220
    refine wk_append (M := ([m_194])) (L := s.held) (a := s.ha) (g := s.hg) (c := s.hc) (ax := (some ⟨b_200, 0, none⟩)) (bx := b_200) (offx := 0) (cx := 1) (e := 32) (sz := 7) (by_ := 80) (opd 78 (.call ⟨.builtin .append, #[.tmp 74, .tmp 77], #[33, 33]⟩) 33) rfl (by kernel_rfl) (by kernel_rfl) encM_len (by kernel_rfl) on_221.1 (by kernel_rfl) hs_210 (by simp) encM_one (by constructor <;> (simp only [List.length_singleton]; omega)) (fun w_211 b_212 cap_213 rest_214 hb_215 e_216 sz_217 lt_218 ho_219 => ⟨?_, ?_⟩)
    · exact trivial
    obtain ⟨γ_222, hg_223, hn_224⟩ := cls_new γ_205 w_199.heap.size (k + 2)
    have gx_225 : GX [k + 2] w_199 γ_205 w_211 γ_222 := OwNG.gx on_221 e_216 hg_223
    have hk_226 : OwnG γ_222 w_211 (k + 2) 32 7 b_212 cap_213 encM (s.held ++ ([m_194])) rest_214 := ⟨ho_219, OwNG.appc on_221 hb_215 hg_223 hn_224⟩
    have hsz_227 := e_216.size
    refine wpn 79 (.tmp 70) ⟨p, 0, none⟩ ?_
    refine wpf 80 61 (.tmp 79) 8 p 0 8 8 ?_
    have hb_228 := (Bk.keep (Bk.keep (Bk.keep hb_190 gx_195 ni0) gx_208 ni0) gx_225 ni1)
    refine wk_store (b := p) (off := 8) (cs' := #[.int .i64 s.own, .int .i64 s.peer, .int .u32 s.view, .int .i64 s.now, .slice s.oa s.out.length s.oc, .int .u32 s.pushed, .int .u32 s.told, .int .u32 s.next, .slice (some ⟨b_212, 0, none⟩) ((s.held ++ ([m_194])).length) cap_213]) (vs := #[.slice (some ⟨b_212, 0, none⟩) ((s.held ++ ([m_194])).length) cap_213]) (opn (.store 33 (.tmp 80) (.tmp 78)) 0) rfl (by kernel_rfl) (by kernel_rfl) (by kernel_rfl) (by kernel_rfl) hb_228.1 (Nat.le_of_ble_eq_true rfl) (by kernel_rfl) (by kernel_rfl) (fun w_229 e_230 sz_231 hb_232 => ⟨?_, ?_⟩)
    · exact trivial
    have gx_233 : GX [k] w_211 γ_222 w_229 γ_222 := GX.ext1 e_230 hb_228.2 (fun _ _ => rfl)
    have hk_234 : Bk γ_222 w_229 p k (.cells #[.int .i64 s.own, .int .i64 s.peer, .int .u32 s.view, .int .i64 s.now, .slice s.oa s.out.length s.oc, .int .u32 s.pushed, .int .u32 s.told, .int .u32 s.next, .slice (some ⟨b_212, 0, none⟩) ((s.held ++ ([m_194])).length) cap_213] 61 (0, 0)) := ⟨hb_232, hb_228.2⟩
    refine wk_nil ?_
    refine wkP_nil ?_
    refine thn_n ?_
    refine g_seq (x := lHN2_44) (y := lHN2_45) (by kernel_rfl) ?_
    refine g_region (ops := lHR2_14) (id := 14) (by kernel_rfl) [pu 0, lo 1, pu 2] (by kernel_rfl) (by kernel_rfl) ?_
    refine wpm 81 (.tmp 0) 23 (.pointer (some ⟨p, 0, none⟩)) ?_
    have hb_236 := (AllOk.keep (AllOk.keep (AllOk.keep (AllOk.keep (AllOk.keep (AllOk.keep (AllOk.keep hb_71 gx_83 ni0) gx_102 ni0) gx_109 ni0) gx_195 ni0) gx_208 ni0) gx_225 ni1) gx_233 ni1)
    have hb_237 := (MOk.keep (MOk.keep (MOk.keep hm_196 gx_208 ni0) gx_225 ni1) gx_233 ni1)
    have hah_235 : AllOk γ_222 w_229 (s.held ++ [m_194]) := AllOk.add hb_236 hb_237
    have hb_238 := (OwNG.keep (OwNG.keep (OwNG.keep (OwNG.keep (OwNG.keep (OwNG.keep (OwNG.keep hb_68 gx_83 ni0) gx_102 ni0) gx_109 ni0) gx_195 ni0) gx_208 ni0) gx_225 ni1) gx_233 ni1)
    have hb_239 := (OwnG.keep hk_226 gx_233 ni1)
    have hb_240 := (AllOk.keep (AllOk.keep (AllOk.keep (AllOk.keep (AllOk.keep (AllOk.keep (AllOk.keep hb_70 gx_83 ni0) gx_102 ni0) gx_109 ni0) gx_195 ni0) gx_208 ni0) gx_225 ni1) gx_233 ni1)
    have hL_241 : LinkAt γ_222 w_229 k p (⟨s.own, s.peer, s.view, s.now, s.oa, s.og, s.oc, s.out, s.orest, s.pushed, s.told, s.next, (some ⟨b_212, 0, none⟩), b_212, cap_213, (s.held ++ ([m_194])), rest_214⟩ : LkR) := ⟨hk_234, hb_238, (OwNG.of hb_239), hb_240, hah_235, h_b1, h_b2, h_b3, h_b4, h_b5, h_l1, (by first | exact h_l2 | (show (s.held ++ [_]).length ≤ 1000000; rw [List.length_append, List.length_singleton]; omega)), h_l3⟩
    refine wkc 82 30 #[.tmp 81] #[23] 33 #[.pointer (some ⟨p, 0, none⟩)] Try.func30 (ready_c (s := (⟨s.own, s.peer, s.view, s.now, s.oa, s.og, s.oc, s.out, s.orest, s.pushed, s.told, s.next, (some ⟨b_212, 0, none⟩), b_212, cap_213, (s.held ++ ([m_194])), rest_214⟩ : LkR)) hL_241 hk (fun w_242 γ_243 v_244 outs_245 L_246 la_247 lg_248 lc_249 lrest_250 nx_251 gx_252 hM_253 hL_254 hR_255 => ⟨?_, ?_⟩))
    · exact trivial
    have hsz_256 := gx_252.size
    refine wpa 7 (.tmp 82) 33 v_244 ?_
    refine wk_nil ?_
    refine thn_n ?_
    refine g_seq (x := lHN2_46) (y := lHN2_47) (by kernel_rfl) ?_
    refine g_region (ops := lHR2_15) (id := 15) (by kernel_rfl) [pu 0, pu 1, lo 2, pu 3, pu 4, pu 5] (by kernel_rfl) (by kernel_rfl) ?_
    refine wpm 83 (.tmp 7) 33 v_244 ?_
    refine wpm 84 (.tmp 0) 23 (.pointer (some ⟨p, 0, none⟩)) ?_
    refine wkc 85 29 #[.tmp 84] #[23] 33 #[.pointer (some ⟨p, 0, none⟩)] Try.func29 (answer_c hL_254 hk (fun w_257 γ_258 v_259 r_260 gx_261 hM_262 ha_263 => ⟨?_, ?_⟩))
    · exact trivial
    have hsz_264 := gx_261.size
    refine wpa 4 (.tmp 83) 33 v_244 ?_
    refine wpa 5 (.tmp 85) 33 v_259 ?_
    refine wpa 6 (.const (.int .i64 0)) 24 (.int .i64 0) ?_
    refine wk_nil ?_
    refine thn_n ?_
    refine g_ret (by kernel_rfl) ?_
    refine ends3_r (v := v_244) (v' := v_259) (v'' := .int .i64 0) rfl (by kernel_rfl) (by kernel_rfl) (by kernel_rfl) ?_
    have hR_ := hR_255
    have hRR_ : (outs_245.map MsgR.abs, L_246.map MsgR.abs, nx_251) = readyG (s.held.length + 2) [] (s.held.map MsgR.abs ++ [m.abs]) s.next := by rw [hR_]; show readyG ((s.held ++ [m_194]).length + 1) [] ((s.held ++ [m_194]).map MsgR.abs) s.next = _; rw [List.length_append, List.length_singleton, List.map_append]; show readyG _ [] (_ ++ [m_194.abs]) _ = _; rw [ha_197]
    have hb_265 := (MsgsAt.keep hM_253 gx_261 ni0)
    have hb_266 := (LinkAt.keep hL_254 gx_261 ni0 ni0 ni0 ni0)
    exact h8 (by omega) (by omega) (by omega) (by omega) (by omega) (idx_none (L := s.held) hn_80) (by omega) _ _ _ _ outs_245 r_260 (GX.trans (GX.trans (GX.trans (GX.trans (GX.then0 (GX.trans (GX.then_same (GX.then_same (GX.trans (GX.then_same (GX.then_same (GX.then_same (GX.then0 (GX.refl [k, k + 2] _ _) e_3 hg_8) sm_13) sm_21) sm_48) gx_83 (fun _ h_ => absurd h_ List.not_mem_nil)) sm_101) sm_108) gx_195 (fun _ h_ => absurd h_ List.not_mem_nil)) e_202 hg_206) gx_225 (by intro c_ hc_; simp only [List.mem_cons, List.not_mem_nil, or_false] at hc_ ⊢; omega)) gx_233 (by intro c_ hc_; simp only [List.mem_cons, List.not_mem_nil, or_false] at hc_ ⊢; omega)) gx_252 (fun _ h_ => h_)) gx_261 (fun _ h_ => absurd h_ List.not_mem_nil)) hb_265 hM_262 hb_266 hRR_ ha_263
  have hb_267 : MOk γ_82 w_107 m := (MOk.keep (MOk.keep (MOk.keep (MOk.keep (MOk.keep (MOk.keep (MOk.keep hm gx_10 ni0) gx_14 ni0) gx_22 ni0) gx_49 ni0) gx_83 ni0) gx_102 ni0) gx_109 ni0)
  refine wkc 76 25 #[.tmp 75] #[32] 32 #[.agg #[.int .i64 m.kind, .int .i64 m.frm, .int .i64 m.to, .int .u32 m.view, .int .u32 m.seq, .slice m.na m.N.length m.nc, .slice m.wa m.W.length m.wc]] Try.func25 (copied_c (γ := γ_82) (m := m) hb_267 (fun w_268 γ_269 m_270 gx_271 hm_272 ha_273 => ⟨?_, ?_⟩))
  · exact trivial
  have hsz_274 := gx_271.size
  have ha_m_270 := abs_eq.1 ha_273
  obtain ⟨ek_m_270, ef_m_270, et_m_270, ev_m_270, es_m_270, eN_m_270, eW_m_270⟩ := ha_m_270
  have el_m_270 := congrArg List.length eN_m_270
  have ew_m_270 := congrArg List.length eW_m_270
  refine wk_nil ?_
  refine wkP_seq ?_
  refine wk_nil ?_
  refine wkP_two ?_ ?_
  · have hb_275 := (Bk.keep (Bk.keep hb_105 gx_109 ni0) gx_271 ni0)
    refine wpl 74 33 (.tmp 73) (.slice s.ha s.held.length s.hc) p 8 hb_275.1 ?_
    refine wk_nil ?_
    refine wkP_seq ?_
    refine wk_buildSlice (e := 32) (cs := #[.int .i64 m_270.kind, .int .i64 m_270.frm, .int .i64 m_270.to, .int .u32 m_270.view, .int .u32 m_270.seq, .slice m_270.na m_270.N.length m_270.nc, .slice m_270.wa m_270.W.length m_270.wc]) (opd 77 (.buildSlice 33 1 #[(0, .tmp 76)]) 33) rfl (by kernel_rfl) (fun w_276 b_277 eq_278 e_279 sz_280 hb_281 => ⟨?_, ?_⟩)
    · exact trivial
    obtain ⟨γ_282, hg_283, hn_284⟩ := cls_new γ_269 w_268.heap.size 11104
    have gx_285 := GX.ext0 [] e_279 hg_283
    have hk_286 : Bk γ_282 w_276 b_277 11104 (.cells #[.int .i64 m_270.kind, .int .i64 m_270.frm, .int .i64 m_270.to, .int .u32 m_270.view, .int .u32 m_270.seq, .slice m_270.na m_270.N.length m_270.nc, .slice m_270.wa m_270.W.length m_270.wc] 32 (0, 0)) := ⟨hb_281, hn_284 _ (by omega)⟩
    have hs_287 : SlE w_276 7 (some ⟨b_277, 0, none⟩) b_277 0 encM [m_270] := SlE.of_cells hk_286.1 encM_len (by rfl)
    have hb_297 := (OwNG.keep (OwNG.keep (OwNG.keep (OwNG.keep (OwNG.keep hb_69 gx_83 ni0) gx_102 ni0) gx_109 ni0) gx_271 ni0) gx_285 ni0)
    have on_298 : OwNG γ_282 w_276 (k + 2) 32 7 s.ha s.hg s.hc encM s.held s.hrest := hb_297
    refine wk_append (M := ([m_270])) (L := s.held) (a := s.ha) (g := s.hg) (c := s.hc) (ax := (some ⟨b_277, 0, none⟩)) (bx := b_277) (offx := 0) (cx := 1) (e := 32) (sz := 7) (by_ := 80) (opd 78 (.call ⟨.builtin .append, #[.tmp 74, .tmp 77], #[33, 33]⟩) 33) rfl (by kernel_rfl) (by kernel_rfl) encM_len (by kernel_rfl) on_298.1 (by kernel_rfl) hs_287 (by simp) encM_one (by constructor <;> (simp only [List.length_singleton]; omega)) (fun w_288 b_289 cap_290 rest_291 hb_292 e_293 sz_294 lt_295 ho_296 => ⟨?_, ?_⟩)
    · exact trivial
    obtain ⟨γ_299, hg_300, hn_301⟩ := cls_new γ_282 w_276.heap.size (k + 2)
    have gx_302 : GX [k + 2] w_276 γ_282 w_288 γ_299 := OwNG.gx on_298 e_293 hg_300
    have hk_303 : OwnG γ_299 w_288 (k + 2) 32 7 b_289 cap_290 encM (s.held ++ ([m_270])) rest_291 := ⟨ho_296, OwNG.appc on_298 hb_292 hg_300 hn_301⟩
    have hsz_304 := e_293.size
    refine wpn 79 (.tmp 70) ⟨p, 0, none⟩ ?_
    refine wpf 80 61 (.tmp 79) 8 p 0 8 8 ?_
    have hb_305 := (Bk.keep (Bk.keep hb_275 gx_285 ni0) gx_302 ni1)
    refine wk_store (b := p) (off := 8) (cs' := #[.int .i64 s.own, .int .i64 s.peer, .int .u32 s.view, .int .i64 s.now, .slice s.oa s.out.length s.oc, .int .u32 s.pushed, .int .u32 s.told, .int .u32 s.next, .slice (some ⟨b_289, 0, none⟩) ((s.held ++ ([m_270])).length) cap_290]) (vs := #[.slice (some ⟨b_289, 0, none⟩) ((s.held ++ ([m_270])).length) cap_290]) (opn (.store 33 (.tmp 80) (.tmp 78)) 0) rfl (by kernel_rfl) (by kernel_rfl) (by kernel_rfl) (by kernel_rfl) hb_305.1 (Nat.le_of_ble_eq_true rfl) (by kernel_rfl) (by kernel_rfl) (fun w_306 e_307 sz_308 hb_309 => ⟨?_, ?_⟩)
    · exact trivial
    have gx_310 : GX [k] w_288 γ_299 w_306 γ_299 := GX.ext1 e_307 hb_305.2 (fun _ _ => rfl)
    have hk_311 : Bk γ_299 w_306 p k (.cells #[.int .i64 s.own, .int .i64 s.peer, .int .u32 s.view, .int .i64 s.now, .slice s.oa s.out.length s.oc, .int .u32 s.pushed, .int .u32 s.told, .int .u32 s.next, .slice (some ⟨b_289, 0, none⟩) ((s.held ++ ([m_270])).length) cap_290] 61 (0, 0)) := ⟨hb_309, hb_305.2⟩
    refine wk_nil ?_
    refine wkP_nil ?_
    refine thn_n ?_
    refine g_seq (x := lHN2_44) (y := lHN2_45) (by kernel_rfl) ?_
    refine g_region (ops := lHR2_14) (id := 14) (by kernel_rfl) [pu 0, lo 1, pu 2] (by kernel_rfl) (by kernel_rfl) ?_
    refine wpm 81 (.tmp 0) 23 (.pointer (some ⟨p, 0, none⟩)) ?_
    have hb_313 := (AllOk.keep (AllOk.keep (AllOk.keep (AllOk.keep (AllOk.keep (AllOk.keep (AllOk.keep hb_71 gx_83 ni0) gx_102 ni0) gx_109 ni0) gx_271 ni0) gx_285 ni0) gx_302 ni1) gx_310 ni1)
    have hb_314 := (MOk.keep (MOk.keep (MOk.keep hm_272 gx_285 ni0) gx_302 ni1) gx_310 ni1)
    have hah_312 : AllOk γ_299 w_306 (s.held ++ [m_270]) := AllOk.add hb_313 hb_314
    have hb_315 := (OwNG.keep (OwNG.keep (OwNG.keep (OwNG.keep (OwNG.keep (OwNG.keep (OwNG.keep hb_68 gx_83 ni0) gx_102 ni0) gx_109 ni0) gx_271 ni0) gx_285 ni0) gx_302 ni1) gx_310 ni1)
    have hb_316 := (OwnG.keep hk_303 gx_310 ni1)
    have hb_317 := (AllOk.keep (AllOk.keep (AllOk.keep (AllOk.keep (AllOk.keep (AllOk.keep (AllOk.keep hb_70 gx_83 ni0) gx_102 ni0) gx_109 ni0) gx_271 ni0) gx_285 ni0) gx_302 ni1) gx_310 ni1)
    have hL_318 : LinkAt γ_299 w_306 k p (⟨s.own, s.peer, s.view, s.now, s.oa, s.og, s.oc, s.out, s.orest, s.pushed, s.told, s.next, (some ⟨b_289, 0, none⟩), b_289, cap_290, (s.held ++ ([m_270])), rest_291⟩ : LkR) := ⟨hk_311, hb_315, (OwNG.of hb_316), hb_317, hah_312, h_b1, h_b2, h_b3, h_b4, h_b5, h_l1, (by first | exact h_l2 | (show (s.held ++ [_]).length ≤ 1000000; rw [List.length_append, List.length_singleton]; omega)), h_l3⟩
    refine wkc 82 30 #[.tmp 81] #[23] 33 #[.pointer (some ⟨p, 0, none⟩)] Try.func30 (ready_c (s := (⟨s.own, s.peer, s.view, s.now, s.oa, s.og, s.oc, s.out, s.orest, s.pushed, s.told, s.next, (some ⟨b_289, 0, none⟩), b_289, cap_290, (s.held ++ ([m_270])), rest_291⟩ : LkR)) hL_318 hk (fun w_319 γ_320 v_321 outs_322 L_323 la_324 lg_325 lc_326 lrest_327 nx_328 gx_329 hM_330 hL_331 hR_332 => ⟨?_, ?_⟩))
    · exact trivial
    have hsz_333 := gx_329.size
    refine wpa 7 (.tmp 82) 33 v_321 ?_
    refine wk_nil ?_
    refine thn_n ?_
    refine g_seq (x := lHN2_46) (y := lHN2_47) (by kernel_rfl) ?_
    refine g_region (ops := lHR2_15) (id := 15) (by kernel_rfl) [pu 0, pu 1, lo 2, pu 3, pu 4, pu 5] (by kernel_rfl) (by kernel_rfl) ?_
    refine wpm 83 (.tmp 7) 33 v_321 ?_
    refine wpm 84 (.tmp 0) 23 (.pointer (some ⟨p, 0, none⟩)) ?_
    refine wkc 85 29 #[.tmp 84] #[23] 33 #[.pointer (some ⟨p, 0, none⟩)] Try.func29 (answer_c hL_331 hk (fun w_334 γ_335 v_336 r_337 gx_338 hM_339 ha_340 => ⟨?_, ?_⟩))
    · exact trivial
    have hsz_341 := gx_338.size
    refine wpa 4 (.tmp 83) 33 v_321 ?_
    refine wpa 5 (.tmp 85) 33 v_336 ?_
    refine wpa 6 (.const (.int .i64 0)) 24 (.int .i64 0) ?_
    refine wk_nil ?_
    refine thn_n ?_
    refine g_ret (by kernel_rfl) ?_
    refine ends3_r (v := v_321) (v' := v_336) (v'' := .int .i64 0) rfl (by kernel_rfl) (by kernel_rfl) (by kernel_rfl) ?_
    have hR_ := hR_332
    have hRR_ : (outs_322.map MsgR.abs, L_323.map MsgR.abs, nx_328) = readyG (s.held.length + 2) [] (s.held.map MsgR.abs ++ [m.abs]) s.next := by rw [hR_]; show readyG ((s.held ++ [m_270]).length + 1) [] ((s.held ++ [m_270]).map MsgR.abs) s.next = _; rw [List.length_append, List.length_singleton, List.map_append]; show readyG _ [] (_ ++ [m_270.abs]) _ = _; rw [ha_273]
    have hb_342 := (MsgsAt.keep hM_330 gx_338 ni0)
    have hb_343 := (LinkAt.keep hL_331 gx_338 ni0 ni0 ni0 ni0)
    exact h8 (by omega) (by omega) (by omega) (by omega) (by omega) (idx_none (L := s.held) hn_80) (by omega) _ _ _ _ outs_322 r_337 (GX.trans (GX.trans (GX.trans (GX.trans (GX.then0 (GX.trans (GX.then_same (GX.then_same (GX.trans (GX.then_same (GX.then_same (GX.then_same (GX.then0 (GX.refl [k, k + 2] _ _) e_3 hg_8) sm_13) sm_21) sm_48) gx_83 (fun _ h_ => absurd h_ List.not_mem_nil)) sm_101) sm_108) gx_271 (fun _ h_ => absurd h_ List.not_mem_nil)) e_279 hg_283) gx_302 (by intro c_ hc_; simp only [List.mem_cons, List.not_mem_nil, or_false] at hc_ ⊢; omega)) gx_310 (by intro c_ hc_; simp only [List.mem_cons, List.not_mem_nil, or_false] at hc_ ⊢; omega)) gx_329 (fun _ h_ => h_)) gx_338 (fun _ h_ => absurd h_ List.not_mem_nil)) hb_342 hM_339 hb_343 hRR_ ha_340
  refine wk_buildSlice (e := 32) (cs := #[.int .i64 m_270.kind, .int .i64 m_270.frm, .int .i64 m_270.to, .int .u32 m_270.view, .int .u32 m_270.seq, .slice m_270.na m_270.N.length m_270.nc, .slice m_270.wa m_270.W.length m_270.wc]) (opd 77 (.buildSlice 33 1 #[(0, .tmp 76)]) 33) rfl (by kernel_rfl) (fun w_344 b_345 eq_346 e_347 sz_348 hb_349 => ⟨?_, ?_⟩)
  · exact trivial
  obtain ⟨γ_350, hg_351, hn_352⟩ := cls_new γ_269 w_268.heap.size 11105
  have gx_353 := GX.ext0 [] e_347 hg_351
  have hk_354 : Bk γ_350 w_344 b_345 11105 (.cells #[.int .i64 m_270.kind, .int .i64 m_270.frm, .int .i64 m_270.to, .int .u32 m_270.view, .int .u32 m_270.seq, .slice m_270.na m_270.N.length m_270.nc, .slice m_270.wa m_270.W.length m_270.wc] 32 (0, 0)) := ⟨hb_349, hn_352 _ (by omega)⟩
  refine wk_nil ?_
  refine wkP_seq ?_
  have hb_355 := (Bk.keep (Bk.keep (Bk.keep hb_105 gx_109 ni0) gx_271 ni0) gx_353 ni0)
  refine wk_read (opd 74 (.load 33 (.tmp 73)) 33) rfl (.slice s.ha s.held.length s.hc) (fun w'_ g_ => x_load (b := p) (off := 8) (by kernel_rfl) (by kernel_rfl) (g_.keep hb_355.1) (by kernel_rfl)) ?_
  have hs_356 : SlE w_344 7 (some ⟨b_345, 0, none⟩) b_345 0 encM [m_270] := SlE.of_cells hk_354.1 encM_len (by rfl)
  have hb_366 := (OwNG.keep (OwNG.keep (OwNG.keep (OwNG.keep (OwNG.keep hb_69 gx_83 ni0) gx_102 ni0) gx_109 ni0) gx_271 ni0) gx_353 ni0)
  have on_367 : OwNG γ_350 w_344 (k + 2) 32 7 s.ha s.hg s.hc encM s.held s.hrest := hb_366
  refine wk_append (M := ([m_270])) (L := s.held) (a := s.ha) (g := s.hg) (c := s.hc) (ax := (some ⟨b_345, 0, none⟩)) (bx := b_345) (offx := 0) (cx := 1) (e := 32) (sz := 7) (by_ := 80) (opd 78 (.call ⟨.builtin .append, #[.tmp 74, .tmp 77], #[33, 33]⟩) 33) rfl (by kernel_rfl) (by kernel_rfl) encM_len (by kernel_rfl) on_367.1 (by kernel_rfl) hs_356 (by simp) encM_one (by constructor <;> (simp only [List.length_singleton]; omega)) (fun w_357 b_358 cap_359 rest_360 hb_361 e_362 sz_363 lt_364 ho_365 => ⟨?_, ?_⟩)
  · exact trivial
  obtain ⟨γ_368, hg_369, hn_370⟩ := cls_new γ_350 w_344.heap.size (k + 2)
  have gx_371 : GX [k + 2] w_344 γ_350 w_357 γ_368 := OwNG.gx on_367 e_362 hg_369
  have hk_372 : OwnG γ_368 w_357 (k + 2) 32 7 b_358 cap_359 encM (s.held ++ ([m_270])) rest_360 := ⟨ho_365, OwNG.appc on_367 hb_361 hg_369 hn_370⟩
  have hsz_373 := e_362.size
  refine wpn 79 (.tmp 70) ⟨p, 0, none⟩ ?_
  refine wpf 80 61 (.tmp 79) 8 p 0 8 8 ?_
  have hb_374 := (Bk.keep hb_355 gx_371 ni1)
  refine wk_store (b := p) (off := 8) (cs' := #[.int .i64 s.own, .int .i64 s.peer, .int .u32 s.view, .int .i64 s.now, .slice s.oa s.out.length s.oc, .int .u32 s.pushed, .int .u32 s.told, .int .u32 s.next, .slice (some ⟨b_358, 0, none⟩) ((s.held ++ ([m_270])).length) cap_359]) (vs := #[.slice (some ⟨b_358, 0, none⟩) ((s.held ++ ([m_270])).length) cap_359]) (opn (.store 33 (.tmp 80) (.tmp 78)) 0) rfl (by kernel_rfl) (by kernel_rfl) (by kernel_rfl) (by kernel_rfl) hb_374.1 (Nat.le_of_ble_eq_true rfl) (by kernel_rfl) (by kernel_rfl) (fun w_375 e_376 sz_377 hb_378 => ⟨?_, ?_⟩)
  · exact trivial
  have gx_379 : GX [k] w_357 γ_368 w_375 γ_368 := GX.ext1 e_376 hb_374.2 (fun _ _ => rfl)
  have hk_380 : Bk γ_368 w_375 p k (.cells #[.int .i64 s.own, .int .i64 s.peer, .int .u32 s.view, .int .i64 s.now, .slice s.oa s.out.length s.oc, .int .u32 s.pushed, .int .u32 s.told, .int .u32 s.next, .slice (some ⟨b_358, 0, none⟩) ((s.held ++ ([m_270])).length) cap_359] 61 (0, 0)) := ⟨hb_378, hb_374.2⟩
  refine wk_nil ?_
  refine wkP_nil ?_
  refine thn_n ?_
  refine g_seq (x := lHN2_44) (y := lHN2_45) (by kernel_rfl) ?_
  refine g_region (ops := lHR2_14) (id := 14) (by kernel_rfl) [pu 0, lo 1, pu 2] (by kernel_rfl) (by kernel_rfl) ?_
  refine wpm 81 (.tmp 0) 23 (.pointer (some ⟨p, 0, none⟩)) ?_
  have hb_382 := (AllOk.keep (AllOk.keep (AllOk.keep (AllOk.keep (AllOk.keep (AllOk.keep (AllOk.keep hb_71 gx_83 ni0) gx_102 ni0) gx_109 ni0) gx_271 ni0) gx_353 ni0) gx_371 ni1) gx_379 ni1)
  have hb_383 := (MOk.keep (MOk.keep (MOk.keep hm_272 gx_353 ni0) gx_371 ni1) gx_379 ni1)
  have hah_381 : AllOk γ_368 w_375 (s.held ++ [m_270]) := AllOk.add hb_382 hb_383
  have hb_384 := (OwNG.keep (OwNG.keep (OwNG.keep (OwNG.keep (OwNG.keep (OwNG.keep (OwNG.keep hb_68 gx_83 ni0) gx_102 ni0) gx_109 ni0) gx_271 ni0) gx_353 ni0) gx_371 ni1) gx_379 ni1)
  have hb_385 := (OwnG.keep hk_372 gx_379 ni1)
  have hb_386 := (AllOk.keep (AllOk.keep (AllOk.keep (AllOk.keep (AllOk.keep (AllOk.keep (AllOk.keep hb_70 gx_83 ni0) gx_102 ni0) gx_109 ni0) gx_271 ni0) gx_353 ni0) gx_371 ni1) gx_379 ni1)
  have hL_387 : LinkAt γ_368 w_375 k p (⟨s.own, s.peer, s.view, s.now, s.oa, s.og, s.oc, s.out, s.orest, s.pushed, s.told, s.next, (some ⟨b_358, 0, none⟩), b_358, cap_359, (s.held ++ ([m_270])), rest_360⟩ : LkR) := ⟨hk_380, hb_384, (OwNG.of hb_385), hb_386, hah_381, h_b1, h_b2, h_b3, h_b4, h_b5, h_l1, (by first | exact h_l2 | (show (s.held ++ [_]).length ≤ 1000000; rw [List.length_append, List.length_singleton]; omega)), h_l3⟩
  refine wkc 82 30 #[.tmp 81] #[23] 33 #[.pointer (some ⟨p, 0, none⟩)] Try.func30 (ready_c (s := (⟨s.own, s.peer, s.view, s.now, s.oa, s.og, s.oc, s.out, s.orest, s.pushed, s.told, s.next, (some ⟨b_358, 0, none⟩), b_358, cap_359, (s.held ++ ([m_270])), rest_360⟩ : LkR)) hL_387 hk (fun w_388 γ_389 v_390 outs_391 L_392 la_393 lg_394 lc_395 lrest_396 nx_397 gx_398 hM_399 hL_400 hR_401 => ⟨?_, ?_⟩))
  · exact trivial
  have hsz_402 := gx_398.size
  refine wpa 7 (.tmp 82) 33 v_390 ?_
  refine wk_nil ?_
  refine thn_n ?_
  refine g_seq (x := lHN2_46) (y := lHN2_47) (by kernel_rfl) ?_
  refine g_region (ops := lHR2_15) (id := 15) (by kernel_rfl) [pu 0, pu 1, lo 2, pu 3, pu 4, pu 5] (by kernel_rfl) (by kernel_rfl) ?_
  refine wpm 83 (.tmp 7) 33 v_390 ?_
  refine wpm 84 (.tmp 0) 23 (.pointer (some ⟨p, 0, none⟩)) ?_
  refine wkc 85 29 #[.tmp 84] #[23] 33 #[.pointer (some ⟨p, 0, none⟩)] Try.func29 (answer_c hL_400 hk (fun w_403 γ_404 v_405 r_406 gx_407 hM_408 ha_409 => ⟨?_, ?_⟩))
  · exact trivial
  have hsz_410 := gx_407.size
  refine wpa 4 (.tmp 83) 33 v_390 ?_
  refine wpa 5 (.tmp 85) 33 v_405 ?_
  refine wpa 6 (.const (.int .i64 0)) 24 (.int .i64 0) ?_
  refine wk_nil ?_
  refine thn_n ?_
  refine g_ret (by kernel_rfl) ?_
  refine ends3_r (v := v_390) (v' := v_405) (v'' := .int .i64 0) rfl (by kernel_rfl) (by kernel_rfl) (by kernel_rfl) ?_
  have hR_ := hR_401
  have hRR_ : (outs_391.map MsgR.abs, L_392.map MsgR.abs, nx_397) = readyG (s.held.length + 2) [] (s.held.map MsgR.abs ++ [m.abs]) s.next := by rw [hR_]; show readyG ((s.held ++ [m_270]).length + 1) [] ((s.held ++ [m_270]).map MsgR.abs) s.next = _; rw [List.length_append, List.length_singleton, List.map_append]; show readyG _ [] (_ ++ [m_270.abs]) _ = _; rw [ha_273]
  have hb_411 := (MsgsAt.keep hM_399 gx_407 ni0)
  have hb_412 := (LinkAt.keep hL_400 gx_407 ni0 ni0 ni0 ni0)
  exact h8 (by omega) (by omega) (by omega) (by omega) (by omega) (idx_none (L := s.held) hn_80) (by omega) _ _ _ _ outs_391 r_406 (GX.trans (GX.trans (GX.trans (GX.trans (GX.then0 (GX.trans (GX.then_same (GX.then_same (GX.trans (GX.then_same (GX.then_same (GX.then_same (GX.then0 (GX.refl [k, k + 2] _ _) e_3 hg_8) sm_13) sm_21) sm_48) gx_83 (fun _ h_ => absurd h_ List.not_mem_nil)) sm_101) sm_108) gx_271 (fun _ h_ => absurd h_ List.not_mem_nil)) e_347 hg_351) gx_371 (by intro c_ hc_; simp only [List.mem_cons, List.not_mem_nil, or_false] at hc_ ⊢; omega)) gx_379 (by intro c_ hc_; simp only [List.mem_cons, List.not_mem_nil, or_false] at hc_ ⊢; omega)) gx_398 (fun _ h_ => h_)) gx_407 (fun _ h_ => absurd h_ List.not_mem_nil)) hb_411 hM_408 hb_412 hRR_ ha_409

end Go.Proofs.Ytpcdldakilkldaa
