/-
  Links: contracts of functions, step by step (F).
-/
import Derived.Test.YtpcdldakilkldaaLE
set_option linter.unusedSimpArgs false
set_option linter.unusedVariables false
namespace Go.Proofs.Ytpcdldakilkldaa
open Go Go.Wk

theorem tickO_at' {now b : Int} {L O : List SndR} {i j : Nat} (hO : O = tickO now L i) (hat : ∀ j, j < L.length → 0 ≤ (L.getD j S0).at_ ∧ (L.getD j S0).at_ ≤ b) (hj : j < O.length) (hb : b ≤ now) (h0 : 0 ≤ now) : 0 ≤ (O.getD j S0).at_ ∧ (O.getD j S0).at_ ≤ now := by
  subst hO
  rw [tickO_len] at hj
  have h1 := hat j hj
  have hL : L.getD j S0 = L[j] := by simp [List.getD, hj]
  rw [hL] at h1
  unfold tickO
  rw [List.getD_eq_getElem?_getD]
  by_cases hji : j < i
  · rw [List.getElem?_append_left (by simp; omega)]
    simp only [List.getElem?_map, List.getElem?_take, if_pos hji, List.getElem?_eq_getElem hj, Option.map_some, Option.getD_some, fire]
    split
    · exact ⟨h0, Int.le_refl _⟩
    · omega
  · rw [List.getElem?_append_right (by simp; omega)]
    have hl : ((L.take i).map (fire now)).length = i := by simp; omega
    rw [hl, List.getElem?_drop, show i + (j - i) = j by omega, List.getElem?_eq_getElem hj]
    simp only [Option.getD_some]; omega

noncomputable def lFN1_0 : Code := (Try.f10.body).getD .skip
noncomputable def lFN1_1 : Code := s1 lFN1_0
noncomputable def lFN1_2 : Code := s2 lFN1_0
noncomputable def lFR1_0 : Array Oper := rops lFN1_1
noncomputable def lFN1_3 : Code := s1 lFN1_2
noncomputable def lFN1_4 : Code := s2 lFN1_2
noncomputable def lFR1_1 : Array Oper := rops lFN1_3
noncomputable def lFN1_5 : Code := s1 lFN1_4
noncomputable def lFN1_6 : Code := s2 lFN1_4
noncomputable def lFR1_2 : Array Oper := rops lFN1_5
noncomputable def lFN1_7 : Code := s1 lFN1_6
noncomputable def lFN1_8 : Code := s2 lFN1_6
noncomputable def lFN1_9 : Code := s1 lFN1_7
noncomputable def lFN1_10 : Code := s2 lFN1_7
noncomputable def lFR1_3 : Array Oper := rops lFN1_9
noncomputable def lFN1_11 : Code := s1 lFN1_10
noncomputable def lFN1_12 : Code := s1 lFN1_11
noncomputable def lFN1_13 : Code := s1 lFN1_12
noncomputable def lFN1_14 : Code := s2 lFN1_12
noncomputable def lFR1_4 : Array Oper := rops lFN1_13
noncomputable def lFN1_15 : Code := s1 lFN1_14
noncomputable def lFN1_16 : Code := s2 lFN1_14
noncomputable def lFN1_17 : Code := s1 lFN1_15
noncomputable def lFN1_18 : Code := s2 lFN1_15
noncomputable def lFN1_19 : Code := s1 lFN1_16
noncomputable def lFN1_20 : Code := s2 lFN1_16
noncomputable def lFN1_21 : Code := s1 lFN1_19
noncomputable def lFN1_22 : Code := s1 lFN1_21
noncomputable def lFN1_23 : Code := s2 lFN1_21
noncomputable def lFR1_5 : Array Oper := rops lFN1_22
noncomputable def lFN1_24 : Code := s1 lFN1_23
noncomputable def lFN1_25 : Code := s2 lFN1_23
noncomputable def lFR1_6 : Array Oper := rops lFN1_24
noncomputable def lFN1_26 : Code := s1 lFN1_25
noncomputable def lFN1_27 : Code := s2 lFN1_25
noncomputable def lFN1_28 : Code := s1 lFN1_26
noncomputable def lFN1_29 : Code := s2 lFN1_26
noncomputable def lFR1_7 : Array Oper := rops lFN1_28
noncomputable def lFN1_30 : Code := s1 lFN1_29
noncomputable def lFN1_31 : Code := s2 lFN1_29
noncomputable def lFR1_11 : Array Oper := rops lFN1_20
noncomputable def lFN1_32 : Code := s1 lFN1_27
noncomputable def lFN1_33 : Code := s2 lFN1_27
noncomputable def lFR1_8 : Array Oper := rops lFN1_32
noncomputable def lFN1_34 : Code := s1 lFN1_33
noncomputable def lFN1_35 : Code := s2 lFN1_33
noncomputable def lFR1_9 : Array Oper := rops lFN1_34
noncomputable def lFR1_10 : Array Oper := rops lFN1_35
noncomputable def lFN1_36 : Code := s1 lFN1_8
noncomputable def lFN1_37 : Code := s2 lFN1_8
noncomputable def lFR1_12 : Array Oper := rops lFN1_36
theorem tick_c {s : LkR} {k p : Nat} {w : World} {γ : Nat → Nat} (h : LinkAt γ w k p s) (hk : 10 ≤ k ∧ k ≤ 900) {now nw : Int} (hnow : -9223372036854775808 ≤ now ∧ now ≤ 9223372036854775807) (hnw : nw = max s.now now) {K : Value → World → Prop} (hK : ∀ w' γ' v (outs : List MsgR) {O : List SndR} {nw tl : Int}, GX [k, k + 1] w γ w' γ' → MsgsAt γ' w' v outs → LinkAt γ' w' k p { s with now := nw, told := tl, out := O } → nw = max s.now now → O = tickO nw s.out (min s.out.length 32) →
      outs.map MsgR.abs = (tickD nw s.out (min s.out.length 32)).map (·.m.abs) → tl = tickT s.told (tickD nw s.out (min s.out.length 32)) → K v w') : CallsV Try.prog 10 #[.pointer (some ⟨p, 0, none⟩), .int .i64 now] w K := by
  refine callsV_of (c := lFN1_0) Try.func10 (by kernel_rfl) (n := 81) (by kernel_rfl) ?_
  have hp : Bk γ w p k (.cells #[.int .i64 s.own, .int .i64 s.peer, .int .u32 s.view, .int .i64 s.now, .slice s.oa s.out.length s.oc, .int .u32 s.pushed, .int .u32 s.told, .int .u32 s.next, .slice s.ha s.held.length s.hc] 61 (0, 0)) := h.hp
  have h_b1 := h.b1
  have h_b2 := h.b2
  have h_b3 := h.b3
  have h_b4 := h.b4
  have h_b5 := h.b5
  have h_l1 := h.l1
  have h_l2 := h.l2
  have h_l3 := h.l3
  have h_pl := hp.lt
  refine g_seq (x := lFN1_1) (y := lFN1_2) (by kernel_rfl) ?_
  refine g_region (ops := lFR1_0) (id := 0) (by kernel_rfl) [pu 0] (by kernel_rfl) (by kernel_rfl) ?_
  refine wpa 4 (.const (.slice none 0 0)) 33 (.slice none 0 0) ?_
  refine wk_nil ?_
  refine thn_n ?_
  refine g_seq (x := lFN1_3) (y := lFN1_4) (by kernel_rfl) ?_
  refine g_region (ops := lFR1_1) (id := 1) (by kernel_rfl) [pu 0, pu 1, pu 2, pu 3, lo 4, pu 5, pu 6, pu 7, pu 8, lo 9] (by kernel_rfl) (by kernel_rfl) ?_
  refine wpm 8 (.tmp 0) 23 (.pointer (some ⟨p, 0, none⟩)) ?_
  refine wpm 9 (.tmp 0) 23 (.pointer (some ⟨p, 0, none⟩)) ?_
  refine wpn 10 (.tmp 9) ⟨p, 0, none⟩ ?_
  refine wpf 11 61 (.tmp 10) 3 p 0 3 3 ?_
  refine wpl 12 2 (.tmp 11) (.int .i64 s.now) p 3 hp.1 ?_
  refine wpm 13 (.tmp 1) 2 (.int .i64 now) ?_
  refine wk_pure (opd 14 (.call ⟨.builtin .max, #[.tmp 12, .tmp 13], #[2, 2]⟩) 2) rfl (.int .i64 nw) (fun _ => y_max (k := .i64) (q := .i64) (a := s.now) (b := now) (by kernel_rfl) (by kernel_rfl) (by omega)) ?_
  refine wpn 15 (.tmp 8) ⟨p, 0, none⟩ ?_
  refine wpf 16 61 (.tmp 15) 3 p 0 3 3 ?_
  refine wk_store (b := p) (off := 3) (cs' := #[.int .i64 s.own, .int .i64 s.peer, .int .u32 s.view, .int .i64 nw, .slice s.oa s.out.length s.oc, .int .u32 s.pushed, .int .u32 s.told, .int .u32 s.next, .slice s.ha s.held.length s.hc]) (vs := #[.int .i64 nw]) (opn (.store 2 (.tmp 16) (.tmp 14)) 0) rfl (by kernel_rfl) (by kernel_rfl) (by kernel_rfl) (by kernel_rfl) hp.1 (Nat.le_of_ble_eq_true rfl) (by kernel_rfl) (by kernel_rfl) (fun w_1 e_2 sz_3 hb_4 => ⟨?_, ?_⟩)
  · exact trivial
  have gx_5 : GX [k] w γ w_1 γ := GX.ext1 e_2 hp.2 (fun _ _ => rfl)
  have hk_6 : Bk γ w_1 p k (.cells #[.int .i64 s.own, .int .i64 s.peer, .int .u32 s.view, .int .i64 nw, .slice s.oa s.out.length s.oc, .int .u32 s.pushed, .int .u32 s.told, .int .u32 s.next, .slice s.ha s.held.length s.hc] 61 (0, 0)) := ⟨hb_4, hp.2⟩
  refine wk_nil ?_
  refine thn_n ?_
  refine g_seq (x := lFN1_5) (y := lFN1_6) (by kernel_rfl) ?_
  refine g_region (ops := lFR1_2) (id := 2) (by kernel_rfl) [pu 0] (by kernel_rfl) (by kernel_rfl) ?_
  refine wpa 5 (.const (.slice none 0 0)) 33 (.slice none 0 0) ?_
  refine wk_nil ?_
  refine thn_n ?_
  refine g_seq (x := lFN1_7) (y := lFN1_8) (by kernel_rfl) ?_
  refine g_seq (x := lFN1_9) (y := lFN1_10) (by kernel_rfl) ?_
  refine g_region (ops := lFR1_3) (id := 3) (by kernel_rfl) [pu 0, pu 1, pu 2, lo 3, pu 4, pu 5, pu 6] (by kernel_rfl) (by kernel_rfl) ?_
  refine wpm 17 (.tmp 0) 23 (.pointer (some ⟨p, 0, none⟩)) ?_
  refine wpn 18 (.tmp 17) ⟨p, 0, none⟩ ?_
  refine wpf 19 61 (.tmp 18) 4 p 0 4 4 ?_
  refine wpl 20 59 (.tmp 19) (.slice s.oa s.out.length s.oc) p 4 hk_6.1 ?_
  refine wk_pure (opd 21 (.call ⟨.builtin .len, #[.tmp 20], #[59]⟩) 3) rfl (.int .i64 ((s.out.length : Nat) : Int)) (fun _ => x_len (a := s.oa) (n := s.out.length) (c := s.oc) (by kernel_rfl) (by kernel_rfl)) ?_
  refine wk_pure (opd 22 (.call ⟨.builtin .min, #[.tmp 21, .const (.int .i64 32)], #[3, 3]⟩) 3) rfl (.int .i64 (((min s.out.length 32) : Nat) : Int)) (fun _ => y_min (k := .i64) (q := .i64) (a := ((s.out.length : Nat) : Int)) (b := 32) (by kernel_rfl) (by kernel_rfl) (by omega)) ?_
  refine wpm 23 (.const (.int .i64 0)) 3 (.int .i64 0) ?_
  refine wk_nil ?_
  refine thn_n ?_
  refine g_block (x := lFN1_11) (id := 0) (by kernel_rfl) ?_
  have hb_7 : OwNG γ w_1 (k + 2) 32 7 s.ha s.hg s.hc encM s.held s.hrest := (OwNG.keep h.hh gx_5 ni1)
  have hb_8 : AllOk γ w_1 (s.out.map (·.m)) := (AllOk.keep h.ao gx_5 ni1)
  have hb_9 : AllOk γ w_1 s.held := (AllOk.keep h.ah gx_5 ni1)
  have hb_10 : OwNG γ w_1 (k + 1) 65 9 s.oa s.og s.oc encS s.out s.orest := (OwNG.keep h.ho gx_5 ni1)
  refine g_loop (x := lFN1_12) (by kernel_rfl) (fun m_ ρ_ w_ => ∃ (i : Nat) (O : List SndR) (tl : Int) (outs : List MsgR) (oA : Option Addr) (oG : Nat) (oC : Nat) (orest : List Value) (γ_ : Nat → Nat), m_ = (min s.out.length 32) - i ∧ (i ≤ min s.out.length 32) ∧ (O = tickO nw s.out i) ∧ (outs.map MsgR.abs = (tickD nw s.out i).map (·.m.abs)) ∧ (tl = tickT s.told (tickD nw s.out i)) ∧ (0 ≤ tl ∧ tl < 4294967296) ∧ (oA = none ∨ w.heap.size ≤ oG) ∧ (outs.length ≤ i) ∧ ρ_ 0 = .pointer (some ⟨p, 0, none⟩) ∧ ρ_ 4 = .slice none 0 0 ∧ ρ_ 22 = .int .i64 (((min s.out.length 32) : Nat) : Int) ∧ ρ_ 23 = .int .i64 ((i : Nat) : Int) ∧ ρ_ 5 = .slice oA outs.length oC ∧ OwNG γ_ w_ (k + 2) 32 7 s.ha s.hg s.hc encM s.held s.hrest ∧ AllOk γ_ w_ (s.out.map (·.m)) ∧ AllOk γ_ w_ s.held ∧ Bk γ_ w_ p k (.cells #[.int .i64 s.own, .int .i64 s.peer, .int .u32 s.view, .int .i64 nw, .slice s.oa s.out.length s.oc, .int .u32 s.pushed, .int .u32 tl, .int .u32 s.next, .slice s.ha s.held.length s.hc] 61 (0, 0)) ∧ OwNG γ_ w_ (k + 1) 65 9 s.oa s.og s.oc encS O s.orest ∧ OwNG γ_ w_ 2000 32 7 oA oG oC encM outs orest ∧ AllOk γ_ w_ outs ∧ GX [k, k + 1] w γ w_ γ_) ((min s.out.length 32) - 0) ?_ ?_
  · exact ⟨0, s.out, s.told, [], none, 0, 0, [], _, rfl, by omega, by rfl, by rfl, by rfl, by omega, by exact .inl rfl, by simp, (by kernel_rfl), (by kernel_rfl), (by kernel_rfl), (by kernel_rfl), (by kernel_rfl), hb_7, hb_8, hb_9, hk_6, hb_10, (OwNG.nil _ _ _ _ _ 0 _ []), AllOk.nil, (GX.trans (GX.refl [k, k + 1] _ _) gx_5 (by intro c_ hc_; simp only [List.mem_cons, List.not_mem_nil, or_false] at hc_ ⊢; omega))⟩
  intro m_11 ρ_12 w_13 hI
  obtain ⟨i, O, tl, outs, oA, oG, oC, orest, γ_15, hm_m_11, hi, hOO, houts, htl, htb, hO, hol, f_16, f_17, f_18, f_19, f_20, hr_21, hr_22, hr_23, hr_24, hr_25, hr_26, hr_27, hE_14⟩ := hI
  have hs_w_13 := hE_14.size
  have hOl : O.length = s.out.length := by rw [hOO, tickO_len]
  have hat := h_l3
  refine g_seq (x := lFN1_13) (y := lFN1_14) (by kernel_rfl) ?_
  refine g_region (ops := lFR1_4) (id := 4) (by kernel_rfl) [pu 0] (by kernel_rfl) (by kernel_rfl) ?_
  by_cases h_28 : (((i : Nat) : Int) : Int) < (((min s.out.length 32) : Nat) : Int)
  · refine wk_pure (opd 24 (.binOp .lss 3 (.tmp 23) (.tmp 22) 3) 4) rfl (.bool true) (fun _ => y_lss (k := .i64) (a := ((i : Nat) : Int)) (b := (((min s.out.length 32) : Nat) : Int)) (Eq.trans (by kernel_rfl) f_19) (Eq.trans (by kernel_rfl) f_18) (decide_eq_true h_28)) ?_
    refine wk_nil ?_
    refine thn_n ?_
    refine g_seq (x := lFN1_15) (y := lFN1_16) (by kernel_rfl) ?_
    refine g_cond_t (o := .tmp 24) (x := lFN1_17) (y := lFN1_18) (by kernel_rfl) (by kernel_rfl) ?_
    refine g_skip (by kernel_rfl) ?_
    refine thn_n ?_
    refine g_seq (x := lFN1_19) (y := lFN1_20) (by kernel_rfl) ?_
    refine g_block (x := lFN1_21) (id := 1) (by kernel_rfl) ?_
    refine g_seq (x := lFN1_22) (y := lFN1_23) (by kernel_rfl) ?_
    refine g_region (ops := lFR1_5) (id := 5) (by kernel_rfl) [pu 0, pu 1] (by kernel_rfl) (by kernel_rfl) ?_
    refine wpm 25 (.tmp 23) 3 (.int .i64 ((i : Nat) : Int)) ?_ (Eq.trans (by kernel_rfl) f_19)
    refine wpa 6 (.tmp 25) 3 (.int .i64 ((i : Nat) : Int)) ?_
    refine wk_nil ?_
    refine thn_n ?_
    refine g_seq (x := lFN1_24) (y := lFN1_25) (by kernel_rfl) ?_
    refine g_region (ops := lFR1_6) (id := 6) (by kernel_rfl) [pu 0, pu 1, pu 2, lo 3, pu 4, pu 5, pu 6] (by kernel_rfl) (by kernel_rfl) ?_
    refine wpm 26 (.tmp 0) 23 (.pointer (some ⟨p, 0, none⟩)) ?_ (Eq.trans (by kernel_rfl) f_16)
    refine wpn 27 (.tmp 26) ⟨p, 0, none⟩ ?_
    refine wpf 28 61 (.tmp 27) 4 p 0 4 4 ?_
    refine wpl 29 59 (.tmp 28) (.slice s.oa s.out.length s.oc) p 4 hr_24.1 ?_
    refine wpm 30 (.tmp 6) 3 (.int .i64 ((i : Nat) : Int)) ?_
    refine wk_pure (opd 31 (.indexAddr 59 (.tmp 29) (.tmp 30)) 0) rfl (.pointer (some ⟨s.og, 0 + (i * 9 + 0), none⟩)) (fun _ => y_ptr (x_indexN (a := s.oa) (b := s.og) (off := 0) (n := s.out.length) (c := s.oc) (k := .i64) (i := ((i : Nat) : Int)) (e := 65) (sz := 9) (sz' := 9) (by kernel_rfl) hr_25.1.sl (by kernel_rfl) (by kernel_rfl) (by omega) (by omega) _) (by omega)) ?_
    refine wpa 7 (.tmp 31) 66 (.pointer (some ⟨s.og, 0 + (i * 9 + 0), none⟩)) ?_
    refine wk_nil ?_
    refine thn_n ?_
    refine g_seq (x := lFN1_26) (y := lFN1_27) (by kernel_rfl) ?_
    refine g_seq (x := lFN1_28) (y := lFN1_29) (by kernel_rfl) ?_
    refine g_draw (ops := lFR1_7) (id := 7) (by kernel_rfl) (fun _ _ => True) [pu 0, pu 1, pu 2, lo 3, pu 4, pu 5, pu 6, pu 7, pu 9, pu 10, pu 11, rd 8, rd 12, pu 13, pu 14, pu 15] (by kernel_rfl) (by kernel_rfl) (fun _ => trivial) (fun w_29 sm_30 => ?_)
    have gx_31 := GX.same [] γ_15 sm_30
    have hsz_32 : w_29.heap.size = w_13.heap.size := by rw [sm_30.heap]
    refine wpm 32 (.tmp 7) 66 (.pointer (some ⟨s.og, 0 + (i * 9 + 0), none⟩)) ?_
    refine wpn 33 (.tmp 32) ⟨s.og, 0 + (i * 9 + 0), none⟩ ?_
    refine wk_pure (opd 34 (.fieldAddr 65 (.tmp 33) 1) 0) rfl (.pointer (some ⟨s.og, 0 + (i * 9 + 7), none⟩)) (fun _ => y_ptr (x_fieldAddr (b := s.og) (off := (0 + (i * 9 + 0))) (o := 7) (by kernel_rfl) (by kernel_rfl)) (by omega)) ?_
    rcases Bool.eq_false_or_eq_true (O.getD i S0).sent with h_33 | h_33
    · have hb_34 := (OwNG.keep hr_25 gx_31 ni0)
      refine wk_val (opd 35 (.load 4 (.tmp 34)) 4) rfl (.bool true) (y_boolv (x_load_c (b := s.og) (off := (0 + (i * 9 + 7))) (by kernel_rfl) (by kernel_rfl) (SlE.get hb_34.1.sl encS_len S0 i 7 (by omega) rfl)) h_33) trivial ?_
      refine wpm 36 (.tmp 35) 4 (.bool true) ?_
      refine wk_pure (opg 37 (.move (.tmp 0)) 23 4 true) (by kernel_rfl) (.pointer (some ⟨p, 0, none⟩)) (fun _ => y_move (Eq.trans (by kernel_rfl) f_16)) ?_
      refine wk_pure (opg 38 (.nilCheck (.tmp 37)) 0 4 true) (by kernel_rfl) (.pointer (some ⟨p, 0, none⟩)) (fun _ => x_nilCheck (by kernel_rfl)) ?_
      refine wk_pure (opg 39 (.fieldAddr 61 (.tmp 38) 3) 0 4 true) (by kernel_rfl) (.pointer (some ⟨p, 3, none⟩)) (fun _ => x_fieldAddr (b := p) (off := 0) (o := 3) (by kernel_rfl) (by kernel_rfl)) ?_
      refine wk_pure (opg 41 (.move (.tmp 7)) 66 4 true) (by kernel_rfl) (.pointer (some ⟨s.og, 0 + (i * 9 + 0), none⟩)) (fun _ => y_move (by kernel_rfl)) ?_
      refine wk_pure (opg 42 (.nilCheck (.tmp 41)) 0 4 true) (by kernel_rfl) (.pointer (some ⟨s.og, 0 + (i * 9 + 0), none⟩)) (fun _ => x_nilCheck (by kernel_rfl)) ?_
      refine wk_pure (opg 43 (.fieldAddr 65 (.tmp 42) 2) 0 4 true) (by kernel_rfl) (.pointer (some ⟨s.og, 0 + (i * 9 + 8), none⟩)) (fun _ => y_ptr (x_fieldAddr (b := s.og) (off := (0 + (i * 9 + 0))) (o := 8) (by kernel_rfl) (by kernel_rfl)) (by omega)) ?_
      have hb_35 := (Bk.keep hr_24 gx_31 ni0)
      refine wk_read (opg 40 (.load 2 (.tmp 39)) 2 4 true) (by kernel_rfl) (.int .i64 nw) (fun w'_ g_ => x_load (b := p) (off := 3) (by kernel_rfl) (by kernel_rfl) (g_.keep hb_35.1) (by kernel_rfl)) ?_
      refine wk_read (opg 44 (.load 2 (.tmp 43)) 2 4 true) (by kernel_rfl) (.int .i64 ((O.getD i S0).at_)) (fun w'_ g_ => x_load_c (b := s.og) (off := (0 + (i * 9 + 8))) (by kernel_rfl) (by kernel_rfl) (SlE.get (g_.keepOwN hb_34.1).sl encS_len S0 i 8 (by omega) rfl)) ?_
      refine wk_pure (opg 45 (.binOp .sub 2 (.tmp 40) (.tmp 44) 2) 2 4 true) (by kernel_rfl) (.int .i64 (nw - (O.getD i S0).at_)) (fun _ => y_sub (k := .i64) (a := nw) (b := ((O.getD i S0).at_)) (by kernel_rfl) (by kernel_rfl) (i64_id (by have h_ := hat i (by omega); rw [hOO, tickO_at (by omega)] ; omega))) ?_
      by_cases h_36 : ((nw - (O.getD i S0).at_) : Int) < 8
      · refine wk_pure (opg 46 (.binOp .lss 2 (.tmp 45) (.const (.int .i64 8)) 2) 4 4 true) (by kernel_rfl) (.bool true) (fun _ => y_lss (k := .i64) (a := (nw - (O.getD i S0).at_)) (b := 8) (by kernel_rfl) (by kernel_rfl) (decide_eq_true h_36)) ?_
        refine wpt 47 (.tmp 36) (.tmp 46) (.const (.bool false)) 4 (.bool true) ?_
        refine wk_nil ?_
        refine thn_n ?_
        refine g_cond_t (o := .tmp 47) (x := lFN1_30) (y := lFN1_31) (by kernel_rfl) (by kernel_rfl) ?_
        refine g_exit (id := 1) (by kernel_rfl) ?_
        refine thn_e ?_
        refine blk_hit ?_
        refine thn_n ?_
        refine g_region (ops := lFR1_11) (id := 11) (by kernel_rfl) [pu 0, pu 1] (by kernel_rfl) (by kernel_rfl) ?_
        refine wk_pure (opd 79 (.binOp .add 3 (.tmp 23) (.const (.int .i64 1)) 3) 3) rfl (.int .i64 ((i + 1 : Nat) : Int)) (fun _ => y_add (k := .i64) (a := ((i : Nat) : Int)) (b := 1) (Eq.trans (by kernel_rfl) f_19) (by kernel_rfl) (i64_to (by omega) (by omega))) ?_
        refine wpm 23 (.tmp 79) 3 (.int .i64 ((i + 1 : Nat) : Int)) ?_
        refine wk_nil ?_
        refine thn_n ?_
        have hdue : due nw (s.out.getD i S0) = false := by rw [← tickO_at (now := nw) (by omega : i < s.out.length), ← hOO]; simp only [due, h_33, Bool.true_and, Bool.not_eq_false', decide_eq_true_eq]; omega
        have hb_37 := (OwNG.keep hr_21 gx_31 ni0)
        have hb_38 := (AllOk.keep hr_22 gx_31 ni0)
        have hb_39 := (AllOk.keep hr_23 gx_31 ni0)
        have hb_40 := (OwNG.keep hr_26 gx_31 ni0)
        have hb_41 := (AllOk.keep hr_27 gx_31 ni0)
        exact ⟨_, (by omega), ⟨(i + 1), O, tl, outs, oA, oG, oC, orest, _, rfl, by omega, by rw [hOO, tickO_skip (by omega) hdue], by rw [houts, tickD_skip (by omega) hdue], by rw [htl, tickD_skip (by omega) hdue], by omega, by omega, by omega, (Eq.trans (by kernel_rfl) f_16), (Eq.trans (by kernel_rfl) f_17), (Eq.trans (by kernel_rfl) f_18), (by kernel_rfl), (Eq.trans (by kernel_rfl) f_20), hb_37, hb_38, hb_39, hb_35, hb_34, hb_40, hb_41, (GX.then_same hE_14 sm_30)⟩⟩
      refine wk_pure (opg 46 (.binOp .lss 2 (.tmp 45) (.const (.int .i64 8)) 2) 4 4 true) (by kernel_rfl) (.bool false) (fun _ => y_lss (k := .i64) (a := (nw - (O.getD i S0).at_)) (b := 8) (by kernel_rfl) (by kernel_rfl) (decide_eq_false h_36)) ?_
      refine wpt 47 (.tmp 36) (.tmp 46) (.const (.bool false)) 4 (.bool false) ?_
      refine wk_nil ?_
      refine thn_n ?_
      refine g_cond_f (o := .tmp 47) (x := lFN1_30) (y := lFN1_31) (by kernel_rfl) (by kernel_rfl) ?_
      refine g_skip (by kernel_rfl) ?_
      refine thn_n ?_
      refine g_seq (x := lFN1_32) (y := lFN1_33) (by kernel_rfl) ?_
      refine g_region (ops := lFR1_8) (id := 8) (by kernel_rfl) [pu 0, pu 1, pu 2, pu 3, pu 4, lo 5, pu 6, pu 7, lo 8, pu 9, pu 10, lo 11] (by kernel_rfl) (by kernel_rfl) ?_
      refine wpm 48 (.tmp 7) 66 (.pointer (some ⟨s.og, 0 + (i * 9 + 0), none⟩)) ?_
      refine wpm 49 (.tmp 7) 66 (.pointer (some ⟨s.og, 0 + (i * 9 + 0), none⟩)) ?_
      refine wpm 50 (.tmp 0) 23 (.pointer (some ⟨p, 0, none⟩)) ?_ (Eq.trans (by kernel_rfl) f_16)
      refine wpn 51 (.tmp 50) ⟨p, 0, none⟩ ?_
      refine wpf 52 61 (.tmp 51) 3 p 0 3 3 ?_
      refine wpl 53 2 (.tmp 52) (.int .i64 nw) p 3 hb_35.1 ?_
      refine wpn 54 (.tmp 48) ⟨s.og, 0 + (i * 9 + 0), none⟩ ?_
      refine wk_pure (opd 55 (.fieldAddr 65 (.tmp 54) 1) 0) rfl (.pointer (some ⟨s.og, 0 + (i * 9 + 7), none⟩)) (fun _ => y_ptr (x_fieldAddr (b := s.og) (off := (0 + (i * 9 + 0))) (o := 7) (by kernel_rfl) (by kernel_rfl)) (by omega)) ?_
      have hdue : due nw (s.out.getD i S0) = true := by rw [← tickO_at (now := nw) (by omega : i < s.out.length), ← hOO]; first | (simp only [due, h_33, Bool.true_and, Bool.not_eq_true', decide_eq_false_iff_not]; omega) | simp only [due, h_33, Bool.false_and, Bool.not_false]
      refine wk_store_owN (b := s.og) (k := i) (f := 7) (sz := 9) (vs := [.bool true]) (⟨(O.getD i S0).m, true, (O.getD i S0).at_⟩ : SndR) S0 (opn (.store 4 (.tmp 55) (.const (.bool true))) 0) rfl (by kernel_rfl) (by kernel_rfl) (by kernel_rfl) (by kernel_rfl) hb_34.1 encS_len (by omega) rfl (Nat.le_of_ble_eq_true rfl) (by rfl) (fun w_42 e_43 sz_44 ho_45 => ⟨?_, ?_⟩)
      · exact trivial
      have gx_46 : GX [k + 1] w_29 γ_15 w_42 γ_15 := GX.ext1 e_43 (OwNG.own hb_34 (by omega)).2.2 (fun _ _ => rfl)
      have hk_47 : OwNG γ_15 w_42 (k + 1) 65 9 s.oa s.og s.oc encS (O.set i (⟨(O.getD i S0).m, true, (O.getD i S0).at_⟩ : SndR)) s.orest := ⟨ho_45, hb_34.2⟩
      have hsl_ : (O.set i (⟨(O.getD i S0).m, true, (O.getD i S0).at_⟩ : SndR)).length = O.length := List.length_set
      refine wpn 56 (.tmp 49) ⟨s.og, 0 + (i * 9 + 0), none⟩ ?_
      refine wk_pure (opd 57 (.fieldAddr 65 (.tmp 56) 2) 0) rfl (.pointer (some ⟨s.og, 0 + (i * 9 + 8), none⟩)) (fun _ => y_ptr (x_fieldAddr (b := s.og) (off := (0 + (i * 9 + 0))) (o := 8) (by kernel_rfl) (by kernel_rfl)) (by omega)) ?_
      refine wk_store_owN (b := s.og) (k := i) (f := 8) (sz := 9) (vs := [.int .i64 nw]) (⟨((O.set i (⟨(O.getD i S0).m, true, (O.getD i S0).at_⟩ : SndR)).getD i S0).m, true, nw⟩ : SndR) S0 (opn (.store 2 (.tmp 57) (.tmp 53)) 0) rfl (by kernel_rfl) (by kernel_rfl) (by kernel_rfl) (by kernel_rfl) hk_47.1 encS_len (by omega) rfl (Nat.le_of_ble_eq_true rfl) (by rw [getD_set (by omega), if_pos rfl]; rfl) (fun w_48 e_49 sz_50 ho_51 => ⟨?_, ?_⟩)
      · exact trivial
      have gx_52 : GX [k + 1] w_42 γ_15 w_48 γ_15 := GX.ext1 e_49 (OwNG.own hk_47 (by omega)).2.2 (fun _ _ => rfl)
      have hk_53 : OwNG γ_15 w_48 (k + 1) 65 9 s.oa s.og s.oc encS ((O.set i (⟨(O.getD i S0).m, true, (O.getD i S0).at_⟩ : SndR)).set i (⟨((O.set i (⟨(O.getD i S0).m, true, (O.getD i S0).at_⟩ : SndR)).getD i S0).m, true, nw⟩ : SndR)) s.orest := ⟨ho_51, hk_47.2⟩
      obtain ⟨O_54, hO_55⟩ : ∃ O2, O2 = (O.set i (⟨(O.getD i S0).m, true, (O.getD i S0).at_⟩ : SndR)).set i (⟨((O.set i (⟨(O.getD i S0).m, true, (O.getD i S0).at_⟩ : SndR)).getD i S0).m, true, nw⟩ : SndR) := ⟨_, rfl⟩
      rw [← hO_55] at hk_53
      have hn_O_54 : O_54 = tickO nw s.out (i + 1) := by rw [hO_55, List.set_set, getD_set (by omega), if_pos rfl, hOO, tickO_fire (by omega) hdue, tickO_at (by omega)]
      have hg_O_54 : O_54.getD i S0 = ⟨(s.out.getD i S0).m, true, nw⟩ := by rw [hO_55, List.set_set, getD_set (by omega), if_pos rfl, getD_set (by omega), if_pos rfl, hOO, tickO_at (by omega)]
      have hl_O_54 : O_54.length = s.out.length := by rw [hn_O_54, tickO_len]
      have hb_56 := (AllOk.keep (AllOk.keep (AllOk.keep hr_22 gx_31 ni0) gx_46 ni1) gx_52 ni1)
      refine wk_nil ?_
      refine thn_n ?_
      refine g_seq (x := lFN1_34) (y := lFN1_35) (by kernel_rfl) ?_
      refine g_draw (ops := lFR1_9) (id := 9) (by kernel_rfl) (fun _ _ => True) [pu 0, pu 1, pu 2, pu 3, pu 5, pu 6, pu 7, pu 8, rd 4, rd 9, pu 10, pu 11, pu 12, lo 13] (by kernel_rfl) (by kernel_rfl) (fun _ => trivial) (fun w_58 sm_59 => ?_)
      have gx_60 := GX.same [] γ_15 sm_59
      have hsz_61 : w_58.heap.size = w_48.heap.size := by rw [sm_59.heap]
      refine wpm 58 (.tmp 0) 23 (.pointer (some ⟨p, 0, none⟩)) ?_ (Eq.trans (by kernel_rfl) f_16)
      refine wpm 59 (.tmp 0) 23 (.pointer (some ⟨p, 0, none⟩)) ?_ (Eq.trans (by kernel_rfl) f_16)
      refine wpn 60 (.tmp 59) ⟨p, 0, none⟩ ?_
      refine wpf 61 61 (.tmp 60) 6 p 0 6 6 ?_
      refine wpm 63 (.tmp 7) 66 (.pointer (some ⟨s.og, 0 + (i * 9 + 0), none⟩)) ?_
      refine wpn 64 (.tmp 63) ⟨s.og, 0 + (i * 9 + 0), none⟩ ?_
      refine wk_pure (opd 65 (.fieldAddr 65 (.tmp 64) 0) 0) rfl (.pointer (some ⟨s.og, 0 + (i * 9 + 0), none⟩)) (fun _ => y_ptr (x_fieldAddr (b := s.og) (off := (0 + (i * 9 + 0))) (o := 0) (by kernel_rfl) (by kernel_rfl)) (by omega)) ?_
      refine wk_pure (opd 66 (.fieldAddr 32 (.tmp 65) 4) 0) rfl (.pointer (some ⟨s.og, 0 + (i * 9 + 4), none⟩)) (fun _ => y_ptr (x_fieldAddr (b := s.og) (off := (0 + (i * 9 + 0))) (o := 4) (by kernel_rfl) (by kernel_rfl)) (by omega)) ?_
      have hb_62 := (Bk.keep (Bk.keep (Bk.keep hb_35 gx_46 ni1) gx_52 ni1) gx_60 ni0)
      refine wk_read (opd 62 (.load 27 (.tmp 61)) 27) rfl (.int .u32 tl) (fun w'_ g_ => x_load (b := p) (off := 6) (by kernel_rfl) (by kernel_rfl) (g_.keep hb_62.1) (by kernel_rfl)) ?_
      have hb_63 := (OwNG.keep hk_53 gx_60 ni0)
      refine wk_read (opd 67 (.load 27 (.tmp 66)) 27) rfl (.int .u32 ((O_54.getD i S0).m.seq)) (fun w'_ g_ => x_load_c (b := s.og) (off := (0 + (i * 9 + 4))) (by kernel_rfl) (by kernel_rfl) (SlE.get (g_.keepOwN hb_63.1).sl encS_len S0 i 4 (by omega) rfl)) ?_
      refine wk_pure (opd 68 (.call ⟨.builtin .max, #[.tmp 62, .tmp 67], #[27, 27]⟩) 27) rfl (.int .u32 (max tl ((O_54.getD i S0).m.seq))) (fun _ => y_max (k := .u32) (q := .u32) (a := tl) (b := ((O_54.getD i S0).m.seq)) (by kernel_rfl) (by kernel_rfl) (if_max _ _)) ?_
      refine wpn 69 (.tmp 58) ⟨p, 0, none⟩ ?_
      refine wpf 70 61 (.tmp 69) 6 p 0 6 6 ?_
      refine wk_store (b := p) (off := 6) (cs' := #[.int .i64 s.own, .int .i64 s.peer, .int .u32 s.view, .int .i64 nw, .slice s.oa s.out.length s.oc, .int .u32 s.pushed, .int .u32 (max tl ((O_54.getD i S0).m.seq)), .int .u32 s.next, .slice s.ha s.held.length s.hc]) (vs := #[.int .u32 (max tl ((O_54.getD i S0).m.seq))]) (opn (.store 27 (.tmp 70) (.tmp 68)) 0) rfl (by kernel_rfl) (by kernel_rfl) (by kernel_rfl) (by kernel_rfl) hb_62.1 (Nat.le_of_ble_eq_true rfl) (by kernel_rfl) (by kernel_rfl) (fun w_64 e_65 sz_66 hb_67 => ⟨?_, ?_⟩)
      · exact trivial
      have gx_68 : GX [k] w_58 γ_15 w_64 γ_15 := GX.ext1 e_65 hb_62.2 (fun _ _ => rfl)
      have hk_69 : Bk γ_15 w_64 p k (.cells #[.int .i64 s.own, .int .i64 s.peer, .int .u32 s.view, .int .i64 nw, .slice s.oa s.out.length s.oc, .int .u32 s.pushed, .int .u32 (max tl ((O_54.getD i S0).m.seq)), .int .u32 s.next, .slice s.ha s.held.length s.hc] 61 (0, 0)) := ⟨hb_67, hb_62.2⟩
      refine wk_nil ?_
      refine thn_n ?_
      refine g_region (ops := lFR1_10) (id := 10) (by kernel_rfl) [pu 0, pu 1, pu 2, pu 3, lo 4, lo 5, lo 6, lo 7, pu 8] (by kernel_rfl) (by kernel_rfl) ?_
      refine wpm 71 (.tmp 5) 33 (.slice oA outs.length oC) ?_ (Eq.trans (by kernel_rfl) f_20)
      refine wpm 72 (.tmp 7) 66 (.pointer (some ⟨s.og, 0 + (i * 9 + 0), none⟩)) ?_
      refine wpn 73 (.tmp 72) ⟨s.og, 0 + (i * 9 + 0), none⟩ ?_
      refine wk_pure (opd 74 (.fieldAddr 65 (.tmp 73) 0) 0) rfl (.pointer (some ⟨s.og, 0 + (i * 9 + 0), none⟩)) (fun _ => y_ptr (x_fieldAddr (b := s.og) (off := (0 + (i * 9 + 0))) (o := 0) (by kernel_rfl) (by kernel_rfl)) (by omega)) ?_
      have hb_70 := (OwNG.keep hb_63 gx_68 ni1)
      refine wk_val (opd 75 (.load 32 (.tmp 74)) 32) rfl (.agg #[.int .i64 ((O_54.getD i S0).m.kind), .int .i64 ((O_54.getD i S0).m.frm), .int .i64 ((O_54.getD i S0).m.to), .int .u32 ((O_54.getD i S0).m.view), .int .u32 ((O_54.getD i S0).m.seq), .slice ((O_54.getD i S0).m.na) ((O_54.getD i S0).m.N.length) ((O_54.getD i S0).m.nc), .slice ((O_54.getD i S0).m.wa) ((O_54.getD i S0).m.W.length) ((O_54.getD i S0).m.wc)]) (x_load_cs (b := s.og) (off := (0 + (i * 9 + 0))) (n := 7) (vs := [.int .i64 ((O_54.getD i S0).m.kind), .int .i64 ((O_54.getD i S0).m.frm), .int .i64 ((O_54.getD i S0).m.to), .int .u32 ((O_54.getD i S0).m.view), .int .u32 ((O_54.getD i S0).m.seq), .slice ((O_54.getD i S0).m.na) ((O_54.getD i S0).m.N.length) ((O_54.getD i S0).m.nc), .slice ((O_54.getD i S0).m.wa) ((O_54.getD i S0).m.W.length) ((O_54.getD i S0).m.wc)]) (by kernel_rfl) (by kernel_rfl) rfl (SlE.getN hb_70.1.sl encS_len S0 i 0 (by omega) rfl)) trivial ?_
      have hb_71 := (AllOk.keep (AllOk.keep hb_56 gx_60 ni0) gx_68 ni1)
      refine wkc 76 25 #[.tmp 75] #[32] 32 #[.agg #[.int .i64 ((O_54.getD i S0).m.kind), .int .i64 ((O_54.getD i S0).m.frm), .int .i64 ((O_54.getD i S0).m.to), .int .u32 ((O_54.getD i S0).m.view), .int .u32 ((O_54.getD i S0).m.seq), .slice ((O_54.getD i S0).m.na) ((O_54.getD i S0).m.N.length) ((O_54.getD i S0).m.nc), .slice ((O_54.getD i S0).m.wa) ((O_54.getD i S0).m.W.length) ((O_54.getD i S0).m.wc)]] Try.func25 (copied_c (γ := γ_15) (m := (O_54.getD i S0).m) ((by rw [hg_O_54]; exact AllOk.getS hb_71 (by omega)) : MOk γ_15 w_64 (O_54.getD i S0).m) (fun w_72 γ_73 m_74 gx_75 hm_76 ha_77 => ⟨?_, ?_⟩))
      · exact trivial
      have hsz_78 := gx_75.size
      have ha_m_74 := abs_eq.1 ha_77
      obtain ⟨ek_m_74, ef_m_74, et_m_74, ev_m_74, es_m_74, eN_m_74, eW_m_74⟩ := ha_m_74
      have el_m_74 := congrArg List.length eN_m_74
      have ew_m_74 := congrArg List.length eW_m_74
      refine wk_buildSlice (e := 32) (cs := #[.int .i64 m_74.kind, .int .i64 m_74.frm, .int .i64 m_74.to, .int .u32 m_74.view, .int .u32 m_74.seq, .slice m_74.na m_74.N.length m_74.nc, .slice m_74.wa m_74.W.length m_74.wc]) (opd 77 (.buildSlice 33 1 #[(0, .tmp 76)]) 33) rfl (by kernel_rfl) (fun w_79 b_80 eq_81 e_82 sz_83 hb_84 => ⟨?_, ?_⟩)
      · exact trivial
      obtain ⟨γ_85, hg_86, hn_87⟩ := cls_new γ_73 w_72.heap.size 11001
      have gx_88 := GX.ext0 [] e_82 hg_86
      have hk_89 : Bk γ_85 w_79 b_80 11001 (.cells #[.int .i64 m_74.kind, .int .i64 m_74.frm, .int .i64 m_74.to, .int .u32 m_74.view, .int .u32 m_74.seq, .slice m_74.na m_74.N.length m_74.nc, .slice m_74.wa m_74.W.length m_74.wc] 32 (0, 0)) := ⟨hb_84, hn_87 _ (by omega)⟩
      have hs_90 : SlE w_79 7 (some ⟨b_80, 0, none⟩) b_80 0 encM [m_74] := SlE.of_cells hk_89.1 encM_len (by rfl)
      have hb_100 := (OwNG.keep (OwNG.keep (OwNG.keep (OwNG.keep (OwNG.keep (OwNG.keep (OwNG.keep hr_26 gx_31 ni0) gx_46 ni1) gx_52 ni1) gx_60 ni0) gx_68 ni1) gx_75 ni0) gx_88 ni0)
      have on_101 : OwNG γ_85 w_79 2000 32 7 oA oG oC encM outs orest := hb_100
      refine wk_append (M := ([m_74])) (L := outs) (a := oA) (g := oG) (c := oC) (ax := (some ⟨b_80, 0, none⟩)) (bx := b_80) (offx := 0) (cx := 1) (e := 32) (sz := 7) (by_ := 80) (opd 78 (.call ⟨.builtin .append, #[.tmp 71, .tmp 77], #[33, 33]⟩) 33) rfl (by kernel_rfl) (by kernel_rfl) encM_len (by kernel_rfl) on_101.1 (by kernel_rfl) hs_90 (by simp) encM_one (by constructor <;> (simp only [List.length_singleton]; omega)) (fun w_91 b_92 cap_93 rest_94 hb_95 e_96 sz_97 lt_98 ho_99 => ⟨?_, ?_⟩)
      · exact trivial
      obtain ⟨γ_102, hg_103, hn_104⟩ := cls_new γ_85 w_79.heap.size 2000
      have gx_105 : GX [2000] w_79 γ_85 w_91 γ_102 := OwNG.gx on_101 e_96 hg_103
      have hk_106 : OwnG γ_102 w_91 2000 32 7 b_92 cap_93 encM (outs ++ ([m_74])) rest_94 := ⟨ho_99, OwNG.appc on_101 hb_95 hg_103 hn_104⟩
      have hsz_107 := e_96.size
      refine wpa 5 (.tmp 78) 33 (.slice (some ⟨b_92, 0, none⟩) ((outs ++ ([m_74])).length) cap_93) ?_
      refine wk_nil ?_
      refine blk_n ?_
      refine thn_n ?_
      refine g_region (ops := lFR1_11) (id := 11) (by kernel_rfl) [pu 0, pu 1] (by kernel_rfl) (by kernel_rfl) ?_
      refine wk_pure (opd 79 (.binOp .add 3 (.tmp 23) (.const (.int .i64 1)) 3) 3) rfl (.int .i64 ((i + 1 : Nat) : Int)) (fun _ => y_add (k := .i64) (a := ((i : Nat) : Int)) (b := 1) (Eq.trans (by kernel_rfl) f_19) (by kernel_rfl) (i64_to (by omega) (by omega))) ?_
      refine wpm 23 (.tmp 79) 3 (.int .i64 ((i + 1 : Nat) : Int)) ?_
      refine wk_nil ?_
      refine thn_n ?_
      have hb_108 := (AllOk.keep (AllOk.keep (AllOk.keep (AllOk.keep (AllOk.keep (AllOk.keep (AllOk.keep (AllOk.keep hr_27 gx_31 ni0) gx_46 ni1) gx_52 ni1) gx_60 ni0) gx_68 ni1) gx_75 ni0) gx_88 ni0) gx_105 ni1)
      have hb_109 := (MOk.keep (MOk.keep hm_76 gx_88 ni0) gx_105 ni1)
      have hadd_ : AllOk γ_102 w_91 (outs ++ [m_74]) := AllOk.add hb_108 hb_109
      have hs_ : (O_54.getD i S0).m = (s.out.getD i S0).m := by rw [hg_O_54]
      have hb_110 := (OwNG.keep (OwNG.keep (OwNG.keep hb_70 gx_75 ni0) gx_88 ni0) gx_105 ni1)
      have hb_111 := (AllOk.keep (AllOk.keep (AllOk.keep hb_71 gx_75 ni0) gx_88 ni0) gx_105 ni1)
      have hb_112 := (OwNG.keep (OwNG.keep (OwNG.keep (OwNG.keep (OwNG.keep (OwNG.keep (OwNG.keep (OwNG.keep hr_21 gx_31 ni0) gx_46 ni1) gx_52 ni1) gx_60 ni0) gx_68 ni1) gx_75 ni0) gx_88 ni0) gx_105 ni1)
      have hb_113 := (AllOk.keep (AllOk.keep (AllOk.keep (AllOk.keep (AllOk.keep (AllOk.keep (AllOk.keep (AllOk.keep hr_23 gx_31 ni0) gx_46 ni1) gx_52 ni1) gx_60 ni0) gx_68 ni1) gx_75 ni0) gx_88 ni0) gx_105 ni1)
      have hb_114 := (Bk.keep (Bk.keep (Bk.keep hk_69 gx_75 ni0) gx_88 ni0) gx_105 ni1)
      exact ⟨_, (by omega), ⟨(i + 1), O_54, (max tl (O_54.getD i S0).m.seq), (outs ++ [m_74]), _, b_92, cap_93, rest_94, _, rfl, by omega, by exact hn_O_54, by rw [tickD_fire (by omega) hdue, List.map_append, List.map_append, houts]; show _ ++ [m_74.abs] = _ ++ [(s.out.getD i S0).m.abs]; rw [ha_77, hs_], by rw [tickD_fire (by omega) hdue, tickT_add, htl, hs_], by rw [hs_]; have h_ := (AllOk.getS hb_111 (by omega : i < s.out.length)).s0; omega, by exact .inr (appNew hb_95 hO (by omega)), by rw [List.length_append, List.length_singleton]; omega, (Eq.trans (by kernel_rfl) f_16), (Eq.trans (by kernel_rfl) f_17), (Eq.trans (by kernel_rfl) f_18), (by kernel_rfl), (by kernel_rfl), hb_112, hb_111, hb_113, hb_114, hb_110, (OwNG.of hk_106), hadd_, (GX.thenNew (GX.then0 (GX.trans (GX.trans (GX.then_same (GX.trans (GX.trans (GX.then_same hE_14 sm_30) gx_46 (by intro c_ hc_; simp only [List.mem_cons, List.not_mem_nil, or_false] at hc_ ⊢; omega)) gx_52 (by intro c_ hc_; simp only [List.mem_cons, List.not_mem_nil, or_false] at hc_ ⊢; omega)) sm_59) gx_68 (by intro c_ hc_; simp only [List.mem_cons, List.not_mem_nil, or_false] at hc_ ⊢; omega)) gx_75 (fun _ h_ => absurd h_ List.not_mem_nil)) e_82 hg_86) e_96 (OwNG.newS hb_100 (by exact hO)) hg_103)⟩⟩
    have hb_115 := (OwNG.keep hr_25 gx_31 ni0)
    refine wk_val (opd 35 (.load 4 (.tmp 34)) 4) rfl (.bool false) (y_boolv (x_load_c (b := s.og) (off := (0 + (i * 9 + 7))) (by kernel_rfl) (by kernel_rfl) (SlE.get hb_115.1.sl encS_len S0 i 7 (by omega) rfl)) h_33) trivial ?_
    refine wpm 36 (.tmp 35) 4 (.bool false) ?_
    refine wks 37 ?_
    refine wks 38 ?_
    refine wks 39 ?_
    refine wks 41 ?_
    refine wks 42 ?_
    refine wks 43 ?_
    refine wks 40 ?_
    refine wks 44 ?_
    refine wks 45 ?_
    refine wks 46 ?_
    refine wpk 47 (.tmp 36) (.tmp 46) (.const (.bool false)) 4 (.bool false) ?_
    refine wk_nil ?_
    refine thn_n ?_
    refine g_cond_f (o := .tmp 47) (x := lFN1_30) (y := lFN1_31) (by kernel_rfl) (by kernel_rfl) ?_
    refine g_skip (by kernel_rfl) ?_
    refine thn_n ?_
    refine g_seq (x := lFN1_32) (y := lFN1_33) (by kernel_rfl) ?_
    refine g_region (ops := lFR1_8) (id := 8) (by kernel_rfl) [pu 0, pu 1, pu 2, pu 3, pu 4, lo 5, pu 6, pu 7, lo 8, pu 9, pu 10, lo 11] (by kernel_rfl) (by kernel_rfl) ?_
    refine wpm 48 (.tmp 7) 66 (.pointer (some ⟨s.og, 0 + (i * 9 + 0), none⟩)) ?_
    refine wpm 49 (.tmp 7) 66 (.pointer (some ⟨s.og, 0 + (i * 9 + 0), none⟩)) ?_
    refine wpm 50 (.tmp 0) 23 (.pointer (some ⟨p, 0, none⟩)) ?_ (Eq.trans (by kernel_rfl) f_16)
    refine wpn 51 (.tmp 50) ⟨p, 0, none⟩ ?_
    refine wpf 52 61 (.tmp 51) 3 p 0 3 3 ?_
    have hb_116 := (Bk.keep hr_24 gx_31 ni0)
    refine wpl 53 2 (.tmp 52) (.int .i64 nw) p 3 hb_116.1 ?_
    refine wpn 54 (.tmp 48) ⟨s.og, 0 + (i * 9 + 0), none⟩ ?_
    refine wk_pure (opd 55 (.fieldAddr 65 (.tmp 54) 1) 0) rfl (.pointer (some ⟨s.og, 0 + (i * 9 + 7), none⟩)) (fun _ => y_ptr (x_fieldAddr (b := s.og) (off := (0 + (i * 9 + 0))) (o := 7) (by kernel_rfl) (by kernel_rfl)) (by omega)) ?_
    have hdue : due nw (s.out.getD i S0) = true := by rw [← tickO_at (now := nw) (by omega : i < s.out.length), ← hOO]; first | (simp only [due, h_33, Bool.true_and, Bool.not_eq_true', decide_eq_false_iff_not]; omega) | simp only [due, h_33, Bool.false_and, Bool.not_false]
    refine wk_store_owN (b := s.og) (k := i) (f := 7) (sz := 9) (vs := [.bool true]) (⟨(O.getD i S0).m, true, (O.getD i S0).at_⟩ : SndR) S0 (opn (.store 4 (.tmp 55) (.const (.bool true))) 0) rfl (by kernel_rfl) (by kernel_rfl) (by kernel_rfl) (by kernel_rfl) hb_115.1 encS_len (by omega) rfl (Nat.le_of_ble_eq_true rfl) (by rfl) (fun w_117 e_118 sz_119 ho_120 => ⟨?_, ?_⟩)
    · exact trivial
    have gx_121 : GX [k + 1] w_29 γ_15 w_117 γ_15 := GX.ext1 e_118 (OwNG.own hb_115 (by omega)).2.2 (fun _ _ => rfl)
    have hk_122 : OwNG γ_15 w_117 (k + 1) 65 9 s.oa s.og s.oc encS (O.set i (⟨(O.getD i S0).m, true, (O.getD i S0).at_⟩ : SndR)) s.orest := ⟨ho_120, hb_115.2⟩
    have hsl_ : (O.set i (⟨(O.getD i S0).m, true, (O.getD i S0).at_⟩ : SndR)).length = O.length := List.length_set
    refine wpn 56 (.tmp 49) ⟨s.og, 0 + (i * 9 + 0), none⟩ ?_
    refine wk_pure (opd 57 (.fieldAddr 65 (.tmp 56) 2) 0) rfl (.pointer (some ⟨s.og, 0 + (i * 9 + 8), none⟩)) (fun _ => y_ptr (x_fieldAddr (b := s.og) (off := (0 + (i * 9 + 0))) (o := 8) (by kernel_rfl) (by kernel_rfl)) (by omega)) ?_
    refine wk_store_owN (b := s.og) (k := i) (f := 8) (sz := 9) (vs := [.int .i64 nw]) (⟨((O.set i (⟨(O.getD i S0).m, true, (O.getD i S0).at_⟩ : SndR)).getD i S0).m, true, nw⟩ : SndR) S0 (opn (.store 2 (.tmp 57) (.tmp 53)) 0) rfl (by kernel_rfl) (by kernel_rfl) (by kernel_rfl) (by kernel_rfl) hk_122.1 encS_len (by omega) rfl (Nat.le_of_ble_eq_true rfl) (by rw [getD_set (by omega), if_pos rfl]; rfl) (fun w_123 e_124 sz_125 ho_126 => ⟨?_, ?_⟩)
    · exact trivial
    have gx_127 : GX [k + 1] w_117 γ_15 w_123 γ_15 := GX.ext1 e_124 (OwNG.own hk_122 (by omega)).2.2 (fun _ _ => rfl)
    have hk_128 : OwNG γ_15 w_123 (k + 1) 65 9 s.oa s.og s.oc encS ((O.set i (⟨(O.getD i S0).m, true, (O.getD i S0).at_⟩ : SndR)).set i (⟨((O.set i (⟨(O.getD i S0).m, true, (O.getD i S0).at_⟩ : SndR)).getD i S0).m, true, nw⟩ : SndR)) s.orest := ⟨ho_126, hk_122.2⟩
    obtain ⟨O_129, hO_130⟩ : ∃ O2, O2 = (O.set i (⟨(O.getD i S0).m, true, (O.getD i S0).at_⟩ : SndR)).set i (⟨((O.set i (⟨(O.getD i S0).m, true, (O.getD i S0).at_⟩ : SndR)).getD i S0).m, true, nw⟩ : SndR) := ⟨_, rfl⟩
    rw [← hO_130] at hk_128
    have hn_O_129 : O_129 = tickO nw s.out (i + 1) := by rw [hO_130, List.set_set, getD_set (by omega), if_pos rfl, hOO, tickO_fire (by omega) hdue, tickO_at (by omega)]
    have hg_O_129 : O_129.getD i S0 = ⟨(s.out.getD i S0).m, true, nw⟩ := by rw [hO_130, List.set_set, getD_set (by omega), if_pos rfl, getD_set (by omega), if_pos rfl, hOO, tickO_at (by omega)]
    have hl_O_129 : O_129.length = s.out.length := by rw [hn_O_129, tickO_len]
    have hb_131 := (AllOk.keep (AllOk.keep (AllOk.keep hr_22 gx_31 ni0) gx_121 ni1) gx_127 ni1)
    refine wk_nil ?_
    refine thn_n ?_
    refine g_seq (x := lFN1_34) (y := lFN1_35) (by kernel_rfl) ?_
    refine g_draw (ops := lFR1_9) (id := 9) (by kernel_rfl) (fun _ _ => True) [pu 0, pu 1, pu 2, pu 3, pu 5, pu 6, pu 7, pu 8, rd 4, rd 9, pu 10, pu 11, pu 12, lo 13] (by kernel_rfl) (by kernel_rfl) (fun _ => trivial) (fun w_133 sm_134 => ?_)
    have gx_135 := GX.same [] γ_15 sm_134
    have hsz_136 : w_133.heap.size = w_123.heap.size := by rw [sm_134.heap]
    refine wpm 58 (.tmp 0) 23 (.pointer (some ⟨p, 0, none⟩)) ?_ (Eq.trans (by kernel_rfl) f_16)
    refine wpm 59 (.tmp 0) 23 (.pointer (some ⟨p, 0, none⟩)) ?_ (Eq.trans (by kernel_rfl) f_16)
    refine wpn 60 (.tmp 59) ⟨p, 0, none⟩ ?_
    refine wpf 61 61 (.tmp 60) 6 p 0 6 6 ?_
    refine wpm 63 (.tmp 7) 66 (.pointer (some ⟨s.og, 0 + (i * 9 + 0), none⟩)) ?_
    refine wpn 64 (.tmp 63) ⟨s.og, 0 + (i * 9 + 0), none⟩ ?_
    refine wk_pure (opd 65 (.fieldAddr 65 (.tmp 64) 0) 0) rfl (.pointer (some ⟨s.og, 0 + (i * 9 + 0), none⟩)) (fun _ => y_ptr (x_fieldAddr (b := s.og) (off := (0 + (i * 9 + 0))) (o := 0) (by kernel_rfl) (by kernel_rfl)) (by omega)) ?_
    refine wk_pure (opd 66 (.fieldAddr 32 (.tmp 65) 4) 0) rfl (.pointer (some ⟨s.og, 0 + (i * 9 + 4), none⟩)) (fun _ => y_ptr (x_fieldAddr (b := s.og) (off := (0 + (i * 9 + 0))) (o := 4) (by kernel_rfl) (by kernel_rfl)) (by omega)) ?_
    have hb_137 := (Bk.keep (Bk.keep (Bk.keep hb_116 gx_121 ni1) gx_127 ni1) gx_135 ni0)
    refine wk_read (opd 62 (.load 27 (.tmp 61)) 27) rfl (.int .u32 tl) (fun w'_ g_ => x_load (b := p) (off := 6) (by kernel_rfl) (by kernel_rfl) (g_.keep hb_137.1) (by kernel_rfl)) ?_
    have hb_138 := (OwNG.keep hk_128 gx_135 ni0)
    refine wk_read (opd 67 (.load 27 (.tmp 66)) 27) rfl (.int .u32 ((O_129.getD i S0).m.seq)) (fun w'_ g_ => x_load_c (b := s.og) (off := (0 + (i * 9 + 4))) (by kernel_rfl) (by kernel_rfl) (SlE.get (g_.keepOwN hb_138.1).sl encS_len S0 i 4 (by omega) rfl)) ?_
    refine wk_pure (opd 68 (.call ⟨.builtin .max, #[.tmp 62, .tmp 67], #[27, 27]⟩) 27) rfl (.int .u32 (max tl ((O_129.getD i S0).m.seq))) (fun _ => y_max (k := .u32) (q := .u32) (a := tl) (b := ((O_129.getD i S0).m.seq)) (by kernel_rfl) (by kernel_rfl) (if_max _ _)) ?_
    refine wpn 69 (.tmp 58) ⟨p, 0, none⟩ ?_
    refine wpf 70 61 (.tmp 69) 6 p 0 6 6 ?_
    refine wk_store (b := p) (off := 6) (cs' := #[.int .i64 s.own, .int .i64 s.peer, .int .u32 s.view, .int .i64 nw, .slice s.oa s.out.length s.oc, .int .u32 s.pushed, .int .u32 (max tl ((O_129.getD i S0).m.seq)), .int .u32 s.next, .slice s.ha s.held.length s.hc]) (vs := #[.int .u32 (max tl ((O_129.getD i S0).m.seq))]) (opn (.store 27 (.tmp 70) (.tmp 68)) 0) rfl (by kernel_rfl) (by kernel_rfl) (by kernel_rfl) (by kernel_rfl) hb_137.1 (Nat.le_of_ble_eq_true rfl) (by kernel_rfl) (by kernel_rfl) (fun w_139 e_140 sz_141 hb_142 => ⟨?_, ?_⟩)
    · exact trivial
    have gx_143 : GX [k] w_133 γ_15 w_139 γ_15 := GX.ext1 e_140 hb_137.2 (fun _ _ => rfl)
    have hk_144 : Bk γ_15 w_139 p k (.cells #[.int .i64 s.own, .int .i64 s.peer, .int .u32 s.view, .int .i64 nw, .slice s.oa s.out.length s.oc, .int .u32 s.pushed, .int .u32 (max tl ((O_129.getD i S0).m.seq)), .int .u32 s.next, .slice s.ha s.held.length s.hc] 61 (0, 0)) := ⟨hb_142, hb_137.2⟩
    refine wk_nil ?_
    refine thn_n ?_
    refine g_region (ops := lFR1_10) (id := 10) (by kernel_rfl) [pu 0, pu 1, pu 2, pu 3, lo 4, lo 5, lo 6, lo 7, pu 8] (by kernel_rfl) (by kernel_rfl) ?_
    refine wpm 71 (.tmp 5) 33 (.slice oA outs.length oC) ?_ (Eq.trans (by kernel_rfl) f_20)
    refine wpm 72 (.tmp 7) 66 (.pointer (some ⟨s.og, 0 + (i * 9 + 0), none⟩)) ?_
    refine wpn 73 (.tmp 72) ⟨s.og, 0 + (i * 9 + 0), none⟩ ?_
    refine wk_pure (opd 74 (.fieldAddr 65 (.tmp 73) 0) 0) rfl (.pointer (some ⟨s.og, 0 + (i * 9 + 0), none⟩)) (fun _ => y_ptr (x_fieldAddr (b := s.og) (off := (0 + (i * 9 + 0))) (o := 0) (by kernel_rfl) (by kernel_rfl)) (by omega)) ?_
    have hb_145 := (OwNG.keep hb_138 gx_143 ni1)
    refine wk_val (opd 75 (.load 32 (.tmp 74)) 32) rfl (.agg #[.int .i64 ((O_129.getD i S0).m.kind), .int .i64 ((O_129.getD i S0).m.frm), .int .i64 ((O_129.getD i S0).m.to), .int .u32 ((O_129.getD i S0).m.view), .int .u32 ((O_129.getD i S0).m.seq), .slice ((O_129.getD i S0).m.na) ((O_129.getD i S0).m.N.length) ((O_129.getD i S0).m.nc), .slice ((O_129.getD i S0).m.wa) ((O_129.getD i S0).m.W.length) ((O_129.getD i S0).m.wc)]) (x_load_cs (b := s.og) (off := (0 + (i * 9 + 0))) (n := 7) (vs := [.int .i64 ((O_129.getD i S0).m.kind), .int .i64 ((O_129.getD i S0).m.frm), .int .i64 ((O_129.getD i S0).m.to), .int .u32 ((O_129.getD i S0).m.view), .int .u32 ((O_129.getD i S0).m.seq), .slice ((O_129.getD i S0).m.na) ((O_129.getD i S0).m.N.length) ((O_129.getD i S0).m.nc), .slice ((O_129.getD i S0).m.wa) ((O_129.getD i S0).m.W.length) ((O_129.getD i S0).m.wc)]) (by kernel_rfl) (by kernel_rfl) rfl (SlE.getN hb_145.1.sl encS_len S0 i 0 (by omega) rfl)) trivial ?_
    have hb_146 := (AllOk.keep (AllOk.keep hb_131 gx_135 ni0) gx_143 ni1)
    refine wkc 76 25 #[.tmp 75] #[32] 32 #[.agg #[.int .i64 ((O_129.getD i S0).m.kind), .int .i64 ((O_129.getD i S0).m.frm), .int .i64 ((O_129.getD i S0).m.to), .int .u32 ((O_129.getD i S0).m.view), .int .u32 ((O_129.getD i S0).m.seq), .slice ((O_129.getD i S0).m.na) ((O_129.getD i S0).m.N.length) ((O_129.getD i S0).m.nc), .slice ((O_129.getD i S0).m.wa) ((O_129.getD i S0).m.W.length) ((O_129.getD i S0).m.wc)]] Try.func25 (copied_c (γ := γ_15) (m := (O_129.getD i S0).m) ((by rw [hg_O_129]; exact AllOk.getS hb_146 (by omega)) : MOk γ_15 w_139 (O_129.getD i S0).m) (fun w_147 γ_148 m_149 gx_150 hm_151 ha_152 => ⟨?_, ?_⟩))
    · exact trivial
    have hsz_153 := gx_150.size
    have ha_m_149 := abs_eq.1 ha_152
    obtain ⟨ek_m_149, ef_m_149, et_m_149, ev_m_149, es_m_149, eN_m_149, eW_m_149⟩ := ha_m_149
    have el_m_149 := congrArg List.length eN_m_149
    have ew_m_149 := congrArg List.length eW_m_149
    refine wk_buildSlice (e := 32) (cs := #[.int .i64 m_149.kind, .int .i64 m_149.frm, .int .i64 m_149.to, .int .u32 m_149.view, .int .u32 m_149.seq, .slice m_149.na m_149.N.length m_149.nc, .slice m_149.wa m_149.W.length m_149.wc]) (opd 77 (.buildSlice 33 1 #[(0, .tmp 76)]) 33) rfl (by kernel_rfl) (fun w_154 b_155 eq_156 e_157 sz_158 hb_159 => ⟨?_, ?_⟩)
    · exact trivial
    obtain ⟨γ_160, hg_161, hn_162⟩ := cls_new γ_148 w_147.heap.size 11002
    have gx_163 := GX.ext0 [] e_157 hg_161
    have hk_164 : Bk γ_160 w_154 b_155 11002 (.cells #[.int .i64 m_149.kind, .int .i64 m_149.frm, .int .i64 m_149.to, .int .u32 m_149.view, .int .u32 m_149.seq, .slice m_149.na m_149.N.length m_149.nc, .slice m_149.wa m_149.W.length m_149.wc] 32 (0, 0)) := ⟨hb_159, hn_162 _ (by omega)⟩
    have hs_165 : SlE w_154 7 (some ⟨b_155, 0, none⟩) b_155 0 encM [m_149] := SlE.of_cells hk_164.1 encM_len (by rfl)
    have hb_175 := (OwNG.keep (OwNG.keep (OwNG.keep (OwNG.keep (OwNG.keep (OwNG.keep (OwNG.keep hr_26 gx_31 ni0) gx_121 ni1) gx_127 ni1) gx_135 ni0) gx_143 ni1) gx_150 ni0) gx_163 ni0)
    have on_176 : OwNG γ_160 w_154 2000 32 7 oA oG oC encM outs orest := hb_175
    refine wk_append (M := ([m_149])) (L := outs) (a := oA) (g := oG) (c := oC) (ax := (some ⟨b_155, 0, none⟩)) (bx := b_155) (offx := 0) (cx := 1) (e := 32) (sz := 7) (by_ := 80) (opd 78 (.call ⟨.builtin .append, #[.tmp 71, .tmp 77], #[33, 33]⟩) 33) rfl (by kernel_rfl) (by kernel_rfl) encM_len (by kernel_rfl) on_176.1 (by kernel_rfl) hs_165 (by simp) encM_one (by constructor <;> (simp only [List.length_singleton]; omega)) (fun w_166 b_167 cap_168 rest_169 hb_170 e_171 sz_172 lt_173 ho_174 => ⟨?_, ?_⟩)
    · exact trivial
    obtain ⟨γ_177, hg_178, hn_179⟩ := cls_new γ_160 w_154.heap.size 2000
    have gx_180 : GX [2000] w_154 γ_160 w_166 γ_177 := OwNG.gx on_176 e_171 hg_178
    have hk_181 : OwnG γ_177 w_166 2000 32 7 b_167 cap_168 encM (outs ++ ([m_149])) rest_169 := ⟨ho_174, OwNG.appc on_176 hb_170 hg_178 hn_179⟩
    have hsz_182 := e_171.size
    refine wpa 5 (.tmp 78) 33 (.slice (some ⟨b_167, 0, none⟩) ((outs ++ ([m_149])).length) cap_168) ?_
    refine wk_nil ?_
    refine blk_n ?_
    refine thn_n ?_
    refine g_region (ops := lFR1_11) (id := 11) (by kernel_rfl) [pu 0, pu 1] (by kernel_rfl) (by kernel_rfl) ?_
    refine wk_pure (opd 79 (.binOp .add 3 (.tmp 23) (.const (.int .i64 1)) 3) 3) rfl (.int .i64 ((i + 1 : Nat) : Int)) (fun _ => y_add (k := .i64) (a := ((i : Nat) : Int)) (b := 1) (Eq.trans (by kernel_rfl) f_19) (by kernel_rfl) (i64_to (by omega) (by omega))) ?_
    refine wpm 23 (.tmp 79) 3 (.int .i64 ((i + 1 : Nat) : Int)) ?_
    refine wk_nil ?_
    refine thn_n ?_
    have hb_183 := (AllOk.keep (AllOk.keep (AllOk.keep (AllOk.keep (AllOk.keep (AllOk.keep (AllOk.keep (AllOk.keep hr_27 gx_31 ni0) gx_121 ni1) gx_127 ni1) gx_135 ni0) gx_143 ni1) gx_150 ni0) gx_163 ni0) gx_180 ni1)
    have hb_184 := (MOk.keep (MOk.keep hm_151 gx_163 ni0) gx_180 ni1)
    have hadd_ : AllOk γ_177 w_166 (outs ++ [m_149]) := AllOk.add hb_183 hb_184
    have hs_ : (O_129.getD i S0).m = (s.out.getD i S0).m := by rw [hg_O_129]
    have hb_185 := (OwNG.keep (OwNG.keep (OwNG.keep hb_145 gx_150 ni0) gx_163 ni0) gx_180 ni1)
    have hb_186 := (AllOk.keep (AllOk.keep (AllOk.keep hb_146 gx_150 ni0) gx_163 ni0) gx_180 ni1)
    have hb_187 := (OwNG.keep (OwNG.keep (OwNG.keep (OwNG.keep (OwNG.keep (OwNG.keep (OwNG.keep (OwNG.keep hr_21 gx_31 ni0) gx_121 ni1) gx_127 ni1) gx_135 ni0) gx_143 ni1) gx_150 ni0) gx_163 ni0) gx_180 ni1)
    have hb_188 := (AllOk.keep (AllOk.keep (AllOk.keep (AllOk.keep (AllOk.keep (AllOk.keep (AllOk.keep (AllOk.keep hr_23 gx_31 ni0) gx_121 ni1) gx_127 ni1) gx_135 ni0) gx_143 ni1) gx_150 ni0) gx_163 ni0) gx_180 ni1)
    have hb_189 := (Bk.keep (Bk.keep (Bk.keep hk_144 gx_150 ni0) gx_163 ni0) gx_180 ni1)
    exact ⟨_, (by omega), ⟨(i + 1), O_129, (max tl (O_129.getD i S0).m.seq), (outs ++ [m_149]), _, b_167, cap_168, rest_169, _, rfl, by omega, by exact hn_O_129, by rw [tickD_fire (by omega) hdue, List.map_append, List.map_append, houts]; show _ ++ [m_149.abs] = _ ++ [(s.out.getD i S0).m.abs]; rw [ha_152, hs_], by rw [tickD_fire (by omega) hdue, tickT_add, htl, hs_], by rw [hs_]; have h_ := (AllOk.getS hb_186 (by omega : i < s.out.length)).s0; omega, by exact .inr (appNew hb_170 hO (by omega)), by rw [List.length_append, List.length_singleton]; omega, (Eq.trans (by kernel_rfl) f_16), (Eq.trans (by kernel_rfl) f_17), (Eq.trans (by kernel_rfl) f_18), (by kernel_rfl), (by kernel_rfl), hb_187, hb_186, hb_188, hb_189, hb_185, (OwNG.of hk_181), hadd_, (GX.thenNew (GX.then0 (GX.trans (GX.trans (GX.then_same (GX.trans (GX.trans (GX.then_same hE_14 sm_30) gx_121 (by intro c_ hc_; simp only [List.mem_cons, List.not_mem_nil, or_false] at hc_ ⊢; omega)) gx_127 (by intro c_ hc_; simp only [List.mem_cons, List.not_mem_nil, or_false] at hc_ ⊢; omega)) sm_134) gx_143 (by intro c_ hc_; simp only [List.mem_cons, List.not_mem_nil, or_false] at hc_ ⊢; omega)) gx_150 (fun _ h_ => absurd h_ List.not_mem_nil)) e_157 hg_161) e_171 (OwNG.newS hb_175 (by exact hO)) hg_178)⟩⟩
  refine wk_pure (opd 24 (.binOp .lss 3 (.tmp 23) (.tmp 22) 3) 4) rfl (.bool false) (fun _ => y_lss (k := .i64) (a := ((i : Nat) : Int)) (b := (((min s.out.length 32) : Nat) : Int)) (Eq.trans (by kernel_rfl) f_19) (Eq.trans (by kernel_rfl) f_18) (decide_eq_false h_28)) ?_
  refine wk_nil ?_
  refine thn_n ?_
  refine g_seq (x := lFN1_15) (y := lFN1_16) (by kernel_rfl) ?_
  refine g_cond_f (o := .tmp 24) (x := lFN1_17) (y := lFN1_18) (by kernel_rfl) (by kernel_rfl) ?_
  refine g_exit (id := 0) (by kernel_rfl) ?_
  refine thn_e ?_
  refine thn_e ?_
  refine blk_hit ?_
  refine thn_n ?_
  refine g_seq (x := lFN1_36) (y := lFN1_37) (by kernel_rfl) ?_
  refine g_region (ops := lFR1_12) (id := 12) (by kernel_rfl) [pu 0, pu 1] (by kernel_rfl) (by kernel_rfl) ?_
  refine wpm 80 (.tmp 5) 33 (.slice oA outs.length oC) ?_ (Eq.trans (by kernel_rfl) f_20)
  refine wpa 4 (.tmp 80) 33 (.slice oA outs.length oC) ?_
  refine wk_nil ?_
  refine thn_n ?_
  refine g_ret (by kernel_rfl) ?_
  refine ends1_r (v := .slice oA outs.length oC) rfl (by kernel_rfl) ?_
  obtain ⟨γ_190, hr_191, hr_192, hr_193⟩ := recls γ_15 w.heap.size 2000 0
  have gx_194 : GX [2000] w_13 γ_15 w_13 γ_190 := GX.re w_13 hr_192
  have hb_195 := (Bk.keep hr_24 gx_194 ni1)
  have hb_196 := (OwNG.keep hr_25 gx_194 ni1)
  have hb_197 := (OwNG.keep hr_21 gx_194 ni1)
  have hb_198 := (AllOk.keep hr_22 gx_194 ni1)
  have hb_199 := (AllOk.keep hr_23 gx_194 ni1)
  have hi_ : i = min s.out.length 32 := by omega
  have hb_200 := (AllOk.keep hr_27 gx_194 ni1)
  exact hK _ _ _ outs (O := O) (nw := nw) (tl := tl) (GX.thenRe hE_14 (fun b_ hb_ => hr_191 b_ (by omega))) ⟨_, _, _, _, rfl, OwNG.slg (OwNG.re hr_26 hr_193 hO), hb_200⟩ ⟨(by have h_ := hb_195; rw [show s.out.length = O.length by omega] at h_; exact h_), hb_196, hb_197, (by rw [hOO, tickO_map]; exact hb_198), hb_199, h_b1, h_b2, htb, h_b4, (by show 0 ≤ nw ∧ nw ≤ 9223372036854775807; omega), (by show O.length ≤ 1024; omega), h_l2, (fun j_ hj_ => by show 0 ≤ (O.getD j_ S0).at_ ∧ (O.getD j_ S0).at_ ≤ nw; exact tickO_at' hOO h_l3 (by omega) (by omega) (by omega))⟩ hnw (hi_ ▸ hOO) (hi_ ▸ houts) (hi_ ▸ htl)

end Go.Proofs.Ytpcdldakilkldaa
