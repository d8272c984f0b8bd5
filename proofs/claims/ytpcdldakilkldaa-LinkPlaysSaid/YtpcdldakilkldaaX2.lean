/-
  Links: contracts of functions, step by step (X2).
-/
import Derived.Test.YtpcdldakilkldaaX1
import Derived.Test.YtpcdldakilkldaaLF
set_option linter.unusedSimpArgs false
set_option linter.unusedVariables false
namespace Go.Proofs.Ytpcdldakilkldaa
open Go Go.Wk

theorem due_no {now : Int} {x : SndR} (h : 0 ≤ x.at_) (h1 : 0 ≤ atP x) (h2 : now - atP x < 8) : due now x = false := by
  rw [← Bool.not_eq_true, due_at h]; exact fun q => q ⟨h1, h2⟩
theorem due_yes {now : Int} {x : SndR} (h : 0 ≤ x.at_) (h1 : ¬ (0 ≤ atP x ∧ now - atP x < 8)) : due now x = true := (due_at h).2 h1

noncomputable def lX2N1_0 : Code := (Try.f19.body).getD .skip
noncomputable def lX2N1_1 : Code := s1 lX2N1_0
noncomputable def lX2N1_2 : Code := s2 lX2N1_0
noncomputable def lX2R1_0 : Array Oper := rops lX2N1_1
noncomputable def lX2N1_3 : Code := s1 lX2N1_2
noncomputable def lX2N1_4 : Code := s2 lX2N1_2
noncomputable def lX2N1_5 : Code := s1 lX2N1_3
noncomputable def lX2N1_6 : Code := s2 lX2N1_3
noncomputable def lX2R1_1 : Array Oper := rops lX2N1_5
noncomputable def lX2N1_7 : Code := s1 lX2N1_6
noncomputable def lX2N1_8 : Code := s2 lX2N1_6
noncomputable def lX2R1_2 : Array Oper := rops lX2N1_7
noncomputable def lX2N1_9 : Code := s1 lX2N1_4
noncomputable def lX2N1_10 : Code := s2 lX2N1_4
noncomputable def lX2R1_3 : Array Oper := rops lX2N1_9
noncomputable def lX2N1_11 : Code := s1 lX2N1_10
noncomputable def lX2N1_12 : Code := s2 lX2N1_10
noncomputable def lX2N1_13 : Code := s1 lX2N1_11
noncomputable def lX2N1_14 : Code := s2 lX2N1_11
noncomputable def lX2R1_4 : Array Oper := rops lX2N1_13
noncomputable def lX2N1_15 : Code := s1 lX2N1_14
noncomputable def lX2N1_16 : Code := s1 lX2N1_15
noncomputable def lX2N1_17 : Code := s1 lX2N1_16
noncomputable def lX2N1_18 : Code := s2 lX2N1_16
noncomputable def lX2N1_19 : Code := s1 lX2N1_17
noncomputable def lX2N1_20 : Code := s2 lX2N1_17
noncomputable def lX2R1_5 : Array Oper := rops lX2N1_19
noncomputable def lX2N1_21 : Code := s1 lX2N1_20
noncomputable def lX2N1_22 : Code := s2 lX2N1_20
noncomputable def lX2N1_23 : Code := s1 lX2N1_18
noncomputable def lX2N1_24 : Code := s2 lX2N1_18
noncomputable def lX2N1_25 : Code := s1 lX2N1_23
noncomputable def lX2N1_26 : Code := s1 lX2N1_25
noncomputable def lX2N1_27 : Code := s2 lX2N1_25
noncomputable def lX2R1_7 : Array Oper := rops lX2N1_26
noncomputable def lX2N1_28 : Code := s1 lX2N1_27
noncomputable def lX2N1_29 : Code := s2 lX2N1_27
noncomputable def lX2N1_30 : Code := s1 lX2N1_28
noncomputable def lX2N1_31 : Code := s2 lX2N1_28
noncomputable def lX2R1_8 : Array Oper := rops lX2N1_30
noncomputable def lX2N1_32 : Code := s1 lX2N1_31
noncomputable def lX2N1_33 : Code := s2 lX2N1_31
noncomputable def lX2R1_6 : Array Oper := rops lX2N1_24
noncomputable def lX2N1_34 : Code := s1 lX2N1_29
noncomputable def lX2N1_35 : Code := s2 lX2N1_29
noncomputable def lX2R1_9 : Array Oper := rops lX2N1_34
noncomputable def lX2N1_36 : Code := s1 lX2N1_35
noncomputable def lX2N1_37 : Code := s2 lX2N1_35
noncomputable def lX2N1_38 : Code := s1 lX2N1_36
noncomputable def lX2N1_39 : Code := s2 lX2N1_36
noncomputable def lX2R1_10 : Array Oper := rops lX2N1_38
noncomputable def lX2N1_40 : Code := s1 lX2N1_39
noncomputable def lX2N1_41 : Code := s2 lX2N1_39
noncomputable def lX2R1_11 : Array Oper := rops lX2N1_40
noncomputable def lX2R1_12 : Array Oper := rops lX2N1_37
noncomputable def lX2N1_42 : Code := s1 lX2N1_12
noncomputable def lX2N1_43 : Code := s2 lX2N1_12
noncomputable def lX2R1_13 : Array Oper := rops lX2N1_42
theorem tickR_c {s : RfR} {k p : Nat} {w : World} {γ : Nat → Nat} (h : RefAt γ w k p s) (hk : 10 ≤ k ∧ k ≤ 900) {now nw : Int} (hnow : -9223372036854775808 ≤ now ∧ now ≤ 9223372036854775807) (hnw : nw = max s.now now) {K : Value → World → Prop} (hK : ∀ w' γ' v (outs : List MsgR) {O : List SndR} {nw tl : Int}, GX [k, k + 1] w γ w' γ' → MsgsAt γ' w' v outs → RefAt γ' w' k p { s with now := nw, told := tl, out := O } → nw = max s.now now → O = tickO nw s.out (min s.out.length 32) →
      outs.map MsgR.abs = (tickD nw s.out (min s.out.length 32)).map (·.m.abs) → tl = tickT s.told (tickD nw s.out (min s.out.length 32)) → K v w') : CallsV Try.prog 19 #[.pointer (some ⟨p, 0, none⟩), .int .i64 now] w K := by
  refine callsV_of (c := lX2N1_0) Try.func19 (by kernel_rfl) (n := 87) (by kernel_rfl) ?_
  have hp : Bk γ w p k (.cells #[.int .i64 s.own, .int .i64 s.peer, .int .u32 s.view, .slice s.oa s.out.length s.oc, .int .u32 s.last, .int .u32 0, .int .u32 s.told, .slice s.ha s.held.length s.hc, .int .u32 s.come, .int .i64 s.now] 46 (0, 0)) := h.hp
  have h_b1 := h.b1
  have h_b2 := h.b2
  have h_b3 := h.b3
  have h_b4 := h.b4
  have h_b5 := h.b5
  have h_l1 := h.l1
  have h_l2 := h.l2
  have h_l3 := h.l3
  have h_hn := h.hn
  have h_pl := hp.lt
  refine g_seq (x := lX2N1_1) (y := lX2N1_2) (by kernel_rfl) ?_
  refine g_region (ops := lX2R1_0) (id := 0) (by kernel_rfl) [pu 0] (by kernel_rfl) (by kernel_rfl) ?_
  refine wpa 4 (.const (.slice none 0 0)) 44 (.slice none 0 0) ?_
  refine wk_nil ?_
  refine thn_n ?_
  refine g_seq (x := lX2N1_3) (y := lX2N1_4) (by kernel_rfl) ?_
  refine g_seq (x := lX2N1_5) (y := lX2N1_6) (by kernel_rfl) ?_
  refine g_region (ops := lX2R1_1) (id := 1) (by kernel_rfl) [pu 0, pu 1, pu 2, pu 3, lo 4, pu 5] (by kernel_rfl) (by kernel_rfl) ?_
  refine wpm 8 (.tmp 1) 2 (.int .i64 now) ?_
  refine wpm 9 (.tmp 0) 42 (.pointer (some ⟨p, 0, none⟩)) ?_
  refine wpn 10 (.tmp 9) ⟨p, 0, none⟩ ?_
  refine wpf 11 46 (.tmp 10) 9 p 0 9 9 ?_
  refine wpl 12 2 (.tmp 11) (.int .i64 s.now) p 9 hp.1 ?_
  by_cases h_1 : (s.now : Int) < now
  · refine wk_pure (opd 13 (.binOp .gtr 2 (.tmp 8) (.tmp 12) 2) 4) rfl (.bool true) (fun _ => y_gtr (k := .i64) (a := now) (b := s.now) (by kernel_rfl) (by kernel_rfl) (decide_eq_true h_1)) ?_
    refine wk_nil ?_
    refine thn_n ?_
    refine g_cond_t (o := .tmp 13) (x := lX2N1_7) (y := lX2N1_8) (by kernel_rfl) (by kernel_rfl) ?_
    refine g_region (ops := lX2R1_2) (id := 2) (by kernel_rfl) [pu 0, pu 1, pu 2, pu 3, lo 4] (by kernel_rfl) (by kernel_rfl) ?_
    refine wpm 14 (.tmp 0) 42 (.pointer (some ⟨p, 0, none⟩)) ?_
    refine wpm 15 (.tmp 1) 2 (.int .i64 now) ?_
    refine wpn 16 (.tmp 14) ⟨p, 0, none⟩ ?_
    refine wpf 17 46 (.tmp 16) 9 p 0 9 9 ?_
    refine wk_store (b := p) (off := 9) (cs' := #[.int .i64 s.own, .int .i64 s.peer, .int .u32 s.view, .slice s.oa s.out.length s.oc, .int .u32 s.last, .int .u32 0, .int .u32 s.told, .slice s.ha s.held.length s.hc, .int .u32 s.come, .int .i64 now]) (vs := #[.int .i64 now]) (opn (.store 2 (.tmp 17) (.tmp 15)) 0) rfl (by kernel_rfl) (by kernel_rfl) (by kernel_rfl) (by kernel_rfl) hp.1 (Nat.le_of_ble_eq_true rfl) (by kernel_rfl) (by kernel_rfl) (fun w_2 e_3 sz_4 hb_5 => ⟨?_, ?_⟩)
    · exact trivial
    have gx_6 : GX [k] w γ w_2 γ := GX.ext1 e_3 hp.2 (fun _ _ => rfl)
    have hk_7 : Bk γ w_2 p k (.cells #[.int .i64 s.own, .int .i64 s.peer, .int .u32 s.view, .slice s.oa s.out.length s.oc, .int .u32 s.last, .int .u32 0, .int .u32 s.told, .slice s.ha s.held.length s.hc, .int .u32 s.come, .int .i64 now] 46 (0, 0)) := ⟨hb_5, hp.2⟩
    refine wk_nil ?_
    refine thn_n ?_
    refine g_seq (x := lX2N1_9) (y := lX2N1_10) (by kernel_rfl) ?_
    refine g_region (ops := lX2R1_3) (id := 3) (by kernel_rfl) [pu 0] (by kernel_rfl) (by kernel_rfl) ?_
    refine wpa 5 (.const (.slice none 0 0)) 44 (.slice none 0 0) ?_
    refine wk_nil ?_
    refine thn_n ?_
    refine g_seq (x := lX2N1_11) (y := lX2N1_12) (by kernel_rfl) ?_
    refine g_seq (x := lX2N1_13) (y := lX2N1_14) (by kernel_rfl) ?_
    refine g_region (ops := lX2R1_4) (id := 4) (by kernel_rfl) [pu 0] (by kernel_rfl) (by kernel_rfl) ?_
    refine wpa 6 (.const (.int .i64 0)) 3 (.int .i64 0) ?_
    refine wk_nil ?_
    refine thn_n ?_
    refine g_block (x := lX2N1_15) (id := 0) (by kernel_rfl) ?_
    have hb_8 : OwNG γ w_2 (k + 2) 50 7 s.ha s.hg s.hc encM s.held s.hrest := (OwNG.keep h.hh gx_6 ni1)
    have hb_9 : AllOk γ w_2 (s.out.map (·.m)) := (AllOk.keep h.ao gx_6 ni1)
    have hb_10 : AllOk γ w_2 s.held := (AllOk.keep h.ah gx_6 ni1)
    have hb_11 : QuG γ w_2 (k + 1) 71 8 s.oa s.og s.oo s.oc encP s.out := (QuG.keep h.ho gx_6 ni1)
    refine g_loop (x := lX2N1_16) (by kernel_rfl) (fun m_ ρ_ w_ => ∃ (i : Nat) (O : List SndR) (tl : Int) (outs : List MsgR) (oA : Option Addr) (oG : Nat) (oC : Nat) (orest : List Value) (γ_ : Nat → Nat), m_ = (min s.out.length 32) - i ∧ (i ≤ min s.out.length 32) ∧ (O = tickO nw s.out i) ∧ (outs.map MsgR.abs = (tickD nw s.out i).map (·.m.abs)) ∧ (tl = tickT s.told (tickD nw s.out i)) ∧ (0 ≤ tl ∧ tl < 4294967296) ∧ (oA = none ∨ w.heap.size ≤ oG) ∧ (outs.length ≤ i) ∧ ρ_ 0 = .pointer (some ⟨p, 0, none⟩) ∧ ρ_ 4 = .slice none 0 0 ∧ ρ_ 6 = .int .i64 ((i : Nat) : Int) ∧ ρ_ 5 = .slice oA outs.length oC ∧ OwNG γ_ w_ (k + 2) 50 7 s.ha s.hg s.hc encM s.held s.hrest ∧ AllOk γ_ w_ (s.out.map (·.m)) ∧ AllOk γ_ w_ s.held ∧ Bk γ_ w_ p k (.cells #[.int .i64 s.own, .int .i64 s.peer, .int .u32 s.view, .slice s.oa s.out.length s.oc, .int .u32 s.last, .int .u32 0, .int .u32 tl, .slice s.ha s.held.length s.hc, .int .u32 s.come, .int .i64 nw] 46 (0, 0)) ∧ QuG γ_ w_ (k + 1) 71 8 s.oa s.og s.oo s.oc encP O ∧ OwNG γ_ w_ 2000 50 7 oA oG oC encM outs orest ∧ AllOk γ_ w_ outs ∧ GX [k, k + 1] w γ w_ γ_) ((min s.out.length 32) - 0) ?_ ?_
    · exact ⟨0, s.out, s.told, [], none, 0, 0, [], _, rfl, by omega, by rfl, by rfl, by rfl, by omega, by exact .inl rfl, by simp, (by kernel_rfl), (by kernel_rfl), (by kernel_rfl), (by kernel_rfl), hb_8, hb_9, hb_10, (by rw [show nw = now by omega]; exact hk_7), hb_11, (OwNG.nil _ _ _ _ _ 0 _ []), AllOk.nil, (GX.trans (GX.refl [k, k + 1] _ _) gx_6 (by intro c_ hc_; simp only [List.mem_cons, List.not_mem_nil, or_false] at hc_ ⊢; omega))⟩
    intro m_12 ρ_13 w_14 hI
    obtain ⟨i, O, tl, outs, oA, oG, oC, orest, γ_16, hm_m_12, hi, hOO, houts, htl, htb, hO, hol, f_17, f_18, f_19, f_20, hr_21, hr_22, hr_23, hr_24, hr_25, hr_26, hr_27, hE_15⟩ := hI
    have hs_w_14 := hE_15.size
    have hOl : O.length = s.out.length := by rw [hOO, tickO_len]
    refine g_seq (x := lX2N1_17) (y := lX2N1_18) (by kernel_rfl) ?_
    refine g_seq (x := lX2N1_19) (y := lX2N1_20) (by kernel_rfl) ?_
    refine g_region (ops := lX2R1_5) (id := 5) (by kernel_rfl) [pu 0, pu 1, pu 2, pu 3, lo 4, pu 5, pu 6, pu 7, pu 8, pu 9, pu 10] (by kernel_rfl) (by kernel_rfl) ?_
    refine wpm 18 (.tmp 6) 3 (.int .i64 ((i : Nat) : Int)) ?_ (Eq.trans (by kernel_rfl) f_19)
    refine wpm 19 (.tmp 0) 42 (.pointer (some ⟨p, 0, none⟩)) ?_ (Eq.trans (by kernel_rfl) f_17)
    refine wpn 20 (.tmp 19) ⟨p, 0, none⟩ ?_
    refine wpf 21 46 (.tmp 20) 3 p 0 3 3 ?_
    refine wpl 22 43 (.tmp 21) (.slice s.oa s.out.length s.oc) p 3 hr_24.1 ?_
    refine wk_pure (opd 23 (.call ⟨.builtin .len, #[.tmp 22], #[43]⟩) 3) rfl (.int .i64 ((s.out.length : Nat) : Int)) (fun _ => x_len (a := s.oa) (n := s.out.length) (c := s.oc) (by kernel_rfl) (by kernel_rfl)) ?_
    by_cases h_28 : (((i : Nat) : Int) : Int) < ((s.out.length : Nat) : Int)
    · refine wk_pure (opd 24 (.binOp .lss 3 (.tmp 18) (.tmp 23) 3) 4) rfl (.bool true) (fun _ => y_lss (k := .i64) (a := ((i : Nat) : Int)) (b := ((s.out.length : Nat) : Int)) (by kernel_rfl) (by kernel_rfl) (decide_eq_true h_28)) ?_
      refine wpm 25 (.tmp 24) 4 (.bool true) ?_
      refine wk_pure (opg 26 (.move (.tmp 6)) 3 7 true) (by kernel_rfl) (.int .i64 ((i : Nat) : Int)) (fun _ => y_move (Eq.trans (by kernel_rfl) f_19)) ?_
      by_cases h_29 : (((i : Nat) : Int) : Int) < 32
      · refine wk_pure (opg 27 (.binOp .lss 3 (.tmp 26) (.const (.int .i64 32)) 3) 4 7 true) (by kernel_rfl) (.bool true) (fun _ => y_lss (k := .i64) (a := ((i : Nat) : Int)) (b := 32) (by kernel_rfl) (by kernel_rfl) (decide_eq_true h_29)) ?_
        refine wpt 28 (.tmp 25) (.tmp 27) (.const (.bool false)) 4 (.bool true) ?_
        refine wk_nil ?_
        refine thn_n ?_
        refine g_cond_t (o := .tmp 28) (x := lX2N1_21) (y := lX2N1_22) (by kernel_rfl) (by kernel_rfl) ?_
        refine g_skip (by kernel_rfl) ?_
        refine thn_n ?_
        refine g_seq (x := lX2N1_23) (y := lX2N1_24) (by kernel_rfl) ?_
        refine g_block (x := lX2N1_25) (id := 1) (by kernel_rfl) ?_
        refine g_seq (x := lX2N1_26) (y := lX2N1_27) (by kernel_rfl) ?_
        refine g_region (ops := lX2R1_7) (id := 7) (by kernel_rfl) [pu 0, pu 1, pu 2, lo 3, pu 4, pu 5, pu 6] (by kernel_rfl) (by kernel_rfl) ?_
        refine wpm 31 (.tmp 0) 42 (.pointer (some ⟨p, 0, none⟩)) ?_ (Eq.trans (by kernel_rfl) f_17)
        refine wpn 32 (.tmp 31) ⟨p, 0, none⟩ ?_
        refine wpf 33 46 (.tmp 32) 3 p 0 3 3 ?_
        refine wpl 34 43 (.tmp 33) (.slice s.oa s.out.length s.oc) p 3 hr_24.1 ?_
        refine wpm 35 (.tmp 6) 3 (.int .i64 ((i : Nat) : Int)) ?_ (Eq.trans (by kernel_rfl) f_19)
        refine wk_pure (opd 36 (.indexAddr 43 (.tmp 34) (.tmp 35)) 0) rfl (.pointer (some ⟨s.og, s.oo + (i * 8 + 0), none⟩)) (fun _ => y_ptr (x_indexN (a := s.oa) (b := s.og) (off := s.oo) (n := s.out.length) (c := s.oc) (k := .i64) (i := ((i : Nat) : Int)) (e := 71) (sz := 8) (sz' := 8) (by kernel_rfl) (QuG.slg hr_25).1 (by kernel_rfl) (by kernel_rfl) (by omega) (by omega) _) (by omega)) ?_
        refine wpa 7 (.tmp 36) 73 (.pointer (some ⟨s.og, s.oo + (i * 8 + 0), none⟩)) ?_
        refine wk_nil ?_
        refine thn_n ?_
        refine g_seq (x := lX2N1_28) (y := lX2N1_29) (by kernel_rfl) ?_
        refine g_seq (x := lX2N1_30) (y := lX2N1_31) (by kernel_rfl) ?_
        refine g_draw (ops := lX2R1_8) (id := 8) (by kernel_rfl) (fun _ _ => True) [pu 0, pu 1, pu 2, lo 3, pu 4, pu 5, pu 6, pu 7, pu 8, pu 10, pu 11, pu 12, rd 9, rd 13, pu 14, pu 15, pu 16] (by kernel_rfl) (by kernel_rfl) (fun _ => trivial) (fun w_30 sm_31 => ?_)
        have gx_32 := GX.same [] γ_16 sm_31
        have hsz_33 : w_30.heap.size = w_14.heap.size := by rw [sm_31.heap]
        refine wpm 37 (.tmp 7) 73 (.pointer (some ⟨s.og, s.oo + (i * 8 + 0), none⟩)) ?_
        refine wpn 38 (.tmp 37) ⟨s.og, s.oo + (i * 8 + 0), none⟩ ?_
        refine wk_pure (opd 39 (.fieldAddr 71 (.tmp 38) 1) 0) rfl (.pointer (some ⟨s.og, s.oo + (i * 8 + 7), none⟩)) (fun _ => y_ptr (x_fieldAddr (b := s.og) (off := (s.oo + (i * 8 + 0))) (o := 7) (by kernel_rfl) (by kernel_rfl)) (by omega)) ?_
        have hb_34 := (QuG.keep hr_25 gx_32 ni0)
        refine wk_val (opd 40 (.load 2 (.tmp 39)) 2) rfl (.int .i64 (atP (O.getD i S0))) (x_load_c (b := s.og) (off := (s.oo + (i * 8 + 7))) (by kernel_rfl) (by kernel_rfl) (SlE.get (QuG.slg hb_34).1 encP_len S0 i 7 (by omega) rfl)) trivial ?_
        by_cases h_35 : (0 : Int) ≤ (atP (O.getD i S0))
        · refine wk_pure (opd 41 (.binOp .geq 2 (.tmp 40) (.const (.int .i64 0)) 2) 4) rfl (.bool true) (fun _ => y_geq (k := .i64) (a := (atP (O.getD i S0))) (b := 0) (by kernel_rfl) (by kernel_rfl) (decide_eq_true h_35)) ?_
          refine wpm 42 (.tmp 41) 4 (.bool true) ?_
          refine wk_pure (opg 43 (.move (.tmp 0)) 42 5 true) (by kernel_rfl) (.pointer (some ⟨p, 0, none⟩)) (fun _ => y_move (Eq.trans (by kernel_rfl) f_17)) ?_
          refine wk_pure (opg 44 (.nilCheck (.tmp 43)) 0 5 true) (by kernel_rfl) (.pointer (some ⟨p, 0, none⟩)) (fun _ => x_nilCheck (by kernel_rfl)) ?_
          refine wk_pure (opg 45 (.fieldAddr 46 (.tmp 44) 9) 0 5 true) (by kernel_rfl) (.pointer (some ⟨p, 9, none⟩)) (fun _ => x_fieldAddr (b := p) (off := 0) (o := 9) (by kernel_rfl) (by kernel_rfl)) ?_
          refine wk_pure (opg 47 (.move (.tmp 7)) 73 5 true) (by kernel_rfl) (.pointer (some ⟨s.og, s.oo + (i * 8 + 0), none⟩)) (fun _ => y_move (by kernel_rfl)) ?_
          refine wk_pure (opg 48 (.nilCheck (.tmp 47)) 0 5 true) (by kernel_rfl) (.pointer (some ⟨s.og, s.oo + (i * 8 + 0), none⟩)) (fun _ => x_nilCheck (by kernel_rfl)) ?_
          refine wk_pure (opg 49 (.fieldAddr 71 (.tmp 48) 1) 0 5 true) (by kernel_rfl) (.pointer (some ⟨s.og, s.oo + (i * 8 + 7), none⟩)) (fun _ => y_ptr (x_fieldAddr (b := s.og) (off := (s.oo + (i * 8 + 0))) (o := 7) (by kernel_rfl) (by kernel_rfl)) (by omega)) ?_
          have hb_36 := (Bk.keep hr_24 gx_32 ni0)
          refine wk_read (opg 46 (.load 2 (.tmp 45)) 2 5 true) (by kernel_rfl) (.int .i64 nw) (fun w'_ g_ => x_load (b := p) (off := 9) (by kernel_rfl) (by kernel_rfl) (g_.keep hb_36.1) (by kernel_rfl)) ?_
          refine wk_read (opg 50 (.load 2 (.tmp 49)) 2 5 true) (by kernel_rfl) (.int .i64 (atP (O.getD i S0))) (fun w'_ g_ => x_load_c (b := s.og) (off := (s.oo + (i * 8 + 7))) (by kernel_rfl) (by kernel_rfl) (SlE.get (QuG.slg (g_.keepQu hb_34)).1 encP_len S0 i 7 (by omega) rfl)) ?_
          have hO2i_ : O.getD i S0 = s.out.getD i S0 := by rw [hOO, tickO_at (by omega)]
          have hat_ := h_l3 i (by omega)
          have hat2_ := atP_at (x := O.getD i S0) (by omega)
          rw [← hO2i_] at hat_
          refine wk_pure (opg 51 (.binOp .sub 2 (.tmp 46) (.tmp 50) 2) 2 5 true) (by kernel_rfl) (.int .i64 (nw - atP (O.getD i S0))) (fun _ => y_sub (k := .i64) (a := nw) (b := (atP (O.getD i S0))) (by kernel_rfl) (by kernel_rfl) (i64_id (by omega))) ?_
          by_cases h_37 : ((nw - atP (O.getD i S0)) : Int) < 8
          · refine wk_pure (opg 52 (.binOp .lss 2 (.tmp 51) (.const (.int .i64 8)) 2) 4 5 true) (by kernel_rfl) (.bool true) (fun _ => y_lss (k := .i64) (a := (nw - atP (O.getD i S0))) (b := 8) (by kernel_rfl) (by kernel_rfl) (decide_eq_true h_37)) ?_
            refine wpt 53 (.tmp 42) (.tmp 52) (.const (.bool false)) 4 (.bool true) ?_
            refine wk_nil ?_
            refine thn_n ?_
            refine g_cond_t (o := .tmp 53) (x := lX2N1_32) (y := lX2N1_33) (by kernel_rfl) (by kernel_rfl) ?_
            refine g_exit (id := 1) (by kernel_rfl) ?_
            refine thn_e ?_
            refine blk_hit ?_
            refine thn_n ?_
            refine g_region (ops := lX2R1_6) (id := 6) (by kernel_rfl) [pu 0, pu 1, pu 2] (by kernel_rfl) (by kernel_rfl) ?_
            refine wpm 29 (.tmp 6) 3 (.int .i64 ((i : Nat) : Int)) ?_ (Eq.trans (by kernel_rfl) f_19)
            refine wk_pure (opd 30 (.binOp .add 3 (.tmp 29) (.const (.int .i64 1)) 3) 3) rfl (.int .i64 ((i + 1 : Nat) : Int)) (fun _ => y_add (k := .i64) (a := ((i : Nat) : Int)) (b := 1) (by kernel_rfl) (by kernel_rfl) (i64_to (by omega) (by omega))) ?_
            refine wpa 6 (.tmp 30) 3 (.int .i64 ((i + 1 : Nat) : Int)) ?_
            refine wk_nil ?_
            refine thn_n ?_
            have hdue : due nw (s.out.getD i S0) = false := by rw [← hO2i_]; exact due_no hat_.1 (by omega) (by omega)
            have hb_38 := (OwNG.keep hr_21 gx_32 ni0)
            have hb_39 := (AllOk.keep hr_22 gx_32 ni0)
            have hb_40 := (AllOk.keep hr_23 gx_32 ni0)
            have hb_41 := (OwNG.keep hr_26 gx_32 ni0)
            have hb_42 := (AllOk.keep hr_27 gx_32 ni0)
            exact ⟨_, (by omega), ⟨(i + 1), O, tl, outs, oA, oG, oC, orest, _, rfl, by omega, by rw [hOO, tickO_skip (by omega) hdue], by rw [houts, tickD_skip (by omega) hdue], by rw [htl, tickD_skip (by omega) hdue], by omega, by omega, by omega, (Eq.trans (by kernel_rfl) f_17), (Eq.trans (by kernel_rfl) f_18), (by kernel_rfl), (Eq.trans (by kernel_rfl) f_20), hb_38, hb_39, hb_40, hb_36, hb_34, hb_41, hb_42, (GX.then_same hE_15 sm_31)⟩⟩
          refine wk_pure (opg 52 (.binOp .lss 2 (.tmp 51) (.const (.int .i64 8)) 2) 4 5 true) (by kernel_rfl) (.bool false) (fun _ => y_lss (k := .i64) (a := (nw - atP (O.getD i S0))) (b := 8) (by kernel_rfl) (by kernel_rfl) (decide_eq_false h_37)) ?_
          refine wpt 53 (.tmp 42) (.tmp 52) (.const (.bool false)) 4 (.bool false) ?_
          refine wk_nil ?_
          refine thn_n ?_
          refine g_cond_f (o := .tmp 53) (x := lX2N1_32) (y := lX2N1_33) (by kernel_rfl) (by kernel_rfl) ?_
          refine g_skip (by kernel_rfl) ?_
          refine thn_n ?_
          refine g_seq (x := lX2N1_34) (y := lX2N1_35) (by kernel_rfl) ?_
          refine g_region (ops := lX2R1_9) (id := 9) (by kernel_rfl) [pu 0, pu 1, pu 2, pu 3, lo 4, pu 5, pu 6, lo 7] (by kernel_rfl) (by kernel_rfl) ?_
          refine wpm 54 (.tmp 7) 73 (.pointer (some ⟨s.og, s.oo + (i * 8 + 0), none⟩)) ?_
          refine wpm 55 (.tmp 0) 42 (.pointer (some ⟨p, 0, none⟩)) ?_ (Eq.trans (by kernel_rfl) f_17)
          refine wpn 56 (.tmp 55) ⟨p, 0, none⟩ ?_
          refine wpf 57 46 (.tmp 56) 9 p 0 9 9 ?_
          refine wpl 58 2 (.tmp 57) (.int .i64 nw) p 9 hb_36.1 ?_
          refine wpn 59 (.tmp 54) ⟨s.og, s.oo + (i * 8 + 0), none⟩ ?_
          refine wk_pure (opd 60 (.fieldAddr 71 (.tmp 59) 1) 0) rfl (.pointer (some ⟨s.og, s.oo + (i * 8 + 7), none⟩)) (fun _ => y_ptr (x_fieldAddr (b := s.og) (off := (s.oo + (i * 8 + 0))) (o := 7) (by kernel_rfl) (by kernel_rfl)) (by omega)) ?_
          have hO2i : O.getD i S0 = s.out.getD i S0 := by rw [hOO, tickO_at (by omega)]
          have hdue : due nw (s.out.getD i S0) = true := by rw [← hO2i]; exact due_yes (by rw [hO2i]; exact (h_l3 i (by omega)).1) (by omega)
          refine wk_store_qu (g := s.og) (off := s.oo) (k := i) (f := 7) (sz := 8) (vs := [.int .i64 nw]) (⟨(O.getD i S0).m, true, nw⟩ : SndR) S0 (opn (.store 2 (.tmp 60) (.tmp 58)) 0) rfl (by kernel_rfl) (by kernel_rfl) (by kernel_rfl) (by kernel_rfl) hb_34 encP_len (by omega) rfl (Nat.le_of_ble_eq_true rfl) (by rfl) (fun w_43 gx_44 sz_45 ho_46 => ⟨?_, ?_⟩)
          · exact trivial
          obtain ⟨O_47, hO_48⟩ : ∃ O2, O2 = (O.set i (⟨(O.getD i S0).m, true, nw⟩ : SndR)) := ⟨_, rfl⟩
          rw [← hO_48] at ho_46
          have hn_O_47 : O_47 = tickO nw s.out (i + 1) := by rw [hO_48, tickO_fire (by omega) hdue, ← hOO, hO2i]
          have hg_O_47 : O_47.getD i S0 = ⟨(s.out.getD i S0).m, true, nw⟩ := by rw [hO_48, getD_set (by omega), if_pos rfl, hO2i]
          have hl_O_47 : O_47.length = s.out.length := by rw [hn_O_47, tickO_len]
          refine wk_nil ?_
          refine thn_n ?_
          refine g_seq (x := lX2N1_36) (y := lX2N1_37) (by kernel_rfl) ?_
          refine g_seq (x := lX2N1_38) (y := lX2N1_39) (by kernel_rfl) ?_
          refine g_draw (ops := lX2R1_10) (id := 10) (by kernel_rfl) (fun _ _ => True) [pu 0, pu 1, pu 2, pu 3, pu 5, pu 6, pu 7, rd 4, rd 8, pu 9] (by kernel_rfl) (by kernel_rfl) (fun _ => trivial) (fun w_49 sm_50 => ?_)
          have gx_51 := GX.same [] γ_16 sm_50
          have hsz_52 : w_49.heap.size = w_43.heap.size := by rw [sm_50.heap]
          refine wpm 61 (.tmp 7) 73 (.pointer (some ⟨s.og, s.oo + (i * 8 + 0), none⟩)) ?_
          refine wpn 62 (.tmp 61) ⟨s.og, s.oo + (i * 8 + 0), none⟩ ?_
          refine wk_pure (opd 63 (.fieldAddr 71 (.tmp 62) 0) 0) rfl (.pointer (some ⟨s.og, s.oo + (i * 8 + 0), none⟩)) (fun _ => y_ptr (x_fieldAddr (b := s.og) (off := (s.oo + (i * 8 + 0))) (o := 0) (by kernel_rfl) (by kernel_rfl)) (by omega)) ?_
          refine wk_pure (opd 64 (.fieldAddr 50 (.tmp 63) 4) 0) rfl (.pointer (some ⟨s.og, s.oo + (i * 8 + 4), none⟩)) (fun _ => y_ptr (x_fieldAddr (b := s.og) (off := (s.oo + (i * 8 + 0))) (o := 4) (by kernel_rfl) (by kernel_rfl)) (by omega)) ?_
          refine wpm 66 (.tmp 0) 42 (.pointer (some ⟨p, 0, none⟩)) ?_ (Eq.trans (by kernel_rfl) f_17)
          refine wpn 67 (.tmp 66) ⟨p, 0, none⟩ ?_
          refine wpf 68 46 (.tmp 67) 6 p 0 6 6 ?_
          have hb_53 := (QuG.keep ho_46 gx_51 ni0)
          refine wk_read (opd 65 (.load 27 (.tmp 64)) 27) rfl (.int .u32 ((O_47.getD i S0).m.seq)) (fun w'_ g_ => x_load_c (b := s.og) (off := (s.oo + (i * 8 + 4))) (by kernel_rfl) (by kernel_rfl) (SlE.get (QuG.slg (g_.keepQu hb_53)).1 encP_len S0 i 4 (by omega) rfl)) ?_
          have hb_54 := (Bk.keep (Bk.keep hb_36 gx_44 ni1) gx_51 ni0)
          refine wk_read (opd 69 (.load 27 (.tmp 68)) 27) rfl (.int .u32 tl) (fun w'_ g_ => x_load (b := p) (off := 6) (by kernel_rfl) (by kernel_rfl) (g_.keep hb_54.1) (by kernel_rfl)) ?_
          by_cases h_55 : (tl : Int) < ((O_47.getD i S0).m.seq)
          · refine wk_pure (opd 70 (.binOp .gtr 27 (.tmp 65) (.tmp 69) 27) 4) rfl (.bool true) (fun _ => y_gtr (k := .u32) (a := ((O_47.getD i S0).m.seq)) (b := tl) (by kernel_rfl) (by kernel_rfl) (decide_eq_true h_55)) ?_
            refine wk_nil ?_
            refine thn_n ?_
            refine g_cond_t (o := .tmp 70) (x := lX2N1_40) (y := lX2N1_41) (by kernel_rfl) (by kernel_rfl) ?_
            refine g_region (ops := lX2R1_11) (id := 11) (by kernel_rfl) [pu 0, pu 1, pu 2, pu 3, pu 4, lo 5, pu 6, pu 7, lo 8] (by kernel_rfl) (by kernel_rfl) ?_
            refine wpm 71 (.tmp 0) 42 (.pointer (some ⟨p, 0, none⟩)) ?_ (Eq.trans (by kernel_rfl) f_17)
            refine wpm 72 (.tmp 7) 73 (.pointer (some ⟨s.og, s.oo + (i * 8 + 0), none⟩)) ?_
            refine wpn 73 (.tmp 72) ⟨s.og, s.oo + (i * 8 + 0), none⟩ ?_
            refine wk_pure (opd 74 (.fieldAddr 71 (.tmp 73) 0) 0) rfl (.pointer (some ⟨s.og, s.oo + (i * 8 + 0), none⟩)) (fun _ => y_ptr (x_fieldAddr (b := s.og) (off := (s.oo + (i * 8 + 0))) (o := 0) (by kernel_rfl) (by kernel_rfl)) (by omega)) ?_
            refine wk_pure (opd 75 (.fieldAddr 50 (.tmp 74) 4) 0) rfl (.pointer (some ⟨s.og, s.oo + (i * 8 + 4), none⟩)) (fun _ => y_ptr (x_fieldAddr (b := s.og) (off := (s.oo + (i * 8 + 0))) (o := 4) (by kernel_rfl) (by kernel_rfl)) (by omega)) ?_
            refine wk_val (opd 76 (.load 27 (.tmp 75)) 27) rfl (.int .u32 ((O_47.getD i S0).m.seq)) (x_load_c (b := s.og) (off := (s.oo + (i * 8 + 4))) (by kernel_rfl) (by kernel_rfl) (SlE.get (QuG.slg hb_53).1 encP_len S0 i 4 (by omega) rfl)) trivial ?_
            refine wpn 77 (.tmp 71) ⟨p, 0, none⟩ ?_
            refine wpf 78 46 (.tmp 77) 6 p 0 6 6 ?_
            refine wk_store (b := p) (off := 6) (cs' := #[.int .i64 s.own, .int .i64 s.peer, .int .u32 s.view, .slice s.oa s.out.length s.oc, .int .u32 s.last, .int .u32 0, .int .u32 ((O_47.getD i S0).m.seq), .slice s.ha s.held.length s.hc, .int .u32 s.come, .int .i64 nw]) (vs := #[.int .u32 ((O_47.getD i S0).m.seq)]) (opn (.store 27 (.tmp 78) (.tmp 76)) 0) rfl (by kernel_rfl) (by kernel_rfl) (by kernel_rfl) (by kernel_rfl) hb_54.1 (Nat.le_of_ble_eq_true rfl) (by kernel_rfl) (by kernel_rfl) (fun w_56 e_57 sz_58 hb_59 => ⟨?_, ?_⟩)
            · exact trivial
            have gx_60 : GX [k] w_49 γ_16 w_56 γ_16 := GX.ext1 e_57 hb_54.2 (fun _ _ => rfl)
            have hk_61 : Bk γ_16 w_56 p k (.cells #[.int .i64 s.own, .int .i64 s.peer, .int .u32 s.view, .slice s.oa s.out.length s.oc, .int .u32 s.last, .int .u32 0, .int .u32 ((O_47.getD i S0).m.seq), .slice s.ha s.held.length s.hc, .int .u32 s.come, .int .i64 nw] 46 (0, 0)) := ⟨hb_59, hb_54.2⟩
            refine wk_nil ?_
            refine thn_n ?_
            refine g_region (ops := lX2R1_12) (id := 12) (by kernel_rfl) [pu 0, pu 1, pu 2, pu 3, lo 4, lo 5, lo 6, pu 7] (by kernel_rfl) (by kernel_rfl) ?_
            refine wpm 79 (.tmp 5) 44 (.slice oA outs.length oC) ?_ (Eq.trans (by kernel_rfl) f_20)
            refine wpm 80 (.tmp 7) 73 (.pointer (some ⟨s.og, s.oo + (i * 8 + 0), none⟩)) ?_
            refine wpn 81 (.tmp 80) ⟨s.og, s.oo + (i * 8 + 0), none⟩ ?_
            refine wk_pure (opd 82 (.fieldAddr 71 (.tmp 81) 0) 0) rfl (.pointer (some ⟨s.og, s.oo + (i * 8 + 0), none⟩)) (fun _ => y_ptr (x_fieldAddr (b := s.og) (off := (s.oo + (i * 8 + 0))) (o := 0) (by kernel_rfl) (by kernel_rfl)) (by omega)) ?_
            have hb_62 := (QuG.keep hb_53 gx_60 ni1)
            refine wk_val (opd 83 (.load 50 (.tmp 82)) 50) rfl (.agg #[.int .i64 ((O_47.getD i S0).m.kind), .int .i64 ((O_47.getD i S0).m.frm), .int .i64 ((O_47.getD i S0).m.to), .int .u32 ((O_47.getD i S0).m.view), .int .u32 ((O_47.getD i S0).m.seq), .slice ((O_47.getD i S0).m.na) ((O_47.getD i S0).m.N.length) ((O_47.getD i S0).m.nc), .slice ((O_47.getD i S0).m.wa) ((O_47.getD i S0).m.W.length) ((O_47.getD i S0).m.wc)]) (x_load_cs (b := s.og) (off := (s.oo + (i * 8 + 0))) (n := 7) (vs := [.int .i64 ((O_47.getD i S0).m.kind), .int .i64 ((O_47.getD i S0).m.frm), .int .i64 ((O_47.getD i S0).m.to), .int .u32 ((O_47.getD i S0).m.view), .int .u32 ((O_47.getD i S0).m.seq), .slice ((O_47.getD i S0).m.na) ((O_47.getD i S0).m.N.length) ((O_47.getD i S0).m.nc), .slice ((O_47.getD i S0).m.wa) ((O_47.getD i S0).m.W.length) ((O_47.getD i S0).m.wc)]) (by kernel_rfl) (by kernel_rfl) rfl (SlE.getN (QuG.slg hb_62).1 encP_len S0 i 0 (by omega) rfl)) trivial ?_
            refine wk_buildSlice (e := 50) (cs := #[.int .i64 ((O_47.getD i S0).m.kind), .int .i64 ((O_47.getD i S0).m.frm), .int .i64 ((O_47.getD i S0).m.to), .int .u32 ((O_47.getD i S0).m.view), .int .u32 ((O_47.getD i S0).m.seq), .slice ((O_47.getD i S0).m.na) ((O_47.getD i S0).m.N.length) ((O_47.getD i S0).m.nc), .slice ((O_47.getD i S0).m.wa) ((O_47.getD i S0).m.W.length) ((O_47.getD i S0).m.wc)]) (opd 84 (.buildSlice 44 1 #[(0, .tmp 83)]) 44) rfl (by kernel_rfl) (fun w_63 b_64 eq_65 e_66 sz_67 hb_68 => ⟨?_, ?_⟩)
            · exact trivial
            obtain ⟨γ_69, hg_70, hn_71⟩ := cls_new γ_16 w_56.heap.size 11901
            have gx_72 := GX.ext0 [] e_66 hg_70
            have hk_73 : Bk γ_69 w_63 b_64 11901 (.cells #[.int .i64 ((O_47.getD i S0).m.kind), .int .i64 ((O_47.getD i S0).m.frm), .int .i64 ((O_47.getD i S0).m.to), .int .u32 ((O_47.getD i S0).m.view), .int .u32 ((O_47.getD i S0).m.seq), .slice ((O_47.getD i S0).m.na) ((O_47.getD i S0).m.N.length) ((O_47.getD i S0).m.nc), .slice ((O_47.getD i S0).m.wa) ((O_47.getD i S0).m.W.length) ((O_47.getD i S0).m.wc)] 50 (0, 0)) := ⟨hb_68, hn_71 _ (by omega)⟩
            have hs_74 : SlE w_63 7 (some ⟨b_64, 0, none⟩) b_64 0 encM [(O_47.getD i S0).m] := SlE.of_cells hk_73.1 encM_len (by rfl)
            have hb_84 := (OwNG.keep (OwNG.keep (OwNG.keep (OwNG.keep (OwNG.keep hr_26 gx_32 ni0) gx_44 ni1) gx_51 ni0) gx_60 ni1) gx_72 ni0)
            have on_85 : OwNG γ_69 w_63 2000 50 7 oA oG oC encM outs orest := hb_84
            refine wk_append (M := ([(O_47.getD i S0).m])) (L := outs) (a := oA) (g := oG) (c := oC) (ax := (some ⟨b_64, 0, none⟩)) (bx := b_64) (offx := 0) (cx := 1) (e := 50) (sz := 7) (by_ := 80) (opd 85 (.call ⟨.builtin .append, #[.tmp 79, .tmp 84], #[44, 44]⟩) 44) rfl (by kernel_rfl) (by kernel_rfl) encM_len (by kernel_rfl) on_85.1 (by kernel_rfl) hs_74 (by simp) encM_one (by constructor <;> (simp only [List.length_singleton]; omega)) (fun w_75 b_76 cap_77 rest_78 hb_79 e_80 sz_81 lt_82 ho_83 => ⟨?_, ?_⟩)
            · exact trivial
            obtain ⟨γ_86, hg_87, hn_88⟩ := cls_new γ_69 w_63.heap.size 2000
            have gx_89 : GX [2000] w_63 γ_69 w_75 γ_86 := OwNG.gx on_85 e_80 hg_87
            have hk_90 : OwnG γ_86 w_75 2000 50 7 b_76 cap_77 encM (outs ++ ([(O_47.getD i S0).m])) rest_78 := ⟨ho_83, OwNG.appc on_85 hb_79 hg_87 hn_88⟩
            have hsz_91 := e_80.size
            refine wpa 5 (.tmp 85) 44 (.slice (some ⟨b_76, 0, none⟩) ((outs ++ ([(O_47.getD i S0).m])).length) cap_77) ?_
            refine wk_nil ?_
            refine blk_n ?_
            refine thn_n ?_
            refine g_region (ops := lX2R1_6) (id := 6) (by kernel_rfl) [pu 0, pu 1, pu 2] (by kernel_rfl) (by kernel_rfl) ?_
            refine wpm 29 (.tmp 6) 3 (.int .i64 ((i : Nat) : Int)) ?_ (Eq.trans (by kernel_rfl) f_19)
            refine wk_pure (opd 30 (.binOp .add 3 (.tmp 29) (.const (.int .i64 1)) 3) 3) rfl (.int .i64 ((i + 1 : Nat) : Int)) (fun _ => y_add (k := .i64) (a := ((i : Nat) : Int)) (b := 1) (by kernel_rfl) (by kernel_rfl) (i64_to (by omega) (by omega))) ?_
            refine wpa 6 (.tmp 30) 3 (.int .i64 ((i + 1 : Nat) : Int)) ?_
            refine wk_nil ?_
            refine thn_n ?_
            have hb_92 := (AllOk.keep (AllOk.keep (AllOk.keep (AllOk.keep (AllOk.keep (AllOk.keep hr_27 gx_32 ni0) gx_44 ni1) gx_51 ni0) gx_60 ni1) gx_72 ni0) gx_89 ni1)
            have hb_93 := (AllOk.keep (AllOk.keep (AllOk.keep (AllOk.keep (AllOk.keep (AllOk.keep hr_22 gx_32 ni0) gx_44 ni1) gx_51 ni0) gx_60 ni1) gx_72 ni0) gx_89 ni1)
            have hadd_ : AllOk γ_86 w_75 (outs ++ [(O_47.getD i S0).m]) := AllOk.add hb_92 ((by rw [hg_O_47]; exact AllOk.getS hb_93 (by omega)) : MOk γ_86 w_75 (O_47.getD i S0).m)
            have hs_ : (O_47.getD i S0).m = (s.out.getD i S0).m := by rw [hg_O_47]
            have hb_94 := (QuG.keep (QuG.keep hb_62 gx_72 ni0) gx_89 ni1)
            have hb_95 := (Bk.keep (Bk.keep hk_61 gx_72 ni0) gx_89 ni1)
            have hb_96 := (OwNG.keep (OwNG.keep (OwNG.keep (OwNG.keep (OwNG.keep (OwNG.keep hr_21 gx_32 ni0) gx_44 ni1) gx_51 ni0) gx_60 ni1) gx_72 ni0) gx_89 ni1)
            have hb_97 := (AllOk.keep (AllOk.keep (AllOk.keep (AllOk.keep (AllOk.keep (AllOk.keep hr_23 gx_32 ni0) gx_44 ni1) gx_51 ni0) gx_60 ni1) gx_72 ni0) gx_89 ni1)
            exact ⟨_, (by omega), ⟨(i + 1), O_47, (max tl (O_47.getD i S0).m.seq), (outs ++ [(O_47.getD i S0).m]), _, b_76, cap_77, rest_78, _, rfl, by omega, by exact hn_O_47, by rw [tickD_fire (by omega) hdue, List.map_append, List.map_append, houts]; show _ ++ [((O_47.getD i S0).m).abs] = _ ++ [(s.out.getD i S0).m.abs]; rw [hs_], by rw [tickD_fire (by omega) hdue, tickT_add, htl, hs_], by rw [hs_]; have h_ := (AllOk.getS hb_93 (by omega : i < s.out.length)).s0; omega, by exact .inr (appNew hb_79 hO (by omega)), by rw [List.length_append, List.length_singleton]; omega, (Eq.trans (by kernel_rfl) f_17), (Eq.trans (by kernel_rfl) f_18), (by kernel_rfl), (by kernel_rfl), hb_96, hb_93, hb_97, (by rw [show (max tl (O_47.getD i S0).m.seq) = ((O_47.getD i S0).m.seq) by omega]; exact hb_95), hb_94, (OwNG.of hk_90), hadd_, (GX.thenNew (GX.then0 (GX.trans (GX.then_same (GX.trans (GX.then_same hE_15 sm_31) gx_44 (by intro c_ hc_; simp only [List.mem_cons, List.not_mem_nil, or_false] at hc_ ⊢; omega)) sm_50) gx_60 (by intro c_ hc_; simp only [List.mem_cons, List.not_mem_nil, or_false] at hc_ ⊢; omega)) e_66 hg_70) e_80 (OwNG.newS hb_84 (by exact hO)) hg_87)⟩⟩
          refine wk_pure (opd 70 (.binOp .gtr 27 (.tmp 65) (.tmp 69) 27) 4) rfl (.bool false) (fun _ => y_gtr (k := .u32) (a := ((O_47.getD i S0).m.seq)) (b := tl) (by kernel_rfl) (by kernel_rfl) (decide_eq_false h_55)) ?_
          refine wk_nil ?_
          refine thn_n ?_
          refine g_cond_f (o := .tmp 70) (x := lX2N1_40) (y := lX2N1_41) (by kernel_rfl) (by kernel_rfl) ?_
          refine g_skip (by kernel_rfl) ?_
          refine thn_n ?_
          refine g_region (ops := lX2R1_12) (id := 12) (by kernel_rfl) [pu 0, pu 1, pu 2, pu 3, lo 4, lo 5, lo 6, pu 7] (by kernel_rfl) (by kernel_rfl) ?_
          refine wpm 79 (.tmp 5) 44 (.slice oA outs.length oC) ?_ (Eq.trans (by kernel_rfl) f_20)
          refine wpm 80 (.tmp 7) 73 (.pointer (some ⟨s.og, s.oo + (i * 8 + 0), none⟩)) ?_
          refine wpn 81 (.tmp 80) ⟨s.og, s.oo + (i * 8 + 0), none⟩ ?_
          refine wk_pure (opd 82 (.fieldAddr 71 (.tmp 81) 0) 0) rfl (.pointer (some ⟨s.og, s.oo + (i * 8 + 0), none⟩)) (fun _ => y_ptr (x_fieldAddr (b := s.og) (off := (s.oo + (i * 8 + 0))) (o := 0) (by kernel_rfl) (by kernel_rfl)) (by omega)) ?_
          refine wk_val (opd 83 (.load 50 (.tmp 82)) 50) rfl (.agg #[.int .i64 ((O_47.getD i S0).m.kind), .int .i64 ((O_47.getD i S0).m.frm), .int .i64 ((O_47.getD i S0).m.to), .int .u32 ((O_47.getD i S0).m.view), .int .u32 ((O_47.getD i S0).m.seq), .slice ((O_47.getD i S0).m.na) ((O_47.getD i S0).m.N.length) ((O_47.getD i S0).m.nc), .slice ((O_47.getD i S0).m.wa) ((O_47.getD i S0).m.W.length) ((O_47.getD i S0).m.wc)]) (x_load_cs (b := s.og) (off := (s.oo + (i * 8 + 0))) (n := 7) (vs := [.int .i64 ((O_47.getD i S0).m.kind), .int .i64 ((O_47.getD i S0).m.frm), .int .i64 ((O_47.getD i S0).m.to), .int .u32 ((O_47.getD i S0).m.view), .int .u32 ((O_47.getD i S0).m.seq), .slice ((O_47.getD i S0).m.na) ((O_47.getD i S0).m.N.length) ((O_47.getD i S0).m.nc), .slice ((O_47.getD i S0).m.wa) ((O_47.getD i S0).m.W.length) ((O_47.getD i S0).m.wc)]) (by kernel_rfl) (by kernel_rfl) rfl (SlE.getN (QuG.slg hb_53).1 encP_len S0 i 0 (by omega) rfl)) trivial ?_
          refine wk_buildSlice (e := 50) (cs := #[.int .i64 ((O_47.getD i S0).m.kind), .int .i64 ((O_47.getD i S0).m.frm), .int .i64 ((O_47.getD i S0).m.to), .int .u32 ((O_47.getD i S0).m.view), .int .u32 ((O_47.getD i S0).m.seq), .slice ((O_47.getD i S0).m.na) ((O_47.getD i S0).m.N.length) ((O_47.getD i S0).m.nc), .slice ((O_47.getD i S0).m.wa) ((O_47.getD i S0).m.W.length) ((O_47.getD i S0).m.wc)]) (opd 84 (.buildSlice 44 1 #[(0, .tmp 83)]) 44) rfl (by kernel_rfl) (fun w_98 b_99 eq_100 e_101 sz_102 hb_103 => ⟨?_, ?_⟩)
          · exact trivial
          obtain ⟨γ_104, hg_105, hn_106⟩ := cls_new γ_16 w_49.heap.size 11902
          have gx_107 := GX.ext0 [] e_101 hg_105
          have hk_108 : Bk γ_104 w_98 b_99 11902 (.cells #[.int .i64 ((O_47.getD i S0).m.kind), .int .i64 ((O_47.getD i S0).m.frm), .int .i64 ((O_47.getD i S0).m.to), .int .u32 ((O_47.getD i S0).m.view), .int .u32 ((O_47.getD i S0).m.seq), .slice ((O_47.getD i S0).m.na) ((O_47.getD i S0).m.N.length) ((O_47.getD i S0).m.nc), .slice ((O_47.getD i S0).m.wa) ((O_47.getD i S0).m.W.length) ((O_47.getD i S0).m.wc)] 50 (0, 0)) := ⟨hb_103, hn_106 _ (by omega)⟩
          have hs_109 : SlE w_98 7 (some ⟨b_99, 0, none⟩) b_99 0 encM [(O_47.getD i S0).m] := SlE.of_cells hk_108.1 encM_len (by rfl)
          have hb_119 := (OwNG.keep (OwNG.keep (OwNG.keep (OwNG.keep hr_26 gx_32 ni0) gx_44 ni1) gx_51 ni0) gx_107 ni0)
          have on_120 : OwNG γ_104 w_98 2000 50 7 oA oG oC encM outs orest := hb_119
          refine wk_append (M := ([(O_47.getD i S0).m])) (L := outs) (a := oA) (g := oG) (c := oC) (ax := (some ⟨b_99, 0, none⟩)) (bx := b_99) (offx := 0) (cx := 1) (e := 50) (sz := 7) (by_ := 80) (opd 85 (.call ⟨.builtin .append, #[.tmp 79, .tmp 84], #[44, 44]⟩) 44) rfl (by kernel_rfl) (by kernel_rfl) encM_len (by kernel_rfl) on_120.1 (by kernel_rfl) hs_109 (by simp) encM_one (by constructor <;> (simp only [List.length_singleton]; omega)) (fun w_110 b_111 cap_112 rest_113 hb_114 e_115 sz_116 lt_117 ho_118 => ⟨?_, ?_⟩)
          · exact trivial
          obtain ⟨γ_121, hg_122, hn_123⟩ := cls_new γ_104 w_98.heap.size 2000
          have gx_124 : GX [2000] w_98 γ_104 w_110 γ_121 := OwNG.gx on_120 e_115 hg_122
          have hk_125 : OwnG γ_121 w_110 2000 50 7 b_111 cap_112 encM (outs ++ ([(O_47.getD i S0).m])) rest_113 := ⟨ho_118, OwNG.appc on_120 hb_114 hg_122 hn_123⟩
          have hsz_126 := e_115.size
          refine wpa 5 (.tmp 85) 44 (.slice (some ⟨b_111, 0, none⟩) ((outs ++ ([(O_47.getD i S0).m])).length) cap_112) ?_
          refine wk_nil ?_
          refine blk_n ?_
          refine thn_n ?_
          refine g_region (ops := lX2R1_6) (id := 6) (by kernel_rfl) [pu 0, pu 1, pu 2] (by kernel_rfl) (by kernel_rfl) ?_
          refine wpm 29 (.tmp 6) 3 (.int .i64 ((i : Nat) : Int)) ?_ (Eq.trans (by kernel_rfl) f_19)
          refine wk_pure (opd 30 (.binOp .add 3 (.tmp 29) (.const (.int .i64 1)) 3) 3) rfl (.int .i64 ((i + 1 : Nat) : Int)) (fun _ => y_add (k := .i64) (a := ((i : Nat) : Int)) (b := 1) (by kernel_rfl) (by kernel_rfl) (i64_to (by omega) (by omega))) ?_
          refine wpa 6 (.tmp 30) 3 (.int .i64 ((i + 1 : Nat) : Int)) ?_
          refine wk_nil ?_
          refine thn_n ?_
          have hb_127 := (AllOk.keep (AllOk.keep (AllOk.keep (AllOk.keep (AllOk.keep hr_27 gx_32 ni0) gx_44 ni1) gx_51 ni0) gx_107 ni0) gx_124 ni1)
          have hb_128 := (AllOk.keep (AllOk.keep (AllOk.keep (AllOk.keep (AllOk.keep hr_22 gx_32 ni0) gx_44 ni1) gx_51 ni0) gx_107 ni0) gx_124 ni1)
          have hadd_ : AllOk γ_121 w_110 (outs ++ [(O_47.getD i S0).m]) := AllOk.add hb_127 ((by rw [hg_O_47]; exact AllOk.getS hb_128 (by omega)) : MOk γ_121 w_110 (O_47.getD i S0).m)
          have hs_ : (O_47.getD i S0).m = (s.out.getD i S0).m := by rw [hg_O_47]
          have hb_129 := (QuG.keep (QuG.keep hb_53 gx_107 ni0) gx_124 ni1)
          have hb_130 := (Bk.keep (Bk.keep hb_54 gx_107 ni0) gx_124 ni1)
          have hb_131 := (OwNG.keep (OwNG.keep (OwNG.keep (OwNG.keep (OwNG.keep hr_21 gx_32 ni0) gx_44 ni1) gx_51 ni0) gx_107 ni0) gx_124 ni1)
          have hb_132 := (AllOk.keep (AllOk.keep (AllOk.keep (AllOk.keep (AllOk.keep hr_23 gx_32 ni0) gx_44 ni1) gx_51 ni0) gx_107 ni0) gx_124 ni1)
          exact ⟨_, (by omega), ⟨(i + 1), O_47, (max tl (O_47.getD i S0).m.seq), (outs ++ [(O_47.getD i S0).m]), _, b_111, cap_112, rest_113, _, rfl, by omega, by exact hn_O_47, by rw [tickD_fire (by omega) hdue, List.map_append, List.map_append, houts]; show _ ++ [((O_47.getD i S0).m).abs] = _ ++ [(s.out.getD i S0).m.abs]; rw [hs_], by rw [tickD_fire (by omega) hdue, tickT_add, htl, hs_], by rw [hs_]; have h_ := (AllOk.getS hb_128 (by omega : i < s.out.length)).s0; omega, by exact .inr (appNew hb_114 hO (by omega)), by rw [List.length_append, List.length_singleton]; omega, (Eq.trans (by kernel_rfl) f_17), (Eq.trans (by kernel_rfl) f_18), (by kernel_rfl), (by kernel_rfl), hb_131, hb_128, hb_132, (by rw [show (max tl (O_47.getD i S0).m.seq) = tl by omega]; exact hb_130), hb_129, (OwNG.of hk_125), hadd_, (GX.thenNew (GX.then0 (GX.then_same (GX.trans (GX.then_same hE_15 sm_31) gx_44 (by intro c_ hc_; simp only [List.mem_cons, List.not_mem_nil, or_false] at hc_ ⊢; omega)) sm_50) e_101 hg_105) e_115 (OwNG.newS hb_119 (by exact hO)) hg_122)⟩⟩
        refine wk_pure (opd 41 (.binOp .geq 2 (.tmp 40) (.const (.int .i64 0)) 2) 4) rfl (.bool false) (fun _ => y_geq (k := .i64) (a := (atP (O.getD i S0))) (b := 0) (by kernel_rfl) (by kernel_rfl) (decide_eq_false h_35)) ?_
        refine wpm 42 (.tmp 41) 4 (.bool false) ?_
        refine wks 43 ?_
        refine wks 44 ?_
        refine wks 45 ?_
        refine wks 47 ?_
        refine wks 48 ?_
        refine wks 49 ?_
        refine wks 46 ?_
        refine wks 50 ?_
        refine wks 51 ?_
        refine wks 52 ?_
        refine wpk 53 (.tmp 42) (.tmp 52) (.const (.bool false)) 4 (.bool false) ?_
        refine wk_nil ?_
        refine thn_n ?_
        refine g_cond_f (o := .tmp 53) (x := lX2N1_32) (y := lX2N1_33) (by kernel_rfl) (by kernel_rfl) ?_
        refine g_skip (by kernel_rfl) ?_
        refine thn_n ?_
        refine g_seq (x := lX2N1_34) (y := lX2N1_35) (by kernel_rfl) ?_
        refine g_region (ops := lX2R1_9) (id := 9) (by kernel_rfl) [pu 0, pu 1, pu 2, pu 3, lo 4, pu 5, pu 6, lo 7] (by kernel_rfl) (by kernel_rfl) ?_
        refine wpm 54 (.tmp 7) 73 (.pointer (some ⟨s.og, s.oo + (i * 8 + 0), none⟩)) ?_
        refine wpm 55 (.tmp 0) 42 (.pointer (some ⟨p, 0, none⟩)) ?_ (Eq.trans (by kernel_rfl) f_17)
        refine wpn 56 (.tmp 55) ⟨p, 0, none⟩ ?_
        refine wpf 57 46 (.tmp 56) 9 p 0 9 9 ?_
        have hb_133 := (Bk.keep hr_24 gx_32 ni0)
        refine wpl 58 2 (.tmp 57) (.int .i64 nw) p 9 hb_133.1 ?_
        refine wpn 59 (.tmp 54) ⟨s.og, s.oo + (i * 8 + 0), none⟩ ?_
        refine wk_pure (opd 60 (.fieldAddr 71 (.tmp 59) 1) 0) rfl (.pointer (some ⟨s.og, s.oo + (i * 8 + 7), none⟩)) (fun _ => y_ptr (x_fieldAddr (b := s.og) (off := (s.oo + (i * 8 + 0))) (o := 7) (by kernel_rfl) (by kernel_rfl)) (by omega)) ?_
        have hO2i : O.getD i S0 = s.out.getD i S0 := by rw [hOO, tickO_at (by omega)]
        have hdue : due nw (s.out.getD i S0) = true := by rw [← hO2i]; exact due_yes (by rw [hO2i]; exact (h_l3 i (by omega)).1) (by omega)
        refine wk_store_qu (g := s.og) (off := s.oo) (k := i) (f := 7) (sz := 8) (vs := [.int .i64 nw]) (⟨(O.getD i S0).m, true, nw⟩ : SndR) S0 (opn (.store 2 (.tmp 60) (.tmp 58)) 0) rfl (by kernel_rfl) (by kernel_rfl) (by kernel_rfl) (by kernel_rfl) hb_34 encP_len (by omega) rfl (Nat.le_of_ble_eq_true rfl) (by rfl) (fun w_134 gx_135 sz_136 ho_137 => ⟨?_, ?_⟩)
        · exact trivial
        obtain ⟨O_138, hO_139⟩ : ∃ O2, O2 = (O.set i (⟨(O.getD i S0).m, true, nw⟩ : SndR)) := ⟨_, rfl⟩
        rw [← hO_139] at ho_137
        have hn_O_138 : O_138 = tickO nw s.out (i + 1) := by rw [hO_139, tickO_fire (by omega) hdue, ← hOO, hO2i]
        have hg_O_138 : O_138.getD i S0 = ⟨(s.out.getD i S0).m, true, nw⟩ := by rw [hO_139, getD_set (by omega), if_pos rfl, hO2i]
        have hl_O_138 : O_138.length = s.out.length := by rw [hn_O_138, tickO_len]
        refine wk_nil ?_
        refine thn_n ?_
        refine g_seq (x := lX2N1_36) (y := lX2N1_37) (by kernel_rfl) ?_
        refine g_seq (x := lX2N1_38) (y := lX2N1_39) (by kernel_rfl) ?_
        refine g_draw (ops := lX2R1_10) (id := 10) (by kernel_rfl) (fun _ _ => True) [pu 0, pu 1, pu 2, pu 3, pu 5, pu 6, pu 7, rd 4, rd 8, pu 9] (by kernel_rfl) (by kernel_rfl) (fun _ => trivial) (fun w_140 sm_141 => ?_)
        have gx_142 := GX.same [] γ_16 sm_141
        have hsz_143 : w_140.heap.size = w_134.heap.size := by rw [sm_141.heap]
        refine wpm 61 (.tmp 7) 73 (.pointer (some ⟨s.og, s.oo + (i * 8 + 0), none⟩)) ?_
        refine wpn 62 (.tmp 61) ⟨s.og, s.oo + (i * 8 + 0), none⟩ ?_
        refine wk_pure (opd 63 (.fieldAddr 71 (.tmp 62) 0) 0) rfl (.pointer (some ⟨s.og, s.oo + (i * 8 + 0), none⟩)) (fun _ => y_ptr (x_fieldAddr (b := s.og) (off := (s.oo + (i * 8 + 0))) (o := 0) (by kernel_rfl) (by kernel_rfl)) (by omega)) ?_
        refine wk_pure (opd 64 (.fieldAddr 50 (.tmp 63) 4) 0) rfl (.pointer (some ⟨s.og, s.oo + (i * 8 + 4), none⟩)) (fun _ => y_ptr (x_fieldAddr (b := s.og) (off := (s.oo + (i * 8 + 0))) (o := 4) (by kernel_rfl) (by kernel_rfl)) (by omega)) ?_
        refine wpm 66 (.tmp 0) 42 (.pointer (some ⟨p, 0, none⟩)) ?_ (Eq.trans (by kernel_rfl) f_17)
        refine wpn 67 (.tmp 66) ⟨p, 0, none⟩ ?_
        refine wpf 68 46 (.tmp 67) 6 p 0 6 6 ?_
        have hb_144 := (QuG.keep ho_137 gx_142 ni0)
        refine wk_read (opd 65 (.load 27 (.tmp 64)) 27) rfl (.int .u32 ((O_138.getD i S0).m.seq)) (fun w'_ g_ => x_load_c (b := s.og) (off := (s.oo + (i * 8 + 4))) (by kernel_rfl) (by kernel_rfl) (SlE.get (QuG.slg (g_.keepQu hb_144)).1 encP_len S0 i 4 (by omega) rfl)) ?_
        have hb_145 := (Bk.keep (Bk.keep hb_133 gx_135 ni1) gx_142 ni0)
        refine wk_read (opd 69 (.load 27 (.tmp 68)) 27) rfl (.int .u32 tl) (fun w'_ g_ => x_load (b := p) (off := 6) (by kernel_rfl) (by kernel_rfl) (g_.keep hb_145.1) (by kernel_rfl)) ?_
        by_cases h_146 : (tl : Int) < ((O_138.getD i S0).m.seq)
        · refine wk_pure (opd 70 (.binOp .gtr 27 (.tmp 65) (.tmp 69) 27) 4) rfl (.bool true) (fun _ => y_gtr (k := .u32) (a := ((O_138.getD i S0).m.seq)) (b := tl) (by kernel_rfl) (by kernel_rfl) (decide_eq_true h_146)) ?_
          refine wk_nil ?_
          refine thn_n ?_
          refine g_cond_t (o := .tmp 70) (x := lX2N1_40) (y := lX2N1_41) (by kernel_rfl) (by kernel_rfl) ?_
          refine g_region (ops := lX2R1_11) (id := 11) (by kernel_rfl) [pu 0, pu 1, pu 2, pu 3, pu 4, lo 5, pu 6, pu 7, lo 8] (by kernel_rfl) (by kernel_rfl) ?_
          refine wpm 71 (.tmp 0) 42 (.pointer (some ⟨p, 0, none⟩)) ?_ (Eq.trans (by kernel_rfl) f_17)
          refine wpm 72 (.tmp 7) 73 (.pointer (some ⟨s.og, s.oo + (i * 8 + 0), none⟩)) ?_
          refine wpn 73 (.tmp 72) ⟨s.og, s.oo + (i * 8 + 0), none⟩ ?_
          refine wk_pure (opd 74 (.fieldAddr 71 (.tmp 73) 0) 0) rfl (.pointer (some ⟨s.og, s.oo + (i * 8 + 0), none⟩)) (fun _ => y_ptr (x_fieldAddr (b := s.og) (off := (s.oo + (i * 8 + 0))) (o := 0) (by kernel_rfl) (by kernel_rfl)) (by omega)) ?_
          refine wk_pure (opd 75 (.fieldAddr 50 (.tmp 74) 4) 0) rfl (.pointer (some ⟨s.og, s.oo + (i * 8 + 4), none⟩)) (fun _ => y_ptr (x_fieldAddr (b := s.og) (off := (s.oo + (i * 8 + 0))) (o := 4) (by kernel_rfl) (by kernel_rfl)) (by omega)) ?_
          refine wk_val (opd 76 (.load 27 (.tmp 75)) 27) rfl (.int .u32 ((O_138.getD i S0).m.seq)) (x_load_c (b := s.og) (off := (s.oo + (i * 8 + 4))) (by kernel_rfl) (by kernel_rfl) (SlE.get (QuG.slg hb_144).1 encP_len S0 i 4 (by omega) rfl)) trivial ?_
          refine wpn 77 (.tmp 71) ⟨p, 0, none⟩ ?_
          refine wpf 78 46 (.tmp 77) 6 p 0 6 6 ?_
          refine wk_store (b := p) (off := 6) (cs' := #[.int .i64 s.own, .int .i64 s.peer, .int .u32 s.view, .slice s.oa s.out.length s.oc, .int .u32 s.last, .int .u32 0, .int .u32 ((O_138.getD i S0).m.seq), .slice s.ha s.held.length s.hc, .int .u32 s.come, .int .i64 nw]) (vs := #[.int .u32 ((O_138.getD i S0).m.seq)]) (opn (.store 27 (.tmp 78) (.tmp 76)) 0) rfl (by kernel_rfl) (by kernel_rfl) (by kernel_rfl) (by kernel_rfl) hb_145.1 (Nat.le_of_ble_eq_true rfl) (by kernel_rfl) (by kernel_rfl) (fun w_147 e_148 sz_149 hb_150 => ⟨?_, ?_⟩)
          · exact trivial
          have gx_151 : GX [k] w_140 γ_16 w_147 γ_16 := GX.ext1 e_148 hb_145.2 (fun _ _ => rfl)
          have hk_152 : Bk γ_16 w_147 p k (.cells #[.int .i64 s.own, .int .i64 s.peer, .int .u32 s.view, .slice s.oa s.out.length s.oc, .int .u32 s.last, .int .u32 0, .int .u32 ((O_138.getD i S0).m.seq), .slice s.ha s.held.length s.hc, .int .u32 s.come, .int .i64 nw] 46 (0, 0)) := ⟨hb_150, hb_145.2⟩
          refine wk_nil ?_
          refine thn_n ?_
          refine g_region (ops := lX2R1_12) (id := 12) (by kernel_rfl) [pu 0, pu 1, pu 2, pu 3, lo 4, lo 5, lo 6, pu 7] (by kernel_rfl) (by kernel_rfl) ?_
          refine wpm 79 (.tmp 5) 44 (.slice oA outs.length oC) ?_ (Eq.trans (by kernel_rfl) f_20)
          refine wpm 80 (.tmp 7) 73 (.pointer (some ⟨s.og, s.oo + (i * 8 + 0), none⟩)) ?_
          refine wpn 81 (.tmp 80) ⟨s.og, s.oo + (i * 8 + 0), none⟩ ?_
          refine wk_pure (opd 82 (.fieldAddr 71 (.tmp 81) 0) 0) rfl (.pointer (some ⟨s.og, s.oo + (i * 8 + 0), none⟩)) (fun _ => y_ptr (x_fieldAddr (b := s.og) (off := (s.oo + (i * 8 + 0))) (o := 0) (by kernel_rfl) (by kernel_rfl)) (by omega)) ?_
          have hb_153 := (QuG.keep hb_144 gx_151 ni1)
          refine wk_val (opd 83 (.load 50 (.tmp 82)) 50) rfl (.agg #[.int .i64 ((O_138.getD i S0).m.kind), .int .i64 ((O_138.getD i S0).m.frm), .int .i64 ((O_138.getD i S0).m.to), .int .u32 ((O_138.getD i S0).m.view), .int .u32 ((O_138.getD i S0).m.seq), .slice ((O_138.getD i S0).m.na) ((O_138.getD i S0).m.N.length) ((O_138.getD i S0).m.nc), .slice ((O_138.getD i S0).m.wa) ((O_138.getD i S0).m.W.length) ((O_138.getD i S0).m.wc)]) (x_load_cs (b := s.og) (off := (s.oo + (i * 8 + 0))) (n := 7) (vs := [.int .i64 ((O_138.getD i S0).m.kind), .int .i64 ((O_138.getD i S0).m.frm), .int .i64 ((O_138.getD i S0).m.to), .int .u32 ((O_138.getD i S0).m.view), .int .u32 ((O_138.getD i S0).m.seq), .slice ((O_138.getD i S0).m.na) ((O_138.getD i S0).m.N.length) ((O_138.getD i S0).m.nc), .slice ((O_138.getD i S0).m.wa) ((O_138.getD i S0).m.W.length) ((O_138.getD i S0).m.wc)]) (by kernel_rfl) (by kernel_rfl) rfl (SlE.getN (QuG.slg hb_153).1 encP_len S0 i 0 (by omega) rfl)) trivial ?_
          refine wk_buildSlice (e := 50) (cs := #[.int .i64 ((O_138.getD i S0).m.kind), .int .i64 ((O_138.getD i S0).m.frm), .int .i64 ((O_138.getD i S0).m.to), .int .u32 ((O_138.getD i S0).m.view), .int .u32 ((O_138.getD i S0).m.seq), .slice ((O_138.getD i S0).m.na) ((O_138.getD i S0).m.N.length) ((O_138.getD i S0).m.nc), .slice ((O_138.getD i S0).m.wa) ((O_138.getD i S0).m.W.length) ((O_138.getD i S0).m.wc)]) (opd 84 (.buildSlice 44 1 #[(0, .tmp 83)]) 44) rfl (by kernel_rfl) (fun w_154 b_155 eq_156 e_157 sz_158 hb_159 => ⟨?_, ?_⟩)
          · exact trivial
          obtain ⟨γ_160, hg_161, hn_162⟩ := cls_new γ_16 w_147.heap.size 11903
          have gx_163 := GX.ext0 [] e_157 hg_161
          have hk_164 : Bk γ_160 w_154 b_155 11903 (.cells #[.int .i64 ((O_138.getD i S0).m.kind), .int .i64 ((O_138.getD i S0).m.frm), .int .i64 ((O_138.getD i S0).m.to), .int .u32 ((O_138.getD i S0).m.view), .int .u32 ((O_138.getD i S0).m.seq), .slice ((O_138.getD i S0).m.na) ((O_138.getD i S0).m.N.length) ((O_138.getD i S0).m.nc), .slice ((O_138.getD i S0).m.wa) ((O_138.getD i S0).m.W.length) ((O_138.getD i S0).m.wc)] 50 (0, 0)) := ⟨hb_159, hn_162 _ (by omega)⟩
          have hs_165 : SlE w_154 7 (some ⟨b_155, 0, none⟩) b_155 0 encM [(O_138.getD i S0).m] := SlE.of_cells hk_164.1 encM_len (by rfl)
          have hb_175 := (OwNG.keep (OwNG.keep (OwNG.keep (OwNG.keep (OwNG.keep hr_26 gx_32 ni0) gx_135 ni1) gx_142 ni0) gx_151 ni1) gx_163 ni0)
          have on_176 : OwNG γ_160 w_154 2000 50 7 oA oG oC encM outs orest := hb_175
          refine wk_append (M := ([(O_138.getD i S0).m])) (L := outs) (a := oA) (g := oG) (c := oC) (ax := (some ⟨b_155, 0, none⟩)) (bx := b_155) (offx := 0) (cx := 1) (e := 50) (sz := 7) (by_ := 80) (opd 85 (.call ⟨.builtin .append, #[.tmp 79, .tmp 84], #[44, 44]⟩) 44) rfl (by kernel_rfl) (by kernel_rfl) encM_len (by kernel_rfl) on_176.1 (by kernel_rfl) hs_165 (by simp) encM_one (by constructor <;> (simp only [List.length_singleton]; omega)) (fun w_166 b_167 cap_168 rest_169 hb_170 e_171 sz_172 lt_173 ho_174 => ⟨?_, ?_⟩)
          · exact trivial
          obtain ⟨γ_177, hg_178, hn_179⟩ := cls_new γ_160 w_154.heap.size 2000
          have gx_180 : GX [2000] w_154 γ_160 w_166 γ_177 := OwNG.gx on_176 e_171 hg_178
          have hk_181 : OwnG γ_177 w_166 2000 50 7 b_167 cap_168 encM (outs ++ ([(O_138.getD i S0).m])) rest_169 := ⟨ho_174, OwNG.appc on_176 hb_170 hg_178 hn_179⟩
          have hsz_182 := e_171.size
          refine wpa 5 (.tmp 85) 44 (.slice (some ⟨b_167, 0, none⟩) ((outs ++ ([(O_138.getD i S0).m])).length) cap_168) ?_
          refine wk_nil ?_
          refine blk_n ?_
          refine thn_n ?_
          refine g_region (ops := lX2R1_6) (id := 6) (by kernel_rfl) [pu 0, pu 1, pu 2] (by kernel_rfl) (by kernel_rfl) ?_
          refine wpm 29 (.tmp 6) 3 (.int .i64 ((i : Nat) : Int)) ?_ (Eq.trans (by kernel_rfl) f_19)
          refine wk_pure (opd 30 (.binOp .add 3 (.tmp 29) (.const (.int .i64 1)) 3) 3) rfl (.int .i64 ((i + 1 : Nat) : Int)) (fun _ => y_add (k := .i64) (a := ((i : Nat) : Int)) (b := 1) (by kernel_rfl) (by kernel_rfl) (i64_to (by omega) (by omega))) ?_
          refine wpa 6 (.tmp 30) 3 (.int .i64 ((i + 1 : Nat) : Int)) ?_
          refine wk_nil ?_
          refine thn_n ?_
          have hb_183 := (AllOk.keep (AllOk.keep (AllOk.keep (AllOk.keep (AllOk.keep (AllOk.keep hr_27 gx_32 ni0) gx_135 ni1) gx_142 ni0) gx_151 ni1) gx_163 ni0) gx_180 ni1)
          have hb_184 := (AllOk.keep (AllOk.keep (AllOk.keep (AllOk.keep (AllOk.keep (AllOk.keep hr_22 gx_32 ni0) gx_135 ni1) gx_142 ni0) gx_151 ni1) gx_163 ni0) gx_180 ni1)
          have hadd_ : AllOk γ_177 w_166 (outs ++ [(O_138.getD i S0).m]) := AllOk.add hb_183 ((by rw [hg_O_138]; exact AllOk.getS hb_184 (by omega)) : MOk γ_177 w_166 (O_138.getD i S0).m)
          have hs_ : (O_138.getD i S0).m = (s.out.getD i S0).m := by rw [hg_O_138]
          have hb_185 := (QuG.keep (QuG.keep hb_153 gx_163 ni0) gx_180 ni1)
          have hb_186 := (Bk.keep (Bk.keep hk_152 gx_163 ni0) gx_180 ni1)
          have hb_187 := (OwNG.keep (OwNG.keep (OwNG.keep (OwNG.keep (OwNG.keep (OwNG.keep hr_21 gx_32 ni0) gx_135 ni1) gx_142 ni0) gx_151 ni1) gx_163 ni0) gx_180 ni1)
          have hb_188 := (AllOk.keep (AllOk.keep (AllOk.keep (AllOk.keep (AllOk.keep (AllOk.keep hr_23 gx_32 ni0) gx_135 ni1) gx_142 ni0) gx_151 ni1) gx_163 ni0) gx_180 ni1)
          exact ⟨_, (by omega), ⟨(i + 1), O_138, (max tl (O_138.getD i S0).m.seq), (outs ++ [(O_138.getD i S0).m]), _, b_167, cap_168, rest_169, _, rfl, by omega, by exact hn_O_138, by rw [tickD_fire (by omega) hdue, List.map_append, List.map_append, houts]; show _ ++ [((O_138.getD i S0).m).abs] = _ ++ [(s.out.getD i S0).m.abs]; rw [hs_], by rw [tickD_fire (by omega) hdue, tickT_add, htl, hs_], by rw [hs_]; have h_ := (AllOk.getS hb_184 (by omega : i < s.out.length)).s0; omega, by exact .inr (appNew hb_170 hO (by omega)), by rw [List.length_append, List.length_singleton]; omega, (Eq.trans (by kernel_rfl) f_17), (Eq.trans (by kernel_rfl) f_18), (by kernel_rfl), (by kernel_rfl), hb_187, hb_184, hb_188, (by rw [show (max tl (O_138.getD i S0).m.seq) = ((O_138.getD i S0).m.seq) by omega]; exact hb_186), hb_185, (OwNG.of hk_181), hadd_, (GX.thenNew (GX.then0 (GX.trans (GX.then_same (GX.trans (GX.then_same hE_15 sm_31) gx_135 (by intro c_ hc_; simp only [List.mem_cons, List.not_mem_nil, or_false] at hc_ ⊢; omega)) sm_141) gx_151 (by intro c_ hc_; simp only [List.mem_cons, List.not_mem_nil, or_false] at hc_ ⊢; omega)) e_157 hg_161) e_171 (OwNG.newS hb_175 (by exact hO)) hg_178)⟩⟩
        refine wk_pure (opd 70 (.binOp .gtr 27 (.tmp 65) (.tmp 69) 27) 4) rfl (.bool false) (fun _ => y_gtr (k := .u32) (a := ((O_138.getD i S0).m.seq)) (b := tl) (by kernel_rfl) (by kernel_rfl) (decide_eq_false h_146)) ?_
        refine wk_nil ?_
        refine thn_n ?_
        refine g_cond_f (o := .tmp 70) (x := lX2N1_40) (y := lX2N1_41) (by kernel_rfl) (by kernel_rfl) ?_
        refine g_skip (by kernel_rfl) ?_
        refine thn_n ?_
        refine g_region (ops := lX2R1_12) (id := 12) (by kernel_rfl) [pu 0, pu 1, pu 2, pu 3, lo 4, lo 5, lo 6, pu 7] (by kernel_rfl) (by kernel_rfl) ?_
        refine wpm 79 (.tmp 5) 44 (.slice oA outs.length oC) ?_ (Eq.trans (by kernel_rfl) f_20)
        refine wpm 80 (.tmp 7) 73 (.pointer (some ⟨s.og, s.oo + (i * 8 + 0), none⟩)) ?_
        refine wpn 81 (.tmp 80) ⟨s.og, s.oo + (i * 8 + 0), none⟩ ?_
        refine wk_pure (opd 82 (.fieldAddr 71 (.tmp 81) 0) 0) rfl (.pointer (some ⟨s.og, s.oo + (i * 8 + 0), none⟩)) (fun _ => y_ptr (x_fieldAddr (b := s.og) (off := (s.oo + (i * 8 + 0))) (o := 0) (by kernel_rfl) (by kernel_rfl)) (by omega)) ?_
        refine wk_val (opd 83 (.load 50 (.tmp 82)) 50) rfl (.agg #[.int .i64 ((O_138.getD i S0).m.kind), .int .i64 ((O_138.getD i S0).m.frm), .int .i64 ((O_138.getD i S0).m.to), .int .u32 ((O_138.getD i S0).m.view), .int .u32 ((O_138.getD i S0).m.seq), .slice ((O_138.getD i S0).m.na) ((O_138.getD i S0).m.N.length) ((O_138.getD i S0).m.nc), .slice ((O_138.getD i S0).m.wa) ((O_138.getD i S0).m.W.length) ((O_138.getD i S0).m.wc)]) (x_load_cs (b := s.og) (off := (s.oo + (i * 8 + 0))) (n := 7) (vs := [.int .i64 ((O_138.getD i S0).m.kind), .int .i64 ((O_138.getD i S0).m.frm), .int .i64 ((O_138.getD i S0).m.to), .int .u32 ((O_138.getD i S0).m.view), .int .u32 ((O_138.getD i S0).m.seq), .slice ((O_138.getD i S0).m.na) ((O_138.getD i S0).m.N.length) ((O_138.getD i S0).m.nc), .slice ((O_138.getD i S0).m.wa) ((O_138.getD i S0).m.W.length) ((O_138.getD i S0).m.wc)]) (by kernel_rfl) (by kernel_rfl) rfl (SlE.getN (QuG.slg hb_144).1 encP_len S0 i 0 (by omega) rfl)) trivial ?_
        refine wk_buildSlice (e := 50) (cs := #[.int .i64 ((O_138.getD i S0).m.kind), .int .i64 ((O_138.getD i S0).m.frm), .int .i64 ((O_138.getD i S0).m.to), .int .u32 ((O_138.getD i S0).m.view), .int .u32 ((O_138.getD i S0).m.seq), .slice ((O_138.getD i S0).m.na) ((O_138.getD i S0).m.N.length) ((O_138.getD i S0).m.nc), .slice ((O_138.getD i S0).m.wa) ((O_138.getD i S0).m.W.length) ((O_138.getD i S0).m.wc)]) (opd 84 (.buildSlice 44 1 #[(0, .tmp 83)]) 44) rfl (by kernel_rfl) (fun w_189 b_190 eq_191 e_192 sz_193 hb_194 => ⟨?_, ?_⟩)
        · exact trivial
        obtain ⟨γ_195, hg_196, hn_197⟩ := cls_new γ_16 w_140.heap.size 11904
        have gx_198 := GX.ext0 [] e_192 hg_196
        have hk_199 : Bk γ_195 w_189 b_190 11904 (.cells #[.int .i64 ((O_138.getD i S0).m.kind), .int .i64 ((O_138.getD i S0).m.frm), .int .i64 ((O_138.getD i S0).m.to), .int .u32 ((O_138.getD i S0).m.view), .int .u32 ((O_138.getD i S0).m.seq), .slice ((O_138.getD i S0).m.na) ((O_138.getD i S0).m.N.length) ((O_138.getD i S0).m.nc), .slice ((O_138.getD i S0).m.wa) ((O_138.getD i S0).m.W.length) ((O_138.getD i S0).m.wc)] 50 (0, 0)) := ⟨hb_194, hn_197 _ (by omega)⟩
        have hs_200 : SlE w_189 7 (some ⟨b_190, 0, none⟩) b_190 0 encM [(O_138.getD i S0).m] := SlE.of_cells hk_199.1 encM_len (by rfl)
        have hb_210 := (OwNG.keep (OwNG.keep (OwNG.keep (OwNG.keep hr_26 gx_32 ni0) gx_135 ni1) gx_142 ni0) gx_198 ni0)
        have on_211 : OwNG γ_195 w_189 2000 50 7 oA oG oC encM outs orest := hb_210
        refine wk_append (M := ([(O_138.getD i S0).m])) (L := outs) (a := oA) (g := oG) (c := oC) (ax := (some ⟨b_190, 0, none⟩)) (bx := b_190) (offx := 0) (cx := 1) (e := 50) (sz := 7) (by_ := 80) (opd 85 (.call ⟨.builtin .append, #[.tmp 79, .tmp 84], #[44, 44]⟩) 44) rfl (by kernel_rfl) (by kernel_rfl) encM_len (by kernel_rfl) on_211.1 (by kernel_rfl) hs_200 (by simp) encM_one (by constructor <;> (simp only [List.length_singleton]; omega)) (fun w_201 b_202 cap_203 rest_204 hb_205 e_206 sz_207 lt_208 ho_209 => ⟨?_, ?_⟩)
        · exact trivial
        obtain ⟨γ_212, hg_213, hn_214⟩ := cls_new γ_195 w_189.heap.size 2000
        have gx_215 : GX [2000] w_189 γ_195 w_201 γ_212 := OwNG.gx on_211 e_206 hg_213
        have hk_216 : OwnG γ_212 w_201 2000 50 7 b_202 cap_203 encM (outs ++ ([(O_138.getD i S0).m])) rest_204 := ⟨ho_209, OwNG.appc on_211 hb_205 hg_213 hn_214⟩
        have hsz_217 := e_206.size
        refine wpa 5 (.tmp 85) 44 (.slice (some ⟨b_202, 0, none⟩) ((outs ++ ([(O_138.getD i S0).m])).length) cap_203) ?_
        refine wk_nil ?_
        refine blk_n ?_
        refine thn_n ?_
        refine g_region (ops := lX2R1_6) (id := 6) (by kernel_rfl) [pu 0, pu 1, pu 2] (by kernel_rfl) (by kernel_rfl) ?_
        refine wpm 29 (.tmp 6) 3 (.int .i64 ((i : Nat) : Int)) ?_ (Eq.trans (by kernel_rfl) f_19)
        refine wk_pure (opd 30 (.binOp .add 3 (.tmp 29) (.const (.int .i64 1)) 3) 3) rfl (.int .i64 ((i + 1 : Nat) : Int)) (fun _ => y_add (k := .i64) (a := ((i : Nat) : Int)) (b := 1) (by kernel_rfl) (by kernel_rfl) (i64_to (by omega) (by omega))) ?_
        refine wpa 6 (.tmp 30) 3 (.int .i64 ((i + 1 : Nat) : Int)) ?_
        refine wk_nil ?_
        refine thn_n ?_
        have hb_218 := (AllOk.keep (AllOk.keep (AllOk.keep (AllOk.keep (AllOk.keep hr_27 gx_32 ni0) gx_135 ni1) gx_142 ni0) gx_198 ni0) gx_215 ni1)
        have hb_219 := (AllOk.keep (AllOk.keep (AllOk.keep (AllOk.keep (AllOk.keep hr_22 gx_32 ni0) gx_135 ni1) gx_142 ni0) gx_198 ni0) gx_215 ni1)
        have hadd_ : AllOk γ_212 w_201 (outs ++ [(O_138.getD i S0).m]) := AllOk.add hb_218 ((by rw [hg_O_138]; exact AllOk.getS hb_219 (by omega)) : MOk γ_212 w_201 (O_138.getD i S0).m)
        have hs_ : (O_138.getD i S0).m = (s.out.getD i S0).m := by rw [hg_O_138]
        have hb_220 := (QuG.keep (QuG.keep hb_144 gx_198 ni0) gx_215 ni1)
        have hb_221 := (Bk.keep (Bk.keep hb_145 gx_198 ni0) gx_215 ni1)
        have hb_222 := (OwNG.keep (OwNG.keep (OwNG.keep (OwNG.keep (OwNG.keep hr_21 gx_32 ni0) gx_135 ni1) gx_142 ni0) gx_198 ni0) gx_215 ni1)
        have hb_223 := (AllOk.keep (AllOk.keep (AllOk.keep (AllOk.keep (AllOk.keep hr_23 gx_32 ni0) gx_135 ni1) gx_142 ni0) gx_198 ni0) gx_215 ni1)
        exact ⟨_, (by omega), ⟨(i + 1), O_138, (max tl (O_138.getD i S0).m.seq), (outs ++ [(O_138.getD i S0).m]), _, b_202, cap_203, rest_204, _, rfl, by omega, by exact hn_O_138, by rw [tickD_fire (by omega) hdue, List.map_append, List.map_append, houts]; show _ ++ [((O_138.getD i S0).m).abs] = _ ++ [(s.out.getD i S0).m.abs]; rw [hs_], by rw [tickD_fire (by omega) hdue, tickT_add, htl, hs_], by rw [hs_]; have h_ := (AllOk.getS hb_219 (by omega : i < s.out.length)).s0; omega, by exact .inr (appNew hb_205 hO (by omega)), by rw [List.length_append, List.length_singleton]; omega, (Eq.trans (by kernel_rfl) f_17), (Eq.trans (by kernel_rfl) f_18), (by kernel_rfl), (by kernel_rfl), hb_222, hb_219, hb_223, (by rw [show (max tl (O_138.getD i S0).m.seq) = tl by omega]; exact hb_221), hb_220, (OwNG.of hk_216), hadd_, (GX.thenNew (GX.then0 (GX.then_same (GX.trans (GX.then_same hE_15 sm_31) gx_135 (by intro c_ hc_; simp only [List.mem_cons, List.not_mem_nil, or_false] at hc_ ⊢; omega)) sm_141) e_192 hg_196) e_206 (OwNG.newS hb_210 (by exact hO)) hg_213)⟩⟩
      refine wk_pure (opg 27 (.binOp .lss 3 (.tmp 26) (.const (.int .i64 32)) 3) 4 7 true) (by kernel_rfl) (.bool false) (fun _ => y_lss (k := .i64) (a := ((i : Nat) : Int)) (b := 32) (by kernel_rfl) (by kernel_rfl) (decide_eq_false h_29)) ?_
      refine wpt 28 (.tmp 25) (.tmp 27) (.const (.bool false)) 4 (.bool false) ?_
      refine wk_nil ?_
      refine thn_n ?_
      refine g_cond_f (o := .tmp 28) (x := lX2N1_21) (y := lX2N1_22) (by kernel_rfl) (by kernel_rfl) ?_
      refine g_exit (id := 0) (by kernel_rfl) ?_
      refine thn_e ?_
      refine thn_e ?_
      refine blk_hit ?_
      refine thn_n ?_
      refine g_seq (x := lX2N1_42) (y := lX2N1_43) (by kernel_rfl) ?_
      refine g_region (ops := lX2R1_13) (id := 13) (by kernel_rfl) [pu 0, pu 1] (by kernel_rfl) (by kernel_rfl) ?_
      refine wpm 86 (.tmp 5) 44 (.slice oA outs.length oC) ?_ (Eq.trans (by kernel_rfl) f_20)
      refine wpa 4 (.tmp 86) 44 (.slice oA outs.length oC) ?_
      refine wk_nil ?_
      refine thn_n ?_
      refine g_ret (by kernel_rfl) ?_
      refine ends1_r (v := .slice oA outs.length oC) rfl (by kernel_rfl) ?_
      obtain ⟨γ_224, hr_225, hr_226, hr_227⟩ := recls γ_16 w.heap.size 2000 0
      have gx_228 : GX [2000] w_14 γ_16 w_14 γ_224 := GX.re w_14 hr_226
      have hi_ : i = min s.out.length 32 := by omega
      have hb_229 := (QuG.keep hr_25 gx_228 ni1)
      have hb_230 := (OwNG.keep hr_21 gx_228 ni1)
      have hb_231 := (Bk.keep hr_24 gx_228 ni1)
      have hb_232 := (AllOk.keep hr_22 gx_228 ni1)
      have hb_233 := (AllOk.keep hr_23 gx_228 ni1)
      have hb_234 := (AllOk.keep hr_27 gx_228 ni1)
      exact hK _ _ _ outs (O := O) (nw := nw) (tl := tl) (GX.thenRe hE_15 (fun b_ hb_ => hr_225 b_ (by omega))) ⟨_, _, _, _, rfl, OwNG.slg (OwNG.re hr_26 hr_227 hO), hb_234⟩ ⟨(by have h_ := hb_231; rw [show s.out.length = O.length by omega] at h_; exact h_), hb_229, hb_230, (by rw [hOO, tickO_map]; exact hb_232), hb_233, h_hn, h_b1, h_b2, htb, h_b4, (by show 0 ≤ nw ∧ nw ≤ 9223372036854775807; omega), (by show O.length ≤ 1024; omega), h_l2, (fun j_ hj_ => by show 0 ≤ (O.getD j_ S0).at_ ∧ (O.getD j_ S0).at_ ≤ nw; exact tickO_at' hOO h_l3 (by omega) (by omega) (by omega))⟩ hnw (hi_ ▸ hOO) (hi_ ▸ houts) (hi_ ▸ htl)
    refine wk_pure (opd 24 (.binOp .lss 3 (.tmp 18) (.tmp 23) 3) 4) rfl (.bool false) (fun _ => y_lss (k := .i64) (a := ((i : Nat) : Int)) (b := ((s.out.length : Nat) : Int)) (by kernel_rfl) (by kernel_rfl) (decide_eq_false h_28)) ?_
    refine wpm 25 (.tmp 24) 4 (.bool false) ?_
    refine wks 26 ?_
    refine wks 27 ?_
    refine wpk 28 (.tmp 25) (.tmp 27) (.const (.bool false)) 4 (.bool false) ?_
    refine wk_nil ?_
    refine thn_n ?_
    refine g_cond_f (o := .tmp 28) (x := lX2N1_21) (y := lX2N1_22) (by kernel_rfl) (by kernel_rfl) ?_
    refine g_exit (id := 0) (by kernel_rfl) ?_
    refine thn_e ?_
    refine thn_e ?_
    refine blk_hit ?_
    refine thn_n ?_
    refine g_seq (x := lX2N1_42) (y := lX2N1_43) (by kernel_rfl) ?_
    refine g_region (ops := lX2R1_13) (id := 13) (by kernel_rfl) [pu 0, pu 1] (by kernel_rfl) (by kernel_rfl) ?_
    refine wpm 86 (.tmp 5) 44 (.slice oA outs.length oC) ?_ (Eq.trans (by kernel_rfl) f_20)
    refine wpa 4 (.tmp 86) 44 (.slice oA outs.length oC) ?_
    refine wk_nil ?_
    refine thn_n ?_
    refine g_ret (by kernel_rfl) ?_
    refine ends1_r (v := .slice oA outs.length oC) rfl (by kernel_rfl) ?_
    obtain ⟨γ_235, hr_236, hr_237, hr_238⟩ := recls γ_16 w.heap.size 2000 0
    have gx_239 : GX [2000] w_14 γ_16 w_14 γ_235 := GX.re w_14 hr_237
    have hi_ : i = min s.out.length 32 := by omega
    have hb_240 := (QuG.keep hr_25 gx_239 ni1)
    have hb_241 := (OwNG.keep hr_21 gx_239 ni1)
    have hb_242 := (Bk.keep hr_24 gx_239 ni1)
    have hb_243 := (AllOk.keep hr_22 gx_239 ni1)
    have hb_244 := (AllOk.keep hr_23 gx_239 ni1)
    have hb_245 := (AllOk.keep hr_27 gx_239 ni1)
    exact hK _ _ _ outs (O := O) (nw := nw) (tl := tl) (GX.thenRe hE_15 (fun b_ hb_ => hr_236 b_ (by omega))) ⟨_, _, _, _, rfl, OwNG.slg (OwNG.re hr_26 hr_238 hO), hb_245⟩ ⟨(by have h_ := hb_242; rw [show s.out.length = O.length by omega] at h_; exact h_), hb_240, hb_241, (by rw [hOO, tickO_map]; exact hb_243), hb_244, h_hn, h_b1, h_b2, htb, h_b4, (by show 0 ≤ nw ∧ nw ≤ 9223372036854775807; omega), (by show O.length ≤ 1024; omega), h_l2, (fun j_ hj_ => by show 0 ≤ (O.getD j_ S0).at_ ∧ (O.getD j_ S0).at_ ≤ nw; exact tickO_at' hOO h_l3 (by omega) (by omega) (by omega))⟩ hnw (hi_ ▸ hOO) (hi_ ▸ houts) (hi_ ▸ htl)
  refine wk_pure (opd 13 (.binOp .gtr 2 (.tmp 8) (.tmp 12) 2) 4) rfl (.bool false) (fun _ => y_gtr (k := .i64) (a := now) (b := s.now) (by kernel_rfl) (by kernel_rfl) (decide_eq_false h_1)) ?_
  refine wk_nil ?_
  refine thn_n ?_
  refine g_cond_f (o := .tmp 13) (x := lX2N1_7) (y := lX2N1_8) (by kernel_rfl) (by kernel_rfl) ?_
  refine g_skip (by kernel_rfl) ?_
  refine thn_n ?_
  refine g_seq (x := lX2N1_9) (y := lX2N1_10) (by kernel_rfl) ?_
  refine g_region (ops := lX2R1_3) (id := 3) (by kernel_rfl) [pu 0] (by kernel_rfl) (by kernel_rfl) ?_
  refine wpa 5 (.const (.slice none 0 0)) 44 (.slice none 0 0) ?_
  refine wk_nil ?_
  refine thn_n ?_
  refine g_seq (x := lX2N1_11) (y := lX2N1_12) (by kernel_rfl) ?_
  refine g_seq (x := lX2N1_13) (y := lX2N1_14) (by kernel_rfl) ?_
  refine g_region (ops := lX2R1_4) (id := 4) (by kernel_rfl) [pu 0] (by kernel_rfl) (by kernel_rfl) ?_
  refine wpa 6 (.const (.int .i64 0)) 3 (.int .i64 0) ?_
  refine wk_nil ?_
  refine thn_n ?_
  refine g_block (x := lX2N1_15) (id := 0) (by kernel_rfl) ?_
  refine g_loop (x := lX2N1_16) (by kernel_rfl) (fun m_ ρ_ w_ => ∃ (i : Nat) (O : List SndR) (tl : Int) (outs : List MsgR) (oA : Option Addr) (oG : Nat) (oC : Nat) (orest : List Value) (γ_ : Nat → Nat), m_ = (min s.out.length 32) - i ∧ (i ≤ min s.out.length 32) ∧ (O = tickO nw s.out i) ∧ (outs.map MsgR.abs = (tickD nw s.out i).map (·.m.abs)) ∧ (tl = tickT s.told (tickD nw s.out i)) ∧ (0 ≤ tl ∧ tl < 4294967296) ∧ (oA = none ∨ w.heap.size ≤ oG) ∧ (outs.length ≤ i) ∧ ρ_ 0 = .pointer (some ⟨p, 0, none⟩) ∧ ρ_ 4 = .slice none 0 0 ∧ ρ_ 6 = .int .i64 ((i : Nat) : Int) ∧ ρ_ 5 = .slice oA outs.length oC ∧ OwNG γ_ w_ (k + 2) 50 7 s.ha s.hg s.hc encM s.held s.hrest ∧ AllOk γ_ w_ (s.out.map (·.m)) ∧ AllOk γ_ w_ s.held ∧ Bk γ_ w_ p k (.cells #[.int .i64 s.own, .int .i64 s.peer, .int .u32 s.view, .slice s.oa s.out.length s.oc, .int .u32 s.last, .int .u32 0, .int .u32 tl, .slice s.ha s.held.length s.hc, .int .u32 s.come, .int .i64 nw] 46 (0, 0)) ∧ QuG γ_ w_ (k + 1) 71 8 s.oa s.og s.oo s.oc encP O ∧ OwNG γ_ w_ 2000 50 7 oA oG oC encM outs orest ∧ AllOk γ_ w_ outs ∧ GX [k, k + 1] w γ w_ γ_) ((min s.out.length 32) - 0) ?_ ?_
  · exact ⟨0, s.out, s.told, [], none, 0, 0, [], _, rfl, by omega, by rfl, by rfl, by rfl, by omega, by exact .inl rfl, by simp, (by kernel_rfl), (by kernel_rfl), (by kernel_rfl), (by kernel_rfl), h.hh, h.ao, h.ah, (by rw [show nw = s.now by omega]; exact hp), h.ho, (OwNG.nil _ _ _ _ _ 0 _ []), AllOk.nil, (GX.refl [k, k + 1] _ _)⟩
  intro m_246 ρ_247 w_248 hI
  obtain ⟨i, O, tl, outs, oA, oG, oC, orest, γ_250, hm_m_246, hi, hOO, houts, htl, htb, hO, hol, f_251, f_252, f_253, f_254, hr_255, hr_256, hr_257, hr_258, hr_259, hr_260, hr_261, hE_249⟩ := hI
  have hs_w_248 := hE_249.size
  have hOl : O.length = s.out.length := by rw [hOO, tickO_len]
  refine g_seq (x := lX2N1_17) (y := lX2N1_18) (by kernel_rfl) ?_
  refine g_seq (x := lX2N1_19) (y := lX2N1_20) (by kernel_rfl) ?_
  refine g_region (ops := lX2R1_5) (id := 5) (by kernel_rfl) [pu 0, pu 1, pu 2, pu 3, lo 4, pu 5, pu 6, pu 7, pu 8, pu 9, pu 10] (by kernel_rfl) (by kernel_rfl) ?_
  refine wpm 18 (.tmp 6) 3 (.int .i64 ((i : Nat) : Int)) ?_ (Eq.trans (by kernel_rfl) f_253)
  refine wpm 19 (.tmp 0) 42 (.pointer (some ⟨p, 0, none⟩)) ?_ (Eq.trans (by kernel_rfl) f_251)
  refine wpn 20 (.tmp 19) ⟨p, 0, none⟩ ?_
  refine wpf 21 46 (.tmp 20) 3 p 0 3 3 ?_
  refine wpl 22 43 (.tmp 21) (.slice s.oa s.out.length s.oc) p 3 hr_258.1 ?_
  refine wk_pure (opd 23 (.call ⟨.builtin .len, #[.tmp 22], #[43]⟩) 3) rfl (.int .i64 ((s.out.length : Nat) : Int)) (fun _ => x_len (a := s.oa) (n := s.out.length) (c := s.oc) (by kernel_rfl) (by kernel_rfl)) ?_
  by_cases h_262 : (((i : Nat) : Int) : Int) < ((s.out.length : Nat) : Int)
  · refine wk_pure (opd 24 (.binOp .lss 3 (.tmp 18) (.tmp 23) 3) 4) rfl (.bool true) (fun _ => y_lss (k := .i64) (a := ((i : Nat) : Int)) (b := ((s.out.length : Nat) : Int)) (by kernel_rfl) (by kernel_rfl) (decide_eq_true h_262)) ?_
    refine wpm 25 (.tmp 24) 4 (.bool true) ?_
    refine wk_pure (opg 26 (.move (.tmp 6)) 3 7 true) (by kernel_rfl) (.int .i64 ((i : Nat) : Int)) (fun _ => y_move (Eq.trans (by kernel_rfl) f_253)) ?_
    by_cases h_263 : (((i : Nat) : Int) : Int) < 32
    · refine wk_pure (opg 27 (.binOp .lss 3 (.tmp 26) (.const (.int .i64 32)) 3) 4 7 true) (by kernel_rfl) (.bool true) (fun _ => y_lss (k := .i64) (a := ((i : Nat) : Int)) (b := 32) (by kernel_rfl) (by kernel_rfl) (decide_eq_true h_263)) ?_
      refine wpt 28 (.tmp 25) (.tmp 27) (.const (.bool false)) 4 (.bool true) ?_
      refine wk_nil ?_
      refine thn_n ?_
      refine g_cond_t (o := .tmp 28) (x := lX2N1_21) (y := lX2N1_22) (by kernel_rfl) (by kernel_rfl) ?_
      refine g_skip (by kernel_rfl) ?_
      refine thn_n ?_
      refine g_seq (x := lX2N1_23) (y := lX2N1_24) (by kernel_rfl) ?_
      refine g_block (x := lX2N1_25) (id := 1) (by kernel_rfl) ?_
      refine g_seq (x := lX2N1_26) (y := lX2N1_27) (by kernel_rfl) ?_
      refine g_region (ops := lX2R1_7) (id := 7) (by kernel_rfl) [pu 0, pu 1, pu 2, lo 3, pu 4, pu 5, pu 6] (by kernel_rfl) (by kernel_rfl) ?_
      refine wpm 31 (.tmp 0) 42 (.pointer (some ⟨p, 0, none⟩)) ?_ (Eq.trans (by kernel_rfl) f_251)
      refine wpn 32 (.tmp 31) ⟨p, 0, none⟩ ?_
      refine wpf 33 46 (.tmp 32) 3 p 0 3 3 ?_
      refine wpl 34 43 (.tmp 33) (.slice s.oa s.out.length s.oc) p 3 hr_258.1 ?_
      refine wpm 35 (.tmp 6) 3 (.int .i64 ((i : Nat) : Int)) ?_ (Eq.trans (by kernel_rfl) f_253)
      refine wk_pure (opd 36 (.indexAddr 43 (.tmp 34) (.tmp 35)) 0) rfl (.pointer (some ⟨s.og, s.oo + (i * 8 + 0), none⟩)) (fun _ => y_ptr (x_indexN (a := s.oa) (b := s.og) (off := s.oo) (n := s.out.length) (c := s.oc) (k := .i64) (i := ((i : Nat) : Int)) (e := 71) (sz := 8) (sz' := 8) (by kernel_rfl) (QuG.slg hr_259).1 (by kernel_rfl) (by kernel_rfl) (by omega) (by omega) _) (by omega)) ?_
      refine wpa 7 (.tmp 36) 73 (.pointer (some ⟨s.og, s.oo + (i * 8 + 0), none⟩)) ?_
      refine wk_nil ?_
      refine thn_n ?_
      refine g_seq (x := lX2N1_28) (y := lX2N1_29) (by kernel_rfl) ?_
      refine g_seq (x := lX2N1_30) (y := lX2N1_31) (by kernel_rfl) ?_
      refine g_draw (ops := lX2R1_8) (id := 8) (by kernel_rfl) (fun _ _ => True) [pu 0, pu 1, pu 2, lo 3, pu 4, pu 5, pu 6, pu 7, pu 8, pu 10, pu 11, pu 12, rd 9, rd 13, pu 14, pu 15, pu 16] (by kernel_rfl) (by kernel_rfl) (fun _ => trivial) (fun w_264 sm_265 => ?_)
      have gx_266 := GX.same [] γ_250 sm_265
      have hsz_267 : w_264.heap.size = w_248.heap.size := by rw [sm_265.heap]
      refine wpm 37 (.tmp 7) 73 (.pointer (some ⟨s.og, s.oo + (i * 8 + 0), none⟩)) ?_
      refine wpn 38 (.tmp 37) ⟨s.og, s.oo + (i * 8 + 0), none⟩ ?_
      refine wk_pure (opd 39 (.fieldAddr 71 (.tmp 38) 1) 0) rfl (.pointer (some ⟨s.og, s.oo + (i * 8 + 7), none⟩)) (fun _ => y_ptr (x_fieldAddr (b := s.og) (off := (s.oo + (i * 8 + 0))) (o := 7) (by kernel_rfl) (by kernel_rfl)) (by omega)) ?_
      have hb_268 := (QuG.keep hr_259 gx_266 ni0)
      refine wk_val (opd 40 (.load 2 (.tmp 39)) 2) rfl (.int .i64 (atP (O.getD i S0))) (x_load_c (b := s.og) (off := (s.oo + (i * 8 + 7))) (by kernel_rfl) (by kernel_rfl) (SlE.get (QuG.slg hb_268).1 encP_len S0 i 7 (by omega) rfl)) trivial ?_
      by_cases h_269 : (0 : Int) ≤ (atP (O.getD i S0))
      · refine wk_pure (opd 41 (.binOp .geq 2 (.tmp 40) (.const (.int .i64 0)) 2) 4) rfl (.bool true) (fun _ => y_geq (k := .i64) (a := (atP (O.getD i S0))) (b := 0) (by kernel_rfl) (by kernel_rfl) (decide_eq_true h_269)) ?_
        refine wpm 42 (.tmp 41) 4 (.bool true) ?_
        refine wk_pure (opg 43 (.move (.tmp 0)) 42 5 true) (by kernel_rfl) (.pointer (some ⟨p, 0, none⟩)) (fun _ => y_move (Eq.trans (by kernel_rfl) f_251)) ?_
        refine wk_pure (opg 44 (.nilCheck (.tmp 43)) 0 5 true) (by kernel_rfl) (.pointer (some ⟨p, 0, none⟩)) (fun _ => x_nilCheck (by kernel_rfl)) ?_
        refine wk_pure (opg 45 (.fieldAddr 46 (.tmp 44) 9) 0 5 true) (by kernel_rfl) (.pointer (some ⟨p, 9, none⟩)) (fun _ => x_fieldAddr (b := p) (off := 0) (o := 9) (by kernel_rfl) (by kernel_rfl)) ?_
        refine wk_pure (opg 47 (.move (.tmp 7)) 73 5 true) (by kernel_rfl) (.pointer (some ⟨s.og, s.oo + (i * 8 + 0), none⟩)) (fun _ => y_move (by kernel_rfl)) ?_
        refine wk_pure (opg 48 (.nilCheck (.tmp 47)) 0 5 true) (by kernel_rfl) (.pointer (some ⟨s.og, s.oo + (i * 8 + 0), none⟩)) (fun _ => x_nilCheck (by kernel_rfl)) ?_
        refine wk_pure (opg 49 (.fieldAddr 71 (.tmp 48) 1) 0 5 true) (by kernel_rfl) (.pointer (some ⟨s.og, s.oo + (i * 8 + 7), none⟩)) (fun _ => y_ptr (x_fieldAddr (b := s.og) (off := (s.oo + (i * 8 + 0))) (o := 7) (by kernel_rfl) (by kernel_rfl)) (by omega)) ?_
        have hb_270 := (Bk.keep hr_258 gx_266 ni0)
        refine wk_read (opg 46 (.load 2 (.tmp 45)) 2 5 true) (by kernel_rfl) (.int .i64 nw) (fun w'_ g_ => x_load (b := p) (off := 9) (by kernel_rfl) (by kernel_rfl) (g_.keep hb_270.1) (by kernel_rfl)) ?_
        refine wk_read (opg 50 (.load 2 (.tmp 49)) 2 5 true) (by kernel_rfl) (.int .i64 (atP (O.getD i S0))) (fun w'_ g_ => x_load_c (b := s.og) (off := (s.oo + (i * 8 + 7))) (by kernel_rfl) (by kernel_rfl) (SlE.get (QuG.slg (g_.keepQu hb_268)).1 encP_len S0 i 7 (by omega) rfl)) ?_
        have hO2i_ : O.getD i S0 = s.out.getD i S0 := by rw [hOO, tickO_at (by omega)]
        have hat_ := h_l3 i (by omega)
        have hat2_ := atP_at (x := O.getD i S0) (by omega)
        rw [← hO2i_] at hat_
        refine wk_pure (opg 51 (.binOp .sub 2 (.tmp 46) (.tmp 50) 2) 2 5 true) (by kernel_rfl) (.int .i64 (nw - atP (O.getD i S0))) (fun _ => y_sub (k := .i64) (a := nw) (b := (atP (O.getD i S0))) (by kernel_rfl) (by kernel_rfl) (i64_id (by omega))) ?_
        by_cases h_271 : ((nw - atP (O.getD i S0)) : Int) < 8
        · refine wk_pure (opg 52 (.binOp .lss 2 (.tmp 51) (.const (.int .i64 8)) 2) 4 5 true) (by kernel_rfl) (.bool true) (fun _ => y_lss (k := .i64) (a := (nw - atP (O.getD i S0))) (b := 8) (by kernel_rfl) (by kernel_rfl) (decide_eq_true h_271)) ?_
          refine wpt 53 (.tmp 42) (.tmp 52) (.const (.bool false)) 4 (.bool true) ?_
          refine wk_nil ?_
          refine thn_n ?_
          refine g_cond_t (o := .tmp 53) (x := lX2N1_32) (y := lX2N1_33) (by kernel_rfl) (by kernel_rfl) ?_
          refine g_exit (id := 1) (by kernel_rfl) ?_
          refine thn_e ?_
          refine blk_hit ?_
          refine thn_n ?_
          refine g_region (ops := lX2R1_6) (id := 6) (by kernel_rfl) [pu 0, pu 1, pu 2] (by kernel_rfl) (by kernel_rfl) ?_
          refine wpm 29 (.tmp 6) 3 (.int .i64 ((i : Nat) : Int)) ?_ (Eq.trans (by kernel_rfl) f_253)
          refine wk_pure (opd 30 (.binOp .add 3 (.tmp 29) (.const (.int .i64 1)) 3) 3) rfl (.int .i64 ((i + 1 : Nat) : Int)) (fun _ => y_add (k := .i64) (a := ((i : Nat) : Int)) (b := 1) (by kernel_rfl) (by kernel_rfl) (i64_to (by omega) (by omega))) ?_
          refine wpa 6 (.tmp 30) 3 (.int .i64 ((i + 1 : Nat) : Int)) ?_
          refine wk_nil ?_
          refine thn_n ?_
          have hdue : due nw (s.out.getD i S0) = false := by rw [← hO2i_]; exact due_no hat_.1 (by omega) (by omega)
          have hb_272 := (OwNG.keep hr_255 gx_266 ni0)
          have hb_273 := (AllOk.keep hr_256 gx_266 ni0)
          have hb_274 := (AllOk.keep hr_257 gx_266 ni0)
          have hb_275 := (OwNG.keep hr_260 gx_266 ni0)
          have hb_276 := (AllOk.keep hr_261 gx_266 ni0)
          exact ⟨_, (by omega), ⟨(i + 1), O, tl, outs, oA, oG, oC, orest, _, rfl, by omega, by rw [hOO, tickO_skip (by omega) hdue], by rw [houts, tickD_skip (by omega) hdue], by rw [htl, tickD_skip (by omega) hdue], by omega, by omega, by omega, (Eq.trans (by kernel_rfl) f_251), (Eq.trans (by kernel_rfl) f_252), (by kernel_rfl), (Eq.trans (by kernel_rfl) f_254), hb_272, hb_273, hb_274, hb_270, hb_268, hb_275, hb_276, (GX.then_same hE_249 sm_265)⟩⟩
        refine wk_pure (opg 52 (.binOp .lss 2 (.tmp 51) (.const (.int .i64 8)) 2) 4 5 true) (by kernel_rfl) (.bool false) (fun _ => y_lss (k := .i64) (a := (nw - atP (O.getD i S0))) (b := 8) (by kernel_rfl) (by kernel_rfl) (decide_eq_false h_271)) ?_
        refine wpt 53 (.tmp 42) (.tmp 52) (.const (.bool false)) 4 (.bool false) ?_
        refine wk_nil ?_
        refine thn_n ?_
        refine g_cond_f (o := .tmp 53) (x := lX2N1_32) (y := lX2N1_33) (by kernel_rfl) (by kernel_rfl) ?_
        refine g_skip (by kernel_rfl) ?_
        refine thn_n ?_
        refine g_seq (x := lX2N1_34) (y := lX2N1_35) (by kernel_rfl) ?_
        refine g_region (ops := lX2R1_9) (id := 9) (by kernel_rfl) [pu 0, pu 1, pu 2, pu 3, lo 4, pu 5, pu 6, lo 7] (by kernel_rfl) (by kernel_rfl) ?_
        refine wpm 54 (.tmp 7) 73 (.pointer (some ⟨s.og, s.oo + (i * 8 + 0), none⟩)) ?_
        refine wpm 55 (.tmp 0) 42 (.pointer (some ⟨p, 0, none⟩)) ?_ (Eq.trans (by kernel_rfl) f_251)
        refine wpn 56 (.tmp 55) ⟨p, 0, none⟩ ?_
        refine wpf 57 46 (.tmp 56) 9 p 0 9 9 ?_
        refine wpl 58 2 (.tmp 57) (.int .i64 nw) p 9 hb_270.1 ?_
        refine wpn 59 (.tmp 54) ⟨s.og, s.oo + (i * 8 + 0), none⟩ ?_
        refine wk_pure (opd 60 (.fieldAddr 71 (.tmp 59) 1) 0) rfl (.pointer (some ⟨s.og, s.oo + (i * 8 + 7), none⟩)) (fun _ => y_ptr (x_fieldAddr (b := s.og) (off := (s.oo + (i * 8 + 0))) (o := 7) (by kernel_rfl) (by kernel_rfl)) (by omega)) ?_
        have hO2i : O.getD i S0 = s.out.getD i S0 := by rw [hOO, tickO_at (by omega)]
        have hdue : due nw (s.out.getD i S0) = true := by rw [← hO2i]; exact due_yes (by rw [hO2i]; exact (h_l3 i (by omega)).1) (by omega)
        refine wk_store_qu (g := s.og) (off := s.oo) (k := i) (f := 7) (sz := 8) (vs := [.int .i64 nw]) (⟨(O.getD i S0).m, true, nw⟩ : SndR) S0 (opn (.store 2 (.tmp 60) (.tmp 58)) 0) rfl (by kernel_rfl) (by kernel_rfl) (by kernel_rfl) (by kernel_rfl) hb_268 encP_len (by omega) rfl (Nat.le_of_ble_eq_true rfl) (by rfl) (fun w_277 gx_278 sz_279 ho_280 => ⟨?_, ?_⟩)
        · exact trivial
        obtain ⟨O_281, hO_282⟩ : ∃ O2, O2 = (O.set i (⟨(O.getD i S0).m, true, nw⟩ : SndR)) := ⟨_, rfl⟩
        rw [← hO_282] at ho_280
        have hn_O_281 : O_281 = tickO nw s.out (i + 1) := by rw [hO_282, tickO_fire (by omega) hdue, ← hOO, hO2i]
        have hg_O_281 : O_281.getD i S0 = ⟨(s.out.getD i S0).m, true, nw⟩ := by rw [hO_282, getD_set (by omega), if_pos rfl, hO2i]
        have hl_O_281 : O_281.length = s.out.length := by rw [hn_O_281, tickO_len]
        refine wk_nil ?_
        refine thn_n ?_
        refine g_seq (x := lX2N1_36) (y := lX2N1_37) (by kernel_rfl) ?_
        refine g_seq (x := lX2N1_38) (y := lX2N1_39) (by kernel_rfl) ?_
        refine g_draw (ops := lX2R1_10) (id := 10) (by kernel_rfl) (fun _ _ => True) [pu 0, pu 1, pu 2, pu 3, pu 5, pu 6, pu 7, rd 4, rd 8, pu 9] (by kernel_rfl) (by kernel_rfl) (fun _ => trivial) (fun w_283 sm_284 => ?_)
        have gx_285 := GX.same [] γ_250 sm_284
        have hsz_286 : w_283.heap.size = w_277.heap.size := by rw [sm_284.heap]
        refine wpm 61 (.tmp 7) 73 (.pointer (some ⟨s.og, s.oo + (i * 8 + 0), none⟩)) ?_
        refine wpn 62 (.tmp 61) ⟨s.og, s.oo + (i * 8 + 0), none⟩ ?_
        refine wk_pure (opd 63 (.fieldAddr 71 (.tmp 62) 0) 0) rfl (.pointer (some ⟨s.og, s.oo + (i * 8 + 0), none⟩)) (fun _ => y_ptr (x_fieldAddr (b := s.og) (off := (s.oo + (i * 8 + 0))) (o := 0) (by kernel_rfl) (by kernel_rfl)) (by omega)) ?_
        refine wk_pure (opd 64 (.fieldAddr 50 (.tmp 63) 4) 0) rfl (.pointer (some ⟨s.og, s.oo + (i * 8 + 4), none⟩)) (fun _ => y_ptr (x_fieldAddr (b := s.og) (off := (s.oo + (i * 8 + 0))) (o := 4) (by kernel_rfl) (by kernel_rfl)) (by omega)) ?_
        refine wpm 66 (.tmp 0) 42 (.pointer (some ⟨p, 0, none⟩)) ?_ (Eq.trans (by kernel_rfl) f_251)
        refine wpn 67 (.tmp 66) ⟨p, 0, none⟩ ?_
        refine wpf 68 46 (.tmp 67) 6 p 0 6 6 ?_
        have hb_287 := (QuG.keep ho_280 gx_285 ni0)
        refine wk_read (opd 65 (.load 27 (.tmp 64)) 27) rfl (.int .u32 ((O_281.getD i S0).m.seq)) (fun w'_ g_ => x_load_c (b := s.og) (off := (s.oo + (i * 8 + 4))) (by kernel_rfl) (by kernel_rfl) (SlE.get (QuG.slg (g_.keepQu hb_287)).1 encP_len S0 i 4 (by omega) rfl)) ?_
        have hb_288 := (Bk.keep (Bk.keep hb_270 gx_278 ni1) gx_285 ni0)
        refine wk_read (opd 69 (.load 27 (.tmp 68)) 27) rfl (.int .u32 tl) (fun w'_ g_ => x_load (b := p) (off := 6) (by kernel_rfl) (by kernel_rfl) (g_.keep hb_288.1) (by kernel_rfl)) ?_
        by_cases h_289 : (tl : Int) < ((O_281.getD i S0).m.seq)
        · refine wk_pure (opd 70 (.binOp .gtr 27 (.tmp 65) (.tmp 69) 27) 4) rfl (.bool true) (fun _ => y_gtr (k := .u32) (a := ((O_281.getD i S0).m.seq)) (b := tl) (by kernel_rfl) (by kernel_rfl) (decide_eq_true h_289)) ?_
          refine wk_nil ?_
          refine thn_n ?_
          refine g_cond_t (o := .tmp 70) (x := lX2N1_40) (y := lX2N1_41) (by kernel_rfl) (by kernel_rfl) ?_
          refine g_region (ops := lX2R1_11) (id := 11) (by kernel_rfl) [pu 0, pu 1, pu 2, pu 3, pu 4, lo 5, pu 6, pu 7, lo 8] (by kernel_rfl) (by kernel_rfl) ?_
          refine wpm 71 (.tmp 0) 42 (.pointer (some ⟨p, 0, none⟩)) ?_ (Eq.trans (by kernel_rfl) f_251)
          refine wpm 72 (.tmp 7) 73 (.pointer (some ⟨s.og, s.oo + (i * 8 + 0), none⟩)) ?_
          refine wpn 73 (.tmp 72) ⟨s.og, s.oo + (i * 8 + 0), none⟩ ?_
          refine wk_pure (opd 74 (.fieldAddr 71 (.tmp 73) 0) 0) rfl (.pointer (some ⟨s.og, s.oo + (i * 8 + 0), none⟩)) (fun _ => y_ptr (x_fieldAddr (b := s.og) (off := (s.oo + (i * 8 + 0))) (o := 0) (by kernel_rfl) (by kernel_rfl)) (by omega)) ?_
          refine wk_pure (opd 75 (.fieldAddr 50 (.tmp 74) 4) 0) rfl (.pointer (some ⟨s.og, s.oo + (i * 8 + 4), none⟩)) (fun _ => y_ptr (x_fieldAddr (b := s.og) (off := (s.oo + (i * 8 + 0))) (o := 4) (by kernel_rfl) (by kernel_rfl)) (by omega)) ?_
          refine wk_val (opd 76 (.load 27 (.tmp 75)) 27) rfl (.int .u32 ((O_281.getD i S0).m.seq)) (x_load_c (b := s.og) (off := (s.oo + (i * 8 + 4))) (by kernel_rfl) (by kernel_rfl) (SlE.get (QuG.slg hb_287).1 encP_len S0 i 4 (by omega) rfl)) trivial ?_
          refine wpn 77 (.tmp 71) ⟨p, 0, none⟩ ?_
          refine wpf 78 46 (.tmp 77) 6 p 0 6 6 ?_
          refine wk_store (b := p) (off := 6) (cs' := #[.int .i64 s.own, .int .i64 s.peer, .int .u32 s.view, .slice s.oa s.out.length s.oc, .int .u32 s.last, .int .u32 0, .int .u32 ((O_281.getD i S0).m.seq), .slice s.ha s.held.length s.hc, .int .u32 s.come, .int .i64 nw]) (vs := #[.int .u32 ((O_281.getD i S0).m.seq)]) (opn (.store 27 (.tmp 78) (.tmp 76)) 0) rfl (by kernel_rfl) (by kernel_rfl) (by kernel_rfl) (by kernel_rfl) hb_288.1 (Nat.le_of_ble_eq_true rfl) (by kernel_rfl) (by kernel_rfl) (fun w_290 e_291 sz_292 hb_293 => ⟨?_, ?_⟩)
          · exact trivial
          have gx_294 : GX [k] w_283 γ_250 w_290 γ_250 := GX.ext1 e_291 hb_288.2 (fun _ _ => rfl)
          have hk_295 : Bk γ_250 w_290 p k (.cells #[.int .i64 s.own, .int .i64 s.peer, .int .u32 s.view, .slice s.oa s.out.length s.oc, .int .u32 s.last, .int .u32 0, .int .u32 ((O_281.getD i S0).m.seq), .slice s.ha s.held.length s.hc, .int .u32 s.come, .int .i64 nw] 46 (0, 0)) := ⟨hb_293, hb_288.2⟩
          refine wk_nil ?_
          refine thn_n ?_
          refine g_region (ops := lX2R1_12) (id := 12) (by kernel_rfl) [pu 0, pu 1, pu 2, pu 3, lo 4, lo 5, lo 6, pu 7] (by kernel_rfl) (by kernel_rfl) ?_
          refine wpm 79 (.tmp 5) 44 (.slice oA outs.length oC) ?_ (Eq.trans (by kernel_rfl) f_254)
          refine wpm 80 (.tmp 7) 73 (.pointer (some ⟨s.og, s.oo + (i * 8 + 0), none⟩)) ?_
          refine wpn 81 (.tmp 80) ⟨s.og, s.oo + (i * 8 + 0), none⟩ ?_
          refine wk_pure (opd 82 (.fieldAddr 71 (.tmp 81) 0) 0) rfl (.pointer (some ⟨s.og, s.oo + (i * 8 + 0), none⟩)) (fun _ => y_ptr (x_fieldAddr (b := s.og) (off := (s.oo + (i * 8 + 0))) (o := 0) (by kernel_rfl) (by kernel_rfl)) (by omega)) ?_
          have hb_296 := (QuG.keep hb_287 gx_294 ni1)
          refine wk_val (opd 83 (.load 50 (.tmp 82)) 50) rfl (.agg #[.int .i64 ((O_281.getD i S0).m.kind), .int .i64 ((O_281.getD i S0).m.frm), .int .i64 ((O_281.getD i S0).m.to), .int .u32 ((O_281.getD i S0).m.view), .int .u32 ((O_281.getD i S0).m.seq), .slice ((O_281.getD i S0).m.na) ((O_281.getD i S0).m.N.length) ((O_281.getD i S0).m.nc), .slice ((O_281.getD i S0).m.wa) ((O_281.getD i S0).m.W.length) ((O_281.getD i S0).m.wc)]) (x_load_cs (b := s.og) (off := (s.oo + (i * 8 + 0))) (n := 7) (vs := [.int .i64 ((O_281.getD i S0).m.kind), .int .i64 ((O_281.getD i S0).m.frm), .int .i64 ((O_281.getD i S0).m.to), .int .u32 ((O_281.getD i S0).m.view), .int .u32 ((O_281.getD i S0).m.seq), .slice ((O_281.getD i S0).m.na) ((O_281.getD i S0).m.N.length) ((O_281.getD i S0).m.nc), .slice ((O_281.getD i S0).m.wa) ((O_281.getD i S0).m.W.length) ((O_281.getD i S0).m.wc)]) (by kernel_rfl) (by kernel_rfl) rfl (SlE.getN (QuG.slg hb_296).1 encP_len S0 i 0 (by omega) rfl)) trivial ?_
          refine wk_buildSlice (e := 50) (cs := #[.int .i64 ((O_281.getD i S0).m.kind), .int .i64 ((O_281.getD i S0).m.frm), .int .i64 ((O_281.getD i S0).m.to), .int .u32 ((O_281.getD i S0).m.view), .int .u32 ((O_281.getD i S0).m.seq), .slice ((O_281.getD i S0).m.na) ((O_281.getD i S0).m.N.length) ((O_281.getD i S0).m.nc), .slice ((O_281.getD i S0).m.wa) ((O_281.getD i S0).m.W.length) ((O_281.getD i S0).m.wc)]) (opd 84 (.buildSlice 44 1 #[(0, .tmp 83)]) 44) rfl (by kernel_rfl) (fun w_297 b_298 eq_299 e_300 sz_301 hb_302 => ⟨?_, ?_⟩)
          · exact trivial
          obtain ⟨γ_303, hg_304, hn_305⟩ := cls_new γ_250 w_290.heap.size 11905
          have gx_306 := GX.ext0 [] e_300 hg_304
          have hk_307 : Bk γ_303 w_297 b_298 11905 (.cells #[.int .i64 ((O_281.getD i S0).m.kind), .int .i64 ((O_281.getD i S0).m.frm), .int .i64 ((O_281.getD i S0).m.to), .int .u32 ((O_281.getD i S0).m.view), .int .u32 ((O_281.getD i S0).m.seq), .slice ((O_281.getD i S0).m.na) ((O_281.getD i S0).m.N.length) ((O_281.getD i S0).m.nc), .slice ((O_281.getD i S0).m.wa) ((O_281.getD i S0).m.W.length) ((O_281.getD i S0).m.wc)] 50 (0, 0)) := ⟨hb_302, hn_305 _ (by omega)⟩
          have hs_308 : SlE w_297 7 (some ⟨b_298, 0, none⟩) b_298 0 encM [(O_281.getD i S0).m] := SlE.of_cells hk_307.1 encM_len (by rfl)
          have hb_318 := (OwNG.keep (OwNG.keep (OwNG.keep (OwNG.keep (OwNG.keep hr_260 gx_266 ni0) gx_278 ni1) gx_285 ni0) gx_294 ni1) gx_306 ni0)
          have on_319 : OwNG γ_303 w_297 2000 50 7 oA oG oC encM outs orest := hb_318
          refine wk_append (M := ([(O_281.getD i S0).m])) (L := outs) (a := oA) (g := oG) (c := oC) (ax := (some ⟨b_298, 0, none⟩)) (bx := b_298) (offx := 0) (cx := 1) (e := 50) (sz := 7) (by_ := 80) (opd 85 (.call ⟨.builtin .append, #[.tmp 79, .tmp 84], #[44, 44]⟩) 44) rfl (by kernel_rfl) (by kernel_rfl) encM_len (by kernel_rfl) on_319.1 (by kernel_rfl) hs_308 (by simp) encM_one (by constructor <;> (simp only [List.length_singleton]; omega)) (fun w_309 b_310 cap_311 rest_312 hb_313 e_314 sz_315 lt_316 ho_317 => ⟨?_, ?_⟩)
          · exact trivial
          obtain ⟨γ_320, hg_321, hn_322⟩ := cls_new γ_303 w_297.heap.size 2000
          have gx_323 : GX [2000] w_297 γ_303 w_309 γ_320 := OwNG.gx on_319 e_314 hg_321
          have hk_324 : OwnG γ_320 w_309 2000 50 7 b_310 cap_311 encM (outs ++ ([(O_281.getD i S0).m])) rest_312 := ⟨ho_317, OwNG.appc on_319 hb_313 hg_321 hn_322⟩
          have hsz_325 := e_314.size
          refine wpa 5 (.tmp 85) 44 (.slice (some ⟨b_310, 0, none⟩) ((outs ++ ([(O_281.getD i S0).m])).length) cap_311) ?_
          refine wk_nil ?_
          refine blk_n ?_
          refine thn_n ?_
          refine g_region (ops := lX2R1_6) (id := 6) (by kernel_rfl) [pu 0, pu 1, pu 2] (by kernel_rfl) (by kernel_rfl) ?_
          refine wpm 29 (.tmp 6) 3 (.int .i64 ((i : Nat) : Int)) ?_ (Eq.trans (by kernel_rfl) f_253)
          refine wk_pure (opd 30 (.binOp .add 3 (.tmp 29) (.const (.int .i64 1)) 3) 3) rfl (.int .i64 ((i + 1 : Nat) : Int)) (fun _ => y_add (k := .i64) (a := ((i : Nat) : Int)) (b := 1) (by kernel_rfl) (by kernel_rfl) (i64_to (by omega) (by omega))) ?_
          refine wpa 6 (.tmp 30) 3 (.int .i64 ((i + 1 : Nat) : Int)) ?_
          refine wk_nil ?_
          refine thn_n ?_
          have hb_326 := (AllOk.keep (AllOk.keep (AllOk.keep (AllOk.keep (AllOk.keep (AllOk.keep hr_261 gx_266 ni0) gx_278 ni1) gx_285 ni0) gx_294 ni1) gx_306 ni0) gx_323 ni1)
          have hb_327 := (AllOk.keep (AllOk.keep (AllOk.keep (AllOk.keep (AllOk.keep (AllOk.keep hr_256 gx_266 ni0) gx_278 ni1) gx_285 ni0) gx_294 ni1) gx_306 ni0) gx_323 ni1)
          have hadd_ : AllOk γ_320 w_309 (outs ++ [(O_281.getD i S0).m]) := AllOk.add hb_326 ((by rw [hg_O_281]; exact AllOk.getS hb_327 (by omega)) : MOk γ_320 w_309 (O_281.getD i S0).m)
          have hs_ : (O_281.getD i S0).m = (s.out.getD i S0).m := by rw [hg_O_281]
          have hb_328 := (QuG.keep (QuG.keep hb_296 gx_306 ni0) gx_323 ni1)
          have hb_329 := (Bk.keep (Bk.keep hk_295 gx_306 ni0) gx_323 ni1)
          have hb_330 := (OwNG.keep (OwNG.keep (OwNG.keep (OwNG.keep (OwNG.keep (OwNG.keep hr_255 gx_266 ni0) gx_278 ni1) gx_285 ni0) gx_294 ni1) gx_306 ni0) gx_323 ni1)
          have hb_331 := (AllOk.keep (AllOk.keep (AllOk.keep (AllOk.keep (AllOk.keep (AllOk.keep hr_257 gx_266 ni0) gx_278 ni1) gx_285 ni0) gx_294 ni1) gx_306 ni0) gx_323 ni1)
          exact ⟨_, (by omega), ⟨(i + 1), O_281, (max tl (O_281.getD i S0).m.seq), (outs ++ [(O_281.getD i S0).m]), _, b_310, cap_311, rest_312, _, rfl, by omega, by exact hn_O_281, by rw [tickD_fire (by omega) hdue, List.map_append, List.map_append, houts]; show _ ++ [((O_281.getD i S0).m).abs] = _ ++ [(s.out.getD i S0).m.abs]; rw [hs_], by rw [tickD_fire (by omega) hdue, tickT_add, htl, hs_], by rw [hs_]; have h_ := (AllOk.getS hb_327 (by omega : i < s.out.length)).s0; omega, by exact .inr (appNew hb_313 hO (by omega)), by rw [List.length_append, List.length_singleton]; omega, (Eq.trans (by kernel_rfl) f_251), (Eq.trans (by kernel_rfl) f_252), (by kernel_rfl), (by kernel_rfl), hb_330, hb_327, hb_331, (by rw [show (max tl (O_281.getD i S0).m.seq) = ((O_281.getD i S0).m.seq) by omega]; exact hb_329), hb_328, (OwNG.of hk_324), hadd_, (GX.thenNew (GX.then0 (GX.trans (GX.then_same (GX.trans (GX.then_same hE_249 sm_265) gx_278 (by intro c_ hc_; simp only [List.mem_cons, List.not_mem_nil, or_false] at hc_ ⊢; omega)) sm_284) gx_294 (by intro c_ hc_; simp only [List.mem_cons, List.not_mem_nil, or_false] at hc_ ⊢; omega)) e_300 hg_304) e_314 (OwNG.newS hb_318 (by exact hO)) hg_321)⟩⟩
        refine wk_pure (opd 70 (.binOp .gtr 27 (.tmp 65) (.tmp 69) 27) 4) rfl (.bool false) (fun _ => y_gtr (k := .u32) (a := ((O_281.getD i S0).m.seq)) (b := tl) (by kernel_rfl) (by kernel_rfl) (decide_eq_false h_289)) ?_
        refine wk_nil ?_
        refine thn_n ?_
        refine g_cond_f (o := .tmp 70) (x := lX2N1_40) (y := lX2N1_41) (by kernel_rfl) (by kernel_rfl) ?_
        refine g_skip (by kernel_rfl) ?_
        refine thn_n ?_
        refine g_region (ops := lX2R1_12) (id := 12) (by kernel_rfl) [pu 0, pu 1, pu 2, pu 3, lo 4, lo 5, lo 6, pu 7] (by kernel_rfl) (by kernel_rfl) ?_
        refine wpm 79 (.tmp 5) 44 (.slice oA outs.length oC) ?_ (Eq.trans (by kernel_rfl) f_254)
        refine wpm 80 (.tmp 7) 73 (.pointer (some ⟨s.og, s.oo + (i * 8 + 0), none⟩)) ?_
        refine wpn 81 (.tmp 80) ⟨s.og, s.oo + (i * 8 + 0), none⟩ ?_
        refine wk_pure (opd 82 (.fieldAddr 71 (.tmp 81) 0) 0) rfl (.pointer (some ⟨s.og, s.oo + (i * 8 + 0), none⟩)) (fun _ => y_ptr (x_fieldAddr (b := s.og) (off := (s.oo + (i * 8 + 0))) (o := 0) (by kernel_rfl) (by kernel_rfl)) (by omega)) ?_
        refine wk_val (opd 83 (.load 50 (.tmp 82)) 50) rfl (.agg #[.int .i64 ((O_281.getD i S0).m.kind), .int .i64 ((O_281.getD i S0).m.frm), .int .i64 ((O_281.getD i S0).m.to), .int .u32 ((O_281.getD i S0).m.view), .int .u32 ((O_281.getD i S0).m.seq), .slice ((O_281.getD i S0).m.na) ((O_281.getD i S0).m.N.length) ((O_281.getD i S0).m.nc), .slice ((O_281.getD i S0).m.wa) ((O_281.getD i S0).m.W.length) ((O_281.getD i S0).m.wc)]) (x_load_cs (b := s.og) (off := (s.oo + (i * 8 + 0))) (n := 7) (vs := [.int .i64 ((O_281.getD i S0).m.kind), .int .i64 ((O_281.getD i S0).m.frm), .int .i64 ((O_281.getD i S0).m.to), .int .u32 ((O_281.getD i S0).m.view), .int .u32 ((O_281.getD i S0).m.seq), .slice ((O_281.getD i S0).m.na) ((O_281.getD i S0).m.N.length) ((O_281.getD i S0).m.nc), .slice ((O_281.getD i S0).m.wa) ((O_281.getD i S0).m.W.length) ((O_281.getD i S0).m.wc)]) (by kernel_rfl) (by kernel_rfl) rfl (SlE.getN (QuG.slg hb_287).1 encP_len S0 i 0 (by omega) rfl)) trivial ?_
        refine wk_buildSlice (e := 50) (cs := #[.int .i64 ((O_281.getD i S0).m.kind), .int .i64 ((O_281.getD i S0).m.frm), .int .i64 ((O_281.getD i S0).m.to), .int .u32 ((O_281.getD i S0).m.view), .int .u32 ((O_281.getD i S0).m.seq), .slice ((O_281.getD i S0).m.na) ((O_281.getD i S0).m.N.length) ((O_281.getD i S0).m.nc), .slice ((O_281.getD i S0).m.wa) ((O_281.getD i S0).m.W.length) ((O_281.getD i S0).m.wc)]) (opd 84 (.buildSlice 44 1 #[(0, .tmp 83)]) 44) rfl (by kernel_rfl) (fun w_332 b_333 eq_334 e_335 sz_336 hb_337 => ⟨?_, ?_⟩)
        · exact trivial
        obtain ⟨γ_338, hg_339, hn_340⟩ := cls_new γ_250 w_283.heap.size 11906
        have gx_341 := GX.ext0 [] e_335 hg_339
        have hk_342 : Bk γ_338 w_332 b_333 11906 (.cells #[.int .i64 ((O_281.getD i S0).m.kind), .int .i64 ((O_281.getD i S0).m.frm), .int .i64 ((O_281.getD i S0).m.to), .int .u32 ((O_281.getD i S0).m.view), .int .u32 ((O_281.getD i S0).m.seq), .slice ((O_281.getD i S0).m.na) ((O_281.getD i S0).m.N.length) ((O_281.getD i S0).m.nc), .slice ((O_281.getD i S0).m.wa) ((O_281.getD i S0).m.W.length) ((O_281.getD i S0).m.wc)] 50 (0, 0)) := ⟨hb_337, hn_340 _ (by omega)⟩
        have hs_343 : SlE w_332 7 (some ⟨b_333, 0, none⟩) b_333 0 encM [(O_281.getD i S0).m] := SlE.of_cells hk_342.1 encM_len (by rfl)
        have hb_353 := (OwNG.keep (OwNG.keep (OwNG.keep (OwNG.keep hr_260 gx_266 ni0) gx_278 ni1) gx_285 ni0) gx_341 ni0)
        have on_354 : OwNG γ_338 w_332 2000 50 7 oA oG oC encM outs orest := hb_353
        refine wk_append (M := ([(O_281.getD i S0).m])) (L := outs) (a := oA) (g := oG) (c := oC) (ax := (some ⟨b_333, 0, none⟩)) (bx := b_333) (offx := 0) (cx := 1) (e := 50) (sz := 7) (by_ := 80) (opd 85 (.call ⟨.builtin .append, #[.tmp 79, .tmp 84], #[44, 44]⟩) 44) rfl (by kernel_rfl) (by kernel_rfl) encM_len (by kernel_rfl) on_354.1 (by kernel_rfl) hs_343 (by simp) encM_one (by constructor <;> (simp only [List.length_singleton]; omega)) (fun w_344 b_345 cap_346 rest_347 hb_348 e_349 sz_350 lt_351 ho_352 => ⟨?_, ?_⟩)
        · exact trivial
        obtain ⟨γ_355, hg_356, hn_357⟩ := cls_new γ_338 w_332.heap.size 2000
        have gx_358 : GX [2000] w_332 γ_338 w_344 γ_355 := OwNG.gx on_354 e_349 hg_356
        have hk_359 : OwnG γ_355 w_344 2000 50 7 b_345 cap_346 encM (outs ++ ([(O_281.getD i S0).m])) rest_347 := ⟨ho_352, OwNG.appc on_354 hb_348 hg_356 hn_357⟩
        have hsz_360 := e_349.size
        refine wpa 5 (.tmp 85) 44 (.slice (some ⟨b_345, 0, none⟩) ((outs ++ ([(O_281.getD i S0).m])).length) cap_346) ?_
        refine wk_nil ?_
        refine blk_n ?_
        refine thn_n ?_
        refine g_region (ops := lX2R1_6) (id := 6) (by kernel_rfl) [pu 0, pu 1, pu 2] (by kernel_rfl) (by kernel_rfl) ?_
        refine wpm 29 (.tmp 6) 3 (.int .i64 ((i : Nat) : Int)) ?_ (Eq.trans (by kernel_rfl) f_253)
        refine wk_pure (opd 30 (.binOp .add 3 (.tmp 29) (.const (.int .i64 1)) 3) 3) rfl (.int .i64 ((i + 1 : Nat) : Int)) (fun _ => y_add (k := .i64) (a := ((i : Nat) : Int)) (b := 1) (by kernel_rfl) (by kernel_rfl) (i64_to (by omega) (by omega))) ?_
        refine wpa 6 (.tmp 30) 3 (.int .i64 ((i + 1 : Nat) : Int)) ?_
        refine wk_nil ?_
        refine thn_n ?_
        have hb_361 := (AllOk.keep (AllOk.keep (AllOk.keep (AllOk.keep (AllOk.keep hr_261 gx_266 ni0) gx_278 ni1) gx_285 ni0) gx_341 ni0) gx_358 ni1)
        have hb_362 := (AllOk.keep (AllOk.keep (AllOk.keep (AllOk.keep (AllOk.keep hr_256 gx_266 ni0) gx_278 ni1) gx_285 ni0) gx_341 ni0) gx_358 ni1)
        have hadd_ : AllOk γ_355 w_344 (outs ++ [(O_281.getD i S0).m]) := AllOk.add hb_361 ((by rw [hg_O_281]; exact AllOk.getS hb_362 (by omega)) : MOk γ_355 w_344 (O_281.getD i S0).m)
        have hs_ : (O_281.getD i S0).m = (s.out.getD i S0).m := by rw [hg_O_281]
        have hb_363 := (QuG.keep (QuG.keep hb_287 gx_341 ni0) gx_358 ni1)
        have hb_364 := (Bk.keep (Bk.keep hb_288 gx_341 ni0) gx_358 ni1)
        have hb_365 := (OwNG.keep (OwNG.keep (OwNG.keep (OwNG.keep (OwNG.keep hr_255 gx_266 ni0) gx_278 ni1) gx_285 ni0) gx_341 ni0) gx_358 ni1)
        have hb_366 := (AllOk.keep (AllOk.keep (AllOk.keep (AllOk.keep (AllOk.keep hr_257 gx_266 ni0) gx_278 ni1) gx_285 ni0) gx_341 ni0) gx_358 ni1)
        exact ⟨_, (by omega), ⟨(i + 1), O_281, (max tl (O_281.getD i S0).m.seq), (outs ++ [(O_281.getD i S0).m]), _, b_345, cap_346, rest_347, _, rfl, by omega, by exact hn_O_281, by rw [tickD_fire (by omega) hdue, List.map_append, List.map_append, houts]; show _ ++ [((O_281.getD i S0).m).abs] = _ ++ [(s.out.getD i S0).m.abs]; rw [hs_], by rw [tickD_fire (by omega) hdue, tickT_add, htl, hs_], by rw [hs_]; have h_ := (AllOk.getS hb_362 (by omega : i < s.out.length)).s0; omega, by exact .inr (appNew hb_348 hO (by omega)), by rw [List.length_append, List.length_singleton]; omega, (Eq.trans (by kernel_rfl) f_251), (Eq.trans (by kernel_rfl) f_252), (by kernel_rfl), (by kernel_rfl), hb_365, hb_362, hb_366, (by rw [show (max tl (O_281.getD i S0).m.seq) = tl by omega]; exact hb_364), hb_363, (OwNG.of hk_359), hadd_, (GX.thenNew (GX.then0 (GX.then_same (GX.trans (GX.then_same hE_249 sm_265) gx_278 (by intro c_ hc_; simp only [List.mem_cons, List.not_mem_nil, or_false] at hc_ ⊢; omega)) sm_284) e_335 hg_339) e_349 (OwNG.newS hb_353 (by exact hO)) hg_356)⟩⟩
      refine wk_pure (opd 41 (.binOp .geq 2 (.tmp 40) (.const (.int .i64 0)) 2) 4) rfl (.bool false) (fun _ => y_geq (k := .i64) (a := (atP (O.getD i S0))) (b := 0) (by kernel_rfl) (by kernel_rfl) (decide_eq_false h_269)) ?_
      refine wpm 42 (.tmp 41) 4 (.bool false) ?_
      refine wks 43 ?_
      refine wks 44 ?_
      refine wks 45 ?_
      refine wks 47 ?_
      refine wks 48 ?_
      refine wks 49 ?_
      refine wks 46 ?_
      refine wks 50 ?_
      refine wks 51 ?_
      refine wks 52 ?_
      refine wpk 53 (.tmp 42) (.tmp 52) (.const (.bool false)) 4 (.bool false) ?_
      refine wk_nil ?_
      refine thn_n ?_
      refine g_cond_f (o := .tmp 53) (x := lX2N1_32) (y := lX2N1_33) (by kernel_rfl) (by kernel_rfl) ?_
      refine g_skip (by kernel_rfl) ?_
      refine thn_n ?_
      refine g_seq (x := lX2N1_34) (y := lX2N1_35) (by kernel_rfl) ?_
      refine g_region (ops := lX2R1_9) (id := 9) (by kernel_rfl) [pu 0, pu 1, pu 2, pu 3, lo 4, pu 5, pu 6, lo 7] (by kernel_rfl) (by kernel_rfl) ?_
      refine wpm 54 (.tmp 7) 73 (.pointer (some ⟨s.og, s.oo + (i * 8 + 0), none⟩)) ?_
      refine wpm 55 (.tmp 0) 42 (.pointer (some ⟨p, 0, none⟩)) ?_ (Eq.trans (by kernel_rfl) f_251)
      refine wpn 56 (.tmp 55) ⟨p, 0, none⟩ ?_
      refine wpf 57 46 (.tmp 56) 9 p 0 9 9 ?_
      have hb_367 := (Bk.keep hr_258 gx_266 ni0)
      refine wpl 58 2 (.tmp 57) (.int .i64 nw) p 9 hb_367.1 ?_
      refine wpn 59 (.tmp 54) ⟨s.og, s.oo + (i * 8 + 0), none⟩ ?_
      refine wk_pure (opd 60 (.fieldAddr 71 (.tmp 59) 1) 0) rfl (.pointer (some ⟨s.og, s.oo + (i * 8 + 7), none⟩)) (fun _ => y_ptr (x_fieldAddr (b := s.og) (off := (s.oo + (i * 8 + 0))) (o := 7) (by kernel_rfl) (by kernel_rfl)) (by omega)) ?_
      have hO2i : O.getD i S0 = s.out.getD i S0 := by rw [hOO, tickO_at (by omega)]
      have hdue : due nw (s.out.getD i S0) = true := by rw [← hO2i]; exact due_yes (by rw [hO2i]; exact (h_l3 i (by omega)).1) (by omega)
      refine wk_store_qu (g := s.og) (off := s.oo) (k := i) (f := 7) (sz := 8) (vs := [.int .i64 nw]) (⟨(O.getD i S0).m, true, nw⟩ : SndR) S0 (opn (.store 2 (.tmp 60) (.tmp 58)) 0) rfl (by kernel_rfl) (by kernel_rfl) (by kernel_rfl) (by kernel_rfl) hb_268 encP_len (by omega) rfl (Nat.le_of_ble_eq_true rfl) (by rfl) (fun w_368 gx_369 sz_370 ho_371 => ⟨?_, ?_⟩)
      · exact trivial
      obtain ⟨O_372, hO_373⟩ : ∃ O2, O2 = (O.set i (⟨(O.getD i S0).m, true, nw⟩ : SndR)) := ⟨_, rfl⟩
      rw [← hO_373] at ho_371
      have hn_O_372 : O_372 = tickO nw s.out (i + 1) := by rw [hO_373, tickO_fire (by omega) hdue, ← hOO, hO2i]
      have hg_O_372 : O_372.getD i S0 = ⟨(s.out.getD i S0).m, true, nw⟩ := by rw [hO_373, getD_set (by omega), if_pos rfl, hO2i]
      have hl_O_372 : O_372.length = s.out.length := by rw [hn_O_372, tickO_len]
      refine wk_nil ?_
      refine thn_n ?_
      refine g_seq (x := lX2N1_36) (y := lX2N1_37) (by kernel_rfl) ?_
      refine g_seq (x := lX2N1_38) (y := lX2N1_39) (by kernel_rfl) ?_
      refine g_draw (ops := lX2R1_10) (id := 10) (by kernel_rfl) (fun _ _ => True) [pu 0, pu 1, pu 2, pu 3, pu 5, pu 6, pu 7, rd 4, rd 8, pu 9] (by kernel_rfl) (by kernel_rfl) (fun _ => trivial) (fun w_374 sm_375 => ?_)
      have gx_376 := GX.same [] γ_250 sm_375
      have hsz_377 : w_374.heap.size = w_368.heap.size := by rw [sm_375.heap]
      refine wpm 61 (.tmp 7) 73 (.pointer (some ⟨s.og, s.oo + (i * 8 + 0), none⟩)) ?_
      refine wpn 62 (.tmp 61) ⟨s.og, s.oo + (i * 8 + 0), none⟩ ?_
      refine wk_pure (opd 63 (.fieldAddr 71 (.tmp 62) 0) 0) rfl (.pointer (some ⟨s.og, s.oo + (i * 8 + 0), none⟩)) (fun _ => y_ptr (x_fieldAddr (b := s.og) (off := (s.oo + (i * 8 + 0))) (o := 0) (by kernel_rfl) (by kernel_rfl)) (by omega)) ?_
      refine wk_pure (opd 64 (.fieldAddr 50 (.tmp 63) 4) 0) rfl (.pointer (some ⟨s.og, s.oo + (i * 8 + 4), none⟩)) (fun _ => y_ptr (x_fieldAddr (b := s.og) (off := (s.oo + (i * 8 + 0))) (o := 4) (by kernel_rfl) (by kernel_rfl)) (by omega)) ?_
      refine wpm 66 (.tmp 0) 42 (.pointer (some ⟨p, 0, none⟩)) ?_ (Eq.trans (by kernel_rfl) f_251)
      refine wpn 67 (.tmp 66) ⟨p, 0, none⟩ ?_
      refine wpf 68 46 (.tmp 67) 6 p 0 6 6 ?_
      have hb_378 := (QuG.keep ho_371 gx_376 ni0)
      refine wk_read (opd 65 (.load 27 (.tmp 64)) 27) rfl (.int .u32 ((O_372.getD i S0).m.seq)) (fun w'_ g_ => x_load_c (b := s.og) (off := (s.oo + (i * 8 + 4))) (by kernel_rfl) (by kernel_rfl) (SlE.get (QuG.slg (g_.keepQu hb_378)).1 encP_len S0 i 4 (by omega) rfl)) ?_
      have hb_379 := (Bk.keep (Bk.keep hb_367 gx_369 ni1) gx_376 ni0)
      refine wk_read (opd 69 (.load 27 (.tmp 68)) 27) rfl (.int .u32 tl) (fun w'_ g_ => x_load (b := p) (off := 6) (by kernel_rfl) (by kernel_rfl) (g_.keep hb_379.1) (by kernel_rfl)) ?_
      by_cases h_380 : (tl : Int) < ((O_372.getD i S0).m.seq)
      · refine wk_pure (opd 70 (.binOp .gtr 27 (.tmp 65) (.tmp 69) 27) 4) rfl (.bool true) (fun _ => y_gtr (k := .u32) (a := ((O_372.getD i S0).m.seq)) (b := tl) (by kernel_rfl) (by kernel_rfl) (decide_eq_true h_380)) ?_
        refine wk_nil ?_
        refine thn_n ?_
        refine g_cond_t (o := .tmp 70) (x := lX2N1_40) (y := lX2N1_41) (by kernel_rfl) (by kernel_rfl) ?_
        refine g_region (ops := lX2R1_11) (id := 11) (by kernel_rfl) [pu 0, pu 1, pu 2, pu 3, pu 4, lo 5, pu 6, pu 7, lo 8] (by kernel_rfl) (by kernel_rfl) ?_
        refine wpm 71 (.tmp 0) 42 (.pointer (some ⟨p, 0, none⟩)) ?_ (Eq.trans (by kernel_rfl) f_251)
        refine wpm 72 (.tmp 7) 73 (.pointer (some ⟨s.og, s.oo + (i * 8 + 0), none⟩)) ?_
        refine wpn 73 (.tmp 72) ⟨s.og, s.oo + (i * 8 + 0), none⟩ ?_
        refine wk_pure (opd 74 (.fieldAddr 71 (.tmp 73) 0) 0) rfl (.pointer (some ⟨s.og, s.oo + (i * 8 + 0), none⟩)) (fun _ => y_ptr (x_fieldAddr (b := s.og) (off := (s.oo + (i * 8 + 0))) (o := 0) (by kernel_rfl) (by kernel_rfl)) (by omega)) ?_
        refine wk_pure (opd 75 (.fieldAddr 50 (.tmp 74) 4) 0) rfl (.pointer (some ⟨s.og, s.oo + (i * 8 + 4), none⟩)) (fun _ => y_ptr (x_fieldAddr (b := s.og) (off := (s.oo + (i * 8 + 0))) (o := 4) (by kernel_rfl) (by kernel_rfl)) (by omega)) ?_
        refine wk_val (opd 76 (.load 27 (.tmp 75)) 27) rfl (.int .u32 ((O_372.getD i S0).m.seq)) (x_load_c (b := s.og) (off := (s.oo + (i * 8 + 4))) (by kernel_rfl) (by kernel_rfl) (SlE.get (QuG.slg hb_378).1 encP_len S0 i 4 (by omega) rfl)) trivial ?_
        refine wpn 77 (.tmp 71) ⟨p, 0, none⟩ ?_
        refine wpf 78 46 (.tmp 77) 6 p 0 6 6 ?_
        refine wk_store (b := p) (off := 6) (cs' := #[.int .i64 s.own, .int .i64 s.peer, .int .u32 s.view, .slice s.oa s.out.length s.oc, .int .u32 s.last, .int .u32 0, .int .u32 ((O_372.getD i S0).m.seq), .slice s.ha s.held.length s.hc, .int .u32 s.come, .int .i64 nw]) (vs := #[.int .u32 ((O_372.getD i S0).m.seq)]) (opn (.store 27 (.tmp 78) (.tmp 76)) 0) rfl (by kernel_rfl) (by kernel_rfl) (by kernel_rfl) (by kernel_rfl) hb_379.1 (Nat.le_of_ble_eq_true rfl) (by kernel_rfl) (by kernel_rfl) (fun w_381 e_382 sz_383 hb_384 => ⟨?_, ?_⟩)
        · exact trivial
        have gx_385 : GX [k] w_374 γ_250 w_381 γ_250 := GX.ext1 e_382 hb_379.2 (fun _ _ => rfl)
        have hk_386 : Bk γ_250 w_381 p k (.cells #[.int .i64 s.own, .int .i64 s.peer, .int .u32 s.view, .slice s.oa s.out.length s.oc, .int .u32 s.last, .int .u32 0, .int .u32 ((O_372.getD i S0).m.seq), .slice s.ha s.held.length s.hc, .int .u32 s.come, .int .i64 nw] 46 (0, 0)) := ⟨hb_384, hb_379.2⟩
        refine wk_nil ?_
        refine thn_n ?_
        refine g_region (ops := lX2R1_12) (id := 12) (by kernel_rfl) [pu 0, pu 1, pu 2, pu 3, lo 4, lo 5, lo 6, pu 7] (by kernel_rfl) (by kernel_rfl) ?_
        refine wpm 79 (.tmp 5) 44 (.slice oA outs.length oC) ?_ (Eq.trans (by kernel_rfl) f_254)
        refine wpm 80 (.tmp 7) 73 (.pointer (some ⟨s.og, s.oo + (i * 8 + 0), none⟩)) ?_
        refine wpn 81 (.tmp 80) ⟨s.og, s.oo + (i * 8 + 0), none⟩ ?_
        refine wk_pure (opd 82 (.fieldAddr 71 (.tmp 81) 0) 0) rfl (.pointer (some ⟨s.og, s.oo + (i * 8 + 0), none⟩)) (fun _ => y_ptr (x_fieldAddr (b := s.og) (off := (s.oo + (i * 8 + 0))) (o := 0) (by kernel_rfl) (by kernel_rfl)) (by omega)) ?_
        have hb_387 := (QuG.keep hb_378 gx_385 ni1)
        refine wk_val (opd 83 (.load 50 (.tmp 82)) 50) rfl (.agg #[.int .i64 ((O_372.getD i S0).m.kind), .int .i64 ((O_372.getD i S0).m.frm), .int .i64 ((O_372.getD i S0).m.to), .int .u32 ((O_372.getD i S0).m.view), .int .u32 ((O_372.getD i S0).m.seq), .slice ((O_372.getD i S0).m.na) ((O_372.getD i S0).m.N.length) ((O_372.getD i S0).m.nc), .slice ((O_372.getD i S0).m.wa) ((O_372.getD i S0).m.W.length) ((O_372.getD i S0).m.wc)]) (x_load_cs (b := s.og) (off := (s.oo + (i * 8 + 0))) (n := 7) (vs := [.int .i64 ((O_372.getD i S0).m.kind), .int .i64 ((O_372.getD i S0).m.frm), .int .i64 ((O_372.getD i S0).m.to), .int .u32 ((O_372.getD i S0).m.view), .int .u32 ((O_372.getD i S0).m.seq), .slice ((O_372.getD i S0).m.na) ((O_372.getD i S0).m.N.length) ((O_372.getD i S0).m.nc), .slice ((O_372.getD i S0).m.wa) ((O_372.getD i S0).m.W.length) ((O_372.getD i S0).m.wc)]) (by kernel_rfl) (by kernel_rfl) rfl (SlE.getN (QuG.slg hb_387).1 encP_len S0 i 0 (by omega) rfl)) trivial ?_
        refine wk_buildSlice (e := 50) (cs := #[.int .i64 ((O_372.getD i S0).m.kind), .int .i64 ((O_372.getD i S0).m.frm), .int .i64 ((O_372.getD i S0).m.to), .int .u32 ((O_372.getD i S0).m.view), .int .u32 ((O_372.getD i S0).m.seq), .slice ((O_372.getD i S0).m.na) ((O_372.getD i S0).m.N.length) ((O_372.getD i S0).m.nc), .slice ((O_372.getD i S0).m.wa) ((O_372.getD i S0).m.W.length) ((O_372.getD i S0).m.wc)]) (opd 84 (.buildSlice 44 1 #[(0, .tmp 83)]) 44) rfl (by kernel_rfl) (fun w_388 b_389 eq_390 e_391 sz_392 hb_393 => ⟨?_, ?_⟩)
        · exact trivial
        obtain ⟨γ_394, hg_395, hn_396⟩ := cls_new γ_250 w_381.heap.size 11907
        have gx_397 := GX.ext0 [] e_391 hg_395
        have hk_398 : Bk γ_394 w_388 b_389 11907 (.cells #[.int .i64 ((O_372.getD i S0).m.kind), .int .i64 ((O_372.getD i S0).m.frm), .int .i64 ((O_372.getD i S0).m.to), .int .u32 ((O_372.getD i S0).m.view), .int .u32 ((O_372.getD i S0).m.seq), .slice ((O_372.getD i S0).m.na) ((O_372.getD i S0).m.N.length) ((O_372.getD i S0).m.nc), .slice ((O_372.getD i S0).m.wa) ((O_372.getD i S0).m.W.length) ((O_372.getD i S0).m.wc)] 50 (0, 0)) := ⟨hb_393, hn_396 _ (by omega)⟩
        have hs_399 : SlE w_388 7 (some ⟨b_389, 0, none⟩) b_389 0 encM [(O_372.getD i S0).m] := SlE.of_cells hk_398.1 encM_len (by rfl)
        have hb_409 := (OwNG.keep (OwNG.keep (OwNG.keep (OwNG.keep (OwNG.keep hr_260 gx_266 ni0) gx_369 ni1) gx_376 ni0) gx_385 ni1) gx_397 ni0)
        have on_410 : OwNG γ_394 w_388 2000 50 7 oA oG oC encM outs orest := hb_409
        refine wk_append (M := ([(O_372.getD i S0).m])) (L := outs) (a := oA) (g := oG) (c := oC) (ax := (some ⟨b_389, 0, none⟩)) (bx := b_389) (offx := 0) (cx := 1) (e := 50) (sz := 7) (by_ := 80) (opd 85 (.call ⟨.builtin .append, #[.tmp 79, .tmp 84], #[44, 44]⟩) 44) rfl (by kernel_rfl) (by kernel_rfl) encM_len (by kernel_rfl) on_410.1 (by kernel_rfl) hs_399 (by simp) encM_one (by constructor <;> (simp only [List.length_singleton]; omega)) (fun w_400 b_401 cap_402 rest_403 hb_404 e_405 sz_406 lt_407 ho_408 => ⟨?_, ?_⟩)
        · exact trivial
        obtain ⟨γ_411, hg_412, hn_413⟩ := cls_new γ_394 w_388.heap.size 2000
        have gx_414 : GX [2000] w_388 γ_394 w_400 γ_411 := OwNG.gx on_410 e_405 hg_412
        have hk_415 : OwnG γ_411 w_400 2000 50 7 b_401 cap_402 encM (outs ++ ([(O_372.getD i S0).m])) rest_403 := ⟨ho_408, OwNG.appc on_410 hb_404 hg_412 hn_413⟩
        have hsz_416 := e_405.size
        refine wpa 5 (.tmp 85) 44 (.slice (some ⟨b_401, 0, none⟩) ((outs ++ ([(O_372.getD i S0).m])).length) cap_402) ?_
        refine wk_nil ?_
        refine blk_n ?_
        refine thn_n ?_
        refine g_region (ops := lX2R1_6) (id := 6) (by kernel_rfl) [pu 0, pu 1, pu 2] (by kernel_rfl) (by kernel_rfl) ?_
        refine wpm 29 (.tmp 6) 3 (.int .i64 ((i : Nat) : Int)) ?_ (Eq.trans (by kernel_rfl) f_253)
        refine wk_pure (opd 30 (.binOp .add 3 (.tmp 29) (.const (.int .i64 1)) 3) 3) rfl (.int .i64 ((i + 1 : Nat) : Int)) (fun _ => y_add (k := .i64) (a := ((i : Nat) : Int)) (b := 1) (by kernel_rfl) (by kernel_rfl) (i64_to (by omega) (by omega))) ?_
        refine wpa 6 (.tmp 30) 3 (.int .i64 ((i + 1 : Nat) : Int)) ?_
        refine wk_nil ?_
        refine thn_n ?_
        have hb_417 := (AllOk.keep (AllOk.keep (AllOk.keep (AllOk.keep (AllOk.keep (AllOk.keep hr_261 gx_266 ni0) gx_369 ni1) gx_376 ni0) gx_385 ni1) gx_397 ni0) gx_414 ni1)
        have hb_418 := (AllOk.keep (AllOk.keep (AllOk.keep (AllOk.keep (AllOk.keep (AllOk.keep hr_256 gx_266 ni0) gx_369 ni1) gx_376 ni0) gx_385 ni1) gx_397 ni0) gx_414 ni1)
        have hadd_ : AllOk γ_411 w_400 (outs ++ [(O_372.getD i S0).m]) := AllOk.add hb_417 ((by rw [hg_O_372]; exact AllOk.getS hb_418 (by omega)) : MOk γ_411 w_400 (O_372.getD i S0).m)
        have hs_ : (O_372.getD i S0).m = (s.out.getD i S0).m := by rw [hg_O_372]
        have hb_419 := (QuG.keep (QuG.keep hb_387 gx_397 ni0) gx_414 ni1)
        have hb_420 := (Bk.keep (Bk.keep hk_386 gx_397 ni0) gx_414 ni1)
        have hb_421 := (OwNG.keep (OwNG.keep (OwNG.keep (OwNG.keep (OwNG.keep (OwNG.keep hr_255 gx_266 ni0) gx_369 ni1) gx_376 ni0) gx_385 ni1) gx_397 ni0) gx_414 ni1)
        have hb_422 := (AllOk.keep (AllOk.keep (AllOk.keep (AllOk.keep (AllOk.keep (AllOk.keep hr_257 gx_266 ni0) gx_369 ni1) gx_376 ni0) gx_385 ni1) gx_397 ni0) gx_414 ni1)
        exact ⟨_, (by omega), ⟨(i + 1), O_372, (max tl (O_372.getD i S0).m.seq), (outs ++ [(O_372.getD i S0).m]), _, b_401, cap_402, rest_403, _, rfl, by omega, by exact hn_O_372, by rw [tickD_fire (by omega) hdue, List.map_append, List.map_append, houts]; show _ ++ [((O_372.getD i S0).m).abs] = _ ++ [(s.out.getD i S0).m.abs]; rw [hs_], by rw [tickD_fire (by omega) hdue, tickT_add, htl, hs_], by rw [hs_]; have h_ := (AllOk.getS hb_418 (by omega : i < s.out.length)).s0; omega, by exact .inr (appNew hb_404 hO (by omega)), by rw [List.length_append, List.length_singleton]; omega, (Eq.trans (by kernel_rfl) f_251), (Eq.trans (by kernel_rfl) f_252), (by kernel_rfl), (by kernel_rfl), hb_421, hb_418, hb_422, (by rw [show (max tl (O_372.getD i S0).m.seq) = ((O_372.getD i S0).m.seq) by omega]; exact hb_420), hb_419, (OwNG.of hk_415), hadd_, (GX.thenNew (GX.then0 (GX.trans (GX.then_same (GX.trans (GX.then_same hE_249 sm_265) gx_369 (by intro c_ hc_; simp only [List.mem_cons, List.not_mem_nil, or_false] at hc_ ⊢; omega)) sm_375) gx_385 (by intro c_ hc_; simp only [List.mem_cons, List.not_mem_nil, or_false] at hc_ ⊢; omega)) e_391 hg_395) e_405 (OwNG.newS hb_409 (by exact hO)) hg_412)⟩⟩
      refine wk_pure (opd 70 (.binOp .gtr 27 (.tmp 65) (.tmp 69) 27) 4) rfl (.bool false) (fun _ => y_gtr (k := .u32) (a := ((O_372.getD i S0).m.seq)) (b := tl) (by kernel_rfl) (by kernel_rfl) (decide_eq_false h_380)) ?_
      refine wk_nil ?_
      refine thn_n ?_
      refine g_cond_f (o := .tmp 70) (x := lX2N1_40) (y := lX2N1_41) (by kernel_rfl) (by kernel_rfl) ?_
      refine g_skip (by kernel_rfl) ?_
      refine thn_n ?_
      refine g_region (ops := lX2R1_12) (id := 12) (by kernel_rfl) [pu 0, pu 1, pu 2, pu 3, lo 4, lo 5, lo 6, pu 7] (by kernel_rfl) (by kernel_rfl) ?_
      refine wpm 79 (.tmp 5) 44 (.slice oA outs.length oC) ?_ (Eq.trans (by kernel_rfl) f_254)
      refine wpm 80 (.tmp 7) 73 (.pointer (some ⟨s.og, s.oo + (i * 8 + 0), none⟩)) ?_
      refine wpn 81 (.tmp 80) ⟨s.og, s.oo + (i * 8 + 0), none⟩ ?_
      refine wk_pure (opd 82 (.fieldAddr 71 (.tmp 81) 0) 0) rfl (.pointer (some ⟨s.og, s.oo + (i * 8 + 0), none⟩)) (fun _ => y_ptr (x_fieldAddr (b := s.og) (off := (s.oo + (i * 8 + 0))) (o := 0) (by kernel_rfl) (by kernel_rfl)) (by omega)) ?_
      refine wk_val (opd 83 (.load 50 (.tmp 82)) 50) rfl (.agg #[.int .i64 ((O_372.getD i S0).m.kind), .int .i64 ((O_372.getD i S0).m.frm), .int .i64 ((O_372.getD i S0).m.to), .int .u32 ((O_372.getD i S0).m.view), .int .u32 ((O_372.getD i S0).m.seq), .slice ((O_372.getD i S0).m.na) ((O_372.getD i S0).m.N.length) ((O_372.getD i S0).m.nc), .slice ((O_372.getD i S0).m.wa) ((O_372.getD i S0).m.W.length) ((O_372.getD i S0).m.wc)]) (x_load_cs (b := s.og) (off := (s.oo + (i * 8 + 0))) (n := 7) (vs := [.int .i64 ((O_372.getD i S0).m.kind), .int .i64 ((O_372.getD i S0).m.frm), .int .i64 ((O_372.getD i S0).m.to), .int .u32 ((O_372.getD i S0).m.view), .int .u32 ((O_372.getD i S0).m.seq), .slice ((O_372.getD i S0).m.na) ((O_372.getD i S0).m.N.length) ((O_372.getD i S0).m.nc), .slice ((O_372.getD i S0).m.wa) ((O_372.getD i S0).m.W.length) ((O_372.getD i S0).m.wc)]) (by kernel_rfl) (by kernel_rfl) rfl (SlE.getN (QuG.slg hb_378).1 encP_len S0 i 0 (by omega) rfl)) trivial ?_
      refine wk_buildSlice (e := 50) (cs := #[.int .i64 ((O_372.getD i S0).m.kind), .int .i64 ((O_372.getD i S0).m.frm), .int .i64 ((O_372.getD i S0).m.to), .int .u32 ((O_372.getD i S0).m.view), .int .u32 ((O_372.getD i S0).m.seq), .slice ((O_372.getD i S0).m.na) ((O_372.getD i S0).m.N.length) ((O_372.getD i S0).m.nc), .slice ((O_372.getD i S0).m.wa) ((O_372.getD i S0).m.W.length) ((O_372.getD i S0).m.wc)]) (opd 84 (.buildSlice 44 1 #[(0, .tmp 83)]) 44) rfl (by kernel_rfl) (fun w_423 b_424 eq_425 e_426 sz_427 hb_428 => ⟨?_, ?_⟩)
      · exact trivial
      obtain ⟨γ_429, hg_430, hn_431⟩ := cls_new γ_250 w_374.heap.size 11908
      have gx_432 := GX.ext0 [] e_426 hg_430
      have hk_433 : Bk γ_429 w_423 b_424 11908 (.cells #[.int .i64 ((O_372.getD i S0).m.kind), .int .i64 ((O_372.getD i S0).m.frm), .int .i64 ((O_372.getD i S0).m.to), .int .u32 ((O_372.getD i S0).m.view), .int .u32 ((O_372.getD i S0).m.seq), .slice ((O_372.getD i S0).m.na) ((O_372.getD i S0).m.N.length) ((O_372.getD i S0).m.nc), .slice ((O_372.getD i S0).m.wa) ((O_372.getD i S0).m.W.length) ((O_372.getD i S0).m.wc)] 50 (0, 0)) := ⟨hb_428, hn_431 _ (by omega)⟩
      have hs_434 : SlE w_423 7 (some ⟨b_424, 0, none⟩) b_424 0 encM [(O_372.getD i S0).m] := SlE.of_cells hk_433.1 encM_len (by rfl)
      have hb_444 := (OwNG.keep (OwNG.keep (OwNG.keep (OwNG.keep hr_260 gx_266 ni0) gx_369 ni1) gx_376 ni0) gx_432 ni0)
      have on_445 : OwNG γ_429 w_423 2000 50 7 oA oG oC encM outs orest := hb_444
      refine wk_append (M := ([(O_372.getD i S0).m])) (L := outs) (a := oA) (g := oG) (c := oC) (ax := (some ⟨b_424, 0, none⟩)) (bx := b_424) (offx := 0) (cx := 1) (e := 50) (sz := 7) (by_ := 80) (opd 85 (.call ⟨.builtin .append, #[.tmp 79, .tmp 84], #[44, 44]⟩) 44) rfl (by kernel_rfl) (by kernel_rfl) encM_len (by kernel_rfl) on_445.1 (by kernel_rfl) hs_434 (by simp) encM_one (by constructor <;> (simp only [List.length_singleton]; omega)) (fun w_435 b_436 cap_437 rest_438 hb_439 e_440 sz_441 lt_442 ho_443 => ⟨?_, ?_⟩)
      · exact trivial
      obtain ⟨γ_446, hg_447, hn_448⟩ := cls_new γ_429 w_423.heap.size 2000
      have gx_449 : GX [2000] w_423 γ_429 w_435 γ_446 := OwNG.gx on_445 e_440 hg_447
      have hk_450 : OwnG γ_446 w_435 2000 50 7 b_436 cap_437 encM (outs ++ ([(O_372.getD i S0).m])) rest_438 := ⟨ho_443, OwNG.appc on_445 hb_439 hg_447 hn_448⟩
      have hsz_451 := e_440.size
      refine wpa 5 (.tmp 85) 44 (.slice (some ⟨b_436, 0, none⟩) ((outs ++ ([(O_372.getD i S0).m])).length) cap_437) ?_
      refine wk_nil ?_
      refine blk_n ?_
      refine thn_n ?_
      refine g_region (ops := lX2R1_6) (id := 6) (by kernel_rfl) [pu 0, pu 1, pu 2] (by kernel_rfl) (by kernel_rfl) ?_
      refine wpm 29 (.tmp 6) 3 (.int .i64 ((i : Nat) : Int)) ?_ (Eq.trans (by kernel_rfl) f_253)
      refine wk_pure (opd 30 (.binOp .add 3 (.tmp 29) (.const (.int .i64 1)) 3) 3) rfl (.int .i64 ((i + 1 : Nat) : Int)) (fun _ => y_add (k := .i64) (a := ((i : Nat) : Int)) (b := 1) (by kernel_rfl) (by kernel_rfl) (i64_to (by omega) (by omega))) ?_
      refine wpa 6 (.tmp 30) 3 (.int .i64 ((i + 1 : Nat) : Int)) ?_
      refine wk_nil ?_
      refine thn_n ?_
      have hb_452 := (AllOk.keep (AllOk.keep (AllOk.keep (AllOk.keep (AllOk.keep hr_261 gx_266 ni0) gx_369 ni1) gx_376 ni0) gx_432 ni0) gx_449 ni1)
      have hb_453 := (AllOk.keep (AllOk.keep (AllOk.keep (AllOk.keep (AllOk.keep hr_256 gx_266 ni0) gx_369 ni1) gx_376 ni0) gx_432 ni0) gx_449 ni1)
      have hadd_ : AllOk γ_446 w_435 (outs ++ [(O_372.getD i S0).m]) := AllOk.add hb_452 ((by rw [hg_O_372]; exact AllOk.getS hb_453 (by omega)) : MOk γ_446 w_435 (O_372.getD i S0).m)
      have hs_ : (O_372.getD i S0).m = (s.out.getD i S0).m := by rw [hg_O_372]
      have hb_454 := (QuG.keep (QuG.keep hb_378 gx_432 ni0) gx_449 ni1)
      have hb_455 := (Bk.keep (Bk.keep hb_379 gx_432 ni0) gx_449 ni1)
      have hb_456 := (OwNG.keep (OwNG.keep (OwNG.keep (OwNG.keep (OwNG.keep hr_255 gx_266 ni0) gx_369 ni1) gx_376 ni0) gx_432 ni0) gx_449 ni1)
      have hb_457 := (AllOk.keep (AllOk.keep (AllOk.keep (AllOk.keep (AllOk.keep hr_257 gx_266 ni0) gx_369 ni1) gx_376 ni0) gx_432 ni0) gx_449 ni1)
      exact ⟨_, (by omega), ⟨(i + 1), O_372, (max tl (O_372.getD i S0).m.seq), (outs ++ [(O_372.getD i S0).m]), _, b_436, cap_437, rest_438, _, rfl, by omega, by exact hn_O_372, by rw [tickD_fire (by omega) hdue, List.map_append, List.map_append, houts]; show _ ++ [((O_372.getD i S0).m).abs] = _ ++ [(s.out.getD i S0).m.abs]; rw [hs_], by rw [tickD_fire (by omega) hdue, tickT_add, htl, hs_], by rw [hs_]; have h_ := (AllOk.getS hb_453 (by omega : i < s.out.length)).s0; omega, by exact .inr (appNew hb_439 hO (by omega)), by rw [List.length_append, List.length_singleton]; omega, (Eq.trans (by kernel_rfl) f_251), (Eq.trans (by kernel_rfl) f_252), (by kernel_rfl), (by kernel_rfl), hb_456, hb_453, hb_457, (by rw [show (max tl (O_372.getD i S0).m.seq) = tl by omega]; exact hb_455), hb_454, (OwNG.of hk_450), hadd_, (GX.thenNew (GX.then0 (GX.then_same (GX.trans (GX.then_same hE_249 sm_265) gx_369 (by intro c_ hc_; simp only [List.mem_cons, List.not_mem_nil, or_false] at hc_ ⊢; omega)) sm_375) e_426 hg_430) e_440 (OwNG.newS hb_444 (by exact hO)) hg_447)⟩⟩
    refine wk_pure (opg 27 (.binOp .lss 3 (.tmp 26) (.const (.int .i64 32)) 3) 4 7 true) (by kernel_rfl) (.bool false) (fun _ => y_lss (k := .i64) (a := ((i : Nat) : Int)) (b := 32) (by kernel_rfl) (by kernel_rfl) (decide_eq_false h_263)) ?_
    refine wpt 28 (.tmp 25) (.tmp 27) (.const (.bool false)) 4 (.bool false) ?_
    refine wk_nil ?_
    refine thn_n ?_
    refine g_cond_f (o := .tmp 28) (x := lX2N1_21) (y := lX2N1_22) (by kernel_rfl) (by kernel_rfl) ?_
    refine g_exit (id := 0) (by kernel_rfl) ?_
    refine thn_e ?_
    refine thn_e ?_
    refine blk_hit ?_
    refine thn_n ?_
    refine g_seq (x := lX2N1_42) (y := lX2N1_43) (by kernel_rfl) ?_
    refine g_region (ops := lX2R1_13) (id := 13) (by kernel_rfl) [pu 0, pu 1] (by kernel_rfl) (by kernel_rfl) ?_
    refine wpm 86 (.tmp 5) 44 (.slice oA outs.length oC) ?_ (Eq.trans (by kernel_rfl) f_254)
    refine wpa 4 (.tmp 86) 44 (.slice oA outs.length oC) ?_
    refine wk_nil ?_
    refine thn_n ?_
    refine g_ret (by kernel_rfl) ?_
    refine ends1_r (v := .slice oA outs.length oC) rfl (by kernel_rfl) ?_
    obtain ⟨γ_458, hr_459, hr_460, hr_461⟩ := recls γ_250 w.heap.size 2000 0
    have gx_462 : GX [2000] w_248 γ_250 w_248 γ_458 := GX.re w_248 hr_460
    have hi_ : i = min s.out.length 32 := by omega
    have hb_463 := (QuG.keep hr_259 gx_462 ni1)
    have hb_464 := (OwNG.keep hr_255 gx_462 ni1)
    have hb_465 := (Bk.keep hr_258 gx_462 ni1)
    have hb_466 := (AllOk.keep hr_256 gx_462 ni1)
    have hb_467 := (AllOk.keep hr_257 gx_462 ni1)
    have hb_468 := (AllOk.keep hr_261 gx_462 ni1)
    exact hK _ _ _ outs (O := O) (nw := nw) (tl := tl) (GX.thenRe hE_249 (fun b_ hb_ => hr_459 b_ (by omega))) ⟨_, _, _, _, rfl, OwNG.slg (OwNG.re hr_260 hr_461 hO), hb_468⟩ ⟨(by have h_ := hb_465; rw [show s.out.length = O.length by omega] at h_; exact h_), hb_463, hb_464, (by rw [hOO, tickO_map]; exact hb_466), hb_467, h_hn, h_b1, h_b2, htb, h_b4, (by show 0 ≤ nw ∧ nw ≤ 9223372036854775807; omega), (by show O.length ≤ 1024; omega), h_l2, (fun j_ hj_ => by show 0 ≤ (O.getD j_ S0).at_ ∧ (O.getD j_ S0).at_ ≤ nw; exact tickO_at' hOO h_l3 (by omega) (by omega) (by omega))⟩ hnw (hi_ ▸ hOO) (hi_ ▸ houts) (hi_ ▸ htl)
  refine wk_pure (opd 24 (.binOp .lss 3 (.tmp 18) (.tmp 23) 3) 4) rfl (.bool false) (fun _ => y_lss (k := .i64) (a := ((i : Nat) : Int)) (b := ((s.out.length : Nat) : Int)) (by kernel_rfl) (by kernel_rfl) (decide_eq_false h_262)) ?_
  refine wpm 25 (.tmp 24) 4 (.bool false) ?_
  refine wks 26 ?_
  refine wks 27 ?_
  refine wpk 28 (.tmp 25) (.tmp 27) (.const (.bool false)) 4 (.bool false) ?_
  refine wk_nil ?_
  refine thn_n ?_
  refine g_cond_f (o := .tmp 28) (x := lX2N1_21) (y := lX2N1_22) (by kernel_rfl) (by kernel_rfl) ?_
  refine g_exit (id := 0) (by kernel_rfl) ?_
  refine thn_e ?_
  refine thn_e ?_
  refine blk_hit ?_
  refine thn_n ?_
  refine g_seq (x := lX2N1_42) (y := lX2N1_43) (by kernel_rfl) ?_
  refine g_region (ops := lX2R1_13) (id := 13) (by kernel_rfl) [pu 0, pu 1] (by kernel_rfl) (by kernel_rfl) ?_
  refine wpm 86 (.tmp 5) 44 (.slice oA outs.length oC) ?_ (Eq.trans (by kernel_rfl) f_254)
  refine wpa 4 (.tmp 86) 44 (.slice oA outs.length oC) ?_
  refine wk_nil ?_
  refine thn_n ?_
  refine g_ret (by kernel_rfl) ?_
  refine ends1_r (v := .slice oA outs.length oC) rfl (by kernel_rfl) ?_
  obtain ⟨γ_469, hr_470, hr_471, hr_472⟩ := recls γ_250 w.heap.size 2000 0
  have gx_473 : GX [2000] w_248 γ_250 w_248 γ_469 := GX.re w_248 hr_471
  have hi_ : i = min s.out.length 32 := by omega
  have hb_474 := (QuG.keep hr_259 gx_473 ni1)
  have hb_475 := (OwNG.keep hr_255 gx_473 ni1)
  have hb_476 := (Bk.keep hr_258 gx_473 ni1)
  have hb_477 := (AllOk.keep hr_256 gx_473 ni1)
  have hb_478 := (AllOk.keep hr_257 gx_473 ni1)
  have hb_479 := (AllOk.keep hr_261 gx_473 ni1)
  exact hK _ _ _ outs (O := O) (nw := nw) (tl := tl) (GX.thenRe hE_249 (fun b_ hb_ => hr_470 b_ (by omega))) ⟨_, _, _, _, rfl, OwNG.slg (OwNG.re hr_260 hr_472 hO), hb_479⟩ ⟨(by have h_ := hb_476; rw [show s.out.length = O.length by omega] at h_; exact h_), hb_474, hb_475, (by rw [hOO, tickO_map]; exact hb_477), hb_478, h_hn, h_b1, h_b2, htb, h_b4, (by show 0 ≤ nw ∧ nw ≤ 9223372036854775807; omega), (by show O.length ≤ 1024; omega), h_l2, (fun j_ hj_ => by show 0 ≤ (O.getD j_ S0).at_ ∧ (O.getD j_ S0).at_ ≤ nw; exact tickO_at' hOO h_l3 (by omega) (by omega) (by omega))⟩ hnw (hi_ ▸ hOO) (hi_ ▸ houts) (hi_ ▸ htl)

end Go.Proofs.Ytpcdldakilkldaa
