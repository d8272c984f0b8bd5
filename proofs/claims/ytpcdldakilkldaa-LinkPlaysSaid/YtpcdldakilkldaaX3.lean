/-
  Links: contracts of functions, step by step (X3).
-/
import Derived.Test.YtpcdldakilkldaaX1
import Derived.Test.YtpcdldakilkldaaLH
set_option linter.unusedSimpArgs false
set_option linter.unusedVariables false
namespace Go.Proofs.Ytpcdldakilkldaa
open Go Go.Wk

theorem cutA_none {a : Option Addr} {c l sz : Nat} (h : a = none → c = 0) (e : cutA a c l sz = none) : c - l = 0 := by
  unfold cutA at e
  split at e
  · omega
  · cases a with
    | none => rw [h rfl]; exact Nat.zero_sub _
    | some x => cases e
theorem OwNG.le {γ : Nat → Nat} {w : World} {c e sz g cap : Nat} {a : Option Addr} {L : List MsgR} {rest : List Value} (h : OwNG γ w c e sz a g cap encM L rest) : L.length ≤ cap := by
  rcases h.1 with ⟨_, _, rfl⟩ | ⟨_, h⟩
  · exact Nat.zero_le _
  · exact h.le
theorem getD_drop {L : List SndR} {d : Nat} : (L.drop d).getD 0 S0 = L.getD d S0 := by simp [List.getD]
theorem erase_cuts {L : List MsgR} {i : Nat} (h : i < L.length) : ([] ++ (L.drop 0).take (i - 0)) ++ (L.drop (i + 1)).take (L.length - (i + 1)) = L.eraseIdx i := by
  rw [List.eraseIdx_eq_take_drop_succ, List.nil_append, List.drop_zero, Nat.sub_zero, List.take_of_length_le (l := L.drop (i + 1)) (by rw [List.length_drop]; exact Nat.le_refl _)]
theorem drop_ok {γ : Nat → Nat} {w : World} {L : List SndR} (h : AllOk γ w (L.map (·.m))) (d : Nat) : AllOk γ w ((L.drop d).map (·.m)) := h.sub fun m hm => by
  obtain ⟨x, hx, rfl⟩ := List.mem_map.1 hm
  exact List.mem_map.2 ⟨x, List.mem_of_mem_drop hx, rfl⟩
theorem l3_drop {b : Int} {L : List SndR} (h : ∀ j, j < L.length → 0 ≤ (L.getD j S0).at_ ∧ (L.getD j S0).at_ ≤ b) (d : Nat) : ∀ j, j < (L.drop d).length → 0 ≤ ((L.drop d).getD j S0).at_ ∧ ((L.drop d).getD j S0).at_ ≤ b := by
  intro j hj
  rw [List.length_drop] at hj
  have := h (d + j) (by omega)
  simpa [List.getD, List.getElem?_drop] using this

noncomputable def lX3N1_0 : Code := (Try.f20.body).getD .skip
noncomputable def lX3N1_1 : Code := s1 lX3N1_0
noncomputable def lX3N1_2 : Code := s2 lX3N1_0
noncomputable def lX3R1_0 : Array Oper := rops lX3N1_1
noncomputable def lX3N1_3 : Code := s1 lX3N1_2
noncomputable def lX3N1_4 : Code := s2 lX3N1_2
noncomputable def lX3N1_5 : Code := s1 lX3N1_3
noncomputable def lX3N1_6 : Code := s2 lX3N1_3
noncomputable def lX3R1_1 : Array Oper := rops lX3N1_5
noncomputable def lX3N1_7 : Code := s1 lX3N1_6
noncomputable def lX3N1_8 : Code := s2 lX3N1_6
noncomputable def lX3N1_9 : Code := s1 lX3N1_7
noncomputable def lX3N1_10 : Code := s2 lX3N1_7
noncomputable def lX3R1_2 : Array Oper := rops lX3N1_9
noncomputable def lX3N1_11 : Code := s1 lX3N1_4
noncomputable def lX3N1_12 : Code := s2 lX3N1_4
noncomputable def lX3N1_13 : Code := s1 lX3N1_11
noncomputable def lX3N1_14 : Code := s2 lX3N1_11
noncomputable def lX3R1_3 : Array Oper := rops lX3N1_13
noncomputable def lX3N1_15 : Code := s1 lX3N1_14
noncomputable def lX3N1_16 : Code := s2 lX3N1_14
noncomputable def lX3N1_17 : Code := s1 lX3N1_15
noncomputable def lX3N1_18 : Code := s2 lX3N1_15
noncomputable def lX3R1_4 : Array Oper := rops lX3N1_17
noncomputable def lX3N1_19 : Code := s1 lX3N1_12
noncomputable def lX3N1_20 : Code := s2 lX3N1_12
noncomputable def lX3N1_21 : Code := s1 lX3N1_19
noncomputable def lX3N1_22 : Code := s2 lX3N1_19
noncomputable def lX3R1_5 : Array Oper := rops lX3N1_21
noncomputable def lX3N1_23 : Code := s1 lX3N1_22
noncomputable def lX3N1_24 : Code := s2 lX3N1_22
noncomputable def lX3N1_25 : Code := s1 lX3N1_23
noncomputable def lX3N1_26 : Code := s2 lX3N1_23
noncomputable def lX3N1_27 : Code := s1 lX3N1_25
noncomputable def lX3N1_28 : Code := s2 lX3N1_25
noncomputable def lX3R1_6 : Array Oper := rops lX3N1_27
noncomputable def lX3N1_29 : Code := s1 lX3N1_28
noncomputable def lX3N1_30 : Code := s2 lX3N1_28
noncomputable def lX3N1_31 : Code := s1 lX3N1_29
noncomputable def lX3N1_32 : Code := s2 lX3N1_29
noncomputable def lX3R1_7 : Array Oper := rops lX3N1_31
noncomputable def lX3N1_33 : Code := s1 lX3N1_26
noncomputable def lX3N1_34 : Code := s2 lX3N1_26
noncomputable def lX3N1_35 : Code := s1 lX3N1_33
noncomputable def lX3N1_36 : Code := s1 lX3N1_35
noncomputable def lX3N1_37 : Code := s1 lX3N1_36
noncomputable def lX3N1_38 : Code := s2 lX3N1_36
noncomputable def lX3N1_39 : Code := s1 lX3N1_37
noncomputable def lX3N1_40 : Code := s2 lX3N1_37
noncomputable def lX3R1_8 : Array Oper := rops lX3N1_39
noncomputable def lX3N1_41 : Code := s1 lX3N1_40
noncomputable def lX3N1_42 : Code := s2 lX3N1_40
noncomputable def lX3N1_43 : Code := s1 lX3N1_38
noncomputable def lX3R1_9 : Array Oper := rops lX3N1_43
noncomputable def lX3N1_44 : Code := s1 lX3N1_34
noncomputable def lX3N1_45 : Code := s2 lX3N1_34
noncomputable def lX3R1_10 : Array Oper := rops lX3N1_44
noncomputable def lX3N1_46 : Code := s1 lX3N1_20
noncomputable def lX3N1_47 : Code := s2 lX3N1_20
noncomputable def lX3N1_48 : Code := s1 lX3N1_46
noncomputable def lX3N1_49 : Code := s2 lX3N1_46
noncomputable def lX3R1_11 : Array Oper := rops lX3N1_48
noncomputable def lX3N1_50 : Code := s1 lX3N1_49
noncomputable def lX3N1_51 : Code := s2 lX3N1_49
noncomputable def lX3N1_52 : Code := s1 lX3N1_50
noncomputable def lX3N1_53 : Code := s2 lX3N1_50
noncomputable def lX3R1_12 : Array Oper := rops lX3N1_52
noncomputable def lX3N1_54 : Code := s1 lX3N1_47
noncomputable def lX3N1_55 : Code := s2 lX3N1_47
noncomputable def lX3N1_56 : Code := s1 lX3N1_54
noncomputable def lX3N1_57 : Code := s2 lX3N1_54
noncomputable def lX3R1_13 : Array Oper := rops lX3N1_56
noncomputable def lX3N1_58 : Code := s1 lX3N1_57
noncomputable def lX3N1_59 : Code := s2 lX3N1_57
noncomputable def lX3N1_60 : Code := s1 lX3N1_58
noncomputable def lX3N1_61 : Code := s2 lX3N1_58
noncomputable def lX3R1_14 : Array Oper := rops lX3N1_60
noncomputable def lX3N1_62 : Code := s1 lX3N1_55
noncomputable def lX3N1_63 : Code := s2 lX3N1_55
noncomputable def lX3N1_64 : Code := s1 lX3N1_62
noncomputable def lX3N1_65 : Code := s2 lX3N1_62
noncomputable def lX3R1_15 : Array Oper := rops lX3N1_64
noncomputable def lX3N1_66 : Code := s1 lX3N1_65
noncomputable def lX3N1_67 : Code := s2 lX3N1_65
noncomputable def lX3N1_68 : Code := s1 lX3N1_66
noncomputable def lX3N1_69 : Code := s2 lX3N1_66
noncomputable def lX3R1_16 : Array Oper := rops lX3N1_68
noncomputable def lX3N1_70 : Code := s1 lX3N1_63
noncomputable def lX3N1_71 : Code := s2 lX3N1_63
noncomputable def lX3R1_17 : Array Oper := rops lX3N1_70
noncomputable def lX3N1_72 : Code := s1 lX3N1_71
noncomputable def lX3N1_73 : Code := s2 lX3N1_71
noncomputable def lX3R1_18 : Array Oper := rops lX3N1_72
noncomputable def lX3N1_74 : Code := s1 lX3N1_73
noncomputable def lX3N1_75 : Code := s2 lX3N1_73
noncomputable def lX3N1_76 : Code := s1 lX3N1_74
noncomputable def lX3N1_77 : Code := s1 lX3N1_76
noncomputable def lX3N1_78 : Code := s1 lX3N1_77
noncomputable def lX3N1_79 : Code := s1 lX3N1_78
noncomputable def lX3N1_80 : Code := s2 lX3N1_78
noncomputable def lX3R1_19 : Array Oper := rops lX3N1_79
noncomputable def lX3N1_81 : Code := s1 lX3N1_80
noncomputable def lX3N1_82 : Code := s2 lX3N1_80
noncomputable def lX3N1_83 : Code := s1 lX3N1_81
noncomputable def lX3N1_84 : Code := s2 lX3N1_81
noncomputable def lX3R1_20 : Array Oper := rops lX3N1_83
noncomputable def lX3N1_85 : Code := s1 lX3N1_84
noncomputable def lX3N1_86 : Code := s2 lX3N1_84
noncomputable def lX3N1_87 : Code := s1 lX3N1_82
noncomputable def lX3N1_88 : Code := s2 lX3N1_82
noncomputable def lX3R1_21 : Array Oper := rops lX3N1_87
noncomputable def lX3N1_89 : Code := s1 lX3N1_88
noncomputable def lX3N1_90 : Code := s2 lX3N1_88
noncomputable def lX3R1_22 : Array Oper := rops lX3N1_89
noncomputable def lX3R1_23 : Array Oper := rops lX3N1_90
noncomputable def lX3N1_91 : Code := s1 lX3N1_75
noncomputable def lX3N1_92 : Code := s2 lX3N1_75
noncomputable def lX3R1_24 : Array Oper := rops lX3N1_91
set_option maxHeartbeats 2000000 in
theorem getR_c {s : RfR} {k p : Nat} {w : World} {γ : Nat → Nat} (h : RefAt γ w k p s) (hk : 10 ≤ k ∧ k ≤ 900) {m : MsgR} (hm : MOk γ w m) (hh : s.held.length < 1000000) (hc : s.come + s.held.length + 5 < 4294967296) {K : Value → World → Prop} (h1 : m.frm ≠ s.peer ∨ m.to ≠ s.own → ∀ w' γ', GX [] w γ w' γ' → K (.tuple #[.slice none 0 0, .slice none 0 0, .int .i64 1]) w')
    (h2 : (m.frm = s.peer ∧ m.to = s.own) → m.view ≠ s.view → ∀ w' γ', GX [] w γ w' γ' → K (.tuple #[.slice none 0 0, .slice none 0 0, .int .i64 8]) w')
    (h3 : (m.frm = s.peer ∧ m.to = s.own) → m.view = s.view → m.kind = 1 → (m.seq ≠ 0 ∨ 0 < m.W.length ∨ m.N.length ≠ 1 ∨ m.N.getD 0 0 < 0 ∨ s.told < m.N.getD 0 0) → ∀ w' γ', GX [] w γ w' γ' → K (.tuple #[.slice none 0 0, .slice none 0 0, .int .i64 3]) w')
    (h4 : (m.frm = s.peer ∧ m.to = s.own) → m.view = s.view → m.kind = 1 → ¬ (m.seq ≠ 0 ∨ 0 < m.W.length ∨ m.N.length ≠ 1 ∨ m.N.getD 0 0 < 0 ∨ s.told < m.N.getD 0 0) → ∀ w' γ' d {oa oo oc}, GX [k, k + 1, k + 2] w γ w' γ' → d ≤ s.out.length → (∀ j, j < d → (s.out.getD j S0).m.seq ≤ m.N.getD 0 0) → (d < s.out.length → m.N.getD 0 0 < (s.out.getD d S0).m.seq) →
      RefAt γ' w' k p { s with oa := oa, oo := oo, oc := oc, out := s.out.drop d } → K (.tuple #[.slice none 0 0, .slice none 0 0, .int .i64 0]) w')
    (h5 : (m.frm = s.peer ∧ m.to = s.own) → m.view = s.view → m.kind ≠ 1 → m.seq = 0 → ∀ w' γ', GX [] w γ w' γ' → K (.tuple #[.slice none 0 0, .slice none 0 0, .int .i64 3]) w')
    (h6 : (m.frm = s.peer ∧ m.to = s.own) → m.view = s.view → m.kind ≠ 1 → m.seq ≠ 0 → (m.seq ≤ s.come ∨ ∃ j, idxOf (s.held.map MsgR.abs) m.seq = some j) → ∀ w' γ' v (r : MsgR), GX [] w γ w' γ' → MsgsAt γ' w' v [r] →
      r.abs = ⟨1, s.own, s.peer, s.view, 0, [s.come], []⟩ → K (.tuple #[.slice none 0 0, v, .int .i64 8]) w')
    (h7 : (m.frm = s.peer ∧ m.to = s.own) → m.view = s.view → m.kind ≠ 1 → m.seq ≠ 0 → s.come < m.seq → idxOf (s.held.map MsgR.abs) m.seq = none → 32 < m.seq - s.come → ∀ w' γ', GX [] w γ w' γ' → K (.tuple #[.slice none 0 0, .slice none 0 0, .int .i64 6]) w')
    (h8 : (m.frm = s.peer ∧ m.to = s.own) → m.view = s.view → m.kind ≠ 1 → m.seq ≠ 0 → s.come < m.seq → idxOf (s.held.map MsgR.abs) m.seq = none → m.seq - s.come ≤ 32 → ∀ w' γ' v v2 (outs : List MsgR) (r : MsgR) {L : List MsgR} {la lg lc lrest nx}, GX [k, k + 1, k + 2] w γ w' γ' →
      MsgsAt γ' w' v outs → MsgsAt γ' w' v2 [r] → RefAt γ' w' k p { s with come := nx, ha := la, hg := lg, hc := lc, held := L, hrest := lrest } →
      (outs.map MsgR.abs, L.map MsgR.abs, nx + 1) = readyG (s.held.length + 2) [] (s.held.map MsgR.abs ++ [m.abs]) (s.come + 1) → r.abs = ⟨1, s.own, s.peer, s.view, 0, [nx], []⟩ → K (.tuple #[v, v2, .int .i64 0]) w') : CallsV Try.prog 20 #[.pointer (some ⟨p, 0, none⟩), .agg #[.int .i64 m.kind, .int .i64 m.frm, .int .i64 m.to, .int .u32 m.view, .int .u32 m.seq, .slice m.na m.N.length m.nc, .slice m.wa m.W.length m.wc]] w K := by
  refine callsV_of (c := lX3N1_0) Try.func20 (by kernel_rfl) (n := 184) (by kernel_rfl) ?_
  have hp : Bk γ w p k (.cells #[.int .i64 s.own, .int .i64 s.peer, .int .u32 s.view, .slice s.oa s.out.length s.oc, .int .u32 s.last, .int .u32 0, .int .u32 s.told, .slice s.ha s.held.length s.hc, .int .u32 s.come, .int .i64 s.now] 46 (0, 0)) := h.hp
  have h_b1 := h.b1
  have h_b2 := h.b2
  have h_b3 := h.b3
  have h_b4 := h.b4
  have h_b5 := h.b5
  have h_l1 := h.l1
  have h_l2 := h.l2
  have h_l3 := h.l3
  have h_hn := h.hn
  have h_pl := hp.lt
  have hmv := hm.v0
  have hms := hm.s0
  have hnr := hm.nr 0
  refine g_seq (x := lX3N1_1) (y := lX3N1_2) (by kernel_rfl) ?_
  refine g_region (ops := lX3R1_0) (id := 0) (by kernel_rfl) [lo 0, pu 1, pu 2, pu 3] (by kernel_rfl) (by kernel_rfl) ?_
  refine wk_box (cs := #[.int .i64 m.kind, .int .i64 m.frm, .int .i64 m.to, .int .u32 m.view, .int .u32 m.seq, .slice m.na m.N.length m.nc, .slice m.wa m.W.length m.wc]) (opd 3 (.box 50 (.tmp 1)) 0) rfl (by kernel_rfl) (fun w_2 b_1 eq_4 e_3 sz_5 hb_6 => ⟨?_, ?_⟩)
  · exact trivial
  obtain ⟨γ_7, hg_8, hn_9⟩ := cls_new γ w.heap.size 12001
  have gx_10 := GX.ext0 [] e_3 hg_8
  have hk_11 : Bk γ_7 w_2 b_1 12001 (.cells #[.int .i64 m.kind, .int .i64 m.frm, .int .i64 m.to, .int .u32 m.view, .int .u32 m.seq, .slice m.na m.N.length m.nc, .slice m.wa m.W.length m.wc] 50 (0, 0)) := ⟨hb_6, hn_9 _ (by omega)⟩
  refine wpa 4 (.const (.slice none 0 0)) 44 (.slice none 0 0) ?_
  refine wpa 5 (.const (.slice none 0 0)) 44 (.slice none 0 0) ?_
  refine wpa 6 (.const (.int .i64 0)) 24 (.int .i64 0) ?_
  refine wk_nil ?_
  refine thn_n ?_
  refine g_seq (x := lX3N1_3) (y := lX3N1_4) (by kernel_rfl) ?_
  refine g_seq (x := lX3N1_5) (y := lX3N1_6) (by kernel_rfl) ?_
  refine g_draw (ops := lX3R1_1) (id := 1) (by kernel_rfl) (fun _ _ => True) [pu 0, pu 2, pu 3, pu 4, rd 1, rd 5, pu 6, pu 7, pu 8, pu 10, pu 11, pu 12, rd 9, rd 13, pu 14, pu 15] (by kernel_rfl) (by kernel_rfl) (fun _ => trivial) (fun w_12 sm_13 => ?_)
  have gx_14 := GX.same [] γ_7 sm_13
  have hsz_15 : w_12.heap.size = w_2.heap.size := by rw [sm_13.heap]
  refine wpf 9 50 (.tmp 3) 1 b_1 0 1 1 ?_
  refine wpm 11 (.tmp 0) 42 (.pointer (some ⟨p, 0, none⟩)) ?_
  refine wpn 12 (.tmp 11) ⟨p, 0, none⟩ ?_
  refine wpf 13 46 (.tmp 12) 1 p 0 1 1 ?_
  have hb_16 := (Bk.keep hk_11 gx_14 ni0)
  refine wk_read (opd 10 (.load 3 (.tmp 9)) 3) rfl (.int .i64 m.frm) (fun w'_ g_ => x_load (b := b_1) (off := 1) (by kernel_rfl) (by kernel_rfl) (g_.keep hb_16.1) (by kernel_rfl)) ?_
  have hb_17 : Bk γ_7 w_12 p k (.cells #[.int .i64 s.own, .int .i64 s.peer, .int .u32 s.view, .slice s.oa s.out.length s.oc, .int .u32 s.last, .int .u32 0, .int .u32 s.told, .slice s.ha s.held.length s.hc, .int .u32 s.come, .int .i64 s.now] 46 (0, 0)) := (Bk.keep (Bk.keep hp gx_10 ni0) gx_14 ni0)
  refine wk_read (opd 14 (.load 3 (.tmp 13)) 3) rfl (.int .i64 s.peer) (fun w'_ g_ => x_load (b := p) (off := 1) (by kernel_rfl) (by kernel_rfl) (g_.keep hb_17.1) (by kernel_rfl)) ?_
  by_cases h_18 : (m.frm : Int) ≠ s.peer
  · refine wk_pure (opd 15 (.binOp .neq 3 (.tmp 10) (.tmp 14) 3) 4) rfl (.bool true) (fun _ => y_neq (k := .i64) (a := m.frm) (b := s.peer) (by kernel_rfl) (by kernel_rfl) (decide_eq_true h_18)) ?_
    refine wpm 16 (.tmp 15) 4 (.bool true) ?_
    refine wks 17 ?_
    refine wks 19 ?_
    refine wks 20 ?_
    refine wks 21 ?_
    refine wks 18 ?_
    refine wks 22 ?_
    refine wks 23 ?_
    refine wpt 24 (.tmp 16) (.const (.bool true)) (.tmp 23) 4 (.bool true) ?_
    refine wk_nil ?_
    refine thn_n ?_
    refine g_cond_t (o := .tmp 24) (x := lX3N1_7) (y := lX3N1_8) (by kernel_rfl) (by kernel_rfl) ?_
    refine g_seq (x := lX3N1_9) (y := lX3N1_10) (by kernel_rfl) ?_
    refine g_region (ops := lX3R1_2) (id := 2) (by kernel_rfl) [pu 0, pu 1, pu 2] (by kernel_rfl) (by kernel_rfl) ?_
    refine wpa 4 (.const (.slice none 0 0)) 44 (.slice none 0 0) ?_
    refine wpa 5 (.const (.slice none 0 0)) 44 (.slice none 0 0) ?_
    refine wpa 6 (.const (.int .i64 1)) 24 (.int .i64 1) ?_
    refine wk_nil ?_
    refine thn_n ?_
    refine g_ret (by kernel_rfl) ?_
    refine thn_r ?_
    refine ends3_r (v := .slice none 0 0) (v' := .slice none 0 0) (v'' := .int .i64 1) rfl (by kernel_rfl) (by kernel_rfl) (by kernel_rfl) ?_
    exact h1 (by omega) _ _ (GX.then_same (GX.then0 (GX.refl [] _ _) e_3 hg_8) sm_13)
  refine wk_pure (opd 15 (.binOp .neq 3 (.tmp 10) (.tmp 14) 3) 4) rfl (.bool false) (fun _ => y_neq (k := .i64) (a := m.frm) (b := s.peer) (by kernel_rfl) (by kernel_rfl) (decide_eq_false h_18)) ?_
  refine wpm 16 (.tmp 15) 4 (.bool false) ?_
  refine wk_pure (opg 17 (.fieldAddr 50 (.tmp 3) 2) 0 7 false) (by kernel_rfl) (.pointer (some ⟨b_1, 2, none⟩)) (fun _ => x_fieldAddr (b := b_1) (off := 0) (o := 2) (by kernel_rfl) (by kernel_rfl)) ?_
  refine wk_pure (opg 19 (.move (.tmp 0)) 42 7 false) (by kernel_rfl) (.pointer (some ⟨p, 0, none⟩)) (fun _ => y_move (by kernel_rfl)) ?_
  refine wk_pure (opg 20 (.nilCheck (.tmp 19)) 0 7 false) (by kernel_rfl) (.pointer (some ⟨p, 0, none⟩)) (fun _ => x_nilCheck (by kernel_rfl)) ?_
  refine wk_pure (opg 21 (.fieldAddr 46 (.tmp 20) 0) 0 7 false) (by kernel_rfl) (.pointer (some ⟨p, 0, none⟩)) (fun _ => x_fieldAddr (b := p) (off := 0) (o := 0) (by kernel_rfl) (by kernel_rfl)) ?_
  refine wk_read (opg 18 (.load 3 (.tmp 17)) 3 7 false) (by kernel_rfl) (.int .i64 m.to) (fun w'_ g_ => x_load (b := b_1) (off := 2) (by kernel_rfl) (by kernel_rfl) (g_.keep hb_16.1) (by kernel_rfl)) ?_
  refine wk_read (opg 22 (.load 3 (.tmp 21)) 3 7 false) (by kernel_rfl) (.int .i64 s.own) (fun w'_ g_ => x_load (b := p) (off := 0) (by kernel_rfl) (by kernel_rfl) (g_.keep hb_17.1) (by kernel_rfl)) ?_
  by_cases h_19 : (m.to : Int) ≠ s.own
  · refine wk_pure (opg 23 (.binOp .neq 3 (.tmp 18) (.tmp 22) 3) 4 7 false) (by kernel_rfl) (.bool true) (fun _ => y_neq (k := .i64) (a := m.to) (b := s.own) (by kernel_rfl) (by kernel_rfl) (decide_eq_true h_19)) ?_
    refine wpk 24 (.tmp 16) (.const (.bool true)) (.tmp 23) 4 (.bool true) ?_
    refine wk_nil ?_
    refine thn_n ?_
    refine g_cond_t (o := .tmp 24) (x := lX3N1_7) (y := lX3N1_8) (by kernel_rfl) (by kernel_rfl) ?_
    refine g_seq (x := lX3N1_9) (y := lX3N1_10) (by kernel_rfl) ?_
    refine g_region (ops := lX3R1_2) (id := 2) (by kernel_rfl) [pu 0, pu 1, pu 2] (by kernel_rfl) (by kernel_rfl) ?_
    refine wpa 4 (.const (.slice none 0 0)) 44 (.slice none 0 0) ?_
    refine wpa 5 (.const (.slice none 0 0)) 44 (.slice none 0 0) ?_
    refine wpa 6 (.const (.int .i64 1)) 24 (.int .i64 1) ?_
    refine wk_nil ?_
    refine thn_n ?_
    refine g_ret (by kernel_rfl) ?_
    refine thn_r ?_
    refine ends3_r (v := .slice none 0 0) (v' := .slice none 0 0) (v'' := .int .i64 1) rfl (by kernel_rfl) (by kernel_rfl) (by kernel_rfl) ?_
    exact h1 (by omega) _ _ (GX.then_same (GX.then0 (GX.refl [] _ _) e_3 hg_8) sm_13)
  refine wk_pure (opg 23 (.binOp .neq 3 (.tmp 18) (.tmp 22) 3) 4 7 false) (by kernel_rfl) (.bool false) (fun _ => y_neq (k := .i64) (a := m.to) (b := s.own) (by kernel_rfl) (by kernel_rfl) (decide_eq_false h_19)) ?_
  refine wpk 24 (.tmp 16) (.const (.bool true)) (.tmp 23) 4 (.bool false) ?_
  refine wk_nil ?_
  refine thn_n ?_
  refine g_cond_f (o := .tmp 24) (x := lX3N1_7) (y := lX3N1_8) (by kernel_rfl) (by kernel_rfl) ?_
  refine g_skip (by kernel_rfl) ?_
  refine thn_n ?_
  refine g_seq (x := lX3N1_11) (y := lX3N1_12) (by kernel_rfl) ?_
  refine g_seq (x := lX3N1_13) (y := lX3N1_14) (by kernel_rfl) ?_
  refine g_draw (ops := lX3R1_3) (id := 3) (by kernel_rfl) (fun _ _ => True) [pu 0, pu 2, pu 3, pu 4, rd 1, rd 5, pu 6] (by kernel_rfl) (by kernel_rfl) (fun _ => trivial) (fun w_20 sm_21 => ?_)
  have gx_22 := GX.same [] γ_7 sm_21
  have hsz_23 : w_20.heap.size = w_12.heap.size := by rw [sm_21.heap]
  refine wpf 25 50 (.tmp 3) 3 b_1 0 3 3 ?_
  refine wpm 27 (.tmp 0) 42 (.pointer (some ⟨p, 0, none⟩)) ?_
  refine wpn 28 (.tmp 27) ⟨p, 0, none⟩ ?_
  refine wpf 29 46 (.tmp 28) 2 p 0 2 2 ?_
  have hb_24 := (Bk.keep hb_16 gx_22 ni0)
  refine wk_read (opd 26 (.load 27 (.tmp 25)) 27) rfl (.int .u32 m.view) (fun w'_ g_ => x_load (b := b_1) (off := 3) (by kernel_rfl) (by kernel_rfl) (g_.keep hb_24.1) (by kernel_rfl)) ?_
  have hb_25 := (Bk.keep hb_17 gx_22 ni0)
  refine wk_read (opd 30 (.load 27 (.tmp 29)) 27) rfl (.int .u32 s.view) (fun w'_ g_ => x_load (b := p) (off := 2) (by kernel_rfl) (by kernel_rfl) (g_.keep hb_25.1) (by kernel_rfl)) ?_
  by_cases h_26 : (m.view : Int) ≠ s.view
  · refine wk_pure (opd 31 (.binOp .neq 27 (.tmp 26) (.tmp 30) 27) 4) rfl (.bool true) (fun _ => y_neq (k := .u32) (a := m.view) (b := s.view) (by kernel_rfl) (by kernel_rfl) (decide_eq_true h_26)) ?_
    refine wk_nil ?_
    refine thn_n ?_
    refine g_cond_t (o := .tmp 31) (x := lX3N1_15) (y := lX3N1_16) (by kernel_rfl) (by kernel_rfl) ?_
    refine g_seq (x := lX3N1_17) (y := lX3N1_18) (by kernel_rfl) ?_
    refine g_region (ops := lX3R1_4) (id := 4) (by kernel_rfl) [pu 0, pu 1, pu 2] (by kernel_rfl) (by kernel_rfl) ?_
    refine wpa 4 (.const (.slice none 0 0)) 44 (.slice none 0 0) ?_
    refine wpa 5 (.const (.slice none 0 0)) 44 (.slice none 0 0) ?_
    refine wpa 6 (.const (.int .i64 8)) 24 (.int .i64 8) ?_
    refine wk_nil ?_
    refine thn_n ?_
    refine g_ret (by kernel_rfl) ?_
    refine thn_r ?_
    refine ends3_r (v := .slice none 0 0) (v' := .slice none 0 0) (v'' := .int .i64 8) rfl (by kernel_rfl) (by kernel_rfl) (by kernel_rfl) ?_
    exact h2 (by omega) (by omega) _ _ (GX.then_same (GX.then_same (GX.then0 (GX.refl [] _ _) e_3 hg_8) sm_13) sm_21)
  refine wk_pure (opd 31 (.binOp .neq 27 (.tmp 26) (.tmp 30) 27) 4) rfl (.bool false) (fun _ => y_neq (k := .u32) (a := m.view) (b := s.view) (by kernel_rfl) (by kernel_rfl) (decide_eq_false h_26)) ?_
  refine wk_nil ?_
  refine thn_n ?_
  refine g_cond_f (o := .tmp 31) (x := lX3N1_15) (y := lX3N1_16) (by kernel_rfl) (by kernel_rfl) ?_
  refine g_skip (by kernel_rfl) ?_
  refine thn_n ?_
  refine g_seq (x := lX3N1_19) (y := lX3N1_20) (by kernel_rfl) ?_
  refine g_seq (x := lX3N1_21) (y := lX3N1_22) (by kernel_rfl) ?_
  refine g_region (ops := lX3R1_5) (id := 5) (by kernel_rfl) [pu 0, lo 1, pu 2] (by kernel_rfl) (by kernel_rfl) ?_
  refine wpf 32 50 (.tmp 3) 0 b_1 0 0 0 ?_
  refine wpl 33 3 (.tmp 32) (.int .i64 m.kind) b_1 0 hb_24.1 ?_
  by_cases h_27 : (m.kind : Int) = 1
  · refine wk_pure (opd 34 (.binOp .eql 3 (.tmp 33) (.const (.int .i64 1)) 3) 4) rfl (.bool true) (fun _ => y_eql (k := .i64) (a := m.kind) (b := 1) (by kernel_rfl) (by kernel_rfl) (decide_eq_true h_27)) ?_
    refine wk_nil ?_
    refine thn_n ?_
    refine g_cond_t (o := .tmp 34) (x := lX3N1_23) (y := lX3N1_24) (by kernel_rfl) (by kernel_rfl) ?_
    refine g_seq (x := lX3N1_25) (y := lX3N1_26) (by kernel_rfl) ?_
    refine g_seq (x := lX3N1_27) (y := lX3N1_28) (by kernel_rfl) ?_
    refine g_draw (ops := lX3R1_6) (id := 6) (by kernel_rfl) (fun _ _ => True) [pu 0, rd 1, pu 2, pu 3, pu 4, pu 5, rd 6, pu 7, pu 8, pu 9, pu 10, pu 11, rd 12, pu 13, pu 14, pu 15, pu 16, rd 17, pu 18, rd 19, pu 20, pu 21, pu 22, pu 23, pu 27, pu 28, pu 29, rd 24, pu 25, rd 26, rd 30, pu 31, pu 32, pu 33] (by kernel_rfl) (by kernel_rfl) (fun _ => trivial) (fun w_28 sm_29 => ?_)
    have gx_30 := GX.same [] γ_7 sm_29
    have hsz_31 : w_28.heap.size = w_20.heap.size := by rw [sm_29.heap]
    refine wpf 35 50 (.tmp 3) 5 b_1 0 5 5 ?_
    have hb_32 := (Bk.keep hb_24 gx_30 ni0)
    refine wk_read (opd 36 (.load 29 (.tmp 35)) 29) rfl (.slice m.na m.N.length m.nc) (fun w'_ g_ => x_load (b := b_1) (off := 5) (by kernel_rfl) (by kernel_rfl) (g_.keep hb_32.1) (by kernel_rfl)) ?_
    refine wk_pure (opd 37 (.call ⟨.builtin .len, #[.tmp 36], #[29]⟩) 3) rfl (.int .i64 ((m.N.length : Nat) : Int)) (fun _ => x_len (a := m.na) (n := m.N.length) (c := m.nc) (by kernel_rfl) (by kernel_rfl)) ?_
    by_cases h_33 : (((m.N.length : Nat) : Int) : Int) ≠ 1
    · refine wk_pure (opd 38 (.binOp .neq 3 (.tmp 37) (.const (.int .i64 1)) 3) 4) rfl (.bool true) (fun _ => y_neq (k := .i64) (a := ((m.N.length : Nat) : Int)) (b := 1) (by kernel_rfl) (by kernel_rfl) (decide_eq_true h_33)) ?_
      refine wpm 39 (.tmp 38) 4 (.bool true) ?_
      refine wks 40 ?_
      refine wks 41 ?_
      refine wks 42 ?_
      refine wks 43 ?_
      refine wpt 44 (.tmp 39) (.const (.bool true)) (.tmp 43) 4 (.bool true) ?_
      refine wpm 45 (.tmp 44) 4 (.bool true) ?_
      refine wks 46 ?_
      refine wks 47 ?_
      refine wks 48 ?_
      refine wpt 49 (.tmp 45) (.const (.bool true)) (.tmp 48) 4 (.bool true) ?_
      refine wpm 50 (.tmp 49) 4 (.bool true) ?_
      refine wks 51 ?_
      refine wks 52 ?_
      refine wks 53 ?_
      refine wks 54 ?_
      refine wks 55 ?_
      refine wpt 56 (.tmp 50) (.const (.bool true)) (.tmp 55) 4 (.bool true) ?_
      refine wpm 57 (.tmp 56) 4 (.bool true) ?_
      refine wks 58 ?_
      refine wks 62 ?_
      refine wks 63 ?_
      refine wks 64 ?_
      refine wks 59 ?_
      refine wks 60 ?_
      refine wks 61 ?_
      refine wks 65 ?_
      refine wks 66 ?_
      refine wks 67 ?_
      refine wpt 68 (.tmp 57) (.const (.bool true)) (.tmp 67) 4 (.bool true) ?_
      refine wk_nil ?_
      refine thn_n ?_
      refine g_cond_t (o := .tmp 68) (x := lX3N1_29) (y := lX3N1_30) (by kernel_rfl) (by kernel_rfl) ?_
      refine g_seq (x := lX3N1_31) (y := lX3N1_32) (by kernel_rfl) ?_
      refine g_region (ops := lX3R1_7) (id := 7) (by kernel_rfl) [pu 0, pu 1, pu 2] (by kernel_rfl) (by kernel_rfl) ?_
      refine wpa 4 (.const (.slice none 0 0)) 44 (.slice none 0 0) ?_
      refine wpa 5 (.const (.slice none 0 0)) 44 (.slice none 0 0) ?_
      refine wpa 6 (.const (.int .i64 3)) 24 (.int .i64 3) ?_
      refine wk_nil ?_
      refine thn_n ?_
      refine g_ret (by kernel_rfl) ?_
      refine thn_r ?_
      refine thn_r ?_
      refine ends3_r (v := .slice none 0 0) (v' := .slice none 0 0) (v'' := .int .i64 3) rfl (by kernel_rfl) (by kernel_rfl) (by kernel_rfl) ?_
      exact h3 (by omega) (by omega) (by omega) (by omega) _ _ (GX.then_same (GX.then_same (GX.then_same (GX.then0 (GX.refl [] _ _) e_3 hg_8) sm_13) sm_21) sm_29)
    refine wk_pure (opd 38 (.binOp .neq 3 (.tmp 37) (.const (.int .i64 1)) 3) 4) rfl (.bool false) (fun _ => y_neq (k := .i64) (a := ((m.N.length : Nat) : Int)) (b := 1) (by kernel_rfl) (by kernel_rfl) (decide_eq_false h_33)) ?_
    refine wpm 39 (.tmp 38) 4 (.bool false) ?_
    refine wk_pure (opg 40 (.fieldAddr 50 (.tmp 3) 6) 0 4 false) (by kernel_rfl) (.pointer (some ⟨b_1, 6, none⟩)) (fun _ => x_fieldAddr (b := b_1) (off := 0) (o := 6) (by kernel_rfl) (by kernel_rfl)) ?_
    refine wk_read (opg 41 (.load 30 (.tmp 40)) 30 4 false) (by kernel_rfl) (.slice m.wa m.W.length m.wc) (fun w'_ g_ => x_load (b := b_1) (off := 6) (by kernel_rfl) (by kernel_rfl) (g_.keep hb_32.1) (by kernel_rfl)) ?_
    refine wk_pure (opg 42 (.call ⟨.builtin .len, #[.tmp 41], #[30]⟩) 3 4 false) (by kernel_rfl) (.int .i64 ((m.W.length : Nat) : Int)) (fun _ => x_len (a := m.wa) (n := m.W.length) (c := m.wc) (by kernel_rfl) (by kernel_rfl)) ?_
    by_cases h_34 : (((m.W.length : Nat) : Int) : Int) ≠ 0
    · refine wk_pure (opg 43 (.binOp .neq 3 (.tmp 42) (.const (.int .i64 0)) 3) 4 4 false) (by kernel_rfl) (.bool true) (fun _ => y_neq (k := .i64) (a := ((m.W.length : Nat) : Int)) (b := 0) (by kernel_rfl) (by kernel_rfl) (decide_eq_true h_34)) ?_
      refine wpk 44 (.tmp 39) (.const (.bool true)) (.tmp 43) 4 (.bool true) ?_
      refine wpm 45 (.tmp 44) 4 (.bool true) ?_
      refine wks 46 ?_
      refine wks 47 ?_
      refine wks 48 ?_
      refine wpt 49 (.tmp 45) (.const (.bool true)) (.tmp 48) 4 (.bool true) ?_
      refine wpm 50 (.tmp 49) 4 (.bool true) ?_
      refine wks 51 ?_
      refine wks 52 ?_
      refine wks 53 ?_
      refine wks 54 ?_
      refine wks 55 ?_
      refine wpt 56 (.tmp 50) (.const (.bool true)) (.tmp 55) 4 (.bool true) ?_
      refine wpm 57 (.tmp 56) 4 (.bool true) ?_
      refine wks 58 ?_
      refine wks 62 ?_
      refine wks 63 ?_
      refine wks 64 ?_
      refine wks 59 ?_
      refine wks 60 ?_
      refine wks 61 ?_
      refine wks 65 ?_
      refine wks 66 ?_
      refine wks 67 ?_
      refine wpt 68 (.tmp 57) (.const (.bool true)) (.tmp 67) 4 (.bool true) ?_
      refine wk_nil ?_
      refine thn_n ?_
      refine g_cond_t (o := .tmp 68) (x := lX3N1_29) (y := lX3N1_30) (by kernel_rfl) (by kernel_rfl) ?_
      refine g_seq (x := lX3N1_31) (y := lX3N1_32) (by kernel_rfl) ?_
      refine g_region (ops := lX3R1_7) (id := 7) (by kernel_rfl) [pu 0, pu 1, pu 2] (by kernel_rfl) (by kernel_rfl) ?_
      refine wpa 4 (.const (.slice none 0 0)) 44 (.slice none 0 0) ?_
      refine wpa 5 (.const (.slice none 0 0)) 44 (.slice none 0 0) ?_
      refine wpa 6 (.const (.int .i64 3)) 24 (.int .i64 3) ?_
      refine wk_nil ?_
      refine thn_n ?_
      refine g_ret (by kernel_rfl) ?_
      refine thn_r ?_
      refine thn_r ?_
      refine ends3_r (v := .slice none 0 0) (v' := .slice none 0 0) (v'' := .int .i64 3) rfl (by kernel_rfl) (by kernel_rfl) (by kernel_rfl) ?_
      exact h3 (by omega) (by omega) (by omega) (by omega) _ _ (GX.then_same (GX.then_same (GX.then_same (GX.then0 (GX.refl [] _ _) e_3 hg_8) sm_13) sm_21) sm_29)
    refine wk_pure (opg 43 (.binOp .neq 3 (.tmp 42) (.const (.int .i64 0)) 3) 4 4 false) (by kernel_rfl) (.bool false) (fun _ => y_neq (k := .i64) (a := ((m.W.length : Nat) : Int)) (b := 0) (by kernel_rfl) (by kernel_rfl) (decide_eq_false h_34)) ?_
    refine wpk 44 (.tmp 39) (.const (.bool true)) (.tmp 43) 4 (.bool false) ?_
    refine wpm 45 (.tmp 44) 4 (.bool false) ?_
    refine wk_pure (opg 46 (.fieldAddr 50 (.tmp 3) 4) 0 10 false) (by kernel_rfl) (.pointer (some ⟨b_1, 4, none⟩)) (fun _ => x_fieldAddr (b := b_1) (off := 0) (o := 4) (by kernel_rfl) (by kernel_rfl)) ?_
    refine wk_read (opg 47 (.load 27 (.tmp 46)) 27 10 false) (by kernel_rfl) (.int .u32 m.seq) (fun w'_ g_ => x_load (b := b_1) (off := 4) (by kernel_rfl) (by kernel_rfl) (g_.keep hb_32.1) (by kernel_rfl)) ?_
    by_cases h_35 : (m.seq : Int) ≠ 0
    · refine wk_pure (opg 48 (.binOp .neq 27 (.tmp 47) (.const (.int .u32 0)) 27) 4 10 false) (by kernel_rfl) (.bool true) (fun _ => y_neq (k := .u32) (a := m.seq) (b := 0) (by kernel_rfl) (by kernel_rfl) (decide_eq_true h_35)) ?_
      refine wpk 49 (.tmp 45) (.const (.bool true)) (.tmp 48) 4 (.bool true) ?_
      refine wpm 50 (.tmp 49) 4 (.bool true) ?_
      refine wks 51 ?_
      refine wks 52 ?_
      refine wks 53 ?_
      refine wks 54 ?_
      refine wks 55 ?_
      refine wpt 56 (.tmp 50) (.const (.bool true)) (.tmp 55) 4 (.bool true) ?_
      refine wpm 57 (.tmp 56) 4 (.bool true) ?_
      refine wks 58 ?_
      refine wks 62 ?_
      refine wks 63 ?_
      refine wks 64 ?_
      refine wks 59 ?_
      refine wks 60 ?_
      refine wks 61 ?_
      refine wks 65 ?_
      refine wks 66 ?_
      refine wks 67 ?_
      refine wpt 68 (.tmp 57) (.const (.bool true)) (.tmp 67) 4 (.bool true) ?_
      refine wk_nil ?_
      refine thn_n ?_
      refine g_cond_t (o := .tmp 68) (x := lX3N1_29) (y := lX3N1_30) (by kernel_rfl) (by kernel_rfl) ?_
      refine g_seq (x := lX3N1_31) (y := lX3N1_32) (by kernel_rfl) ?_
      refine g_region (ops := lX3R1_7) (id := 7) (by kernel_rfl) [pu 0, pu 1, pu 2] (by kernel_rfl) (by kernel_rfl) ?_
      refine wpa 4 (.const (.slice none 0 0)) 44 (.slice none 0 0) ?_
      refine wpa 5 (.const (.slice none 0 0)) 44 (.slice none 0 0) ?_
      refine wpa 6 (.const (.int .i64 3)) 24 (.int .i64 3) ?_
      refine wk_nil ?_
      refine thn_n ?_
      refine g_ret (by kernel_rfl) ?_
      refine thn_r ?_
      refine thn_r ?_
      refine ends3_r (v := .slice none 0 0) (v' := .slice none 0 0) (v'' := .int .i64 3) rfl (by kernel_rfl) (by kernel_rfl) (by kernel_rfl) ?_
      exact h3 (by omega) (by omega) (by omega) (by omega) _ _ (GX.then_same (GX.then_same (GX.then_same (GX.then0 (GX.refl [] _ _) e_3 hg_8) sm_13) sm_21) sm_29)
    refine wk_pure (opg 48 (.binOp .neq 27 (.tmp 47) (.const (.int .u32 0)) 27) 4 10 false) (by kernel_rfl) (.bool false) (fun _ => y_neq (k := .u32) (a := m.seq) (b := 0) (by kernel_rfl) (by kernel_rfl) (decide_eq_false h_35)) ?_
    refine wpk 49 (.tmp 45) (.const (.bool true)) (.tmp 48) 4 (.bool false) ?_
    refine wpm 50 (.tmp 49) 4 (.bool false) ?_
    refine wk_pure (opg 51 (.fieldAddr 50 (.tmp 3) 5) 0 15 false) (by kernel_rfl) (.pointer (some ⟨b_1, 5, none⟩)) (fun _ => x_fieldAddr (b := b_1) (off := 0) (o := 5) (by kernel_rfl) (by kernel_rfl)) ?_
    refine wk_read (opg 52 (.load 29 (.tmp 51)) 29 15 false) (by kernel_rfl) (.slice m.na m.N.length m.nc) (fun w'_ g_ => x_load (b := b_1) (off := 5) (by kernel_rfl) (by kernel_rfl) (g_.keep hb_32.1) (by kernel_rfl)) ?_
    have hb_36 : MOk γ_7 w_28 m := (MOk.keep (MOk.keep (MOk.keep (MOk.keep hm gx_10 ni0) gx_14 ni0) gx_22 ni0) gx_30 ni0)
    refine wk_pure (opg 53 (.indexAddr 29 (.tmp 52) (.const (.int .i64 0))) 0 15 false) (by kernel_rfl) (.pointer (some ⟨m.nb, m.noff + (0 * 1 + 0), none⟩)) (fun _ => y_ptr (x_indexN (a := m.na) (b := m.nb) (off := m.noff) (n := m.N.length) (c := m.nc) (k := .i64) (i := 0) (e := 2) (sz := 1) (sz' := 1) (by kernel_rfl) hb_36.n.1 (by kernel_rfl) (by kernel_rfl) rfl (by omega) _) (by omega)) ?_
    refine wk_read (opg 54 (.load 2 (.tmp 53)) 2 15 false) (by kernel_rfl) (.int .i64 (m.N.getD 0 0)) (fun w'_ g_ => x_load_c (b := m.nb) (off := (m.noff + (0 * 1 + 0))) (by kernel_rfl) (by kernel_rfl) (SlE.get (g_.keepSl hb_36.n.1) encI_len 0 0 0 (by omega) rfl)) ?_
    by_cases h_37 : ((m.N.getD 0 0) : Int) < 0
    · refine wk_pure (opg 55 (.binOp .lss 2 (.tmp 54) (.const (.int .i64 0)) 2) 4 15 false) (by kernel_rfl) (.bool true) (fun _ => y_lss (k := .i64) (a := (m.N.getD 0 0)) (b := 0) (by kernel_rfl) (by kernel_rfl) (decide_eq_true h_37)) ?_
      refine wpk 56 (.tmp 50) (.const (.bool true)) (.tmp 55) 4 (.bool true) ?_
      refine wpm 57 (.tmp 56) 4 (.bool true) ?_
      refine wks 58 ?_
      refine wks 62 ?_
      refine wks 63 ?_
      refine wks 64 ?_
      refine wks 59 ?_
      refine wks 60 ?_
      refine wks 61 ?_
      refine wks 65 ?_
      refine wks 66 ?_
      refine wks 67 ?_
      refine wpt 68 (.tmp 57) (.const (.bool true)) (.tmp 67) 4 (.bool true) ?_
      refine wk_nil ?_
      refine thn_n ?_
      refine g_cond_t (o := .tmp 68) (x := lX3N1_29) (y := lX3N1_30) (by kernel_rfl) (by kernel_rfl) ?_
      refine g_seq (x := lX3N1_31) (y := lX3N1_32) (by kernel_rfl) ?_
      refine g_region (ops := lX3R1_7) (id := 7) (by kernel_rfl) [pu 0, pu 1, pu 2] (by kernel_rfl) (by kernel_rfl) ?_
      refine wpa 4 (.const (.slice none 0 0)) 44 (.slice none 0 0) ?_
      refine wpa 5 (.const (.slice none 0 0)) 44 (.slice none 0 0) ?_
      refine wpa 6 (.const (.int .i64 3)) 24 (.int .i64 3) ?_
      refine wk_nil ?_
      refine thn_n ?_
      refine g_ret (by kernel_rfl) ?_
      refine thn_r ?_
      refine thn_r ?_
      refine ends3_r (v := .slice none 0 0) (v' := .slice none 0 0) (v'' := .int .i64 3) rfl (by kernel_rfl) (by kernel_rfl) (by kernel_rfl) ?_
      exact h3 (by omega) (by omega) (by omega) (by omega) _ _ (GX.then_same (GX.then_same (GX.then_same (GX.then0 (GX.refl [] _ _) e_3 hg_8) sm_13) sm_21) sm_29)
    refine wk_pure (opg 55 (.binOp .lss 2 (.tmp 54) (.const (.int .i64 0)) 2) 4 15 false) (by kernel_rfl) (.bool false) (fun _ => y_lss (k := .i64) (a := (m.N.getD 0 0)) (b := 0) (by kernel_rfl) (by kernel_rfl) (decide_eq_false h_37)) ?_
    refine wpk 56 (.tmp 50) (.const (.bool true)) (.tmp 55) 4 (.bool false) ?_
    refine wpm 57 (.tmp 56) 4 (.bool false) ?_
    refine wk_pure (opg 58 (.fieldAddr 50 (.tmp 3) 5) 0 22 false) (by kernel_rfl) (.pointer (some ⟨b_1, 5, none⟩)) (fun _ => x_fieldAddr (b := b_1) (off := 0) (o := 5) (by kernel_rfl) (by kernel_rfl)) ?_
    refine wk_pure (opg 62 (.move (.tmp 0)) 42 22 false) (by kernel_rfl) (.pointer (some ⟨p, 0, none⟩)) (fun _ => y_move (by kernel_rfl)) ?_
    refine wk_pure (opg 63 (.nilCheck (.tmp 62)) 0 22 false) (by kernel_rfl) (.pointer (some ⟨p, 0, none⟩)) (fun _ => x_nilCheck (by kernel_rfl)) ?_
    refine wk_pure (opg 64 (.fieldAddr 46 (.tmp 63) 6) 0 22 false) (by kernel_rfl) (.pointer (some ⟨p, 6, none⟩)) (fun _ => x_fieldAddr (b := p) (off := 0) (o := 6) (by kernel_rfl) (by kernel_rfl)) ?_
    refine wk_read (opg 59 (.load 29 (.tmp 58)) 29 22 false) (by kernel_rfl) (.slice m.na m.N.length m.nc) (fun w'_ g_ => x_load (b := b_1) (off := 5) (by kernel_rfl) (by kernel_rfl) (g_.keep hb_32.1) (by kernel_rfl)) ?_
    refine wk_pure (opg 60 (.indexAddr 29 (.tmp 59) (.const (.int .i64 0))) 0 22 false) (by kernel_rfl) (.pointer (some ⟨m.nb, m.noff + (0 * 1 + 0), none⟩)) (fun _ => y_ptr (x_indexN (a := m.na) (b := m.nb) (off := m.noff) (n := m.N.length) (c := m.nc) (k := .i64) (i := 0) (e := 2) (sz := 1) (sz' := 1) (by kernel_rfl) hb_36.n.1 (by kernel_rfl) (by kernel_rfl) rfl (by omega) _) (by omega)) ?_
    refine wk_read (opg 61 (.load 2 (.tmp 60)) 2 22 false) (by kernel_rfl) (.int .i64 (m.N.getD 0 0)) (fun w'_ g_ => x_load_c (b := m.nb) (off := (m.noff + (0 * 1 + 0))) (by kernel_rfl) (by kernel_rfl) (SlE.get (g_.keepSl hb_36.n.1) encI_len 0 0 0 (by omega) rfl)) ?_
    have hb_38 := (Bk.keep hb_25 gx_30 ni0)
    refine wk_read (opg 65 (.load 27 (.tmp 64)) 27 22 false) (by kernel_rfl) (.int .u32 s.told) (fun w'_ g_ => x_load (b := p) (off := 6) (by kernel_rfl) (by kernel_rfl) (g_.keep hb_38.1) (by kernel_rfl)) ?_
    refine wk_pure (opg 66 (.convert 27 2 (.tmp 65)) 2 22 false) (by kernel_rfl) (.int .i64 s.told) (fun _ => y_conv (q := .u32) (a := s.told) (by kernel_rfl) (by kernel_rfl) (by kernel_rfl) (i64_id (by omega))) ?_
    by_cases h_39 : (s.told : Int) < (m.N.getD 0 0)
    · refine wk_pure (opg 67 (.binOp .gtr 2 (.tmp 61) (.tmp 66) 2) 4 22 false) (by kernel_rfl) (.bool true) (fun _ => y_gtr (k := .i64) (a := (m.N.getD 0 0)) (b := s.told) (by kernel_rfl) (by kernel_rfl) (decide_eq_true h_39)) ?_
      refine wpk 68 (.tmp 57) (.const (.bool true)) (.tmp 67) 4 (.bool true) ?_
      refine wk_nil ?_
      refine thn_n ?_
      refine g_cond_t (o := .tmp 68) (x := lX3N1_29) (y := lX3N1_30) (by kernel_rfl) (by kernel_rfl) ?_
      refine g_seq (x := lX3N1_31) (y := lX3N1_32) (by kernel_rfl) ?_
      refine g_region (ops := lX3R1_7) (id := 7) (by kernel_rfl) [pu 0, pu 1, pu 2] (by kernel_rfl) (by kernel_rfl) ?_
      refine wpa 4 (.const (.slice none 0 0)) 44 (.slice none 0 0) ?_
      refine wpa 5 (.const (.slice none 0 0)) 44 (.slice none 0 0) ?_
      refine wpa 6 (.const (.int .i64 3)) 24 (.int .i64 3) ?_
      refine wk_nil ?_
      refine thn_n ?_
      refine g_ret (by kernel_rfl) ?_
      refine thn_r ?_
      refine thn_r ?_
      refine ends3_r (v := .slice none 0 0) (v' := .slice none 0 0) (v'' := .int .i64 3) rfl (by kernel_rfl) (by kernel_rfl) (by kernel_rfl) ?_
      exact h3 (by omega) (by omega) (by omega) (by omega) _ _ (GX.then_same (GX.then_same (GX.then_same (GX.then0 (GX.refl [] _ _) e_3 hg_8) sm_13) sm_21) sm_29)
    refine wk_pure (opg 67 (.binOp .gtr 2 (.tmp 61) (.tmp 66) 2) 4 22 false) (by kernel_rfl) (.bool false) (fun _ => y_gtr (k := .i64) (a := (m.N.getD 0 0)) (b := s.told) (by kernel_rfl) (by kernel_rfl) (decide_eq_false h_39)) ?_
    refine wpk 68 (.tmp 57) (.const (.bool true)) (.tmp 67) 4 (.bool false) ?_
    refine wk_nil ?_
    refine thn_n ?_
    refine g_cond_f (o := .tmp 68) (x := lX3N1_29) (y := lX3N1_30) (by kernel_rfl) (by kernel_rfl) ?_
    refine g_skip (by kernel_rfl) ?_
    refine thn_n ?_
    refine g_seq (x := lX3N1_33) (y := lX3N1_34) (by kernel_rfl) ?_
    refine g_block (x := lX3N1_35) (id := 0) (by kernel_rfl) ?_
    have hb_40 : OwNG γ_7 w_28 (k + 2) 50 7 s.ha s.hg s.hc encM s.held s.hrest := (OwNG.keep (OwNG.keep (OwNG.keep (OwNG.keep h.hh gx_10 ni0) gx_14 ni0) gx_22 ni0) gx_30 ni0)
    have hb_41 : AllOk γ_7 w_28 (s.out.map (·.m)) := (AllOk.keep (AllOk.keep (AllOk.keep (AllOk.keep h.ao gx_10 ni0) gx_14 ni0) gx_22 ni0) gx_30 ni0)
    have hb_42 : AllOk γ_7 w_28 s.held := (AllOk.keep (AllOk.keep (AllOk.keep (AllOk.keep h.ah gx_10 ni0) gx_14 ni0) gx_22 ni0) gx_30 ni0)
    have hb_43 : QuG γ_7 w_28 (k + 1) 71 8 s.oa s.og s.oo s.oc encP s.out := (QuG.keep (QuG.keep (QuG.keep (QuG.keep h.ho gx_10 ni0) gx_14 ni0) gx_22 ni0) gx_30 ni0)
    refine g_loop (x := lX3N1_36) (by kernel_rfl) (fun m_ ρ_ w_ => ∃ (d : Nat) (oA : Option Addr) (oo : Nat) (oc : Nat) (γ_ : Nat → Nat), m_ = s.out.length - d ∧ (d ≤ s.out.length) ∧ (∀ j, j < d → (s.out.getD j S0).m.seq ≤ m.N.getD 0 0) ∧ (oA = none → oc = 0) ∧ ρ_ 0 = .pointer (some ⟨p, 0, none⟩) ∧ ρ_ 3 = .pointer (some ⟨b_1, 0, none⟩) ∧ ρ_ 4 = .slice none 0 0 ∧ ρ_ 5 = .slice none 0 0 ∧ ρ_ 6 = .int .i64 0 ∧ OwNG γ_ w_ (k + 2) 50 7 s.ha s.hg s.hc encM s.held s.hrest ∧ AllOk γ_ w_ (s.out.map (·.m)) ∧ AllOk γ_ w_ s.held ∧ MOk γ_ w_ m ∧ Bk γ_ w_ b_1 12001 (.cells #[.int .i64 m.kind, .int .i64 m.frm, .int .i64 m.to, .int .u32 m.view, .int .u32 m.seq, .slice m.na m.N.length m.nc, .slice m.wa m.W.length m.wc] 50 (0, 0)) ∧ SlG γ_ w_ 0 1 m.na m.nb m.noff encI m.N ∧ Bk γ_ w_ p k (.cells #[.int .i64 s.own, .int .i64 s.peer, .int .u32 s.view, .slice oA ((s.out.drop d).length) oc, .int .u32 s.last, .int .u32 0, .int .u32 s.told, .slice s.ha s.held.length s.hc, .int .u32 s.come, .int .i64 s.now] 46 (0, 0)) ∧ QuG γ_ w_ (k + 1) 71 8 oA s.og oo oc encP (s.out.drop d) ∧ GX [k, k + 1, k + 2] w γ w_ γ_) (s.out.length - 0) ?_ ?_
    · exact ⟨0, s.oa, s.oo, s.oc, _, rfl, by omega, by intro j hj; omega, by exact h_hn, (by kernel_rfl), (by kernel_rfl), (by kernel_rfl), (by kernel_rfl), (by kernel_rfl), hb_40, hb_41, hb_42, hb_36, hb_32, hb_36.n, hb_38, hb_43, (GX.then_same (GX.then_same (GX.then_same (GX.then0 (GX.refl [k, k + 1, k + 2] _ _) e_3 hg_8) sm_13) sm_21) sm_29)⟩
    intro m_44 ρ_45 w_46 hI
    obtain ⟨d, oA, oo, oc, γ_48, hm_m_44, hd, hle, hnn, f_49, f_50, f_51, f_52, f_53, hr_54, hr_55, hr_56, hr_57, hr_58, hr_59, hr_60, hr_61, hE_47⟩ := hI
    have hs_w_46 := hE_47.size
    have hdl : (s.out.drop d).length = s.out.length - d := List.length_drop
    refine g_seq (x := lX3N1_37) (y := lX3N1_38) (by kernel_rfl) ?_
    refine g_seq (x := lX3N1_39) (y := lX3N1_40) (by kernel_rfl) ?_
    refine g_draw (ops := lX3R1_8) (id := 8) (by kernel_rfl) (fun _ _ => True) [pu 0, pu 1, pu 2, rd 3, pu 4, pu 5, pu 6, pu 7, pu 8, pu 9, pu 16, rd 10, pu 11, pu 12, pu 13, rd 14, pu 15, rd 17, pu 18, rd 19, pu 20, pu 21] (by kernel_rfl) (by kernel_rfl) (fun _ => trivial) (fun w_62 sm_63 => ?_)
    have gx_64 := GX.same [] γ_48 sm_63
    have hsz_65 : w_62.heap.size = w_46.heap.size := by rw [sm_63.heap]
    refine wpm 69 (.tmp 0) 42 (.pointer (some ⟨p, 0, none⟩)) ?_ (Eq.trans (by kernel_rfl) f_49)
    refine wpn 70 (.tmp 69) ⟨p, 0, none⟩ ?_
    refine wpf 71 46 (.tmp 70) 3 p 0 3 3 ?_
    have hb_66 := (Bk.keep hr_60 gx_64 ni0)
    refine wk_read (opd 72 (.load 43 (.tmp 71)) 43) rfl (.slice oA ((s.out.drop d).length) oc) (fun w'_ g_ => x_load (b := p) (off := 3) (by kernel_rfl) (by kernel_rfl) (g_.keep hb_66.1) (by kernel_rfl)) ?_
    refine wk_pure (opd 73 (.call ⟨.builtin .len, #[.tmp 72], #[43]⟩) 3) rfl (.int .i64 (((s.out.drop d).length : Nat) : Int)) (fun _ => x_len (a := oA) (n := ((s.out.drop d).length)) (c := oc) (by kernel_rfl) (by kernel_rfl)) ?_
    by_cases h_67 : (0 : Int) < (((s.out.drop d).length : Nat) : Int)
    · refine wk_pure (opd 74 (.binOp .gtr 3 (.tmp 73) (.const (.int .i64 0)) 3) 4) rfl (.bool true) (fun _ => y_gtr (k := .i64) (a := (((s.out.drop d).length : Nat) : Int)) (b := 0) (by kernel_rfl) (by kernel_rfl) (decide_eq_true h_67)) ?_
      refine wpm 75 (.tmp 74) 4 (.bool true) ?_
      refine wk_pure (opg 76 (.move (.tmp 0)) 42 6 true) (by kernel_rfl) (.pointer (some ⟨p, 0, none⟩)) (fun _ => y_move (Eq.trans (by kernel_rfl) f_49)) ?_
      refine wk_pure (opg 77 (.nilCheck (.tmp 76)) 0 6 true) (by kernel_rfl) (.pointer (some ⟨p, 0, none⟩)) (fun _ => x_nilCheck (by kernel_rfl)) ?_
      refine wk_pure (opg 78 (.fieldAddr 46 (.tmp 77) 3) 0 6 true) (by kernel_rfl) (.pointer (some ⟨p, 3, none⟩)) (fun _ => x_fieldAddr (b := p) (off := 0) (o := 3) (by kernel_rfl) (by kernel_rfl)) ?_
      refine wk_pure (opg 85 (.fieldAddr 50 (.tmp 3) 5) 0 6 true) (by kernel_rfl) (.pointer (some ⟨b_1, 5, none⟩)) (fun _ => x_fieldAddr (b := b_1) (off := 0) (o := 5) (by kernel_rfl) (Eq.trans (by kernel_rfl) f_50)) ?_
      refine wk_read (opg 79 (.load 43 (.tmp 78)) 43 6 true) (by kernel_rfl) (.slice oA ((s.out.drop d).length) oc) (fun w'_ g_ => x_load (b := p) (off := 3) (by kernel_rfl) (by kernel_rfl) (g_.keep hb_66.1) (by kernel_rfl)) ?_
      have hb_68 := (QuG.keep hr_61 gx_64 ni0)
      refine wk_pure (opg 80 (.indexAddr 43 (.tmp 79) (.const (.int .i64 0))) 0 6 true) (by kernel_rfl) (.pointer (some ⟨s.og, oo + (0 * 8 + 0), none⟩)) (fun _ => y_ptr (x_indexN (a := oA) (b := s.og) (off := oo) (n := ((s.out.drop d).length)) (c := oc) (k := .i64) (i := 0) (e := 71) (sz := 8) (sz' := 8) (by kernel_rfl) (QuG.slg hb_68).1 (by kernel_rfl) (by kernel_rfl) rfl (by omega) _) (by omega)) ?_
      refine wk_pure (opg 81 (.fieldAddr 71 (.tmp 80) 0) 0 6 true) (by kernel_rfl) (.pointer (some ⟨s.og, oo + (0 * 8 + 0), none⟩)) (fun _ => y_ptr (x_fieldAddr (b := s.og) (off := (oo + (0 * 8 + 0))) (o := 0) (by kernel_rfl) (by kernel_rfl)) (by omega)) ?_
      refine wk_pure (opg 82 (.fieldAddr 50 (.tmp 81) 4) 0 6 true) (by kernel_rfl) (.pointer (some ⟨s.og, oo + (0 * 8 + 4), none⟩)) (fun _ => y_ptr (x_fieldAddr (b := s.og) (off := (oo + (0 * 8 + 0))) (o := 4) (by kernel_rfl) (by kernel_rfl)) (by omega)) ?_
      refine wk_read (opg 83 (.load 27 (.tmp 82)) 27 6 true) (by kernel_rfl) (.int .u32 (((s.out.drop d).getD 0 S0).m.seq)) (fun w'_ g_ => x_load_c (b := s.og) (off := (oo + (0 * 8 + 4))) (by kernel_rfl) (by kernel_rfl) (SlE.get (QuG.slg (g_.keepQu hb_68)).1 encP_len S0 0 4 (by omega) rfl)) ?_
      have hb_69 := (AllOk.keep hr_55 gx_64 ni0)
      have hsq_ := (AllOk.getS hb_69 (by omega : d < s.out.length)).s0
      rw [← getD_drop] at hsq_
      refine wk_pure (opg 84 (.convert 27 2 (.tmp 83)) 2 6 true) (by kernel_rfl) (.int .i64 (((s.out.drop d).getD 0 S0).m.seq)) (fun _ => y_conv (q := .u32) (a := (((s.out.drop d).getD 0 S0).m.seq)) (by kernel_rfl) (by kernel_rfl) (by kernel_rfl) (i64_id (by omega))) ?_
      have hb_70 := (Bk.keep hr_58 gx_64 ni0)
      refine wk_read (opg 86 (.load 29 (.tmp 85)) 29 6 true) (by kernel_rfl) (.slice m.na m.N.length m.nc) (fun w'_ g_ => x_load (b := b_1) (off := 5) (by kernel_rfl) (by kernel_rfl) (g_.keep hb_70.1) (by kernel_rfl)) ?_
      have hb_71 := (SlG.keep hr_59 gx_64 ni0)
      refine wk_pure (opg 87 (.indexAddr 29 (.tmp 86) (.const (.int .i64 0))) 0 6 true) (by kernel_rfl) (.pointer (some ⟨m.nb, m.noff + (0 * 1 + 0), none⟩)) (fun _ => y_ptr (x_indexN (a := m.na) (b := m.nb) (off := m.noff) (n := m.N.length) (c := m.nc) (k := .i64) (i := 0) (e := 2) (sz := 1) (sz' := 1) (by kernel_rfl) hb_71.1 (by kernel_rfl) (by kernel_rfl) rfl (by omega) _) (by omega)) ?_
      refine wk_read (opg 88 (.load 2 (.tmp 87)) 2 6 true) (by kernel_rfl) (.int .i64 (m.N.getD 0 0)) (fun w'_ g_ => x_load_c (b := m.nb) (off := (m.noff + (0 * 1 + 0))) (by kernel_rfl) (by kernel_rfl) (SlE.get (g_.keepSl hb_71.1) encI_len 0 0 0 (by omega) rfl)) ?_
      by_cases h_72 : ((((s.out.drop d).getD 0 S0).m.seq) : Int) ≤ (m.N.getD 0 0)
      · refine wk_pure (opg 89 (.binOp .leq 2 (.tmp 84) (.tmp 88) 2) 4 6 true) (by kernel_rfl) (.bool true) (fun _ => y_leq (k := .i64) (a := (((s.out.drop d).getD 0 S0).m.seq)) (b := (m.N.getD 0 0)) (by kernel_rfl) (by kernel_rfl) (decide_eq_true h_72)) ?_
        refine wpt 90 (.tmp 75) (.tmp 89) (.const (.bool false)) 4 (.bool true) ?_
        refine wk_nil ?_
        refine thn_n ?_
        refine g_cond_t (o := .tmp 90) (x := lX3N1_41) (y := lX3N1_42) (by kernel_rfl) (by kernel_rfl) ?_
        refine g_skip (by kernel_rfl) ?_
        refine thn_n ?_
        refine g_block (x := lX3N1_43) (id := 1) (by kernel_rfl) ?_
        refine g_region (ops := lX3R1_9) (id := 9) (by kernel_rfl) [pu 0, pu 1, pu 2, pu 3, lo 4, pu 5, pu 6, pu 7, lo 8] (by kernel_rfl) (by kernel_rfl) ?_
        refine wpm 91 (.tmp 0) 42 (.pointer (some ⟨p, 0, none⟩)) ?_ (Eq.trans (by kernel_rfl) f_49)
        refine wpm 92 (.tmp 0) 42 (.pointer (some ⟨p, 0, none⟩)) ?_ (Eq.trans (by kernel_rfl) f_49)
        refine wpn 93 (.tmp 92) ⟨p, 0, none⟩ ?_
        refine wpf 94 46 (.tmp 93) 3 p 0 3 3 ?_
        refine wpl 95 43 (.tmp 94) (.slice oA ((s.out.drop d).length) oc) p 3 hb_66.1 ?_
        have hq_73 : QuG γ_48 w_62 (k + 1) 71 8 (cutA oA oc 1 8) s.og (oo + 1 * 8) (oc - 1) encP ((s.out.drop d).drop 1) := QuG.cut hb_68 encP_len 1 (by omega)
        refine wk_pure (opd 96 (.slice 43 (.tmp 95) (some (.const (.int .i64 1))) none none) 43) rfl (.slice (cutA oA oc 1 8) (((s.out.drop d).drop 1).length) (oc - 1)) (fun _ => y_slice (x_cutL (a := oA) (n := ((s.out.drop d).length)) (c := oc) (sz := 8) (e := 71) (k := .i64) (li := 1) (l := 1) (by kernel_rfl) (by kernel_rfl) (by kernel_rfl) (by omega) (by omega)) (by simp only [List.length_drop])) ?_
        refine wpn 97 (.tmp 91) ⟨p, 0, none⟩ ?_
        refine wpf 98 46 (.tmp 97) 3 p 0 3 3 ?_
        refine wk_store (b := p) (off := 3) (cs' := #[.int .i64 s.own, .int .i64 s.peer, .int .u32 s.view, .slice (cutA oA oc 1 8) (((s.out.drop d).drop 1).length) (oc - 1), .int .u32 s.last, .int .u32 0, .int .u32 s.told, .slice s.ha s.held.length s.hc, .int .u32 s.come, .int .i64 s.now]) (vs := #[.slice (cutA oA oc 1 8) (((s.out.drop d).drop 1).length) (oc - 1)]) (opn (.store 43 (.tmp 98) (.tmp 96)) 0) rfl (by kernel_rfl) (by kernel_rfl) (by kernel_rfl) (by kernel_rfl) hb_66.1 (Nat.le_of_ble_eq_true rfl) (by kernel_rfl) (by kernel_rfl) (fun w_74 e_75 sz_76 hb_77 => ⟨?_, ?_⟩)
        · exact trivial
        have gx_78 : GX [k] w_62 γ_48 w_74 γ_48 := GX.ext1 e_75 hb_66.2 (fun _ _ => rfl)
        have hk_79 : Bk γ_48 w_74 p k (.cells #[.int .i64 s.own, .int .i64 s.peer, .int .u32 s.view, .slice (cutA oA oc 1 8) (((s.out.drop d).drop 1).length) (oc - 1), .int .u32 s.last, .int .u32 0, .int .u32 s.told, .slice s.ha s.held.length s.hc, .int .u32 s.come, .int .i64 s.now] 46 (0, 0)) := ⟨hb_77, hb_66.2⟩
        refine wk_nil ?_
        refine blk_n ?_
        refine thn_n ?_
        have hdd_ : (s.out.drop d).drop 1 = s.out.drop (d + 1) := by rw [List.drop_drop]
        have hb_80 := (QuG.keep hq_73 gx_78 ni1)
        have hb_81 := (OwNG.keep (OwNG.keep hr_54 gx_64 ni0) gx_78 ni1)
        have hb_82 := (AllOk.keep hb_69 gx_78 ni1)
        have hb_83 := (AllOk.keep (AllOk.keep hr_56 gx_64 ni0) gx_78 ni1)
        have hb_84 := (MOk.keep (MOk.keep hr_57 gx_64 ni0) gx_78 ni1)
        have hb_85 := (Bk.keep hb_70 gx_78 ni1)
        have hb_86 := (SlG.keep hb_71 gx_78 ni1)
        exact ⟨_, (by omega), ⟨(d + 1), (cutA oA oc 1 8), (oo + 1 * 8), (oc - 1), _, rfl, by omega, by intro j hj; rcases Nat.lt_succ_iff_lt_or_eq.1 hj with h_ | rfl; {exact hle j h_}; {rw [← getD_drop]; omega}, by exact cutA_none hnn, (Eq.trans (by kernel_rfl) f_49), (Eq.trans (by kernel_rfl) f_50), (Eq.trans (by kernel_rfl) f_51), (Eq.trans (by kernel_rfl) f_52), (Eq.trans (by kernel_rfl) f_53), hb_81, hb_82, hb_83, hb_84, hb_85, hb_86, (by rw [← hdd_]; exact hk_79), (by rw [← hdd_]; exact hb_80), (GX.trans (GX.then_same hE_47 sm_63) gx_78 (by intro c_ hc_; simp only [List.mem_cons, List.not_mem_nil, or_false] at hc_ ⊢; omega))⟩⟩
      refine wk_pure (opg 89 (.binOp .leq 2 (.tmp 84) (.tmp 88) 2) 4 6 true) (by kernel_rfl) (.bool false) (fun _ => y_leq (k := .i64) (a := (((s.out.drop d).getD 0 S0).m.seq)) (b := (m.N.getD 0 0)) (by kernel_rfl) (by kernel_rfl) (decide_eq_false h_72)) ?_
      refine wpt 90 (.tmp 75) (.tmp 89) (.const (.bool false)) 4 (.bool false) ?_
      refine wk_nil ?_
      refine thn_n ?_
      refine g_cond_f (o := .tmp 90) (x := lX3N1_41) (y := lX3N1_42) (by kernel_rfl) (by kernel_rfl) ?_
      refine g_exit (id := 0) (by kernel_rfl) ?_
      refine thn_e ?_
      refine thn_e ?_
      refine blk_hit ?_
      refine thn_n ?_
      refine g_seq (x := lX3N1_44) (y := lX3N1_45) (by kernel_rfl) ?_
      refine g_region (ops := lX3R1_10) (id := 10) (by kernel_rfl) [pu 0, pu 1, pu 2] (by kernel_rfl) (by kernel_rfl) ?_
      refine wpa 4 (.const (.slice none 0 0)) 44 (.slice none 0 0) ?_
      refine wpa 5 (.const (.slice none 0 0)) 44 (.slice none 0 0) ?_
      refine wpa 6 (.const (.int .i64 0)) 24 (.int .i64 0) ?_
      refine wk_nil ?_
      refine thn_n ?_
      refine g_ret (by kernel_rfl) ?_
      refine thn_r ?_
      refine ends3_r (v := .slice none 0 0) (v' := .slice none 0 0) (v'' := .int .i64 0) rfl (by kernel_rfl) (by kernel_rfl) (by kernel_rfl) ?_
      have hb_87 := (OwNG.keep hr_54 gx_64 ni0)
      have hb_88 := (AllOk.keep hr_56 gx_64 ni0)
      exact h4 (by omega) (by omega) (by omega) (by omega) _ _ d (GX.then_same hE_47 sm_63) hd hle (fun h_ => by rw [← getD_drop]; omega) ⟨hb_66, hb_68, hb_87, drop_ok hb_69 d, hb_88, hnn, h_b1, h_b2, h_b3, h_b4, h_b5, (by show (s.out.drop d).length ≤ 1024; omega), h_l2, l3_drop h_l3 d⟩
    refine wk_pure (opd 74 (.binOp .gtr 3 (.tmp 73) (.const (.int .i64 0)) 3) 4) rfl (.bool false) (fun _ => y_gtr (k := .i64) (a := (((s.out.drop d).length : Nat) : Int)) (b := 0) (by kernel_rfl) (by kernel_rfl) (decide_eq_false h_67)) ?_
    refine wpm 75 (.tmp 74) 4 (.bool false) ?_
    refine wks 76 ?_
    refine wks 77 ?_
    refine wks 78 ?_
    refine wks 85 ?_
    refine wks 79 ?_
    refine wks 80 ?_
    refine wks 81 ?_
    refine wks 82 ?_
    refine wks 83 ?_
    refine wks 84 ?_
    refine wks 86 ?_
    refine wks 87 ?_
    refine wks 88 ?_
    refine wks 89 ?_
    refine wpk 90 (.tmp 75) (.tmp 89) (.const (.bool false)) 4 (.bool false) ?_
    refine wk_nil ?_
    refine thn_n ?_
    refine g_cond_f (o := .tmp 90) (x := lX3N1_41) (y := lX3N1_42) (by kernel_rfl) (by kernel_rfl) ?_
    refine g_exit (id := 0) (by kernel_rfl) ?_
    refine thn_e ?_
    refine thn_e ?_
    refine blk_hit ?_
    refine thn_n ?_
    refine g_seq (x := lX3N1_44) (y := lX3N1_45) (by kernel_rfl) ?_
    refine g_region (ops := lX3R1_10) (id := 10) (by kernel_rfl) [pu 0, pu 1, pu 2] (by kernel_rfl) (by kernel_rfl) ?_
    refine wpa 4 (.const (.slice none 0 0)) 44 (.slice none 0 0) ?_
    refine wpa 5 (.const (.slice none 0 0)) 44 (.slice none 0 0) ?_
    refine wpa 6 (.const (.int .i64 0)) 24 (.int .i64 0) ?_
    refine wk_nil ?_
    refine thn_n ?_
    refine g_ret (by kernel_rfl) ?_
    refine thn_r ?_
    refine ends3_r (v := .slice none 0 0) (v' := .slice none 0 0) (v'' := .int .i64 0) rfl (by kernel_rfl) (by kernel_rfl) (by kernel_rfl) ?_
    have hb_89 := (QuG.keep hr_61 gx_64 ni0)
    have hb_90 := (OwNG.keep hr_54 gx_64 ni0)
    have hb_91 := (AllOk.keep hr_55 gx_64 ni0)
    have hb_92 := (AllOk.keep hr_56 gx_64 ni0)
    exact h4 (by omega) (by omega) (by omega) (by omega) _ _ d (GX.then_same hE_47 sm_63) hd hle (fun h_ => by rw [← getD_drop]; omega) ⟨hb_66, hb_89, hb_90, drop_ok hb_91 d, hb_92, hnn, h_b1, h_b2, h_b3, h_b4, h_b5, (by show (s.out.drop d).length ≤ 1024; omega), h_l2, l3_drop h_l3 d⟩
  refine wk_pure (opd 34 (.binOp .eql 3 (.tmp 33) (.const (.int .i64 1)) 3) 4) rfl (.bool false) (fun _ => y_eql (k := .i64) (a := m.kind) (b := 1) (by kernel_rfl) (by kernel_rfl) (decide_eq_false h_27)) ?_
  refine wk_nil ?_
  refine thn_n ?_
  refine g_cond_f (o := .tmp 34) (x := lX3N1_23) (y := lX3N1_24) (by kernel_rfl) (by kernel_rfl) ?_
  refine g_skip (by kernel_rfl) ?_
  refine thn_n ?_
  refine g_seq (x := lX3N1_46) (y := lX3N1_47) (by kernel_rfl) ?_
  refine g_seq (x := lX3N1_48) (y := lX3N1_49) (by kernel_rfl) ?_
  refine g_region (ops := lX3R1_11) (id := 11) (by kernel_rfl) [pu 0, lo 1, pu 2] (by kernel_rfl) (by kernel_rfl) ?_
  refine wpf 99 50 (.tmp 3) 4 b_1 0 4 4 ?_
  refine wpl 100 27 (.tmp 99) (.int .u32 m.seq) b_1 4 hb_24.1 ?_
  by_cases h_93 : (m.seq : Int) = 0
  · refine wk_pure (opd 101 (.binOp .eql 27 (.tmp 100) (.const (.int .u32 0)) 27) 4) rfl (.bool true) (fun _ => y_eql (k := .u32) (a := m.seq) (b := 0) (by kernel_rfl) (by kernel_rfl) (decide_eq_true h_93)) ?_
    refine wk_nil ?_
    refine thn_n ?_
    refine g_cond_t (o := .tmp 101) (x := lX3N1_50) (y := lX3N1_51) (by kernel_rfl) (by kernel_rfl) ?_
    refine g_seq (x := lX3N1_52) (y := lX3N1_53) (by kernel_rfl) ?_
    refine g_region (ops := lX3R1_12) (id := 12) (by kernel_rfl) [pu 0, pu 1, pu 2] (by kernel_rfl) (by kernel_rfl) ?_
    refine wpa 4 (.const (.slice none 0 0)) 44 (.slice none 0 0) ?_
    refine wpa 5 (.const (.slice none 0 0)) 44 (.slice none 0 0) ?_
    refine wpa 6 (.const (.int .i64 3)) 24 (.int .i64 3) ?_
    refine wk_nil ?_
    refine thn_n ?_
    refine g_ret (by kernel_rfl) ?_
    refine thn_r ?_
    refine ends3_r (v := .slice none 0 0) (v' := .slice none 0 0) (v'' := .int .i64 3) rfl (by kernel_rfl) (by kernel_rfl) (by kernel_rfl) ?_
    exact h5 (by omega) (by omega) (by omega) (by omega) _ _ (GX.then_same (GX.then_same (GX.then0 (GX.refl [] _ _) e_3 hg_8) sm_13) sm_21)
  refine wk_pure (opd 101 (.binOp .eql 27 (.tmp 100) (.const (.int .u32 0)) 27) 4) rfl (.bool false) (fun _ => y_eql (k := .u32) (a := m.seq) (b := 0) (by kernel_rfl) (by kernel_rfl) (decide_eq_false h_93)) ?_
  refine wk_nil ?_
  refine thn_n ?_
  refine g_cond_f (o := .tmp 101) (x := lX3N1_50) (y := lX3N1_51) (by kernel_rfl) (by kernel_rfl) ?_
  refine g_skip (by kernel_rfl) ?_
  refine thn_n ?_
  refine g_seq (x := lX3N1_54) (y := lX3N1_55) (by kernel_rfl) ?_
  refine g_seq (x := lX3N1_56) (y := lX3N1_57) (by kernel_rfl) ?_
  refine g_draw (ops := lX3R1_13) (id := 13) (by kernel_rfl) (fun w w' => Grown w w') [pu 0, pu 2, pu 3, pu 4, (1, .stab), (5, .stab), pu 6, pu 7, pu 8, pu 9, rd 10, lo 11, pu 12, pu 13] (by kernel_rfl) (by kernel_rfl) (fun _ => Grown.refl _) (fun w_94 sm_95 => ?_)
  have gx_96 := GX.same [] γ_7 sm_95
  have hsz_97 : w_94.heap.size = w_20.heap.size := by rw [sm_95.heap]
  refine wpf 102 50 (.tmp 3) 4 b_1 0 4 4 ?_
  refine wpm 104 (.tmp 0) 42 (.pointer (some ⟨p, 0, none⟩)) ?_
  refine wpn 105 (.tmp 104) ⟨p, 0, none⟩ ?_
  refine wpf 106 46 (.tmp 105) 8 p 0 8 8 ?_
  refine wk_stab (opd 103 (.load 27 (.tmp 102)) 27) rfl (.int .u32 m.seq) (fun w'_ g_ => x_load (b := b_1) (off := 4) (by kernel_rfl) (by kernel_rfl) (Grown.keep g_ (Bk.keep hb_24 gx_96 ni0).1) (by kernel_rfl)) ?_
  refine wk_stab (opd 107 (.load 27 (.tmp 106)) 27) rfl (.int .u32 s.come) (fun w'_ g_ => x_load (b := p) (off := 8) (by kernel_rfl) (by kernel_rfl) (Grown.keep g_ (Bk.keep hb_25 gx_96 ni0).1) (by kernel_rfl)) ?_
  by_cases h_98 : (m.seq : Int) ≤ s.come
  · refine wk_pure (opd 108 (.binOp .leq 27 (.tmp 103) (.tmp 107) 27) 4) rfl (.bool true) (fun _ => y_leq (k := .u32) (a := m.seq) (b := s.come) (by kernel_rfl) (by kernel_rfl) (decide_eq_true h_98)) ?_
    refine wpm 109 (.tmp 108) 4 (.bool true) ?_
    refine wks 110 ?_
    refine wks 111 ?_
    refine wks 112 ?_
    refine wks 113 ?_
    refine wks 114 ?_
    refine wpt 115 (.tmp 109) (.const (.bool true)) (.tmp 114) 4 (.bool true) ?_
    refine wk_nil ?_
    refine thn_n ?_
    refine g_cond_t (o := .tmp 115) (x := lX3N1_58) (y := lX3N1_59) (by kernel_rfl) (by kernel_rfl) ?_
    refine g_seq (x := lX3N1_60) (y := lX3N1_61) (by kernel_rfl) ?_
    refine g_region (ops := lX3R1_14) (id := 14) (by kernel_rfl) [pu 0, lo 1, pu 2, pu 3, pu 4] (by kernel_rfl) (by kernel_rfl) ?_
    refine wpm 116 (.tmp 0) 42 (.pointer (some ⟨p, 0, none⟩)) ?_
    have hb_99 : QuG γ_7 w_94 (k + 1) 71 8 s.oa s.og s.oo s.oc encP s.out := (QuG.keep (QuG.keep (QuG.keep (QuG.keep h.ho gx_10 ni0) gx_14 ni0) gx_22 ni0) gx_96 ni0)
    have hb_100 : OwNG γ_7 w_94 (k + 2) 50 7 s.ha s.hg s.hc encM s.held s.hrest := (OwNG.keep (OwNG.keep (OwNG.keep (OwNG.keep h.hh gx_10 ni0) gx_14 ni0) gx_22 ni0) gx_96 ni0)
    have hb_101 := (Bk.keep hb_25 gx_96 ni0)
    have hb_102 : AllOk γ_7 w_94 (s.out.map (·.m)) := (AllOk.keep (AllOk.keep (AllOk.keep (AllOk.keep h.ao gx_10 ni0) gx_14 ni0) gx_22 ni0) gx_96 ni0)
    have hb_103 : AllOk γ_7 w_94 s.held := (AllOk.keep (AllOk.keep (AllOk.keep (AllOk.keep h.ah gx_10 ni0) gx_14 ni0) gx_22 ni0) gx_96 ni0)
    have hL_104 : RefAt γ_7 w_94 k p (⟨s.own, s.peer, s.view, s.oa, s.og, s.oo, s.oc, s.out, s.last, s.told, s.ha, s.hg, s.hc, s.held, s.hrest, s.come, s.now⟩ : RfR) := ⟨hb_101, hb_99, hb_100, hb_102, hb_103, h_hn, h_b1, h_b2, h_b3, (by show 0 ≤ s.come ∧ s.come < 4294967295; omega), h_b5, h_l1, h_l2, h_l3⟩
    refine wkc 117 35 #[.tmp 116] #[42] 44 #[.pointer (some ⟨p, 0, none⟩)] Try.func35 (ack_c hL_104 hk (fun w_105 γ_106 v_107 r_108 gx_109 hM_110 ha_111 => ⟨?_, ?_⟩))
    · exact trivial
    have hsz_112 := gx_109.size
    refine wpa 4 (.const (.slice none 0 0)) 44 (.slice none 0 0) ?_
    refine wpa 5 (.tmp 117) 44 v_107 ?_
    refine wpa 6 (.const (.int .i64 8)) 24 (.int .i64 8) ?_
    refine wk_nil ?_
    refine thn_n ?_
    refine g_ret (by kernel_rfl) ?_
    refine thn_r ?_
    refine ends3_r (v := .slice none 0 0) (v' := v_107) (v'' := .int .i64 8) rfl (by kernel_rfl) (by kernel_rfl) (by kernel_rfl) ?_
    exact h6 (by omega) (by omega) (by omega) (by omega) (.inl (by omega)) _ _ _ _ (GX.trans (GX.then_same (GX.then_same (GX.then_same (GX.then0 (GX.refl [] _ _) e_3 hg_8) sm_13) sm_21) sm_95) gx_109 (fun _ h_ => absurd h_ List.not_mem_nil)) hM_110 ha_111
  refine wk_pure (opd 108 (.binOp .leq 27 (.tmp 103) (.tmp 107) 27) 4) rfl (.bool false) (fun _ => y_leq (k := .u32) (a := m.seq) (b := s.come) (by kernel_rfl) (by kernel_rfl) (decide_eq_false h_98)) ?_
  refine wpm 109 (.tmp 108) 4 (.bool false) ?_
  refine wk_pure (opg 110 (.move (.tmp 0)) 42 7 false) (by kernel_rfl) (.pointer (some ⟨p, 0, none⟩)) (fun _ => y_move (by kernel_rfl)) ?_
  refine wk_pure (opg 111 (.fieldAddr 50 (.tmp 3) 4) 0 7 false) (by kernel_rfl) (.pointer (some ⟨b_1, 4, none⟩)) (fun _ => x_fieldAddr (b := b_1) (off := 0) (o := 4) (by kernel_rfl) (by kernel_rfl)) ?_
  have hb_113 := (Bk.keep hb_24 gx_96 ni0)
  refine wk_read (opg 112 (.load 27 (.tmp 111)) 27 7 false) (by kernel_rfl) (.int .u32 m.seq) (fun w'_ g_ => x_load (b := b_1) (off := 4) (by kernel_rfl) (by kernel_rfl) (g_.keep hb_113.1) (by kernel_rfl)) ?_
  have hb_114 : QuG γ_7 w_94 (k + 1) 71 8 s.oa s.og s.oo s.oc encP s.out := (QuG.keep (QuG.keep (QuG.keep (QuG.keep h.ho gx_10 ni0) gx_14 ni0) gx_22 ni0) gx_96 ni0)
  have hb_115 : OwNG γ_7 w_94 (k + 2) 50 7 s.ha s.hg s.hc encM s.held s.hrest := (OwNG.keep (OwNG.keep (OwNG.keep (OwNG.keep h.hh gx_10 ni0) gx_14 ni0) gx_22 ni0) gx_96 ni0)
  have hb_116 := (Bk.keep hb_25 gx_96 ni0)
  have hb_117 : AllOk γ_7 w_94 (s.out.map (·.m)) := (AllOk.keep (AllOk.keep (AllOk.keep (AllOk.keep h.ao gx_10 ni0) gx_14 ni0) gx_22 ni0) gx_96 ni0)
  have hb_118 : AllOk γ_7 w_94 s.held := (AllOk.keep (AllOk.keep (AllOk.keep (AllOk.keep h.ah gx_10 ni0) gx_14 ni0) gx_22 ni0) gx_96 ni0)
  have hL_119 : RefAt γ_7 w_94 k p (⟨s.own, s.peer, s.view, s.oa, s.og, s.oo, s.oc, s.out, s.last, s.told, s.ha, s.hg, s.hc, s.held, s.hrest, s.come, s.now⟩ : RfR) := ⟨hb_116, hb_114, hb_115, hb_117, hb_118, h_hn, h_b1, h_b2, h_b3, (by show 0 ≤ s.come ∧ s.come < 4294967295; omega), h_b5, h_l1, h_l2, h_l3⟩
  refine wk_call (opg 113 (.call ⟨.value (.func 34), #[.tmp 110, .tmp 112], #[42, 27]⟩) 3 7 false) (by kernel_rfl) 34 #[.pointer (some ⟨p, 0, none⟩), .int .u32 m.seq] (x_call Try.func34 (by kernel_rfl) (c := (Try.f34.body).getD .skip) (by kernel_rfl) (by kernel_rfl) (by kernel_rfl)) (has_c (γ := γ_7) hL_119 hk (fun k_120 hk_121 he_122 hn_123 w_124 γ_125 gx_126 => ⟨?_, ?_⟩) (fun hn_127 w_128 γ_129 gx_130 => ⟨?_, ?_⟩))
  · exact (Grown.trans (Grown.refl _) (GX.grown gx_126))
  · have hsz_131 := gx_126.size
    refine wk_pure (opg 114 (.binOp .geq 3 (.tmp 113) (.const (.int .i64 0)) 3) 4 7 false) (by kernel_rfl) (.bool true) (fun _ => y_geq (k := .i64) (a := ((k_120 : Nat) : Int)) (b := 0) (by kernel_rfl) (by kernel_rfl) (decide_eq_true (by omega))) ?_
    refine wpk 115 (.tmp 109) (.const (.bool true)) (.tmp 114) 4 (.bool true) ?_
    refine wk_nil ?_
    refine thn_n ?_
    refine g_cond_t (o := .tmp 115) (x := lX3N1_58) (y := lX3N1_59) (by kernel_rfl) (by kernel_rfl) ?_
    refine g_seq (x := lX3N1_60) (y := lX3N1_61) (by kernel_rfl) ?_
    refine g_region (ops := lX3R1_14) (id := 14) (by kernel_rfl) [pu 0, lo 1, pu 2, pu 3, pu 4] (by kernel_rfl) (by kernel_rfl) ?_
    refine wpm 116 (.tmp 0) 42 (.pointer (some ⟨p, 0, none⟩)) ?_
    have hb_132 := (QuG.keep hb_114 gx_126 ni0)
    have hb_133 := (OwNG.keep hb_115 gx_126 ni0)
    have hb_134 := (Bk.keep hb_116 gx_126 ni0)
    have hb_135 := (AllOk.keep hb_117 gx_126 ni0)
    have hb_136 := (AllOk.keep hb_118 gx_126 ni0)
    have hL_137 : RefAt γ_125 w_124 k p (⟨s.own, s.peer, s.view, s.oa, s.og, s.oo, s.oc, s.out, s.last, s.told, s.ha, s.hg, s.hc, s.held, s.hrest, s.come, s.now⟩ : RfR) := ⟨hb_134, hb_132, hb_133, hb_135, hb_136, h_hn, h_b1, h_b2, h_b3, (by show 0 ≤ s.come ∧ s.come < 4294967295; omega), h_b5, h_l1, h_l2, h_l3⟩
    refine wkc 117 35 #[.tmp 116] #[42] 44 #[.pointer (some ⟨p, 0, none⟩)] Try.func35 (ack_c hL_137 hk (fun w_138 γ_139 v_140 r_141 gx_142 hM_143 ha_144 => ⟨?_, ?_⟩))
    · exact trivial
    have hsz_145 := gx_142.size
    refine wpa 4 (.const (.slice none 0 0)) 44 (.slice none 0 0) ?_
    refine wpa 5 (.tmp 117) 44 v_140 ?_
    refine wpa 6 (.const (.int .i64 8)) 24 (.int .i64 8) ?_
    refine wk_nil ?_
    refine thn_n ?_
    refine g_ret (by kernel_rfl) ?_
    refine thn_r ?_
    refine ends3_r (v := .slice none 0 0) (v' := v_140) (v'' := .int .i64 8) rfl (by kernel_rfl) (by kernel_rfl) (by kernel_rfl) ?_
    exact h6 (by omega) (by omega) (by omega) (by omega) (.inr ⟨_, idx_some hk_121 he_122 hn_123⟩) _ _ _ _ (GX.trans (GX.trans (GX.then_same (GX.then_same (GX.then_same (GX.then0 (GX.refl [] _ _) e_3 hg_8) sm_13) sm_21) sm_95) gx_126 (fun _ h_ => absurd h_ List.not_mem_nil)) gx_142 (fun _ h_ => absurd h_ List.not_mem_nil)) hM_143 ha_144
  · exact (Grown.trans (Grown.refl _) (GX.grown gx_130))
  have hsz_146 := gx_130.size
  refine wk_pure (opg 114 (.binOp .geq 3 (.tmp 113) (.const (.int .i64 0)) 3) 4 7 false) (by kernel_rfl) (.bool false) (fun _ => y_geq (k := .i64) (a := (-1)) (b := 0) (by kernel_rfl) (by kernel_rfl) (by decide)) ?_
  refine wpk 115 (.tmp 109) (.const (.bool true)) (.tmp 114) 4 (.bool false) ?_
  refine wk_nil ?_
  refine thn_n ?_
  refine g_cond_f (o := .tmp 115) (x := lX3N1_58) (y := lX3N1_59) (by kernel_rfl) (by kernel_rfl) ?_
  refine g_skip (by kernel_rfl) ?_
  refine thn_n ?_
  refine g_seq (x := lX3N1_62) (y := lX3N1_63) (by kernel_rfl) ?_
  refine g_seq (x := lX3N1_64) (y := lX3N1_65) (by kernel_rfl) ?_
  refine g_draw (ops := lX3R1_15) (id := 15) (by kernel_rfl) (fun _ _ => True) [pu 0, pu 2, pu 3, pu 4, rd 1, rd 5, pu 6, pu 7] (by kernel_rfl) (by kernel_rfl) (fun _ => trivial) (fun w_147 sm_148 => ?_)
  have gx_149 := GX.same [] γ_129 sm_148
  have hsz_150 : w_147.heap.size = w_128.heap.size := by rw [sm_148.heap]
  refine wpf 118 50 (.tmp 3) 4 b_1 0 4 4 ?_
  refine wpm 120 (.tmp 0) 42 (.pointer (some ⟨p, 0, none⟩)) ?_
  refine wpn 121 (.tmp 120) ⟨p, 0, none⟩ ?_
  refine wpf 122 46 (.tmp 121) 8 p 0 8 8 ?_
  have hb_151 := (Bk.keep (Bk.keep hb_113 gx_130 ni0) gx_149 ni0)
  refine wk_read (opd 119 (.load 27 (.tmp 118)) 27) rfl (.int .u32 m.seq) (fun w'_ g_ => x_load (b := b_1) (off := 4) (by kernel_rfl) (by kernel_rfl) (g_.keep hb_151.1) (by kernel_rfl)) ?_
  have hb_152 := (Bk.keep (Bk.keep hb_116 gx_130 ni0) gx_149 ni0)
  refine wk_read (opd 123 (.load 27 (.tmp 122)) 27) rfl (.int .u32 s.come) (fun w'_ g_ => x_load (b := p) (off := 8) (by kernel_rfl) (by kernel_rfl) (g_.keep hb_152.1) (by kernel_rfl)) ?_
  refine wk_pure (opd 124 (.binOp .sub 27 (.tmp 119) (.tmp 123) 27) 27) rfl (.int .u32 (m.seq - s.come)) (fun _ => y_sub (k := .u32) (a := m.seq) (b := s.come) (by kernel_rfl) (by kernel_rfl) (u32_to (by omega) rfl)) ?_
  by_cases h_153 : (32 : Int) < (m.seq - s.come)
  · refine wk_pure (opd 125 (.binOp .gtr 27 (.tmp 124) (.const (.int .u32 32)) 27) 4) rfl (.bool true) (fun _ => y_gtr (k := .u32) (a := (m.seq - s.come)) (b := 32) (by kernel_rfl) (by kernel_rfl) (decide_eq_true h_153)) ?_
    refine wk_nil ?_
    refine thn_n ?_
    refine g_cond_t (o := .tmp 125) (x := lX3N1_66) (y := lX3N1_67) (by kernel_rfl) (by kernel_rfl) ?_
    refine g_seq (x := lX3N1_68) (y := lX3N1_69) (by kernel_rfl) ?_
    refine g_region (ops := lX3R1_16) (id := 16) (by kernel_rfl) [pu 0, pu 1, pu 2] (by kernel_rfl) (by kernel_rfl) ?_
    refine wpa 4 (.const (.slice none 0 0)) 44 (.slice none 0 0) ?_
    refine wpa 5 (.const (.slice none 0 0)) 44 (.slice none 0 0) ?_
    refine wpa 6 (.const (.int .i64 6)) 24 (.int .i64 6) ?_
    refine wk_nil ?_
    refine thn_n ?_
    refine g_ret (by kernel_rfl) ?_
    refine thn_r ?_
    refine ends3_r (v := .slice none 0 0) (v' := .slice none 0 0) (v'' := .int .i64 6) rfl (by kernel_rfl) (by kernel_rfl) (by kernel_rfl) ?_
    exact h7 (by omega) (by omega) (by omega) (by omega) (by omega) (idx_none (L := s.held) hn_127) (by omega) _ _ (GX.then_same (GX.trans (GX.then_same (GX.then_same (GX.then_same (GX.then0 (GX.refl [] _ _) e_3 hg_8) sm_13) sm_21) sm_95) gx_130 (fun _ h_ => absurd h_ List.not_mem_nil)) sm_148)
  refine wk_pure (opd 125 (.binOp .gtr 27 (.tmp 124) (.const (.int .u32 32)) 27) 4) rfl (.bool false) (fun _ => y_gtr (k := .u32) (a := (m.seq - s.come)) (b := 32) (by kernel_rfl) (by kernel_rfl) (decide_eq_false h_153)) ?_
  refine wk_nil ?_
  refine thn_n ?_
  refine g_cond_f (o := .tmp 125) (x := lX3N1_66) (y := lX3N1_67) (by kernel_rfl) (by kernel_rfl) ?_
  refine g_skip (by kernel_rfl) ?_
  refine thn_n ?_
  refine g_seq (x := lX3N1_70) (y := lX3N1_71) (by kernel_rfl) ?_
  refine g_fork (ops := lX3R1_17) (id := 17) (by kernel_rfl) (fun _ _ => True) (seqP [(0, .pure), (1, .pure), (2, .pure), (3, .pure)] (.two 4 5 (seqP [(5, .loud), (6, .loud), (7, .loud), (8, .pure), (9, .pure), (10, .loud)] .nil) (seqP [] (.two 4 6 (seqP [(6, .loud), (7, .loud), (8, .pure), (9, .pure), (10, .loud)] .nil) (seqP [(4, .read), (7, .loud), (8, .pure), (9, .pure), (10, .loud)] .nil))))) (by kernel_rfl) (by kernel_rfl) (fun _ => trivial) (fun w_154 sm_155 => wkP_seq ?_)
  have gx_156 := GX.same [] γ_129 sm_155
  have hsz_157 : w_154.heap.size = w_147.heap.size := by rw [sm_155.heap]
  refine wpm 126 (.tmp 0) 42 (.pointer (some ⟨p, 0, none⟩)) ?_
  refine wpm 127 (.tmp 0) 42 (.pointer (some ⟨p, 0, none⟩)) ?_
  refine wpn 128 (.tmp 127) ⟨p, 0, none⟩ ?_
  refine wpf 129 46 (.tmp 128) 7 p 0 7 7 ?_
  refine wk_nil ?_
  refine wkP_two ?_ ?_
  · have hb_158 := (Bk.keep hb_152 gx_156 ni0)
    refine wpl 130 44 (.tmp 129) (.slice s.ha s.held.length s.hc) p 7 hb_158.1 ?_
    refine wk_nil ?_
    refine wkP_seq ?_
    have hb_159 := (Bk.keep hb_151 gx_156 ni0)
    refine wk_val (opd 131 (.load 50 (.tmp 3)) 50) rfl (.agg #[.int .i64 m.kind, .int .i64 m.frm, .int .i64 m.to, .int .u32 m.view, .int .u32 m.seq, .slice m.na m.N.length m.nc, .slice m.wa m.W.length m.wc]) (x_load_agg (b := b_1) (off := 0) (n := 7) (by kernel_rfl) (by kernel_rfl) hb_159.1 (Nat.le_of_ble_eq_true rfl) (by kernel_rfl)) trivial ?_
    refine wk_buildSlice (e := 50) (cs := #[.int .i64 m.kind, .int .i64 m.frm, .int .i64 m.to, .int .u32 m.view, .int .u32 m.seq, .slice m.na m.N.length m.nc, .slice m.wa m.W.length m.wc]) (opd 132 (.buildSlice 44 1 #[(0, .tmp 131)]) 44) rfl (by kernel_rfl) (fun w_160 b_161 eq_162 e_163 sz_164 hb_165 => ⟨?_, ?_⟩)
    · exact trivial
    obtain ⟨γ_166, hg_167, hn_168⟩ := cls_new γ_129 w_154.heap.size 12002
    have gx_169 := GX.ext0 [] e_163 hg_167
    have hk_170 : Bk γ_166 w_160 b_161 12002 (.cells #[.int .i64 m.kind, .int .i64 m.frm, .int .i64 m.to, .int .u32 m.view, .int .u32 m.seq, .slice m.na m.N.length m.nc, .slice m.wa m.W.length m.wc] 50 (0, 0)) := ⟨hb_165, hn_168 _ (by omega)⟩
    have hs_171 : SlE w_160 7 (some ⟨b_161, 0, none⟩) b_161 0 encM [m] := SlE.of_cells hk_170.1 encM_len (by rfl)
    have hb_181 := (OwNG.keep (OwNG.keep (OwNG.keep (OwNG.keep hb_115 gx_130 ni0) gx_149 ni0) gx_156 ni0) gx_169 ni0)
    have on_182 : OwNG γ_166 w_160 (k + 2) 50 7 s.ha s.hg s.hc encM s.held s.hrest := hb_181
    refine wk_append (M := ([m])) (L := s.held) (a := s.ha) (g := s.hg) (c := s.hc) (ax := (some ⟨b_161, 0, none⟩)) (bx := b_161) (offx := 0) (cx := 1) (e := 50) (sz := 7) (by_ := 80) (opd 133 (.call ⟨.builtin .append, #[.tmp 130, .tmp 132], #[44, 44]⟩) 44) rfl (by kernel_rfl) (by kernel_rfl) encM_len (by kernel_rfl) on_182.1 (by kernel_rfl) hs_171 (by simp) encM_one (by constructor <;> (first | omega | (simp only [List.length_singleton, List.length_nil, List.length_take, List.length_drop, List.length_append]; omega))) (fun w_172 b_173 cap_174 rest_175 hb_176 e_177 sz_178 lt_179 ho_180 => ⟨?_, ?_⟩)
    · exact trivial
    obtain ⟨γ_183, hg_184, hn_185⟩ := cls_new γ_166 w_160.heap.size (k + 2)
    have gx_186 : GX [k + 2] w_160 γ_166 w_172 γ_183 := OwNG.gx on_182 e_177 hg_184
    have hk_187 : OwnG γ_183 w_172 (k + 2) 50 7 b_173 cap_174 encM (s.held ++ ([m])) rest_175 := ⟨ho_180, OwNG.appc on_182 hb_176 hg_184 hn_185⟩
    have hsz_188 := e_177.size
    refine wpn 134 (.tmp 126) ⟨p, 0, none⟩ ?_
    refine wpf 135 46 (.tmp 134) 7 p 0 7 7 ?_
    have hb_189 := (Bk.keep (Bk.keep hb_158 gx_169 ni0) gx_186 ni1)
    refine wk_store (b := p) (off := 7) (cs' := #[.int .i64 s.own, .int .i64 s.peer, .int .u32 s.view, .slice s.oa s.out.length s.oc, .int .u32 s.last, .int .u32 0, .int .u32 s.told, .slice (some ⟨b_173, 0, none⟩) ((s.held ++ ([m])).length) cap_174, .int .u32 s.come, .int .i64 s.now]) (vs := #[.slice (some ⟨b_173, 0, none⟩) ((s.held ++ ([m])).length) cap_174]) (opn (.store 44 (.tmp 135) (.tmp 133)) 0) rfl (by kernel_rfl) (by kernel_rfl) (by kernel_rfl) (by kernel_rfl) hb_189.1 (Nat.le_of_ble_eq_true rfl) (by kernel_rfl) (by kernel_rfl) (fun w_190 e_191 sz_192 hb_193 => ⟨?_, ?_⟩)
    · exact trivial
    have gx_194 : GX [k] w_172 γ_183 w_190 γ_183 := GX.ext1 e_191 hb_189.2 (fun _ _ => rfl)
    have hk_195 : Bk γ_183 w_190 p k (.cells #[.int .i64 s.own, .int .i64 s.peer, .int .u32 s.view, .slice s.oa s.out.length s.oc, .int .u32 s.last, .int .u32 0, .int .u32 s.told, .slice (some ⟨b_173, 0, none⟩) ((s.held ++ ([m])).length) cap_174, .int .u32 s.come, .int .i64 s.now] 46 (0, 0)) := ⟨hb_193, hb_189.2⟩
    refine wk_nil ?_
    refine wkP_nil ?_
    refine thn_n ?_
    refine g_seq (x := lX3N1_72) (y := lX3N1_73) (by kernel_rfl) ?_
    refine g_region (ops := lX3R1_18) (id := 18) (by kernel_rfl) [pu 0] (by kernel_rfl) (by kernel_rfl) ?_
    refine wpa 7 (.const (.slice none 0 0)) 44 (.slice none 0 0) ?_
    refine wk_nil ?_
    refine thn_n ?_
    refine g_seq (x := lX3N1_74) (y := lX3N1_75) (by kernel_rfl) ?_
    refine g_block (x := lX3N1_76) (id := 2) (by kernel_rfl) ?_
    have hb_197 := (AllOk.keep (AllOk.keep (AllOk.keep (AllOk.keep (AllOk.keep (AllOk.keep hb_118 gx_130 ni0) gx_149 ni0) gx_156 ni0) gx_169 ni0) gx_186 ni1) gx_194 ni1)
    have hb_198 : MOk γ_183 w_190 m := (MOk.keep (MOk.keep (MOk.keep (MOk.keep (MOk.keep (MOk.keep (MOk.keep (MOk.keep (MOk.keep (MOk.keep hm gx_10 ni0) gx_14 ni0) gx_22 ni0) gx_96 ni0) gx_130 ni0) gx_149 ni0) gx_156 ni0) gx_169 ni0) gx_186 ni1) gx_194 ni1)
    have hah_196 : AllOk γ_183 w_190 (s.held ++ [m]) := AllOk.add hb_197 hb_198
    have hb_199 := (OwnG.keep hk_187 gx_194 ni1)
    have hb_200 := (QuG.keep (QuG.keep (QuG.keep (QuG.keep (QuG.keep (QuG.keep hb_114 gx_130 ni0) gx_149 ni0) gx_156 ni0) gx_169 ni0) gx_186 ni1) gx_194 ni1)
    have hb_201 := (AllOk.keep (AllOk.keep (AllOk.keep (AllOk.keep (AllOk.keep (AllOk.keep hb_117 gx_130 ni0) gx_149 ni0) gx_156 ni0) gx_169 ni0) gx_186 ni1) gx_194 ni1)
    have hb_202 := (Bk.keep (Bk.keep (Bk.keep hb_159 gx_169 ni0) gx_186 ni1) gx_194 ni1)
    have hb_203 := (Bk.keep (Bk.keep hk_170 gx_186 ni1) gx_194 ni1)
    refine g_loop (x := lX3N1_77) (by kernel_rfl) (fun m_ ρ_ w_ => ∃ (L : List MsgR) (la : Option Addr) (lg : Nat) (lc : Nat) (lrest : List Value) (nx : Int) (outs : List MsgR) (oA : Option Addr) (oG : Nat) (oC : Nat) (orest : List Value) (f : Nat) (γ_ : Nat → Nat), m_ = L.length ∧ (readyG (s.held.length + 2) [] ((s.held ++ [m]).map MsgR.abs) (s.come + 1) = readyG f (outs.map MsgR.abs) (L.map MsgR.abs) (nx + 1)) ∧ (L.length < f) ∧ (outs.length + L.length = s.held.length + 1) ∧ (0 ≤ nx ∧ nx + L.length ≤ s.come + s.held.length + 1) ∧ (oA = none ∨ w.heap.size ≤ oG) ∧ ρ_ 0 = .pointer (some ⟨p, 0, none⟩) ∧ ρ_ 4 = .slice none 0 0 ∧ ρ_ 5 = .slice none 0 0 ∧ ρ_ 6 = .int .i64 0 ∧ ρ_ 7 = .slice oA outs.length oC ∧ QuG γ_ w_ (k + 1) 71 8 s.oa s.og s.oo s.oc encP s.out ∧ AllOk γ_ w_ (s.out.map (·.m)) ∧ MOk γ_ w_ m ∧ Bk γ_ w_ b_1 12001 (.cells #[.int .i64 m.kind, .int .i64 m.frm, .int .i64 m.to, .int .u32 m.view, .int .u32 m.seq, .slice m.na m.N.length m.nc, .slice m.wa m.W.length m.wc] 50 (0, 0)) ∧ Bk γ_ w_ b_161 12002 (.cells #[.int .i64 m.kind, .int .i64 m.frm, .int .i64 m.to, .int .u32 m.view, .int .u32 m.seq, .slice m.na m.N.length m.nc, .slice m.wa m.W.length m.wc] 50 (0, 0)) ∧ OwnG γ_ w_ (k + 2) 50 7 b_173 cap_174 encM (s.held ++ ([m])) rest_175 ∧ Bk γ_ w_ p k (.cells #[.int .i64 s.own, .int .i64 s.peer, .int .u32 s.view, .slice s.oa s.out.length s.oc, .int .u32 s.last, .int .u32 0, .int .u32 s.told, .slice la L.length lc, .int .u32 nx, .int .i64 s.now] 46 (0, 0)) ∧ OwNG γ_ w_ (k + 2) 50 7 la lg lc encM L lrest ∧ OwNG γ_ w_ 2000 50 7 oA oG oC encM outs orest ∧ AllOk γ_ w_ L ∧ AllOk γ_ w_ outs ∧ GX [k, k + 1, k + 2] w γ w_ γ_) ((s.held ++ [m]).length) ?_ ?_
    · exact ⟨(s.held ++ [m]), (some ⟨b_173, 0, none⟩), b_173, cap_174, rest_175, s.come, [], none, 0, 0, [], (s.held.length + 2), _, rfl, by rfl, by rw [List.length_append, List.length_singleton]; omega, by simp, by rw [List.length_append, List.length_singleton]; omega, by exact .inl rfl, (by kernel_rfl), (by kernel_rfl), (by kernel_rfl), (by kernel_rfl), (by kernel_rfl), hb_200, hb_201, hb_198, hb_202, hb_203, hb_199, hk_195, (OwNG.of hb_199), (OwNG.nil _ _ _ _ _ 0 _ []), hah_196, AllOk.nil, (GX.trans (GX.trans (GX.then0 (GX.then_same (GX.then_same (GX.trans (GX.then_same (GX.then_same (GX.then_same (GX.then0 (GX.refl [k, k + 1, k + 2] _ _) e_3 hg_8) sm_13) sm_21) sm_95) gx_130 (fun _ h_ => absurd h_ List.not_mem_nil)) sm_148) sm_155) e_163 hg_167) gx_186 (by intro c_ hc_; simp only [List.mem_cons, List.not_mem_nil, or_false] at hc_ ⊢; omega)) gx_194 (by intro c_ hc_; simp only [List.mem_cons, List.not_mem_nil, or_false] at hc_ ⊢; omega))⟩
    intro m_204 ρ_205 w_206 hI
    obtain ⟨L, la, lg, lc, lrest, nx, outs, oA, oG, oC, orest, f, γ_208, hm_m_204, hR, hf, hlen, hnx, hO, f_209, f_210, f_211, f_212, f_213, hr_214, hr_215, hr_216, hr_217, hr_218, hr_219, hr_220, hr_221, hr_222, hr_223, hr_224, hE_207⟩ := hI
    have hs_w_206 := hE_207.size
    refine g_block (x := lX3N1_78) (id := 3) (by kernel_rfl) ?_
    refine g_seq (x := lX3N1_79) (y := lX3N1_80) (by kernel_rfl) ?_
    refine g_region (ops := lX3R1_19) (id := 19) (by kernel_rfl) [pu 0, pu 1, pu 2, pu 3, lo 4, pu 5, lo 6, pu 7] (by kernel_rfl) (by kernel_rfl) ?_
    refine wpm 136 (.tmp 0) 42 (.pointer (some ⟨p, 0, none⟩)) ?_ (Eq.trans (by kernel_rfl) f_209)
    refine wpm 137 (.tmp 0) 42 (.pointer (some ⟨p, 0, none⟩)) ?_ (Eq.trans (by kernel_rfl) f_209)
    refine wpn 138 (.tmp 137) ⟨p, 0, none⟩ ?_
    refine wpf 139 46 (.tmp 138) 8 p 0 8 8 ?_
    refine wpl 140 27 (.tmp 139) (.int .u32 nx) p 8 hr_220.1 ?_
    refine wk_pure (opd 141 (.binOp .add 27 (.tmp 140) (.const (.int .u32 1)) 27) 27) rfl (.int .u32 (nx + 1)) (fun _ => y_add (k := .u32) (a := nx) (b := 1) (by kernel_rfl) (by kernel_rfl) (u32_to (by omega) rfl)) ?_
    have hL_225 : RefAt γ_208 w_206 k p (⟨s.own, s.peer, s.view, s.oa, s.og, s.oo, s.oc, s.out, s.last, s.told, la, lg, lc, L, lrest, nx, s.now⟩ : RfR) := ⟨hr_220, hr_214, hr_221, hr_215, hr_223, h_hn, h_b1, h_b2, h_b3, (by show 0 ≤ nx ∧ nx < 4294967295; omega), h_b5, h_l1, (by show L.length ≤ 1000000; first | omega | (rw [List.length_append, List.length_singleton]; omega)), h_l3⟩
    refine wkc 142 34 #[.tmp 136, .tmp 141] #[42, 27] 3 #[.pointer (some ⟨p, 0, none⟩), .int .u32 (nx + 1)] Try.func34 (has_c (γ := γ_208) hL_225 hk (fun k_226 hk_227 he_228 hn_229 w_230 γ_231 gx_232 => ⟨?_, ?_⟩) (fun hn_233 w_234 γ_235 gx_236 => ⟨?_, ?_⟩))
    · exact trivial
    · have hsz_237 := gx_232.size
      have hk_k_226 : k_226 < L.length := hk_227
      have he_k_226 : (L.getD k_226 M0).seq = nx + 1 := he_228
      have hix_k_226 := idx_some hk_k_226 he_k_226 hn_229
      refine wpa 8 (.tmp 142) 3 (.int .i64 ((k_226 : Nat) : Int)) ?_
      refine wk_nil ?_
      refine thn_n ?_
      refine g_seq (x := lX3N1_81) (y := lX3N1_82) (by kernel_rfl) ?_
      refine g_seq (x := lX3N1_83) (y := lX3N1_84) (by kernel_rfl) ?_
      refine g_region (ops := lX3R1_20) (id := 20) (by kernel_rfl) [pu 0, pu 1] (by kernel_rfl) (by kernel_rfl) ?_
      refine wpm 143 (.tmp 8) 3 (.int .i64 ((k_226 : Nat) : Int)) ?_
      refine wk_pure (opd 144 (.binOp .lss 3 (.tmp 143) (.const (.int .i64 0)) 3) 4) rfl (.bool false) (fun _ => y_lss (k := .i64) (a := ((k_226 : Nat) : Int)) (b := 0) (by kernel_rfl) (by kernel_rfl) (decide_eq_false (by omega))) ?_
      refine wk_nil ?_
      refine thn_n ?_
      refine g_cond_f (o := .tmp 144) (x := lX3N1_85) (y := lX3N1_86) (by kernel_rfl) (by kernel_rfl) ?_
      refine g_skip (by kernel_rfl) ?_
      refine thn_n ?_
      refine g_seq (x := lX3N1_87) (y := lX3N1_88) (by kernel_rfl) ?_
      refine g_region (ops := lX3R1_21) (id := 21) (by kernel_rfl) [pu 0, pu 1, pu 2, pu 3, lo 4, pu 5, pu 6, lo 7, lo 8, lo 9, pu 10] (by kernel_rfl) (by kernel_rfl) ?_
      refine wpm 145 (.tmp 7) 44 (.slice oA outs.length oC) ?_ (Eq.trans (by kernel_rfl) f_213)
      refine wpm 146 (.tmp 0) 42 (.pointer (some ⟨p, 0, none⟩)) ?_ (Eq.trans (by kernel_rfl) f_209)
      refine wpn 147 (.tmp 146) ⟨p, 0, none⟩ ?_
      refine wpf 148 46 (.tmp 147) 7 p 0 7 7 ?_
      have hb_238 := (Bk.keep hr_220 gx_232 ni0)
      refine wpl 149 44 (.tmp 148) (.slice la L.length lc) p 7 hb_238.1 ?_
      refine wpm 150 (.tmp 8) 3 (.int .i64 ((k_226 : Nat) : Int)) ?_
      have hb_239 := (OwNG.keep hr_221 gx_232 ni0)
      refine wk_pure (opd 151 (.indexAddr 44 (.tmp 149) (.tmp 150)) 0) rfl (.pointer (some ⟨lg, 0 + (k_226 * 7 + 0), none⟩)) (fun _ => y_ptr (x_indexN (a := la) (b := lg) (off := 0) (n := L.length) (c := lc) (k := .i64) (i := ((k_226 : Nat) : Int)) (e := 50) (sz := 7) (sz' := 7) (by kernel_rfl) hb_239.1.sl (by kernel_rfl) (by kernel_rfl) rfl (by omega) _) (by omega)) ?_
      refine wk_val (opd 152 (.load 50 (.tmp 151)) 50) rfl (.agg #[.int .i64 ((L.getD k_226 M0).kind), .int .i64 ((L.getD k_226 M0).frm), .int .i64 ((L.getD k_226 M0).to), .int .u32 ((L.getD k_226 M0).view), .int .u32 ((L.getD k_226 M0).seq), .slice ((L.getD k_226 M0).na) ((L.getD k_226 M0).N.length) ((L.getD k_226 M0).nc), .slice ((L.getD k_226 M0).wa) ((L.getD k_226 M0).W.length) ((L.getD k_226 M0).wc)]) (x_load_cs (b := lg) (off := (0 + (k_226 * 7 + 0))) (n := 7) (vs := [.int .i64 ((L.getD k_226 M0).kind), .int .i64 ((L.getD k_226 M0).frm), .int .i64 ((L.getD k_226 M0).to), .int .u32 ((L.getD k_226 M0).view), .int .u32 ((L.getD k_226 M0).seq), .slice ((L.getD k_226 M0).na) ((L.getD k_226 M0).N.length) ((L.getD k_226 M0).nc), .slice ((L.getD k_226 M0).wa) ((L.getD k_226 M0).W.length) ((L.getD k_226 M0).wc)]) (by kernel_rfl) (by kernel_rfl) rfl (SlE.getN hb_239.1.sl encM_len M0 k_226 0 (by omega) rfl)) trivial ?_
      refine wk_buildSlice (e := 50) (cs := #[.int .i64 ((L.getD k_226 M0).kind), .int .i64 ((L.getD k_226 M0).frm), .int .i64 ((L.getD k_226 M0).to), .int .u32 ((L.getD k_226 M0).view), .int .u32 ((L.getD k_226 M0).seq), .slice ((L.getD k_226 M0).na) ((L.getD k_226 M0).N.length) ((L.getD k_226 M0).nc), .slice ((L.getD k_226 M0).wa) ((L.getD k_226 M0).W.length) ((L.getD k_226 M0).wc)]) (opd 153 (.buildSlice 44 1 #[(0, .tmp 152)]) 44) rfl (by kernel_rfl) (fun w_240 b_241 eq_242 e_243 sz_244 hb_245 => ⟨?_, ?_⟩)
      · exact trivial
      obtain ⟨γ_246, hg_247, hn_248⟩ := cls_new γ_231 w_230.heap.size 12003
      have gx_249 := GX.ext0 [] e_243 hg_247
      have hk_250 : Bk γ_246 w_240 b_241 12003 (.cells #[.int .i64 ((L.getD k_226 M0).kind), .int .i64 ((L.getD k_226 M0).frm), .int .i64 ((L.getD k_226 M0).to), .int .u32 ((L.getD k_226 M0).view), .int .u32 ((L.getD k_226 M0).seq), .slice ((L.getD k_226 M0).na) ((L.getD k_226 M0).N.length) ((L.getD k_226 M0).nc), .slice ((L.getD k_226 M0).wa) ((L.getD k_226 M0).W.length) ((L.getD k_226 M0).wc)] 50 (0, 0)) := ⟨hb_245, hn_248 _ (by omega)⟩
      have hs_251 : SlE w_240 7 (some ⟨b_241, 0, none⟩) b_241 0 encM [(L.getD k_226 M0)] := SlE.of_cells hk_250.1 encM_len (by rfl)
      have hb_261 := (OwNG.keep (OwNG.keep hr_222 gx_232 ni0) gx_249 ni0)
      have on_262 : OwNG γ_246 w_240 2000 50 7 oA oG oC encM outs orest := hb_261
      refine wk_append (M := ([(L.getD k_226 M0)])) (L := outs) (a := oA) (g := oG) (c := oC) (ax := (some ⟨b_241, 0, none⟩)) (bx := b_241) (offx := 0) (cx := 1) (e := 50) (sz := 7) (by_ := 80) (opd 154 (.call ⟨.builtin .append, #[.tmp 145, .tmp 153], #[44, 44]⟩) 44) rfl (by kernel_rfl) (by kernel_rfl) encM_len (by kernel_rfl) on_262.1 (by kernel_rfl) hs_251 (by simp) encM_one (by constructor <;> (first | omega | (simp only [List.length_singleton, List.length_nil, List.length_take, List.length_drop, List.length_append]; omega))) (fun w_252 b_253 cap_254 rest_255 hb_256 e_257 sz_258 lt_259 ho_260 => ⟨?_, ?_⟩)
      · exact trivial
      obtain ⟨γ_263, hg_264, hn_265⟩ := cls_new γ_246 w_240.heap.size 2000
      have gx_266 : GX [2000] w_240 γ_246 w_252 γ_263 := OwNG.gx on_262 e_257 hg_264
      have hk_267 : OwnG γ_263 w_252 2000 50 7 b_253 cap_254 encM (outs ++ ([(L.getD k_226 M0)])) rest_255 := ⟨ho_260, OwNG.appc on_262 hb_256 hg_264 hn_265⟩
      have hsz_268 := e_257.size
      refine wpa 7 (.tmp 154) 44 (.slice (some ⟨b_253, 0, none⟩) ((outs ++ ([(L.getD k_226 M0)])).length) cap_254) ?_
      refine wk_nil ?_
      refine thn_n ?_
      refine g_seq (x := lX3N1_89) (y := lX3N1_90) (by kernel_rfl) ?_
      refine g_last (ops := lX3R1_22) (id := 22) (by kernel_rfl) (fun w w' => GC [3000] γ_263 w w') 19 [pu 0, pu 2, pu 3, pu 4, pu 6, pu 9, pu 10, pu 11, pu 13, pu 14, (5, .stab), pu 7, (12, .stab), pu 15, lo 1, lo 8, lo 16, pu 17, pu 18] (by kernel_rfl) (by kernel_rfl) (fun _ => (GX.refl _ _ _).gc) (fun w_269 sm_270 => ?_)
      have gx_271 := GX.same [] γ_263 sm_270
      have hsz_272 : w_269.heap.size = w_252.heap.size := by rw [sm_270.heap]
      refine wpm 155 (.tmp 0) 42 (.pointer (some ⟨p, 0, none⟩)) ?_ (Eq.trans (by kernel_rfl) f_209)
      refine wpm 157 (.tmp 0) 42 (.pointer (some ⟨p, 0, none⟩)) ?_ (Eq.trans (by kernel_rfl) f_209)
      refine wpn 158 (.tmp 157) ⟨p, 0, none⟩ ?_
      refine wpf 159 46 (.tmp 158) 7 p 0 7 7 ?_
      refine wpm 161 (.tmp 8) 3 (.int .i64 ((k_226 : Nat) : Int)) ?_
      refine wpm 164 (.tmp 0) 42 (.pointer (some ⟨p, 0, none⟩)) ?_ (Eq.trans (by kernel_rfl) f_209)
      refine wpn 165 (.tmp 164) ⟨p, 0, none⟩ ?_
      refine wpf 166 46 (.tmp 165) 7 p 0 7 7 ?_
      refine wpm 168 (.tmp 8) 3 (.int .i64 ((k_226 : Nat) : Int)) ?_
      refine wk_pure (opd 169 (.binOp .add 3 (.tmp 168) (.const (.int .i64 1)) 3) 3) rfl (.int .i64 ((k_226 + 1 : Nat) : Int)) (fun _ => y_add (k := .i64) (a := ((k_226 : Nat) : Int)) (b := 1) (by kernel_rfl) (by kernel_rfl) (i64_to (by omega) (by omega))) ?_
      refine wk_stab (opd 160 (.load 44 (.tmp 159)) 44) rfl (.slice la L.length lc) (fun w'_ g_ => x_load (b := p) (off := 7) (by kernel_rfl) (by kernel_rfl) (GC.bk g_ (Bk.keep (Bk.keep (Bk.keep hb_238 gx_249 ni0) gx_266 ni1) gx_271 ni0) ni1) (by kernel_rfl)) ?_
      have hb_273 := (OwNG.keep (OwNG.keep (OwNG.keep hb_239 gx_249 ni0) gx_266 ni1) gx_271 ni0)
      have hle_272 := OwNG.le hb_273
      have hs_274 : SlE w_269 7 (cutA la lc 0 7) lg (0 + 0 * 7) encM ((L.drop 0).take (k_226 - 0)) := hb_273.1.sl.cut encM_len lc 0 (k_226 - 0) (by omega) (by omega)
      have hc_275 : SlG γ_263 w_269 (k + 2) 7 (cutA la lc 0 7) lg (0 + 0 * 7) encM ((L.drop 0).take (k_226 - 0)) := SlG.of_cut hs_274 (OwNG.slg hb_273) (by simp only [List.length_take, List.length_drop]; omega)
      refine wk_pure (opd 162 (.slice 44 (.tmp 160) none (some (.tmp 161)) none) 44) rfl (.slice (cutA la lc 0 7) (((L.drop 0).take (k_226 - 0)).length) (lc - 0)) (fun _ => y_slice (x_cutH (a := la) (n := L.length) (c := lc) (sz := 7) (e := 50) (q := .i64) (hi' := ((k_226 : Nat) : Int)) (h := k_226) (by kernel_rfl) (by kernel_rfl) (by kernel_rfl) (by omega) (by omega)) (cut_len (by omega))) ?_
      refine wk_stab (opd 167 (.load 44 (.tmp 166)) 44) rfl (.slice la L.length lc) (fun w'_ g_ => x_load (b := p) (off := 7) (by kernel_rfl) (by kernel_rfl) (GC.bk g_ (Bk.keep (Bk.keep (Bk.keep hb_238 gx_249 ni0) gx_266 ni1) gx_271 ni0) ni1) (by kernel_rfl)) ?_
      have hle_275 := OwNG.le hb_273
      have hs_276 : SlE w_269 7 (cutA la lc (k_226 + 1) 7) lg (0 + (k_226 + 1) * 7) encM ((L.drop (k_226 + 1)).take (L.length - (k_226 + 1))) := hb_273.1.sl.cut encM_len lc (k_226 + 1) (L.length - (k_226 + 1)) (by omega) (by omega)
      have hc_277 : SlG γ_263 w_269 (k + 2) 7 (cutA la lc (k_226 + 1) 7) lg (0 + (k_226 + 1) * 7) encM ((L.drop (k_226 + 1)).take (L.length - (k_226 + 1))) := SlG.of_cut hs_276 (OwNG.slg hb_273) (by simp only [List.length_take, List.length_drop]; omega)
      refine wk_pure (opd 170 (.slice 44 (.tmp 167) (some (.tmp 169)) none none) 44) rfl (.slice (cutA la lc (k_226 + 1) 7) (((L.drop (k_226 + 1)).take (L.length - (k_226 + 1))).length) (lc - (k_226 + 1))) (fun _ => y_slice (x_cutL (a := la) (n := L.length) (c := lc) (sz := 7) (e := 50) (k := .i64) (li := ((k_226 + 1 : Nat) : Int)) (l := (k_226 + 1)) (by kernel_rfl) (by kernel_rfl) (by kernel_rfl) (by omega) (by omega)) (cut_len (by omega))) ?_
      refine wk_buildSlice (e := 50) (cs := #[]) (opd 156 (.buildSlice 44 0 #[]) 44) rfl (by kernel_rfl) (fun w_278 b_279 eq_280 e_281 sz_282 hb_283 => ⟨?_, ?_⟩)
      · obtain ⟨γ_284, hg_285, hn_286⟩ := cls_new γ_263 w_269.heap.size 3000
        have gx_287 := GX.ext0 [] e_281 hg_285
        have hk_288 : Bk γ_284 w_278 b_279 3000 (.cells #[] 50 (0, 0)) := ⟨hb_283, hn_286 _ (by omega)⟩
        exact (GX.then0 (GX.refl [3000] _ _) e_281 hg_285).gc
      obtain ⟨γ_284, hg_285, hn_286⟩ := cls_new γ_263 w_269.heap.size 3000
      have gx_287 := GX.ext0 [] e_281 hg_285
      have hk_288 : Bk γ_284 w_278 b_279 3000 (.cells #[] 50 (0, 0)) := ⟨hb_283, hn_286 _ (by omega)⟩
      have hb_289 := (SlG.keep hc_275 gx_287 ni0)
      have on_299 : OwNG γ_284 w_278 3000 50 7 (some ⟨b_279, 0, none⟩) b_279 0 encM ([]) ([]) := (OwNG.of ⟨OwnE.of_cells (M := []) hk_288.1 encM_len (by kernel_rfl) (Nat.zero_le _), hk_288.2⟩)
      refine wk_append_some (M := ((L.drop 0).take (k_226 - 0))) (L := ([])) (g := b_279) (cap := 0) (ax := (cutA la lc 0 7)) (bx := lg) (offx := (0 + 0 * 7)) (cx := (lc - 0)) (e := 50) (sz := 7) (by_ := 80) (opd 163 (.call ⟨.builtin .append, #[.tmp 156, .tmp 162], #[44, 44]⟩) 44) rfl (by kernel_rfl) (by kernel_rfl) encM_len (by kernel_rfl) on_299.1 (by kernel_rfl) hb_289.1  encM_one (by constructor <;> (first | omega | (simp only [List.length_singleton, List.length_nil, List.length_take, List.length_drop, List.length_append]; omega))) (fun w_290 b_291 cap_292 rest_293 hb_294 e_295 sz_296 lt_297 ho_298 => ⟨?_, ?_⟩)
      · obtain ⟨γ_300, hg_301, hn_302⟩ := cls_new γ_284 w_278.heap.size 3000
        have gx_303 : GX [3000] w_278 γ_284 w_290 γ_300 := OwNG.gx on_299 e_295 hg_301
        have hk_304 : OwnG γ_300 w_290 3000 50 7 b_291 cap_292 encM (([]) ++ ((L.drop 0).take (k_226 - 0))) rest_293 := ⟨ho_298, OwNG.appc on_299 hb_294 hg_301 hn_302⟩
        exact (GX.thenNew (GX.then0 (GX.refl [3000] _ _) e_281 hg_285) e_295 (OwNG.newS (OwNG.of ⟨OwnE.of_cells (M := []) hk_288.1 encM_len (by kernel_rfl) (Nat.zero_le _), hk_288.2⟩) (by exact .inr (by omega))) hg_301).gc
      obtain ⟨γ_300, hg_301, hn_302⟩ := cls_new γ_284 w_278.heap.size 3000
      have gx_303 : GX [3000] w_278 γ_284 w_290 γ_300 := OwNG.gx on_299 e_295 hg_301
      have hk_304 : OwnG γ_300 w_290 3000 50 7 b_291 cap_292 encM (([]) ++ ((L.drop 0).take (k_226 - 0))) rest_293 := ⟨ho_298, OwNG.appc on_299 hb_294 hg_301 hn_302⟩
      have hsz_305 := e_295.size
      have hb_306 := (SlG.keep (SlG.keep hc_277 gx_287 ni0) gx_303 ni1)
      have on_316 : OwNG γ_300 w_290 3000 50 7 (some ⟨b_291, 0, none⟩) b_291 cap_292 encM (([]) ++ ((L.drop 0).take (k_226 - 0))) rest_293 := (OwNG.of hk_304)
      refine wk_append_some (M := ((L.drop (k_226 + 1)).take (L.length - (k_226 + 1)))) (L := (([]) ++ ((L.drop 0).take (k_226 - 0)))) (g := b_291) (cap := cap_292) (ax := (cutA la lc (k_226 + 1) 7)) (bx := lg) (offx := (0 + (k_226 + 1) * 7)) (cx := (lc - (k_226 + 1))) (e := 50) (sz := 7) (by_ := 80) (opd 171 (.call ⟨.builtin .append, #[.tmp 163, .tmp 170], #[44, 44]⟩) 44) rfl (by kernel_rfl) (by kernel_rfl) encM_len (by kernel_rfl) on_316.1 (by kernel_rfl) hb_306.1  encM_one (by constructor <;> (first | omega | (simp only [List.length_singleton, List.length_nil, List.length_take, List.length_drop, List.length_append]; omega))) (fun w_307 b_308 cap_309 rest_310 hb_311 e_312 sz_313 lt_314 ho_315 => ⟨?_, ?_⟩)
      · obtain ⟨γ_317, hg_318, hn_319⟩ := cls_new γ_300 w_290.heap.size 3000
        have gx_320 : GX [3000] w_290 γ_300 w_307 γ_317 := OwNG.gx on_316 e_312 hg_318
        have hk_321 : OwnG γ_317 w_307 3000 50 7 b_308 cap_309 encM ((([]) ++ ((L.drop 0).take (k_226 - 0))) ++ ((L.drop (k_226 + 1)).take (L.length - (k_226 + 1)))) rest_310 := ⟨ho_315, OwNG.appc on_316 hb_311 hg_318 hn_319⟩
        exact (GX.thenNew (GX.thenNew (GX.then0 (GX.refl [3000] _ _) e_281 hg_285) e_295 (OwNG.newS (OwNG.of ⟨OwnE.of_cells (M := []) hk_288.1 encM_len (by kernel_rfl) (Nat.zero_le _), hk_288.2⟩) (by exact .inr (by omega))) hg_301) e_312 (OwNG.newS (OwNG.of hk_304) (by exact .inr (by omega))) hg_318).gc
      obtain ⟨γ_317, hg_318, hn_319⟩ := cls_new γ_300 w_290.heap.size 3000
      have gx_320 : GX [3000] w_290 γ_300 w_307 γ_317 := OwNG.gx on_316 e_312 hg_318
      have hk_321 : OwnG γ_317 w_307 3000 50 7 b_308 cap_309 encM ((([]) ++ ((L.drop 0).take (k_226 - 0))) ++ ((L.drop (k_226 + 1)).take (L.length - (k_226 + 1)))) rest_310 := ⟨ho_315, OwNG.appc on_316 hb_311 hg_318 hn_319⟩
      have hsz_322 := e_312.size
      refine wpn 172 (.tmp 155) ⟨p, 0, none⟩ ?_
      refine wpf 173 46 (.tmp 172) 7 p 0 7 7 ?_
      refine wk_nil ?_
      have hb_323 := (Bk.keep (Bk.keep (Bk.keep (Bk.keep (Bk.keep (Bk.keep hb_238 gx_249 ni0) gx_266 ni1) gx_271 ni0) gx_287 ni0) gx_303 ni1) gx_320 ni1)
      refine wk_store (b := p) (off := 7) (cs' := #[.int .i64 s.own, .int .i64 s.peer, .int .u32 s.view, .slice s.oa s.out.length s.oc, .int .u32 s.last, .int .u32 0, .int .u32 s.told, .slice (some ⟨b_308, 0, none⟩) (((([]) ++ ((L.drop 0).take (k_226 - 0))) ++ ((L.drop (k_226 + 1)).take (L.length - (k_226 + 1)))).length) cap_309, .int .u32 nx, .int .i64 s.now]) (vs := #[.slice (some ⟨b_308, 0, none⟩) (((([]) ++ ((L.drop 0).take (k_226 - 0))) ++ ((L.drop (k_226 + 1)).take (L.length - (k_226 + 1)))).length) cap_309]) (opn (.store 44 (.tmp 173) (.tmp 171)) 0) rfl (by kernel_rfl) (by kernel_rfl) (by kernel_rfl) (by kernel_rfl) hb_323.1 (Nat.le_of_ble_eq_true rfl) (by kernel_rfl) (by kernel_rfl) (fun w_324 e_325 sz_326 hb_327 => ⟨?_, ?_⟩)
      · exact trivial
      have gx_328 : GX [k] w_307 γ_317 w_324 γ_317 := GX.ext1 e_325 hb_323.2 (fun _ _ => rfl)
      have hk_329 : Bk γ_317 w_324 p k (.cells #[.int .i64 s.own, .int .i64 s.peer, .int .u32 s.view, .slice s.oa s.out.length s.oc, .int .u32 s.last, .int .u32 0, .int .u32 s.told, .slice (some ⟨b_308, 0, none⟩) (((([]) ++ ((L.drop 0).take (k_226 - 0))) ++ ((L.drop (k_226 + 1)).take (L.length - (k_226 + 1)))).length) cap_309, .int .u32 nx, .int .i64 s.now] 46 (0, 0)) := ⟨hb_327, hb_323.2⟩
      refine wk_nil ?_
      refine thn_n ?_
      refine g_region (ops := lX3R1_23) (id := 23) (by kernel_rfl) [pu 0, pu 1, pu 2, lo 3, pu 4, pu 5, pu 6, lo 7] (by kernel_rfl) (by kernel_rfl) ?_
      refine wpm 174 (.tmp 0) 42 (.pointer (some ⟨p, 0, none⟩)) ?_ (Eq.trans (by kernel_rfl) f_209)
      refine wpn 175 (.tmp 174) ⟨p, 0, none⟩ ?_
      refine wpf 176 46 (.tmp 175) 8 p 0 8 8 ?_
      refine wpl 177 27 (.tmp 176) (.int .u32 nx) p 8 hk_329.1 ?_
      refine wk_pure (opd 178 (.binOp .add 27 (.tmp 177) (.const (.int .u32 1)) 27) 27) rfl (.int .u32 (nx + 1)) (fun _ => y_add (k := .u32) (a := nx) (b := 1) (by kernel_rfl) (by kernel_rfl) (u32_to (by omega) rfl)) ?_
      refine wpn 179 (.tmp 174) ⟨p, 0, none⟩ ?_
      refine wpf 180 46 (.tmp 179) 8 p 0 8 8 ?_
      refine wk_store (b := p) (off := 8) (cs' := #[.int .i64 s.own, .int .i64 s.peer, .int .u32 s.view, .slice s.oa s.out.length s.oc, .int .u32 s.last, .int .u32 0, .int .u32 s.told, .slice (some ⟨b_308, 0, none⟩) (((([]) ++ ((L.drop 0).take (k_226 - 0))) ++ ((L.drop (k_226 + 1)).take (L.length - (k_226 + 1)))).length) cap_309, .int .u32 (nx + 1), .int .i64 s.now]) (vs := #[.int .u32 (nx + 1)]) (opn (.store 27 (.tmp 180) (.tmp 178)) 0) rfl (by kernel_rfl) (by kernel_rfl) (by kernel_rfl) (by kernel_rfl) hk_329.1 (Nat.le_of_ble_eq_true rfl) (by kernel_rfl) (by kernel_rfl) (fun w_330 e_331 sz_332 hb_333 => ⟨?_, ?_⟩)
      · exact trivial
      have gx_334 : GX [k] w_324 γ_317 w_330 γ_317 := GX.ext1 e_331 hk_329.2 (fun _ _ => rfl)
      have hk_335 : Bk γ_317 w_330 p k (.cells #[.int .i64 s.own, .int .i64 s.peer, .int .u32 s.view, .slice s.oa s.out.length s.oc, .int .u32 s.last, .int .u32 0, .int .u32 s.told, .slice (some ⟨b_308, 0, none⟩) (((([]) ++ ((L.drop 0).take (k_226 - 0))) ++ ((L.drop (k_226 + 1)).take (L.length - (k_226 + 1)))).length) cap_309, .int .u32 (nx + 1), .int .i64 s.now] 46 (0, 0)) := ⟨hb_333, hk_329.2⟩
      refine wk_nil ?_
      refine blk_n ?_
      refine thn_n ?_
      obtain ⟨γ_336, hr_337, hr_338, hr_339⟩ := recls γ_317 w.heap.size 3000 (k + 2)
      have gx_340 : GX [3000] w_330 γ_317 w_330 γ_336 := GX.re w_330 hr_338
      have her_ : ((([]) ++ ((L.drop 0).take (k_226 - 0))) ++ ((L.drop (k_226 + 1)).take (L.length - (k_226 + 1)))) = L.eraseIdx k_226 := erase_cuts (by omega)
      have hel_ : (L.eraseIdx k_226).length = L.length - 1 := List.length_eraseIdx_of_lt (by omega)
      have hb_341 := (AllOk.keep (AllOk.keep (AllOk.keep (AllOk.keep (AllOk.keep (AllOk.keep (AllOk.keep (AllOk.keep (AllOk.keep (AllOk.keep hr_223 gx_232 ni0) gx_249 ni0) gx_266 ni1) gx_271 ni0) gx_287 ni0) gx_303 ni1) gx_320 ni1) gx_328 ni1) gx_334 ni1) gx_340 ni1)
      have hsub_ : AllOk γ_336 w_330 (L.eraseIdx k_226) := AllOk.sub hb_341 (fun x_ hx_ => mem_eraseIdx' hx_)
      have hb_342 := (AllOk.keep (AllOk.keep (AllOk.keep (AllOk.keep (AllOk.keep (AllOk.keep (AllOk.keep (AllOk.keep (AllOk.keep (AllOk.keep hr_224 gx_232 ni0) gx_249 ni0) gx_266 ni1) gx_271 ni0) gx_287 ni0) gx_303 ni1) gx_320 ni1) gx_328 ni1) gx_334 ni1) gx_340 ni1)
      have hadd_ : AllOk γ_336 w_330 (outs ++ [(L.getD k_226 M0)]) := AllOk.add hb_342 (AllOk.get hb_341 (by omega))
      have hlg_ : OwNG γ_336 w_330 (k + 2) 50 7 (some ⟨b_308, 0, none⟩) b_308 cap_309 encM (L.eraseIdx k_226) rest_310 := by rw [← her_]; exact OwNG.of (OwnG.re (OwnG.keep (OwnG.keep hk_321 gx_328 ni1) gx_334 ni1) hr_339 (appNew hb_311 (.inr (appNew hb_294 (.inr (by omega)) (by omega))) (by omega)))
      have hb_343 := (Bk.keep hk_335 gx_340 ni1)
      have hpf_ := hb_343
      rw [her_] at hpf_
      have hb_344 := (OwnG.keep (OwnG.keep (OwnG.keep (OwnG.keep (OwnG.keep (OwnG.keep (OwnG.keep hk_267 gx_271 ni0) gx_287 ni0) gx_303 ni1) gx_320 ni1) gx_328 ni1) gx_334 ni1) gx_340 ni1)
      obtain ⟨f, rfl⟩ : ∃ f', f = f' + 1 := ⟨f - 1, by omega⟩
      have hb_345 := (QuG.keep (QuG.keep (QuG.keep (QuG.keep (QuG.keep (QuG.keep (QuG.keep (QuG.keep (QuG.keep (QuG.keep hr_214 gx_232 ni0) gx_249 ni0) gx_266 ni1) gx_271 ni0) gx_287 ni0) gx_303 ni1) gx_320 ni1) gx_328 ni1) gx_334 ni1) gx_340 ni1)
      have hb_346 := (AllOk.keep (AllOk.keep (AllOk.keep (AllOk.keep (AllOk.keep (AllOk.keep (AllOk.keep (AllOk.keep (AllOk.keep (AllOk.keep hr_215 gx_232 ni0) gx_249 ni0) gx_266 ni1) gx_271 ni0) gx_287 ni0) gx_303 ni1) gx_320 ni1) gx_328 ni1) gx_334 ni1) gx_340 ni1)
      have hb_347 := (MOk.keep (MOk.keep (MOk.keep (MOk.keep (MOk.keep (MOk.keep (MOk.keep (MOk.keep (MOk.keep (MOk.keep hr_216 gx_232 ni0) gx_249 ni0) gx_266 ni1) gx_271 ni0) gx_287 ni0) gx_303 ni1) gx_320 ni1) gx_328 ni1) gx_334 ni1) gx_340 ni1)
      have hb_348 := (Bk.keep (Bk.keep (Bk.keep (Bk.keep (Bk.keep (Bk.keep (Bk.keep (Bk.keep (Bk.keep (Bk.keep hr_217 gx_232 ni0) gx_249 ni0) gx_266 ni1) gx_271 ni0) gx_287 ni0) gx_303 ni1) gx_320 ni1) gx_328 ni1) gx_334 ni1) gx_340 ni1)
      have hb_349 := (Bk.keep (Bk.keep (Bk.keep (Bk.keep (Bk.keep (Bk.keep (Bk.keep (Bk.keep (Bk.keep (Bk.keep hr_218 gx_232 ni0) gx_249 ni0) gx_266 ni1) gx_271 ni0) gx_287 ni0) gx_303 ni1) gx_320 ni1) gx_328 ni1) gx_334 ni1) gx_340 ni1)
      have hb_350 := (OwnG.keep (OwnG.keep (OwnG.keep (OwnG.keep (OwnG.keep (OwnG.keep (OwnG.keep (OwnG.keep (OwnG.keep (OwnG.keep hr_219 gx_232 ni0) gx_249 ni0) gx_266 ni1) gx_271 ni0) gx_287 ni0) gx_303 ni1) gx_320 ni1) gx_328 ni1) gx_334 ni1) gx_340 ni1)
      exact ⟨_, (by omega), ⟨(L.eraseIdx k_226), _, b_308, cap_309, rest_310, (nx + 1), (outs ++ [(L.getD k_226 M0)]), _, b_253, cap_254, rest_255, f, _, rfl, by rw [hR]; simp only [readyG, hix_k_226]; rw [abs_getD, map_eraseIdx', List.map_append, Int.emod_eq_of_lt (by omega) (by omega)]; rfl, by omega, by rw [List.length_append, List.length_singleton]; omega, by omega, by exact .inr (appNew hb_256 hO (by omega)), (Eq.trans (by kernel_rfl) f_209), (Eq.trans (by kernel_rfl) f_210), (Eq.trans (by kernel_rfl) f_211), (Eq.trans (by kernel_rfl) f_212), (by kernel_rfl), hb_345, hb_346, hb_347, hb_348, hb_349, hb_350, hpf_, hlg_, (OwNG.of hb_344), hsub_, hadd_, (GX.thenRe (GX.trans (GX.trans (GX.thenNew (GX.thenNew (GX.then0 (GX.then_same (GX.thenNew (GX.then0 (GX.trans hE_207 gx_232 (fun _ h_ => absurd h_ List.not_mem_nil)) e_243 hg_247) e_257 (OwNG.newS hb_261 (by exact hO)) hg_264) sm_270) e_281 hg_285) e_295 (OwNG.newS (OwNG.of ⟨OwnE.of_cells (M := []) hk_288.1 encM_len (by kernel_rfl) (Nat.zero_le _), hk_288.2⟩) (by exact .inr (by omega))) hg_301) e_312 (OwNG.newS (OwNG.of hk_304) (by exact .inr (by omega))) hg_318) gx_328 (by intro c_ hc_; simp only [List.mem_cons, List.not_mem_nil, or_false] at hc_ ⊢; omega)) gx_334 (by intro c_ hc_; simp only [List.mem_cons, List.not_mem_nil, or_false] at hc_ ⊢; omega)) (fun b_ hb_ => hr_337 b_ (by omega)))⟩⟩
    · exact trivial
    have hsz_351 := gx_236.size
    have hix_ : idxOf (L.map MsgR.abs) (nx + 1) = none := idx_none (L := L) hn_233
    refine wpa 8 (.tmp 142) 3 (.int .i64 (-1)) ?_
    refine wk_nil ?_
    refine thn_n ?_
    refine g_seq (x := lX3N1_81) (y := lX3N1_82) (by kernel_rfl) ?_
    refine g_seq (x := lX3N1_83) (y := lX3N1_84) (by kernel_rfl) ?_
    refine g_region (ops := lX3R1_20) (id := 20) (by kernel_rfl) [pu 0, pu 1] (by kernel_rfl) (by kernel_rfl) ?_
    refine wpm 143 (.tmp 8) 3 (.int .i64 (-1)) ?_
    refine wk_pure (opd 144 (.binOp .lss 3 (.tmp 143) (.const (.int .i64 0)) 3) 4) rfl (.bool true) (fun _ => y_lss (k := .i64) (a := (-1)) (b := 0) (by kernel_rfl) (by kernel_rfl) (by decide)) ?_
    refine wk_nil ?_
    refine thn_n ?_
    refine g_cond_t (o := .tmp 144) (x := lX3N1_85) (y := lX3N1_86) (by kernel_rfl) (by kernel_rfl) ?_
    refine g_exit (id := 2) (by kernel_rfl) ?_
    refine thn_e ?_
    refine blk_miss (by decide) ?_
    refine thn_e ?_
    refine blk_hit ?_
    refine thn_n ?_
    refine g_seq (x := lX3N1_91) (y := lX3N1_92) (by kernel_rfl) ?_
    refine g_region (ops := lX3R1_24) (id := 24) (by kernel_rfl) [pu 0, pu 1, lo 2, pu 3, pu 4, pu 5] (by kernel_rfl) (by kernel_rfl) ?_
    refine wpm 181 (.tmp 7) 44 (.slice oA outs.length oC) ?_ (Eq.trans (by kernel_rfl) f_213)
    refine wpm 182 (.tmp 0) 42 (.pointer (some ⟨p, 0, none⟩)) ?_ (Eq.trans (by kernel_rfl) f_209)
    have hb_352 := (QuG.keep hr_214 gx_236 ni0)
    have hb_353 := (OwNG.keep hr_221 gx_236 ni0)
    have hb_354 := (Bk.keep hr_220 gx_236 ni0)
    have hb_355 := (AllOk.keep hr_215 gx_236 ni0)
    have hb_356 := (AllOk.keep hr_223 gx_236 ni0)
    have hL_357 : RefAt γ_235 w_234 k p (⟨s.own, s.peer, s.view, s.oa, s.og, s.oo, s.oc, s.out, s.last, s.told, la, lg, lc, L, lrest, nx, s.now⟩ : RfR) := ⟨hb_354, hb_352, hb_353, hb_355, hb_356, h_hn, h_b1, h_b2, h_b3, (by show 0 ≤ nx ∧ nx < 4294967295; omega), h_b5, h_l1, (by show L.length ≤ 1000000; first | omega | (rw [List.length_append, List.length_singleton]; omega)), h_l3⟩
    refine wkc 183 35 #[.tmp 182] #[42] 44 #[.pointer (some ⟨p, 0, none⟩)] Try.func35 (ack_c hL_357 hk (fun w_358 γ_359 v_360 r_361 gx_362 hM_363 ha_364 => ⟨?_, ?_⟩))
    · exact trivial
    have hsz_365 := gx_362.size
    refine wpa 4 (.tmp 181) 44 (.slice oA outs.length oC) ?_
    refine wpa 5 (.tmp 183) 44 v_360 ?_
    refine wpa 6 (.const (.int .i64 0)) 24 (.int .i64 0) ?_
    refine wk_nil ?_
    refine thn_n ?_
    refine g_ret (by kernel_rfl) ?_
    refine ends3_r (v := .slice oA outs.length oC) (v' := v_360) (v'' := .int .i64 0) rfl (by kernel_rfl) (by kernel_rfl) (by kernel_rfl) ?_
    have hb_366 := (OwNG.keep (OwNG.keep hr_222 gx_236 ni0) gx_362 ni0)
    obtain ⟨γ_367, hr_368, hr_369, hr_370⟩ := recls γ_359 w.heap.size 2000 0
    have gx_371 : GX [2000] w_358 γ_359 w_358 γ_367 := GX.re w_358 hr_369
    have hb_372 := (QuG.keep (QuG.keep hb_352 gx_362 ni0) gx_371 ni1)
    have hb_373 := (OwNG.keep (OwNG.keep hb_353 gx_362 ni0) gx_371 ni1)
    have hb_374 := (Bk.keep (Bk.keep hb_354 gx_362 ni0) gx_371 ni1)
    have hb_375 := (AllOk.keep (AllOk.keep hb_355 gx_362 ni0) gx_371 ni1)
    have hb_376 := (AllOk.keep (AllOk.keep hb_356 gx_362 ni0) gx_371 ni1)
    obtain ⟨f, rfl⟩ : ∃ f', f = f' + 1 := ⟨f - 1, by omega⟩
    have hR2 : readyG (s.held.length + 2) [] (s.held.map MsgR.abs ++ [m.abs]) (s.come + 1) = (outs.map MsgR.abs, L.map MsgR.abs, nx + 1) := by rw [← show (s.held ++ [m]).map MsgR.abs = s.held.map MsgR.abs ++ [m.abs] by rw [List.map_append]; rfl, hR]; simp only [readyG, hix_]
    have hb_377 := (AllOk.keep (AllOk.keep (AllOk.keep hr_224 gx_236 ni0) gx_362 ni0) gx_371 ni1)
    have hb_378 := (MsgsAt.keep hM_363 gx_371 ni1)
    exact h8 (by omega) (by omega) (by omega) (by omega) (by omega) (idx_none (L := s.held) hn_127) (by omega) _ _ _ _ outs r_361 (L := L) (la := la) (lg := lg) (lc := lc) (lrest := lrest) (nx := nx) (GX.thenRe (GX.trans (GX.trans hE_207 gx_236 (fun _ h_ => absurd h_ List.not_mem_nil)) gx_362 (fun _ h_ => absurd h_ List.not_mem_nil)) (fun b_ hb_ => hr_368 b_ (by omega))) ⟨_, _, _, _, rfl, OwNG.slg (OwNG.re hb_366 hr_370 hO), hb_377⟩ hb_378 ⟨hb_374, hb_372, hb_373, hb_375, hb_376, h_hn, h_b1, h_b2, h_b3, (by show 0 ≤ nx ∧ nx < 4294967295; omega), h_b5, h_l1, (by show L.length ≤ 1000000; omega), h_l3⟩ hR2.symm ha_364
  have hb_379 := (Bk.keep hb_151 gx_156 ni0)
  refine wk_val (opd 131 (.load 50 (.tmp 3)) 50) rfl (.agg #[.int .i64 m.kind, .int .i64 m.frm, .int .i64 m.to, .int .u32 m.view, .int .u32 m.seq, .slice m.na m.N.length m.nc, .slice m.wa m.W.length m.wc]) (x_load_agg (b := b_1) (off := 0) (n := 7) (by kernel_rfl) (by kernel_rfl) hb_379.1 (Nat.le_of_ble_eq_true rfl) (by kernel_rfl)) trivial ?_
  refine wk_nil ?_
  refine wkP_seq ?_
  refine wk_nil ?_
  refine wkP_two ?_ ?_
  · have hb_380 := (Bk.keep hb_152 gx_156 ni0)
    refine wpl 130 44 (.tmp 129) (.slice s.ha s.held.length s.hc) p 7 hb_380.1 ?_
    refine wk_nil ?_
    refine wkP_seq ?_
    refine wk_buildSlice (e := 50) (cs := #[.int .i64 m.kind, .int .i64 m.frm, .int .i64 m.to, .int .u32 m.view, .int .u32 m.seq, .slice m.na m.N.length m.nc, .slice m.wa m.W.length m.wc]) (opd 132 (.buildSlice 44 1 #[(0, .tmp 131)]) 44) rfl (by kernel_rfl) (fun w_381 b_382 eq_383 e_384 sz_385 hb_386 => ⟨?_, ?_⟩)
    · exact trivial
    obtain ⟨γ_387, hg_388, hn_389⟩ := cls_new γ_129 w_154.heap.size 12004
    have gx_390 := GX.ext0 [] e_384 hg_388
    have hk_391 : Bk γ_387 w_381 b_382 12004 (.cells #[.int .i64 m.kind, .int .i64 m.frm, .int .i64 m.to, .int .u32 m.view, .int .u32 m.seq, .slice m.na m.N.length m.nc, .slice m.wa m.W.length m.wc] 50 (0, 0)) := ⟨hb_386, hn_389 _ (by omega)⟩
    have hs_392 : SlE w_381 7 (some ⟨b_382, 0, none⟩) b_382 0 encM [m] := SlE.of_cells hk_391.1 encM_len (by rfl)
    have hb_402 := (OwNG.keep (OwNG.keep (OwNG.keep (OwNG.keep hb_115 gx_130 ni0) gx_149 ni0) gx_156 ni0) gx_390 ni0)
    have on_403 : OwNG γ_387 w_381 (k + 2) 50 7 s.ha s.hg s.hc encM s.held s.hrest := hb_402
    refine wk_append (M := ([m])) (L := s.held) (a := s.ha) (g := s.hg) (c := s.hc) (ax := (some ⟨b_382, 0, none⟩)) (bx := b_382) (offx := 0) (cx := 1) (e := 50) (sz := 7) (by_ := 80) (opd 133 (.call ⟨.builtin .append, #[.tmp 130, .tmp 132], #[44, 44]⟩) 44) rfl (by kernel_rfl) (by kernel_rfl) encM_len (by kernel_rfl) on_403.1 (by kernel_rfl) hs_392 (by simp) encM_one (by constructor <;> (first | omega | (simp only [List.length_singleton, List.length_nil, List.length_take, List.length_drop, List.length_append]; omega))) (fun w_393 b_394 cap_395 rest_396 hb_397 e_398 sz_399 lt_400 ho_401 => ⟨?_, ?_⟩)
    · exact trivial
    obtain ⟨γ_404, hg_405, hn_406⟩ := cls_new γ_387 w_381.heap.size (k + 2)
    have gx_407 : GX [k + 2] w_381 γ_387 w_393 γ_404 := OwNG.gx on_403 e_398 hg_405
    have hk_408 : OwnG γ_404 w_393 (k + 2) 50 7 b_394 cap_395 encM (s.held ++ ([m])) rest_396 := ⟨ho_401, OwNG.appc on_403 hb_397 hg_405 hn_406⟩
    have hsz_409 := e_398.size
    refine wpn 134 (.tmp 126) ⟨p, 0, none⟩ ?_
    refine wpf 135 46 (.tmp 134) 7 p 0 7 7 ?_
    have hb_410 := (Bk.keep (Bk.keep hb_380 gx_390 ni0) gx_407 ni1)
    refine wk_store (b := p) (off := 7) (cs' := #[.int .i64 s.own, .int .i64 s.peer, .int .u32 s.view, .slice s.oa s.out.length s.oc, .int .u32 s.last, .int .u32 0, .int .u32 s.told, .slice (some ⟨b_394, 0, none⟩) ((s.held ++ ([m])).length) cap_395, .int .u32 s.come, .int .i64 s.now]) (vs := #[.slice (some ⟨b_394, 0, none⟩) ((s.held ++ ([m])).length) cap_395]) (opn (.store 44 (.tmp 135) (.tmp 133)) 0) rfl (by kernel_rfl) (by kernel_rfl) (by kernel_rfl) (by kernel_rfl) hb_410.1 (Nat.le_of_ble_eq_true rfl) (by kernel_rfl) (by kernel_rfl) (fun w_411 e_412 sz_413 hb_414 => ⟨?_, ?_⟩)
    · exact trivial
    have gx_415 : GX [k] w_393 γ_404 w_411 γ_404 := GX.ext1 e_412 hb_410.2 (fun _ _ => rfl)
    have hk_416 : Bk γ_404 w_411 p k (.cells #[.int .i64 s.own, .int .i64 s.peer, .int .u32 s.view, .slice s.oa s.out.length s.oc, .int .u32 s.last, .int .u32 0, .int .u32 s.told, .slice (some ⟨b_394, 0, none⟩) ((s.held ++ ([m])).length) cap_395, .int .u32 s.come, .int .i64 s.now] 46 (0, 0)) := ⟨hb_414, hb_410.2⟩
    refine wk_nil ?_
    refine wkP_nil ?_
    refine thn_n ?_
    refine g_seq (x := lX3N1_72) (y := lX3N1_73) (by kernel_rfl) ?_
    refine g_region (ops := lX3R1_18) (id := 18) (by kernel_rfl) [pu 0] (by kernel_rfl) (by kernel_rfl) ?_
    refine wpa 7 (.const (.slice none 0 0)) 44 (.slice none 0 0) ?_
    refine wk_nil ?_
    refine thn_n ?_
    refine g_seq (x := lX3N1_74) (y := lX3N1_75) (by kernel_rfl) ?_
    refine g_block (x := lX3N1_76) (id := 2) (by kernel_rfl) ?_
    have hb_418 := (AllOk.keep (AllOk.keep (AllOk.keep (AllOk.keep (AllOk.keep (AllOk.keep hb_118 gx_130 ni0) gx_149 ni0) gx_156 ni0) gx_390 ni0) gx_407 ni1) gx_415 ni1)
    have hb_419 : MOk γ_404 w_411 m := (MOk.keep (MOk.keep (MOk.keep (MOk.keep (MOk.keep (MOk.keep (MOk.keep (MOk.keep (MOk.keep (MOk.keep hm gx_10 ni0) gx_14 ni0) gx_22 ni0) gx_96 ni0) gx_130 ni0) gx_149 ni0) gx_156 ni0) gx_390 ni0) gx_407 ni1) gx_415 ni1)
    have hah_417 : AllOk γ_404 w_411 (s.held ++ [m]) := AllOk.add hb_418 hb_419
    have hb_420 := (OwnG.keep hk_408 gx_415 ni1)
    have hb_421 := (QuG.keep (QuG.keep (QuG.keep (QuG.keep (QuG.keep (QuG.keep hb_114 gx_130 ni0) gx_149 ni0) gx_156 ni0) gx_390 ni0) gx_407 ni1) gx_415 ni1)
    have hb_422 := (AllOk.keep (AllOk.keep (AllOk.keep (AllOk.keep (AllOk.keep (AllOk.keep hb_117 gx_130 ni0) gx_149 ni0) gx_156 ni0) gx_390 ni0) gx_407 ni1) gx_415 ni1)
    have hb_423 := (Bk.keep (Bk.keep (Bk.keep hb_379 gx_390 ni0) gx_407 ni1) gx_415 ni1)
    have hb_424 := (Bk.keep (Bk.keep hk_391 gx_407 ni1) gx_415 ni1)
    refine g_loop (x := lX3N1_77) (by kernel_rfl) (fun m_ ρ_ w_ => ∃ (L : List MsgR) (la : Option Addr) (lg : Nat) (lc : Nat) (lrest : List Value) (nx : Int) (outs : List MsgR) (oA : Option Addr) (oG : Nat) (oC : Nat) (orest : List Value) (f : Nat) (γ_ : Nat → Nat), m_ = L.length ∧ (readyG (s.held.length + 2) [] ((s.held ++ [m]).map MsgR.abs) (s.come + 1) = readyG f (outs.map MsgR.abs) (L.map MsgR.abs) (nx + 1)) ∧ (L.length < f) ∧ (outs.length + L.length = s.held.length + 1) ∧ (0 ≤ nx ∧ nx + L.length ≤ s.come + s.held.length + 1) ∧ (oA = none ∨ w.heap.size ≤ oG) ∧ ρ_ 0 = .pointer (some ⟨p, 0, none⟩) ∧ ρ_ 4 = .slice none 0 0 ∧ ρ_ 5 = .slice none 0 0 ∧ ρ_ 6 = .int .i64 0 ∧ ρ_ 7 = .slice oA outs.length oC ∧ QuG γ_ w_ (k + 1) 71 8 s.oa s.og s.oo s.oc encP s.out ∧ AllOk γ_ w_ (s.out.map (·.m)) ∧ MOk γ_ w_ m ∧ Bk γ_ w_ b_1 12001 (.cells #[.int .i64 m.kind, .int .i64 m.frm, .int .i64 m.to, .int .u32 m.view, .int .u32 m.seq, .slice m.na m.N.length m.nc, .slice m.wa m.W.length m.wc] 50 (0, 0)) ∧ Bk γ_ w_ b_382 12004 (.cells #[.int .i64 m.kind, .int .i64 m.frm, .int .i64 m.to, .int .u32 m.view, .int .u32 m.seq, .slice m.na m.N.length m.nc, .slice m.wa m.W.length m.wc] 50 (0, 0)) ∧ OwnG γ_ w_ (k + 2) 50 7 b_394 cap_395 encM (s.held ++ ([m])) rest_396 ∧ Bk γ_ w_ p k (.cells #[.int .i64 s.own, .int .i64 s.peer, .int .u32 s.view, .slice s.oa s.out.length s.oc, .int .u32 s.last, .int .u32 0, .int .u32 s.told, .slice la L.length lc, .int .u32 nx, .int .i64 s.now] 46 (0, 0)) ∧ OwNG γ_ w_ (k + 2) 50 7 la lg lc encM L lrest ∧ OwNG γ_ w_ 2000 50 7 oA oG oC encM outs orest ∧ AllOk γ_ w_ L ∧ AllOk γ_ w_ outs ∧ GX [k, k + 1, k + 2] w γ w_ γ_) ((s.held ++ [m]).length) ?_ ?_
    · exact ⟨(s.held ++ [m]), (some ⟨b_394, 0, none⟩), b_394, cap_395, rest_396, s.come, [], none, 0, 0, [], (s.held.length + 2), _, rfl, by rfl, by rw [List.length_append, List.length_singleton]; omega, by simp, by rw [List.length_append, List.length_singleton]; omega, by exact .inl rfl, (by kernel_rfl), (by kernel_rfl), (by kernel_rfl), (by kernel_rfl), (by kernel_rfl), hb_421, hb_422, hb_419, hb_423, hb_424, hb_420, hk_416, (OwNG.of hb_420), (OwNG.nil _ _ _ _ _ 0 _ []), hah_417, AllOk.nil, (GX.trans (GX.trans (GX.then0 (GX.then_same (GX.then_same (GX.trans (GX.then_same (GX.then_same (GX.then_same (GX.then0 (GX.refl [k, k + 1, k + 2] _ _) e_3 hg_8) sm_13) sm_21) sm_95) gx_130 (fun _ h_ => absurd h_ List.not_mem_nil)) sm_148) sm_155) e_384 hg_388) gx_407 (by intro c_ hc_; simp only [List.mem_cons, List.not_mem_nil, or_false] at hc_ ⊢; omega)) gx_415 (by intro c_ hc_; simp only [List.mem_cons, List.not_mem_nil, or_false] at hc_ ⊢; omega))⟩
    intro m_425 ρ_426 w_427 hI
    obtain ⟨L, la, lg, lc, lrest, nx, outs, oA, oG, oC, orest, f, γ_429, hm_m_425, hR, hf, hlen, hnx, hO, f_430, f_431, f_432, f_433, f_434, hr_435, hr_436, hr_437, hr_438, hr_439, hr_440, hr_441, hr_442, hr_443, hr_444, hr_445, hE_428⟩ := hI
    have hs_w_427 := hE_428.size
    refine g_block (x := lX3N1_78) (id := 3) (by kernel_rfl) ?_
    refine g_seq (x := lX3N1_79) (y := lX3N1_80) (by kernel_rfl) ?_
    refine g_region (ops := lX3R1_19) (id := 19) (by kernel_rfl) [pu 0, pu 1, pu 2, pu 3, lo 4, pu 5, lo 6, pu 7] (by kernel_rfl) (by kernel_rfl) ?_
    refine wpm 136 (.tmp 0) 42 (.pointer (some ⟨p, 0, none⟩)) ?_ (Eq.trans (by kernel_rfl) f_430)
    refine wpm 137 (.tmp 0) 42 (.pointer (some ⟨p, 0, none⟩)) ?_ (Eq.trans (by kernel_rfl) f_430)
    refine wpn 138 (.tmp 137) ⟨p, 0, none⟩ ?_
    refine wpf 139 46 (.tmp 138) 8 p 0 8 8 ?_
    refine wpl 140 27 (.tmp 139) (.int .u32 nx) p 8 hr_441.1 ?_
    refine wk_pure (opd 141 (.binOp .add 27 (.tmp 140) (.const (.int .u32 1)) 27) 27) rfl (.int .u32 (nx + 1)) (fun _ => y_add (k := .u32) (a := nx) (b := 1) (by kernel_rfl) (by kernel_rfl) (u32_to (by omega) rfl)) ?_
    have hL_446 : RefAt γ_429 w_427 k p (⟨s.own, s.peer, s.view, s.oa, s.og, s.oo, s.oc, s.out, s.last, s.told, la, lg, lc, L, lrest, nx, s.now⟩ : RfR) := ⟨hr_441, hr_435, hr_442, hr_436, hr_444, h_hn, h_b1, h_b2, h_b3, (by show 0 ≤ nx ∧ nx < 4294967295; omega), h_b5, h_l1, (by show L.length ≤ 1000000; first | omega | (rw [List.length_append, List.length_singleton]; omega)), h_l3⟩
    refine wkc 142 34 #[.tmp 136, .tmp 141] #[42, 27] 3 #[.pointer (some ⟨p, 0, none⟩), .int .u32 (nx + 1)] Try.func34 (has_c (γ := γ_429) hL_446 hk (fun k_447 hk_448 he_449 hn_450 w_451 γ_452 gx_453 => ⟨?_, ?_⟩) (fun hn_454 w_455 γ_456 gx_457 => ⟨?_, ?_⟩))
    · exact trivial
    · have hsz_458 := gx_453.size
      have hk_k_447 : k_447 < L.length := hk_448
      have he_k_447 : (L.getD k_447 M0).seq = nx + 1 := he_449
      have hix_k_447 := idx_some hk_k_447 he_k_447 hn_450
      refine wpa 8 (.tmp 142) 3 (.int .i64 ((k_447 : Nat) : Int)) ?_
      refine wk_nil ?_
      refine thn_n ?_
      refine g_seq (x := lX3N1_81) (y := lX3N1_82) (by kernel_rfl) ?_
      refine g_seq (x := lX3N1_83) (y := lX3N1_84) (by kernel_rfl) ?_
      refine g_region (ops := lX3R1_20) (id := 20) (by kernel_rfl) [pu 0, pu 1] (by kernel_rfl) (by kernel_rfl) ?_
      refine wpm 143 (.tmp 8) 3 (.int .i64 ((k_447 : Nat) : Int)) ?_
      refine wk_pure (opd 144 (.binOp .lss 3 (.tmp 143) (.const (.int .i64 0)) 3) 4) rfl (.bool false) (fun _ => y_lss (k := .i64) (a := ((k_447 : Nat) : Int)) (b := 0) (by kernel_rfl) (by kernel_rfl) (decide_eq_false (by omega))) ?_
      refine wk_nil ?_
      refine thn_n ?_
      refine g_cond_f (o := .tmp 144) (x := lX3N1_85) (y := lX3N1_86) (by kernel_rfl) (by kernel_rfl) ?_
      refine g_skip (by kernel_rfl) ?_
      refine thn_n ?_
      refine g_seq (x := lX3N1_87) (y := lX3N1_88) (by kernel_rfl) ?_
      refine g_region (ops := lX3R1_21) (id := 21) (by kernel_rfl) [pu 0, pu 1, pu 2, pu 3, lo 4, pu 5, pu 6, lo 7, lo 8, lo 9, pu 10] (by kernel_rfl) (by kernel_rfl) ?_
      refine wpm 145 (.tmp 7) 44 (.slice oA outs.length oC) ?_ (Eq.trans (by kernel_rfl) f_434)
      refine wpm 146 (.tmp 0) 42 (.pointer (some ⟨p, 0, none⟩)) ?_ (Eq.trans (by kernel_rfl) f_430)
      refine wpn 147 (.tmp 146) ⟨p, 0, none⟩ ?_
      refine wpf 148 46 (.tmp 147) 7 p 0 7 7 ?_
      have hb_459 := (Bk.keep hr_441 gx_453 ni0)
      refine wpl 149 44 (.tmp 148) (.slice la L.length lc) p 7 hb_459.1 ?_
      refine wpm 150 (.tmp 8) 3 (.int .i64 ((k_447 : Nat) : Int)) ?_
      have hb_460 := (OwNG.keep hr_442 gx_453 ni0)
      refine wk_pure (opd 151 (.indexAddr 44 (.tmp 149) (.tmp 150)) 0) rfl (.pointer (some ⟨lg, 0 + (k_447 * 7 + 0), none⟩)) (fun _ => y_ptr (x_indexN (a := la) (b := lg) (off := 0) (n := L.length) (c := lc) (k := .i64) (i := ((k_447 : Nat) : Int)) (e := 50) (sz := 7) (sz' := 7) (by kernel_rfl) hb_460.1.sl (by kernel_rfl) (by kernel_rfl) rfl (by omega) _) (by omega)) ?_
      refine wk_val (opd 152 (.load 50 (.tmp 151)) 50) rfl (.agg #[.int .i64 ((L.getD k_447 M0).kind), .int .i64 ((L.getD k_447 M0).frm), .int .i64 ((L.getD k_447 M0).to), .int .u32 ((L.getD k_447 M0).view), .int .u32 ((L.getD k_447 M0).seq), .slice ((L.getD k_447 M0).na) ((L.getD k_447 M0).N.length) ((L.getD k_447 M0).nc), .slice ((L.getD k_447 M0).wa) ((L.getD k_447 M0).W.length) ((L.getD k_447 M0).wc)]) (x_load_cs (b := lg) (off := (0 + (k_447 * 7 + 0))) (n := 7) (vs := [.int .i64 ((L.getD k_447 M0).kind), .int .i64 ((L.getD k_447 M0).frm), .int .i64 ((L.getD k_447 M0).to), .int .u32 ((L.getD k_447 M0).view), .int .u32 ((L.getD k_447 M0).seq), .slice ((L.getD k_447 M0).na) ((L.getD k_447 M0).N.length) ((L.getD k_447 M0).nc), .slice ((L.getD k_447 M0).wa) ((L.getD k_447 M0).W.length) ((L.getD k_447 M0).wc)]) (by kernel_rfl) (by kernel_rfl) rfl (SlE.getN hb_460.1.sl encM_len M0 k_447 0 (by omega) rfl)) trivial ?_
      refine wk_buildSlice (e := 50) (cs := #[.int .i64 ((L.getD k_447 M0).kind), .int .i64 ((L.getD k_447 M0).frm), .int .i64 ((L.getD k_447 M0).to), .int .u32 ((L.getD k_447 M0).view), .int .u32 ((L.getD k_447 M0).seq), .slice ((L.getD k_447 M0).na) ((L.getD k_447 M0).N.length) ((L.getD k_447 M0).nc), .slice ((L.getD k_447 M0).wa) ((L.getD k_447 M0).W.length) ((L.getD k_447 M0).wc)]) (opd 153 (.buildSlice 44 1 #[(0, .tmp 152)]) 44) rfl (by kernel_rfl) (fun w_461 b_462 eq_463 e_464 sz_465 hb_466 => ⟨?_, ?_⟩)
      · exact trivial
      obtain ⟨γ_467, hg_468, hn_469⟩ := cls_new γ_452 w_451.heap.size 12005
      have gx_470 := GX.ext0 [] e_464 hg_468
      have hk_471 : Bk γ_467 w_461 b_462 12005 (.cells #[.int .i64 ((L.getD k_447 M0).kind), .int .i64 ((L.getD k_447 M0).frm), .int .i64 ((L.getD k_447 M0).to), .int .u32 ((L.getD k_447 M0).view), .int .u32 ((L.getD k_447 M0).seq), .slice ((L.getD k_447 M0).na) ((L.getD k_447 M0).N.length) ((L.getD k_447 M0).nc), .slice ((L.getD k_447 M0).wa) ((L.getD k_447 M0).W.length) ((L.getD k_447 M0).wc)] 50 (0, 0)) := ⟨hb_466, hn_469 _ (by omega)⟩
      have hs_472 : SlE w_461 7 (some ⟨b_462, 0, none⟩) b_462 0 encM [(L.getD k_447 M0)] := SlE.of_cells hk_471.1 encM_len (by rfl)
      have hb_482 := (OwNG.keep (OwNG.keep hr_443 gx_453 ni0) gx_470 ni0)
      have on_483 : OwNG γ_467 w_461 2000 50 7 oA oG oC encM outs orest := hb_482
      refine wk_append (M := ([(L.getD k_447 M0)])) (L := outs) (a := oA) (g := oG) (c := oC) (ax := (some ⟨b_462, 0, none⟩)) (bx := b_462) (offx := 0) (cx := 1) (e := 50) (sz := 7) (by_ := 80) (opd 154 (.call ⟨.builtin .append, #[.tmp 145, .tmp 153], #[44, 44]⟩) 44) rfl (by kernel_rfl) (by kernel_rfl) encM_len (by kernel_rfl) on_483.1 (by kernel_rfl) hs_472 (by simp) encM_one (by constructor <;> (first | omega | (simp only [List.length_singleton, List.length_nil, List.length_take, List.length_drop, List.length_append]; omega))) (fun w_473 b_474 cap_475 rest_476 hb_477 e_478 sz_479 lt_480 ho_481 => ⟨?_, ?_⟩)
      · exact trivial
      obtain ⟨γ_484, hg_485, hn_486⟩ := cls_new γ_467 w_461.heap.size 2000
      have gx_487 : GX [2000] w_461 γ_467 w_473 γ_484 := OwNG.gx on_483 e_478 hg_485
      have hk_488 : OwnG γ_484 w_473 2000 50 7 b_474 cap_475 encM (outs ++ ([(L.getD k_447 M0)])) rest_476 := ⟨ho_481, OwNG.appc on_483 hb_477 hg_485 hn_486⟩
      have hsz_489 := e_478.size
      refine wpa 7 (.tmp 154) 44 (.slice (some ⟨b_474, 0, none⟩) ((outs ++ ([(L.getD k_447 M0)])).length) cap_475) ?_
      refine wk_nil ?_
      refine thn_n ?_
      refine g_seq (x := lX3N1_89) (y := lX3N1_90) (by kernel_rfl) ?_
      refine g_last (ops := lX3R1_22) (id := 22) (by kernel_rfl) (fun w w' => GC [3000] γ_484 w w') 19 [pu 0, pu 2, pu 3, pu 4, pu 6, pu 9, pu 10, pu 11, pu 13, pu 14, (5, .stab), pu 7, (12, .stab), pu 15, lo 1, lo 8, lo 16, pu 17, pu 18] (by kernel_rfl) (by kernel_rfl) (fun _ => (GX.refl _ _ _).gc) (fun w_490 sm_491 => ?_)
      have gx_492 := GX.same [] γ_484 sm_491
      have hsz_493 : w_490.heap.size = w_473.heap.size := by rw [sm_491.heap]
      refine wpm 155 (.tmp 0) 42 (.pointer (some ⟨p, 0, none⟩)) ?_ (Eq.trans (by kernel_rfl) f_430)
      refine wpm 157 (.tmp 0) 42 (.pointer (some ⟨p, 0, none⟩)) ?_ (Eq.trans (by kernel_rfl) f_430)
      refine wpn 158 (.tmp 157) ⟨p, 0, none⟩ ?_
      refine wpf 159 46 (.tmp 158) 7 p 0 7 7 ?_
      refine wpm 161 (.tmp 8) 3 (.int .i64 ((k_447 : Nat) : Int)) ?_
      refine wpm 164 (.tmp 0) 42 (.pointer (some ⟨p, 0, none⟩)) ?_ (Eq.trans (by kernel_rfl) f_430)
      refine wpn 165 (.tmp 164) ⟨p, 0, none⟩ ?_
      refine wpf 166 46 (.tmp 165) 7 p 0 7 7 ?_
      refine wpm 168 (.tmp 8) 3 (.int .i64 ((k_447 : Nat) : Int)) ?_
      refine wk_pure (opd 169 (.binOp .add 3 (.tmp 168) (.const (.int .i64 1)) 3) 3) rfl (.int .i64 ((k_447 + 1 : Nat) : Int)) (fun _ => y_add (k := .i64) (a := ((k_447 : Nat) : Int)) (b := 1) (by kernel_rfl) (by kernel_rfl) (i64_to (by omega) (by omega))) ?_
      refine wk_stab (opd 160 (.load 44 (.tmp 159)) 44) rfl (.slice la L.length lc) (fun w'_ g_ => x_load (b := p) (off := 7) (by kernel_rfl) (by kernel_rfl) (GC.bk g_ (Bk.keep (Bk.keep (Bk.keep hb_459 gx_470 ni0) gx_487 ni1) gx_492 ni0) ni1) (by kernel_rfl)) ?_
      have hb_494 := (OwNG.keep (OwNG.keep (OwNG.keep hb_460 gx_470 ni0) gx_487 ni1) gx_492 ni0)
      have hle_493 := OwNG.le hb_494
      have hs_495 : SlE w_490 7 (cutA la lc 0 7) lg (0 + 0 * 7) encM ((L.drop 0).take (k_447 - 0)) := hb_494.1.sl.cut encM_len lc 0 (k_447 - 0) (by omega) (by omega)
      have hc_496 : SlG γ_484 w_490 (k + 2) 7 (cutA la lc 0 7) lg (0 + 0 * 7) encM ((L.drop 0).take (k_447 - 0)) := SlG.of_cut hs_495 (OwNG.slg hb_494) (by simp only [List.length_take, List.length_drop]; omega)
      refine wk_pure (opd 162 (.slice 44 (.tmp 160) none (some (.tmp 161)) none) 44) rfl (.slice (cutA la lc 0 7) (((L.drop 0).take (k_447 - 0)).length) (lc - 0)) (fun _ => y_slice (x_cutH (a := la) (n := L.length) (c := lc) (sz := 7) (e := 50) (q := .i64) (hi' := ((k_447 : Nat) : Int)) (h := k_447) (by kernel_rfl) (by kernel_rfl) (by kernel_rfl) (by omega) (by omega)) (cut_len (by omega))) ?_
      refine wk_stab (opd 167 (.load 44 (.tmp 166)) 44) rfl (.slice la L.length lc) (fun w'_ g_ => x_load (b := p) (off := 7) (by kernel_rfl) (by kernel_rfl) (GC.bk g_ (Bk.keep (Bk.keep (Bk.keep hb_459 gx_470 ni0) gx_487 ni1) gx_492 ni0) ni1) (by kernel_rfl)) ?_
      have hle_496 := OwNG.le hb_494
      have hs_497 : SlE w_490 7 (cutA la lc (k_447 + 1) 7) lg (0 + (k_447 + 1) * 7) encM ((L.drop (k_447 + 1)).take (L.length - (k_447 + 1))) := hb_494.1.sl.cut encM_len lc (k_447 + 1) (L.length - (k_447 + 1)) (by omega) (by omega)
      have hc_498 : SlG γ_484 w_490 (k + 2) 7 (cutA la lc (k_447 + 1) 7) lg (0 + (k_447 + 1) * 7) encM ((L.drop (k_447 + 1)).take (L.length - (k_447 + 1))) := SlG.of_cut hs_497 (OwNG.slg hb_494) (by simp only [List.length_take, List.length_drop]; omega)
      refine wk_pure (opd 170 (.slice 44 (.tmp 167) (some (.tmp 169)) none none) 44) rfl (.slice (cutA la lc (k_447 + 1) 7) (((L.drop (k_447 + 1)).take (L.length - (k_447 + 1))).length) (lc - (k_447 + 1))) (fun _ => y_slice (x_cutL (a := la) (n := L.length) (c := lc) (sz := 7) (e := 50) (k := .i64) (li := ((k_447 + 1 : Nat) : Int)) (l := (k_447 + 1)) (by kernel_rfl) (by kernel_rfl) (by kernel_rfl) (by omega) (by omega)) (cut_len (by omega))) ?_
      refine wk_buildSlice (e := 50) (cs := #[]) (opd 156 (.buildSlice 44 0 #[]) 44) rfl (by kernel_rfl) (fun w_499 b_500 eq_501 e_502 sz_503 hb_504 => ⟨?_, ?_⟩)
      · obtain ⟨γ_505, hg_506, hn_507⟩ := cls_new γ_484 w_490.heap.size 3000
        have gx_508 := GX.ext0 [] e_502 hg_506
        have hk_509 : Bk γ_505 w_499 b_500 3000 (.cells #[] 50 (0, 0)) := ⟨hb_504, hn_507 _ (by omega)⟩
        exact (GX.then0 (GX.refl [3000] _ _) e_502 hg_506).gc
      obtain ⟨γ_505, hg_506, hn_507⟩ := cls_new γ_484 w_490.heap.size 3000
      have gx_508 := GX.ext0 [] e_502 hg_506
      have hk_509 : Bk γ_505 w_499 b_500 3000 (.cells #[] 50 (0, 0)) := ⟨hb_504, hn_507 _ (by omega)⟩
      have hb_510 := (SlG.keep hc_496 gx_508 ni0)
      have on_520 : OwNG γ_505 w_499 3000 50 7 (some ⟨b_500, 0, none⟩) b_500 0 encM ([]) ([]) := (OwNG.of ⟨OwnE.of_cells (M := []) hk_509.1 encM_len (by kernel_rfl) (Nat.zero_le _), hk_509.2⟩)
      refine wk_append_some (M := ((L.drop 0).take (k_447 - 0))) (L := ([])) (g := b_500) (cap := 0) (ax := (cutA la lc 0 7)) (bx := lg) (offx := (0 + 0 * 7)) (cx := (lc - 0)) (e := 50) (sz := 7) (by_ := 80) (opd 163 (.call ⟨.builtin .append, #[.tmp 156, .tmp 162], #[44, 44]⟩) 44) rfl (by kernel_rfl) (by kernel_rfl) encM_len (by kernel_rfl) on_520.1 (by kernel_rfl) hb_510.1  encM_one (by constructor <;> (first | omega | (simp only [List.length_singleton, List.length_nil, List.length_take, List.length_drop, List.length_append]; omega))) (fun w_511 b_512 cap_513 rest_514 hb_515 e_516 sz_517 lt_518 ho_519 => ⟨?_, ?_⟩)
      · obtain ⟨γ_521, hg_522, hn_523⟩ := cls_new γ_505 w_499.heap.size 3000
        have gx_524 : GX [3000] w_499 γ_505 w_511 γ_521 := OwNG.gx on_520 e_516 hg_522
        have hk_525 : OwnG γ_521 w_511 3000 50 7 b_512 cap_513 encM (([]) ++ ((L.drop 0).take (k_447 - 0))) rest_514 := ⟨ho_519, OwNG.appc on_520 hb_515 hg_522 hn_523⟩
        exact (GX.thenNew (GX.then0 (GX.refl [3000] _ _) e_502 hg_506) e_516 (OwNG.newS (OwNG.of ⟨OwnE.of_cells (M := []) hk_509.1 encM_len (by kernel_rfl) (Nat.zero_le _), hk_509.2⟩) (by exact .inr (by omega))) hg_522).gc
      obtain ⟨γ_521, hg_522, hn_523⟩ := cls_new γ_505 w_499.heap.size 3000
      have gx_524 : GX [3000] w_499 γ_505 w_511 γ_521 := OwNG.gx on_520 e_516 hg_522
      have hk_525 : OwnG γ_521 w_511 3000 50 7 b_512 cap_513 encM (([]) ++ ((L.drop 0).take (k_447 - 0))) rest_514 := ⟨ho_519, OwNG.appc on_520 hb_515 hg_522 hn_523⟩
      have hsz_526 := e_516.size
      have hb_527 := (SlG.keep (SlG.keep hc_498 gx_508 ni0) gx_524 ni1)
      have on_537 : OwNG γ_521 w_511 3000 50 7 (some ⟨b_512, 0, none⟩) b_512 cap_513 encM (([]) ++ ((L.drop 0).take (k_447 - 0))) rest_514 := (OwNG.of hk_525)
      refine wk_append_some (M := ((L.drop (k_447 + 1)).take (L.length - (k_447 + 1)))) (L := (([]) ++ ((L.drop 0).take (k_447 - 0)))) (g := b_512) (cap := cap_513) (ax := (cutA la lc (k_447 + 1) 7)) (bx := lg) (offx := (0 + (k_447 + 1) * 7)) (cx := (lc - (k_447 + 1))) (e := 50) (sz := 7) (by_ := 80) (opd 171 (.call ⟨.builtin .append, #[.tmp 163, .tmp 170], #[44, 44]⟩) 44) rfl (by kernel_rfl) (by kernel_rfl) encM_len (by kernel_rfl) on_537.1 (by kernel_rfl) hb_527.1  encM_one (by constructor <;> (first | omega | (simp only [List.length_singleton, List.length_nil, List.length_take, List.length_drop, List.length_append]; omega))) (fun w_528 b_529 cap_530 rest_531 hb_532 e_533 sz_534 lt_535 ho_536 => ⟨?_, ?_⟩)
      · obtain ⟨γ_538, hg_539, hn_540⟩ := cls_new γ_521 w_511.heap.size 3000
        have gx_541 : GX [3000] w_511 γ_521 w_528 γ_538 := OwNG.gx on_537 e_533 hg_539
        have hk_542 : OwnG γ_538 w_528 3000 50 7 b_529 cap_530 encM ((([]) ++ ((L.drop 0).take (k_447 - 0))) ++ ((L.drop (k_447 + 1)).take (L.length - (k_447 + 1)))) rest_531 := ⟨ho_536, OwNG.appc on_537 hb_532 hg_539 hn_540⟩
        exact (GX.thenNew (GX.thenNew (GX.then0 (GX.refl [3000] _ _) e_502 hg_506) e_516 (OwNG.newS (OwNG.of ⟨OwnE.of_cells (M := []) hk_509.1 encM_len (by kernel_rfl) (Nat.zero_le _), hk_509.2⟩) (by exact .inr (by omega))) hg_522) e_533 (OwNG.newS (OwNG.of hk_525) (by exact .inr (by omega))) hg_539).gc
      obtain ⟨γ_538, hg_539, hn_540⟩ := cls_new γ_521 w_511.heap.size 3000
      have gx_541 : GX [3000] w_511 γ_521 w_528 γ_538 := OwNG.gx on_537 e_533 hg_539
      have hk_542 : OwnG γ_538 w_528 3000 50 7 b_529 cap_530 encM ((([]) ++ ((L.drop 0).take (k_447 - 0))) ++ ((L.drop (k_447 + 1)).take (L.length - (k_447 + 1)))) rest_531 := ⟨ho_536, OwNG.appc on_537 hb_532 hg_539 hn_540⟩
      have hsz_543 := e_533.size
      refine wpn 172 (.tmp 155) ⟨p, 0, none⟩ ?_
      refine wpf 173 46 (.tmp 172) 7 p 0 7 7 ?_
      refine wk_nil ?_
      have hb_544 := (Bk.keep (Bk.keep (Bk.keep (Bk.keep (Bk.keep (Bk.keep hb_459 gx_470 ni0) gx_487 ni1) gx_492 ni0) gx_508 ni0) gx_524 ni1) gx_541 ni1)
      refine wk_store (b := p) (off := 7) (cs' := #[.int .i64 s.own, .int .i64 s.peer, .int .u32 s.view, .slice s.oa s.out.length s.oc, .int .u32 s.last, .int .u32 0, .int .u32 s.told, .slice (some ⟨b_529, 0, none⟩) (((([]) ++ ((L.drop 0).take (k_447 - 0))) ++ ((L.drop (k_447 + 1)).take (L.length - (k_447 + 1)))).length) cap_530, .int .u32 nx, .int .i64 s.now]) (vs := #[.slice (some ⟨b_529, 0, none⟩) (((([]) ++ ((L.drop 0).take (k_447 - 0))) ++ ((L.drop (k_447 + 1)).take (L.length - (k_447 + 1)))).length) cap_530]) (opn (.store 44 (.tmp 173) (.tmp 171)) 0) rfl (by kernel_rfl) (by kernel_rfl) (by kernel_rfl) (by kernel_rfl) hb_544.1 (Nat.le_of_ble_eq_true rfl) (by kernel_rfl) (by kernel_rfl) (fun w_545 e_546 sz_547 hb_548 => ⟨?_, ?_⟩)
      · exact trivial
      have gx_549 : GX [k] w_528 γ_538 w_545 γ_538 := GX.ext1 e_546 hb_544.2 (fun _ _ => rfl)
      have hk_550 : Bk γ_538 w_545 p k (.cells #[.int .i64 s.own, .int .i64 s.peer, .int .u32 s.view, .slice s.oa s.out.length s.oc, .int .u32 s.last, .int .u32 0, .int .u32 s.told, .slice (some ⟨b_529, 0, none⟩) (((([]) ++ ((L.drop 0).take (k_447 - 0))) ++ ((L.drop (k_447 + 1)).take (L.length - (k_447 + 1)))).length) cap_530, .int .u32 nx, .int .i64 s.now] 46 (0, 0)) := ⟨hb_548, hb_544.2⟩
      refine wk_nil ?_
      refine thn_n ?_
      refine g_region (ops := lX3R1_23) (id := 23) (by kernel_rfl) [pu 0, pu 1, pu 2, lo 3, pu 4, pu 5, pu 6, lo 7] (by kernel_rfl) (by kernel_rfl) ?_
      refine wpm 174 (.tmp 0) 42 (.pointer (some ⟨p, 0, none⟩)) ?_ (Eq.trans (by kernel_rfl) f_430)
      refine wpn 175 (.tmp 174) ⟨p, 0, none⟩ ?_
      refine wpf 176 46 (.tmp 175) 8 p 0 8 8 ?_
      refine wpl 177 27 (.tmp 176) (.int .u32 nx) p 8 hk_550.1 ?_
      refine wk_pure (opd 178 (.binOp .add 27 (.tmp 177) (.const (.int .u32 1)) 27) 27) rfl (.int .u32 (nx + 1)) (fun _ => y_add (k := .u32) (a := nx) (b := 1) (by kernel_rfl) (by kernel_rfl) (u32_to (by omega) rfl)) ?_
      refine wpn 179 (.tmp 174) ⟨p, 0, none⟩ ?_
      refine wpf 180 46 (.tmp 179) 8 p 0 8 8 ?_
      refine wk_store (b := p) (off := 8) (cs' := #[.int .i64 s.own, .int .i64 s.peer, .int .u32 s.view, .slice s.oa s.out.length s.oc, .int .u32 s.last, .int .u32 0, .int .u32 s.told, .slice (some ⟨b_529, 0, none⟩) (((([]) ++ ((L.drop 0).take (k_447 - 0))) ++ ((L.drop (k_447 + 1)).take (L.length - (k_447 + 1)))).length) cap_530, .int .u32 (nx + 1), .int .i64 s.now]) (vs := #[.int .u32 (nx + 1)]) (opn (.store 27 (.tmp 180) (.tmp 178)) 0) rfl (by kernel_rfl) (by kernel_rfl) (by kernel_rfl) (by kernel_rfl) hk_550.1 (Nat.le_of_ble_eq_true rfl) (by kernel_rfl) (by kernel_rfl) (fun w_551 e_552 sz_553 hb_554 => ⟨?_, ?_⟩)
      · exact trivial
      have gx_555 : GX [k] w_545 γ_538 w_551 γ_538 := GX.ext1 e_552 hk_550.2 (fun _ _ => rfl)
      have hk_556 : Bk γ_538 w_551 p k (.cells #[.int .i64 s.own, .int .i64 s.peer, .int .u32 s.view, .slice s.oa s.out.length s.oc, .int .u32 s.last, .int .u32 0, .int .u32 s.told, .slice (some ⟨b_529, 0, none⟩) (((([]) ++ ((L.drop 0).take (k_447 - 0))) ++ ((L.drop (k_447 + 1)).take (L.length - (k_447 + 1)))).length) cap_530, .int .u32 (nx + 1), .int .i64 s.now] 46 (0, 0)) := ⟨hb_554, hk_550.2⟩
      refine wk_nil ?_
      refine blk_n ?_
      refine thn_n ?_
      obtain ⟨γ_557, hr_558, hr_559, hr_560⟩ := recls γ_538 w.heap.size 3000 (k + 2)
      have gx_561 : GX [3000] w_551 γ_538 w_551 γ_557 := GX.re w_551 hr_559
      have her_ : ((([]) ++ ((L.drop 0).take (k_447 - 0))) ++ ((L.drop (k_447 + 1)).take (L.length - (k_447 + 1)))) = L.eraseIdx k_447 := erase_cuts (by omega)
      have hel_ : (L.eraseIdx k_447).length = L.length - 1 := List.length_eraseIdx_of_lt (by omega)
      have hb_562 := (AllOk.keep (AllOk.keep (AllOk.keep (AllOk.keep (AllOk.keep (AllOk.keep (AllOk.keep (AllOk.keep (AllOk.keep (AllOk.keep hr_444 gx_453 ni0) gx_470 ni0) gx_487 ni1) gx_492 ni0) gx_508 ni0) gx_524 ni1) gx_541 ni1) gx_549 ni1) gx_555 ni1) gx_561 ni1)
      have hsub_ : AllOk γ_557 w_551 (L.eraseIdx k_447) := AllOk.sub hb_562 (fun x_ hx_ => mem_eraseIdx' hx_)
      have hb_563 := (AllOk.keep (AllOk.keep (AllOk.keep (AllOk.keep (AllOk.keep (AllOk.keep (AllOk.keep (AllOk.keep (AllOk.keep (AllOk.keep hr_445 gx_453 ni0) gx_470 ni0) gx_487 ni1) gx_492 ni0) gx_508 ni0) gx_524 ni1) gx_541 ni1) gx_549 ni1) gx_555 ni1) gx_561 ni1)
      have hadd_ : AllOk γ_557 w_551 (outs ++ [(L.getD k_447 M0)]) := AllOk.add hb_563 (AllOk.get hb_562 (by omega))
      have hlg_ : OwNG γ_557 w_551 (k + 2) 50 7 (some ⟨b_529, 0, none⟩) b_529 cap_530 encM (L.eraseIdx k_447) rest_531 := by rw [← her_]; exact OwNG.of (OwnG.re (OwnG.keep (OwnG.keep hk_542 gx_549 ni1) gx_555 ni1) hr_560 (appNew hb_532 (.inr (appNew hb_515 (.inr (by omega)) (by omega))) (by omega)))
      have hb_564 := (Bk.keep hk_556 gx_561 ni1)
      have hpf_ := hb_564
      rw [her_] at hpf_
      have hb_565 := (OwnG.keep (OwnG.keep (OwnG.keep (OwnG.keep (OwnG.keep (OwnG.keep (OwnG.keep hk_488 gx_492 ni0) gx_508 ni0) gx_524 ni1) gx_541 ni1) gx_549 ni1) gx_555 ni1) gx_561 ni1)
      obtain ⟨f, rfl⟩ : ∃ f', f = f' + 1 := ⟨f - 1, by omega⟩
      have hb_566 := (QuG.keep (QuG.keep (QuG.keep (QuG.keep (QuG.keep (QuG.keep (QuG.keep (QuG.keep (QuG.keep (QuG.keep hr_435 gx_453 ni0) gx_470 ni0) gx_487 ni1) gx_492 ni0) gx_508 ni0) gx_524 ni1) gx_541 ni1) gx_549 ni1) gx_555 ni1) gx_561 ni1)
      have hb_567 := (AllOk.keep (AllOk.keep (AllOk.keep (AllOk.keep (AllOk.keep (AllOk.keep (AllOk.keep (AllOk.keep (AllOk.keep (AllOk.keep hr_436 gx_453 ni0) gx_470 ni0) gx_487 ni1) gx_492 ni0) gx_508 ni0) gx_524 ni1) gx_541 ni1) gx_549 ni1) gx_555 ni1) gx_561 ni1)
      have hb_568 := (MOk.keep (MOk.keep (MOk.keep (MOk.keep (MOk.keep (MOk.keep (MOk.keep (MOk.keep (MOk.keep (MOk.keep hr_437 gx_453 ni0) gx_470 ni0) gx_487 ni1) gx_492 ni0) gx_508 ni0) gx_524 ni1) gx_541 ni1) gx_549 ni1) gx_555 ni1) gx_561 ni1)
      have hb_569 := (Bk.keep (Bk.keep (Bk.keep (Bk.keep (Bk.keep (Bk.keep (Bk.keep (Bk.keep (Bk.keep (Bk.keep hr_438 gx_453 ni0) gx_470 ni0) gx_487 ni1) gx_492 ni0) gx_508 ni0) gx_524 ni1) gx_541 ni1) gx_549 ni1) gx_555 ni1) gx_561 ni1)
      have hb_570 := (Bk.keep (Bk.keep (Bk.keep (Bk.keep (Bk.keep (Bk.keep (Bk.keep (Bk.keep (Bk.keep (Bk.keep hr_439 gx_453 ni0) gx_470 ni0) gx_487 ni1) gx_492 ni0) gx_508 ni0) gx_524 ni1) gx_541 ni1) gx_549 ni1) gx_555 ni1) gx_561 ni1)
      have hb_571 := (OwnG.keep (OwnG.keep (OwnG.keep (OwnG.keep (OwnG.keep (OwnG.keep (OwnG.keep (OwnG.keep (OwnG.keep (OwnG.keep hr_440 gx_453 ni0) gx_470 ni0) gx_487 ni1) gx_492 ni0) gx_508 ni0) gx_524 ni1) gx_541 ni1) gx_549 ni1) gx_555 ni1) gx_561 ni1)
      exact ⟨_, (by omega), ⟨(L.eraseIdx k_447), _, b_529, cap_530, rest_531, (nx + 1), (outs ++ [(L.getD k_447 M0)]), _, b_474, cap_475, rest_476, f, _, rfl, by rw [hR]; simp only [readyG, hix_k_447]; rw [abs_getD, map_eraseIdx', List.map_append, Int.emod_eq_of_lt (by omega) (by omega)]; rfl, by omega, by rw [List.length_append, List.length_singleton]; omega, by omega, by exact .inr (appNew hb_477 hO (by omega)), (Eq.trans (by kernel_rfl) f_430), (Eq.trans (by kernel_rfl) f_431), (Eq.trans (by kernel_rfl) f_432), (Eq.trans (by kernel_rfl) f_433), (by kernel_rfl), hb_566, hb_567, hb_568, hb_569, hb_570, hb_571, hpf_, hlg_, (OwNG.of hb_565), hsub_, hadd_, (GX.thenRe (GX.trans (GX.trans (GX.thenNew (GX.thenNew (GX.then0 (GX.then_same (GX.thenNew (GX.then0 (GX.trans hE_428 gx_453 (fun _ h_ => absurd h_ List.not_mem_nil)) e_464 hg_468) e_478 (OwNG.newS hb_482 (by exact hO)) hg_485) sm_491) e_502 hg_506) e_516 (OwNG.newS (OwNG.of ⟨OwnE.of_cells (M := []) hk_509.1 encM_len (by kernel_rfl) (Nat.zero_le _), hk_509.2⟩) (by exact .inr (by omega))) hg_522) e_533 (OwNG.newS (OwNG.of hk_525) (by exact .inr (by omega))) hg_539) gx_549 (by intro c_ hc_; simp only [List.mem_cons, List.not_mem_nil, or_false] at hc_ ⊢; omega)) gx_555 (by intro c_ hc_; simp only [List.mem_cons, List.not_mem_nil, or_false] at hc_ ⊢; omega)) (fun b_ hb_ => hr_558 b_ (by omega)))⟩⟩
    · exact trivial
    have hsz_572 := gx_457.size
    have hix_ : idxOf (L.map MsgR.abs) (nx + 1) = none := idx_none (L := L) hn_454
    refine wpa 8 (.tmp 142) 3 (.int .i64 (-1)) ?_
    refine wk_nil ?_
    refine thn_n ?_
    refine g_seq (x := lX3N1_81) (y := lX3N1_82) (by kernel_rfl) ?_
    refine g_seq (x := lX3N1_83) (y := lX3N1_84) (by kernel_rfl) ?_
    refine g_region (ops := lX3R1_20) (id := 20) (by kernel_rfl) [pu 0, pu 1] (by kernel_rfl) (by kernel_rfl) ?_
    refine wpm 143 (.tmp 8) 3 (.int .i64 (-1)) ?_
    refine wk_pure (opd 144 (.binOp .lss 3 (.tmp 143) (.const (.int .i64 0)) 3) 4) rfl (.bool true) (fun _ => y_lss (k := .i64) (a := (-1)) (b := 0) (by kernel_rfl) (by kernel_rfl) (by decide)) ?_
    refine wk_nil ?_
    refine thn_n ?_
    refine g_cond_t (o := .tmp 144) (x := lX3N1_85) (y := lX3N1_86) (by kernel_rfl) (by kernel_rfl) ?_
    refine g_exit (id := 2) (by kernel_rfl) ?_
    refine thn_e ?_
    refine blk_miss (by decide) ?_
    refine thn_e ?_
    refine blk_hit ?_
    refine thn_n ?_
    refine g_seq (x := lX3N1_91) (y := lX3N1_92) (by kernel_rfl) ?_
    refine g_region (ops := lX3R1_24) (id := 24) (by kernel_rfl) [pu 0, pu 1, lo 2, pu 3, pu 4, pu 5] (by kernel_rfl) (by kernel_rfl) ?_
    refine wpm 181 (.tmp 7) 44 (.slice oA outs.length oC) ?_ (Eq.trans (by kernel_rfl) f_434)
    refine wpm 182 (.tmp 0) 42 (.pointer (some ⟨p, 0, none⟩)) ?_ (Eq.trans (by kernel_rfl) f_430)
    have hb_573 := (QuG.keep hr_435 gx_457 ni0)
    have hb_574 := (OwNG.keep hr_442 gx_457 ni0)
    have hb_575 := (Bk.keep hr_441 gx_457 ni0)
    have hb_576 := (AllOk.keep hr_436 gx_457 ni0)
    have hb_577 := (AllOk.keep hr_444 gx_457 ni0)
    have hL_578 : RefAt γ_456 w_455 k p (⟨s.own, s.peer, s.view, s.oa, s.og, s.oo, s.oc, s.out, s.last, s.told, la, lg, lc, L, lrest, nx, s.now⟩ : RfR) := ⟨hb_575, hb_573, hb_574, hb_576, hb_577, h_hn, h_b1, h_b2, h_b3, (by show 0 ≤ nx ∧ nx < 4294967295; omega), h_b5, h_l1, (by show L.length ≤ 1000000; first | omega | (rw [List.length_append, List.length_singleton]; omega)), h_l3⟩
    refine wkc 183 35 #[.tmp 182] #[42] 44 #[.pointer (some ⟨p, 0, none⟩)] Try.func35 (ack_c hL_578 hk (fun w_579 γ_580 v_581 r_582 gx_583 hM_584 ha_585 => ⟨?_, ?_⟩))
    · exact trivial
    have hsz_586 := gx_583.size
    refine wpa 4 (.tmp 181) 44 (.slice oA outs.length oC) ?_
    refine wpa 5 (.tmp 183) 44 v_581 ?_
    refine wpa 6 (.const (.int .i64 0)) 24 (.int .i64 0) ?_
    refine wk_nil ?_
    refine thn_n ?_
    refine g_ret (by kernel_rfl) ?_
    refine ends3_r (v := .slice oA outs.length oC) (v' := v_581) (v'' := .int .i64 0) rfl (by kernel_rfl) (by kernel_rfl) (by kernel_rfl) ?_
    have hb_587 := (OwNG.keep (OwNG.keep hr_443 gx_457 ni0) gx_583 ni0)
    obtain ⟨γ_588, hr_589, hr_590, hr_591⟩ := recls γ_580 w.heap.size 2000 0
    have gx_592 : GX [2000] w_579 γ_580 w_579 γ_588 := GX.re w_579 hr_590
    have hb_593 := (QuG.keep (QuG.keep hb_573 gx_583 ni0) gx_592 ni1)
    have hb_594 := (OwNG.keep (OwNG.keep hb_574 gx_583 ni0) gx_592 ni1)
    have hb_595 := (Bk.keep (Bk.keep hb_575 gx_583 ni0) gx_592 ni1)
    have hb_596 := (AllOk.keep (AllOk.keep hb_576 gx_583 ni0) gx_592 ni1)
    have hb_597 := (AllOk.keep (AllOk.keep hb_577 gx_583 ni0) gx_592 ni1)
    obtain ⟨f, rfl⟩ : ∃ f', f = f' + 1 := ⟨f - 1, by omega⟩
    have hR2 : readyG (s.held.length + 2) [] (s.held.map MsgR.abs ++ [m.abs]) (s.come + 1) = (outs.map MsgR.abs, L.map MsgR.abs, nx + 1) := by rw [← show (s.held ++ [m]).map MsgR.abs = s.held.map MsgR.abs ++ [m.abs] by rw [List.map_append]; rfl, hR]; simp only [readyG, hix_]
    have hb_598 := (AllOk.keep (AllOk.keep (AllOk.keep hr_445 gx_457 ni0) gx_583 ni0) gx_592 ni1)
    have hb_599 := (MsgsAt.keep hM_584 gx_592 ni1)
    exact h8 (by omega) (by omega) (by omega) (by omega) (by omega) (idx_none (L := s.held) hn_127) (by omega) _ _ _ _ outs r_582 (L := L) (la := la) (lg := lg) (lc := lc) (lrest := lrest) (nx := nx) (GX.thenRe (GX.trans (GX.trans hE_428 gx_457 (fun _ h_ => absurd h_ List.not_mem_nil)) gx_583 (fun _ h_ => absurd h_ List.not_mem_nil)) (fun b_ hb_ => hr_589 b_ (by omega))) ⟨_, _, _, _, rfl, OwNG.slg (OwNG.re hb_587 hr_591 hO), hb_598⟩ hb_599 ⟨hb_595, hb_593, hb_594, hb_596, hb_597, h_hn, h_b1, h_b2, h_b3, (by show 0 ≤ nx ∧ nx < 4294967295; omega), h_b5, h_l1, (by show L.length ≤ 1000000; omega), h_l3⟩ hR2.symm ha_585
  refine wk_buildSlice (e := 50) (cs := #[.int .i64 m.kind, .int .i64 m.frm, .int .i64 m.to, .int .u32 m.view, .int .u32 m.seq, .slice m.na m.N.length m.nc, .slice m.wa m.W.length m.wc]) (opd 132 (.buildSlice 44 1 #[(0, .tmp 131)]) 44) rfl (by kernel_rfl) (fun w_600 b_601 eq_602 e_603 sz_604 hb_605 => ⟨?_, ?_⟩)
  · exact trivial
  obtain ⟨γ_606, hg_607, hn_608⟩ := cls_new γ_129 w_154.heap.size 12006
  have gx_609 := GX.ext0 [] e_603 hg_607
  have hk_610 : Bk γ_606 w_600 b_601 12006 (.cells #[.int .i64 m.kind, .int .i64 m.frm, .int .i64 m.to, .int .u32 m.view, .int .u32 m.seq, .slice m.na m.N.length m.nc, .slice m.wa m.W.length m.wc] 50 (0, 0)) := ⟨hb_605, hn_608 _ (by omega)⟩
  refine wk_nil ?_
  refine wkP_seq ?_
  have hb_611 := (Bk.keep (Bk.keep hb_152 gx_156 ni0) gx_609 ni0)
  refine wk_read (opd 130 (.load 44 (.tmp 129)) 44) rfl (.slice s.ha s.held.length s.hc) (fun w'_ g_ => x_load (b := p) (off := 7) (by kernel_rfl) (by kernel_rfl) (g_.keep hb_611.1) (by kernel_rfl)) ?_
  have hs_612 : SlE w_600 7 (some ⟨b_601, 0, none⟩) b_601 0 encM [m] := SlE.of_cells hk_610.1 encM_len (by rfl)
  have hb_622 := (OwNG.keep (OwNG.keep (OwNG.keep (OwNG.keep hb_115 gx_130 ni0) gx_149 ni0) gx_156 ni0) gx_609 ni0)
  have on_623 : OwNG γ_606 w_600 (k + 2) 50 7 s.ha s.hg s.hc encM s.held s.hrest := hb_622
  refine wk_append (M := ([m])) (L := s.held) (a := s.ha) (g := s.hg) (c := s.hc) (ax := (some ⟨b_601, 0, none⟩)) (bx := b_601) (offx := 0) (cx := 1) (e := 50) (sz := 7) (by_ := 80) (opd 133 (.call ⟨.builtin .append, #[.tmp 130, .tmp 132], #[44, 44]⟩) 44) rfl (by kernel_rfl) (by kernel_rfl) encM_len (by kernel_rfl) on_623.1 (by kernel_rfl) hs_612 (by simp) encM_one (by constructor <;> (first | omega | (simp only [List.length_singleton, List.length_nil, List.length_take, List.length_drop, List.length_append]; omega))) (fun w_613 b_614 cap_615 rest_616 hb_617 e_618 sz_619 lt_620 ho_621 => ⟨?_, ?_⟩)
  · exact trivial
  obtain ⟨γ_624, hg_625, hn_626⟩ := cls_new γ_606 w_600.heap.size (k + 2)
  have gx_627 : GX [k + 2] w_600 γ_606 w_613 γ_624 := OwNG.gx on_623 e_618 hg_625
  have hk_628 : OwnG γ_624 w_613 (k + 2) 50 7 b_614 cap_615 encM (s.held ++ ([m])) rest_616 := ⟨ho_621, OwNG.appc on_623 hb_617 hg_625 hn_626⟩
  have hsz_629 := e_618.size
  refine wpn 134 (.tmp 126) ⟨p, 0, none⟩ ?_
  refine wpf 135 46 (.tmp 134) 7 p 0 7 7 ?_
  have hb_630 := (Bk.keep hb_611 gx_627 ni1)
  refine wk_store (b := p) (off := 7) (cs' := #[.int .i64 s.own, .int .i64 s.peer, .int .u32 s.view, .slice s.oa s.out.length s.oc, .int .u32 s.last, .int .u32 0, .int .u32 s.told, .slice (some ⟨b_614, 0, none⟩) ((s.held ++ ([m])).length) cap_615, .int .u32 s.come, .int .i64 s.now]) (vs := #[.slice (some ⟨b_614, 0, none⟩) ((s.held ++ ([m])).length) cap_615]) (opn (.store 44 (.tmp 135) (.tmp 133)) 0) rfl (by kernel_rfl) (by kernel_rfl) (by kernel_rfl) (by kernel_rfl) hb_630.1 (Nat.le_of_ble_eq_true rfl) (by kernel_rfl) (by kernel_rfl) (fun w_631 e_632 sz_633 hb_634 => ⟨?_, ?_⟩)
  · exact trivial
  have gx_635 : GX [k] w_613 γ_624 w_631 γ_624 := GX.ext1 e_632 hb_630.2 (fun _ _ => rfl)
  have hk_636 : Bk γ_624 w_631 p k (.cells #[.int .i64 s.own, .int .i64 s.peer, .int .u32 s.view, .slice s.oa s.out.length s.oc, .int .u32 s.last, .int .u32 0, .int .u32 s.told, .slice (some ⟨b_614, 0, none⟩) ((s.held ++ ([m])).length) cap_615, .int .u32 s.come, .int .i64 s.now] 46 (0, 0)) := ⟨hb_634, hb_630.2⟩
  refine wk_nil ?_
  refine wkP_nil ?_
  refine thn_n ?_
  refine g_seq (x := lX3N1_72) (y := lX3N1_73) (by kernel_rfl) ?_
  refine g_region (ops := lX3R1_18) (id := 18) (by kernel_rfl) [pu 0] (by kernel_rfl) (by kernel_rfl) ?_
  refine wpa 7 (.const (.slice none 0 0)) 44 (.slice none 0 0) ?_
  refine wk_nil ?_
  refine thn_n ?_
  refine g_seq (x := lX3N1_74) (y := lX3N1_75) (by kernel_rfl) ?_
  refine g_block (x := lX3N1_76) (id := 2) (by kernel_rfl) ?_
  have hb_638 := (AllOk.keep (AllOk.keep (AllOk.keep (AllOk.keep (AllOk.keep (AllOk.keep hb_118 gx_130 ni0) gx_149 ni0) gx_156 ni0) gx_609 ni0) gx_627 ni1) gx_635 ni1)
  have hb_639 : MOk γ_624 w_631 m := (MOk.keep (MOk.keep (MOk.keep (MOk.keep (MOk.keep (MOk.keep (MOk.keep (MOk.keep (MOk.keep (MOk.keep hm gx_10 ni0) gx_14 ni0) gx_22 ni0) gx_96 ni0) gx_130 ni0) gx_149 ni0) gx_156 ni0) gx_609 ni0) gx_627 ni1) gx_635 ni1)
  have hah_637 : AllOk γ_624 w_631 (s.held ++ [m]) := AllOk.add hb_638 hb_639
  have hb_640 := (OwnG.keep hk_628 gx_635 ni1)
  have hb_641 := (QuG.keep (QuG.keep (QuG.keep (QuG.keep (QuG.keep (QuG.keep hb_114 gx_130 ni0) gx_149 ni0) gx_156 ni0) gx_609 ni0) gx_627 ni1) gx_635 ni1)
  have hb_642 := (AllOk.keep (AllOk.keep (AllOk.keep (AllOk.keep (AllOk.keep (AllOk.keep hb_117 gx_130 ni0) gx_149 ni0) gx_156 ni0) gx_609 ni0) gx_627 ni1) gx_635 ni1)
  have hb_643 := (Bk.keep (Bk.keep (Bk.keep hb_379 gx_609 ni0) gx_627 ni1) gx_635 ni1)
  have hb_644 := (Bk.keep (Bk.keep hk_610 gx_627 ni1) gx_635 ni1)
  refine g_loop (x := lX3N1_77) (by kernel_rfl) (fun m_ ρ_ w_ => ∃ (L : List MsgR) (la : Option Addr) (lg : Nat) (lc : Nat) (lrest : List Value) (nx : Int) (outs : List MsgR) (oA : Option Addr) (oG : Nat) (oC : Nat) (orest : List Value) (f : Nat) (γ_ : Nat → Nat), m_ = L.length ∧ (readyG (s.held.length + 2) [] ((s.held ++ [m]).map MsgR.abs) (s.come + 1) = readyG f (outs.map MsgR.abs) (L.map MsgR.abs) (nx + 1)) ∧ (L.length < f) ∧ (outs.length + L.length = s.held.length + 1) ∧ (0 ≤ nx ∧ nx + L.length ≤ s.come + s.held.length + 1) ∧ (oA = none ∨ w.heap.size ≤ oG) ∧ ρ_ 0 = .pointer (some ⟨p, 0, none⟩) ∧ ρ_ 4 = .slice none 0 0 ∧ ρ_ 5 = .slice none 0 0 ∧ ρ_ 6 = .int .i64 0 ∧ ρ_ 7 = .slice oA outs.length oC ∧ QuG γ_ w_ (k + 1) 71 8 s.oa s.og s.oo s.oc encP s.out ∧ AllOk γ_ w_ (s.out.map (·.m)) ∧ MOk γ_ w_ m ∧ Bk γ_ w_ b_1 12001 (.cells #[.int .i64 m.kind, .int .i64 m.frm, .int .i64 m.to, .int .u32 m.view, .int .u32 m.seq, .slice m.na m.N.length m.nc, .slice m.wa m.W.length m.wc] 50 (0, 0)) ∧ Bk γ_ w_ b_601 12006 (.cells #[.int .i64 m.kind, .int .i64 m.frm, .int .i64 m.to, .int .u32 m.view, .int .u32 m.seq, .slice m.na m.N.length m.nc, .slice m.wa m.W.length m.wc] 50 (0, 0)) ∧ OwnG γ_ w_ (k + 2) 50 7 b_614 cap_615 encM (s.held ++ ([m])) rest_616 ∧ Bk γ_ w_ p k (.cells #[.int .i64 s.own, .int .i64 s.peer, .int .u32 s.view, .slice s.oa s.out.length s.oc, .int .u32 s.last, .int .u32 0, .int .u32 s.told, .slice la L.length lc, .int .u32 nx, .int .i64 s.now] 46 (0, 0)) ∧ OwNG γ_ w_ (k + 2) 50 7 la lg lc encM L lrest ∧ OwNG γ_ w_ 2000 50 7 oA oG oC encM outs orest ∧ AllOk γ_ w_ L ∧ AllOk γ_ w_ outs ∧ GX [k, k + 1, k + 2] w γ w_ γ_) ((s.held ++ [m]).length) ?_ ?_
  · exact ⟨(s.held ++ [m]), (some ⟨b_614, 0, none⟩), b_614, cap_615, rest_616, s.come, [], none, 0, 0, [], (s.held.length + 2), _, rfl, by rfl, by rw [List.length_append, List.length_singleton]; omega, by simp, by rw [List.length_append, List.length_singleton]; omega, by exact .inl rfl, (by kernel_rfl), (by kernel_rfl), (by kernel_rfl), (by kernel_rfl), (by kernel_rfl), hb_641, hb_642, hb_639, hb_643, hb_644, hb_640, hk_636, (OwNG.of hb_640), (OwNG.nil _ _ _ _ _ 0 _ []), hah_637, AllOk.nil, (GX.trans (GX.trans (GX.then0 (GX.then_same (GX.then_same (GX.trans (GX.then_same (GX.then_same (GX.then_same (GX.then0 (GX.refl [k, k + 1, k + 2] _ _) e_3 hg_8) sm_13) sm_21) sm_95) gx_130 (fun _ h_ => absurd h_ List.not_mem_nil)) sm_148) sm_155) e_603 hg_607) gx_627 (by intro c_ hc_; simp only [List.mem_cons, List.not_mem_nil, or_false] at hc_ ⊢; omega)) gx_635 (by intro c_ hc_; simp only [List.mem_cons, List.not_mem_nil, or_false] at hc_ ⊢; omega))⟩
  intro m_645 ρ_646 w_647 hI
  obtain ⟨L, la, lg, lc, lrest, nx, outs, oA, oG, oC, orest, f, γ_649, hm_m_645, hR, hf, hlen, hnx, hO, f_650, f_651, f_652, f_653, f_654, hr_655, hr_656, hr_657, hr_658, hr_659, hr_660, hr_661, hr_662, hr_663, hr_664, hr_665, hE_648⟩ := hI
  have hs_w_647 := hE_648.size
  refine g_block (x := lX3N1_78) (id := 3) (by kernel_rfl) ?_
  refine g_seq (x := lX3N1_79) (y := lX3N1_80) (by kernel_rfl) ?_
  refine g_region (ops := lX3R1_19) (id := 19) (by kernel_rfl) [pu 0, pu 1, pu 2, pu 3, lo 4, pu 5, lo 6, pu 7] (by kernel_rfl) (by kernel_rfl) ?_
  refine wpm 136 (.tmp 0) 42 (.pointer (some ⟨p, 0, none⟩)) ?_ (Eq.trans (by kernel_rfl) f_650)
  refine wpm 137 (.tmp 0) 42 (.pointer (some ⟨p, 0, none⟩)) ?_ (Eq.trans (by kernel_rfl) f_650)
  refine wpn 138 (.tmp 137) ⟨p, 0, none⟩ ?_
  refine wpf 139 46 (.tmp 138) 8 p 0 8 8 ?_
  refine wpl 140 27 (.tmp 139) (.int .u32 nx) p 8 hr_661.1 ?_
  refine wk_pure (opd 141 (.binOp .add 27 (.tmp 140) (.const (.int .u32 1)) 27) 27) rfl (.int .u32 (nx + 1)) (fun _ => y_add (k := .u32) (a := nx) (b := 1) (by kernel_rfl) (by kernel_rfl) (u32_to (by omega) rfl)) ?_
  have hL_666 : RefAt γ_649 w_647 k p (⟨s.own, s.peer, s.view, s.oa, s.og, s.oo, s.oc, s.out, s.last, s.told, la, lg, lc, L, lrest, nx, s.now⟩ : RfR) := ⟨hr_661, hr_655, hr_662, hr_656, hr_664, h_hn, h_b1, h_b2, h_b3, (by show 0 ≤ nx ∧ nx < 4294967295; omega), h_b5, h_l1, (by show L.length ≤ 1000000; first | omega | (rw [List.length_append, List.length_singleton]; omega)), h_l3⟩
  refine wkc 142 34 #[.tmp 136, .tmp 141] #[42, 27] 3 #[.pointer (some ⟨p, 0, none⟩), .int .u32 (nx + 1)] Try.func34 (has_c (γ := γ_649) hL_666 hk (fun k_667 hk_668 he_669 hn_670 w_671 γ_672 gx_673 => ⟨?_, ?_⟩) (fun hn_674 w_675 γ_676 gx_677 => ⟨?_, ?_⟩))
  · exact trivial
  · have hsz_678 := gx_673.size
    have hk_k_667 : k_667 < L.length := hk_668
    have he_k_667 : (L.getD k_667 M0).seq = nx + 1 := he_669
    have hix_k_667 := idx_some hk_k_667 he_k_667 hn_670
    refine wpa 8 (.tmp 142) 3 (.int .i64 ((k_667 : Nat) : Int)) ?_
    refine wk_nil ?_
    refine thn_n ?_
    refine g_seq (x := lX3N1_81) (y := lX3N1_82) (by kernel_rfl) ?_
    refine g_seq (x := lX3N1_83) (y := lX3N1_84) (by kernel_rfl) ?_
    refine g_region (ops := lX3R1_20) (id := 20) (by kernel_rfl) [pu 0, pu 1] (by kernel_rfl) (by kernel_rfl) ?_
    refine wpm 143 (.tmp 8) 3 (.int .i64 ((k_667 : Nat) : Int)) ?_
    refine wk_pure (opd 144 (.binOp .lss 3 (.tmp 143) (.const (.int .i64 0)) 3) 4) rfl (.bool false) (fun _ => y_lss (k := .i64) (a := ((k_667 : Nat) : Int)) (b := 0) (by kernel_rfl) (by kernel_rfl) (decide_eq_false (by omega))) ?_
    refine wk_nil ?_
    refine thn_n ?_
    refine g_cond_f (o := .tmp 144) (x := lX3N1_85) (y := lX3N1_86) (by kernel_rfl) (by kernel_rfl) ?_
    refine g_skip (by kernel_rfl) ?_
    refine thn_n ?_
    refine g_seq (x := lX3N1_87) (y := lX3N1_88) (by kernel_rfl) ?_
    refine g_region (ops := lX3R1_21) (id := 21) (by kernel_rfl) [pu 0, pu 1, pu 2, pu 3, lo 4, pu 5, pu 6, lo 7, lo 8, lo 9, pu 10] (by kernel_rfl) (by kernel_rfl) ?_
    refine wpm 145 (.tmp 7) 44 (.slice oA outs.length oC) ?_ (Eq.trans (by kernel_rfl) f_654)
    refine wpm 146 (.tmp 0) 42 (.pointer (some ⟨p, 0, none⟩)) ?_ (Eq.trans (by kernel_rfl) f_650)
    refine wpn 147 (.tmp 146) ⟨p, 0, none⟩ ?_
    refine wpf 148 46 (.tmp 147) 7 p 0 7 7 ?_
    have hb_679 := (Bk.keep hr_661 gx_673 ni0)
    refine wpl 149 44 (.tmp 148) (.slice la L.length lc) p 7 hb_679.1 ?_
    refine wpm 150 (.tmp 8) 3 (.int .i64 ((k_667 : Nat) : Int)) ?_
    have hb_680 := (OwNG.keep hr_662 gx_673 ni0)
    refine wk_pure (opd 151 (.indexAddr 44 (.tmp 149) (.tmp 150)) 0) rfl (.pointer (some ⟨lg, 0 + (k_667 * 7 + 0), none⟩)) (fun _ => y_ptr (x_indexN (a := la) (b := lg) (off := 0) (n := L.length) (c := lc) (k := .i64) (i := ((k_667 : Nat) : Int)) (e := 50) (sz := 7) (sz' := 7) (by kernel_rfl) hb_680.1.sl (by kernel_rfl) (by kernel_rfl) rfl (by omega) _) (by omega)) ?_
    refine wk_val (opd 152 (.load 50 (.tmp 151)) 50) rfl (.agg #[.int .i64 ((L.getD k_667 M0).kind), .int .i64 ((L.getD k_667 M0).frm), .int .i64 ((L.getD k_667 M0).to), .int .u32 ((L.getD k_667 M0).view), .int .u32 ((L.getD k_667 M0).seq), .slice ((L.getD k_667 M0).na) ((L.getD k_667 M0).N.length) ((L.getD k_667 M0).nc), .slice ((L.getD k_667 M0).wa) ((L.getD k_667 M0).W.length) ((L.getD k_667 M0).wc)]) (x_load_cs (b := lg) (off := (0 + (k_667 * 7 + 0))) (n := 7) (vs := [.int .i64 ((L.getD k_667 M0).kind), .int .i64 ((L.getD k_667 M0).frm), .int .i64 ((L.getD k_667 M0).to), .int .u32 ((L.getD k_667 M0).view), .int .u32 ((L.getD k_667 M0).seq), .slice ((L.getD k_667 M0).na) ((L.getD k_667 M0).N.length) ((L.getD k_667 M0).nc), .slice ((L.getD k_667 M0).wa) ((L.getD k_667 M0).W.length) ((L.getD k_667 M0).wc)]) (by kernel_rfl) (by kernel_rfl) rfl (SlE.getN hb_680.1.sl encM_len M0 k_667 0 (by omega) rfl)) trivial ?_
    refine wk_buildSlice (e := 50) (cs := #[.int .i64 ((L.getD k_667 M0).kind), .int .i64 ((L.getD k_667 M0).frm), .int .i64 ((L.getD k_667 M0).to), .int .u32 ((L.getD k_667 M0).view), .int .u32 ((L.getD k_667 M0).seq), .slice ((L.getD k_667 M0).na) ((L.getD k_667 M0).N.length) ((L.getD k_667 M0).nc), .slice ((L.getD k_667 M0).wa) ((L.getD k_667 M0).W.length) ((L.getD k_667 M0).wc)]) (opd 153 (.buildSlice 44 1 #[(0, .tmp 152)]) 44) rfl (by kernel_rfl) (fun w_681 b_682 eq_683 e_684 sz_685 hb_686 => ⟨?_, ?_⟩)
    · exact trivial
    obtain ⟨γ_687, hg_688, hn_689⟩ := cls_new γ_672 w_671.heap.size 12007
    have gx_690 := GX.ext0 [] e_684 hg_688
    have hk_691 : Bk γ_687 w_681 b_682 12007 (.cells #[.int .i64 ((L.getD k_667 M0).kind), .int .i64 ((L.getD k_667 M0).frm), .int .i64 ((L.getD k_667 M0).to), .int .u32 ((L.getD k_667 M0).view), .int .u32 ((L.getD k_667 M0).seq), .slice ((L.getD k_667 M0).na) ((L.getD k_667 M0).N.length) ((L.getD k_667 M0).nc), .slice ((L.getD k_667 M0).wa) ((L.getD k_667 M0).W.length) ((L.getD k_667 M0).wc)] 50 (0, 0)) := ⟨hb_686, hn_689 _ (by omega)⟩
    have hs_692 : SlE w_681 7 (some ⟨b_682, 0, none⟩) b_682 0 encM [(L.getD k_667 M0)] := SlE.of_cells hk_691.1 encM_len (by rfl)
    have hb_702 := (OwNG.keep (OwNG.keep hr_663 gx_673 ni0) gx_690 ni0)
    have on_703 : OwNG γ_687 w_681 2000 50 7 oA oG oC encM outs orest := hb_702
    refine wk_append (M := ([(L.getD k_667 M0)])) (L := outs) (a := oA) (g := oG) (c := oC) (ax := (some ⟨b_682, 0, none⟩)) (bx := b_682) (offx := 0) (cx := 1) (e := 50) (sz := 7) (by_ := 80) (opd 154 (.call ⟨.builtin .append, #[.tmp 145, .tmp 153], #[44, 44]⟩) 44) rfl (by kernel_rfl) (by kernel_rfl) encM_len (by kernel_rfl) on_703.1 (by kernel_rfl) hs_692 (by simp) encM_one (by constructor <;> (first | omega | (simp only [List.length_singleton, List.length_nil, List.length_take, List.length_drop, List.length_append]; omega))) (fun w_693 b_694 cap_695 rest_696 hb_697 e_698 sz_699 lt_700 ho_701 => ⟨?_, ?_⟩)
    · exact trivial
    obtain ⟨γ_704, hg_705, hn_706⟩ := cls_new γ_687 w_681.heap.size 2000
    have gx_707 : GX [2000] w_681 γ_687 w_693 γ_704 := OwNG.gx on_703 e_698 hg_705
    have hk_708 : OwnG γ_704 w_693 2000 50 7 b_694 cap_695 encM (outs ++ ([(L.getD k_667 M0)])) rest_696 := ⟨ho_701, OwNG.appc on_703 hb_697 hg_705 hn_706⟩
    have hsz_709 := e_698.size
    refine wpa 7 (.tmp 154) 44 (.slice (some ⟨b_694, 0, none⟩) ((outs ++ ([(L.getD k_667 M0)])).length) cap_695) ?_
    refine wk_nil ?_
    refine thn_n ?_
    refine g_seq (x := lX3N1_89) (y := lX3N1_90) (by kernel_rfl) ?_
    refine g_last (ops := lX3R1_22) (id := 22) (by kernel_rfl) (fun w w' => GC [3000] γ_704 w w') 19 [pu 0, pu 2, pu 3, pu 4, pu 6, pu 9, pu 10, pu 11, pu 13, pu 14, (5, .stab), pu 7, (12, .stab), pu 15, lo 1, lo 8, lo 16, pu 17, pu 18] (by kernel_rfl) (by kernel_rfl) (fun _ => (GX.refl _ _ _).gc) (fun w_710 sm_711 => ?_)
    have gx_712 := GX.same [] γ_704 sm_711
    have hsz_713 : w_710.heap.size = w_693.heap.size := by rw [sm_711.heap]
    refine wpm 155 (.tmp 0) 42 (.pointer (some ⟨p, 0, none⟩)) ?_ (Eq.trans (by kernel_rfl) f_650)
    refine wpm 157 (.tmp 0) 42 (.pointer (some ⟨p, 0, none⟩)) ?_ (Eq.trans (by kernel_rfl) f_650)
    refine wpn 158 (.tmp 157) ⟨p, 0, none⟩ ?_
    refine wpf 159 46 (.tmp 158) 7 p 0 7 7 ?_
    refine wpm 161 (.tmp 8) 3 (.int .i64 ((k_667 : Nat) : Int)) ?_
    refine wpm 164 (.tmp 0) 42 (.pointer (some ⟨p, 0, none⟩)) ?_ (Eq.trans (by kernel_rfl) f_650)
    refine wpn 165 (.tmp 164) ⟨p, 0, none⟩ ?_
    refine wpf 166 46 (.tmp 165) 7 p 0 7 7 ?_
    refine wpm 168 (.tmp 8) 3 (.int .i64 ((k_667 : Nat) : Int)) ?_
    refine wk_pure (opd 169 (.binOp .add 3 (.tmp 168) (.const (.int .i64 1)) 3) 3) rfl (.int .i64 ((k_667 + 1 : Nat) : Int)) (fun _ => y_add (k := .i64) (a := ((k_667 : Nat) : Int)) (b := 1) (by kernel_rfl) (by kernel_rfl) (i64_to (by omega) (by omega))) ?_
    refine wk_stab (opd 160 (.load 44 (.tmp 159)) 44) rfl (.slice la L.length lc) (fun w'_ g_ => x_load (b := p) (off := 7) (by kernel_rfl) (by kernel_rfl) (GC.bk g_ (Bk.keep (Bk.keep (Bk.keep hb_679 gx_690 ni0) gx_707 ni1) gx_712 ni0) ni1) (by kernel_rfl)) ?_
    have hb_714 := (OwNG.keep (OwNG.keep (OwNG.keep hb_680 gx_690 ni0) gx_707 ni1) gx_712 ni0)
    have hle_713 := OwNG.le hb_714
    have hs_715 : SlE w_710 7 (cutA la lc 0 7) lg (0 + 0 * 7) encM ((L.drop 0).take (k_667 - 0)) := hb_714.1.sl.cut encM_len lc 0 (k_667 - 0) (by omega) (by omega)
    have hc_716 : SlG γ_704 w_710 (k + 2) 7 (cutA la lc 0 7) lg (0 + 0 * 7) encM ((L.drop 0).take (k_667 - 0)) := SlG.of_cut hs_715 (OwNG.slg hb_714) (by simp only [List.length_take, List.length_drop]; omega)
    refine wk_pure (opd 162 (.slice 44 (.tmp 160) none (some (.tmp 161)) none) 44) rfl (.slice (cutA la lc 0 7) (((L.drop 0).take (k_667 - 0)).length) (lc - 0)) (fun _ => y_slice (x_cutH (a := la) (n := L.length) (c := lc) (sz := 7) (e := 50) (q := .i64) (hi' := ((k_667 : Nat) : Int)) (h := k_667) (by kernel_rfl) (by kernel_rfl) (by kernel_rfl) (by omega) (by omega)) (cut_len (by omega))) ?_
    refine wk_stab (opd 167 (.load 44 (.tmp 166)) 44) rfl (.slice la L.length lc) (fun w'_ g_ => x_load (b := p) (off := 7) (by kernel_rfl) (by kernel_rfl) (GC.bk g_ (Bk.keep (Bk.keep (Bk.keep hb_679 gx_690 ni0) gx_707 ni1) gx_712 ni0) ni1) (by kernel_rfl)) ?_
    have hle_716 := OwNG.le hb_714
    have hs_717 : SlE w_710 7 (cutA la lc (k_667 + 1) 7) lg (0 + (k_667 + 1) * 7) encM ((L.drop (k_667 + 1)).take (L.length - (k_667 + 1))) := hb_714.1.sl.cut encM_len lc (k_667 + 1) (L.length - (k_667 + 1)) (by omega) (by omega)
    have hc_718 : SlG γ_704 w_710 (k + 2) 7 (cutA la lc (k_667 + 1) 7) lg (0 + (k_667 + 1) * 7) encM ((L.drop (k_667 + 1)).take (L.length - (k_667 + 1))) := SlG.of_cut hs_717 (OwNG.slg hb_714) (by simp only [List.length_take, List.length_drop]; omega)
    refine wk_pure (opd 170 (.slice 44 (.tmp 167) (some (.tmp 169)) none none) 44) rfl (.slice (cutA la lc (k_667 + 1) 7) (((L.drop (k_667 + 1)).take (L.length - (k_667 + 1))).length) (lc - (k_667 + 1))) (fun _ => y_slice (x_cutL (a := la) (n := L.length) (c := lc) (sz := 7) (e := 50) (k := .i64) (li := ((k_667 + 1 : Nat) : Int)) (l := (k_667 + 1)) (by kernel_rfl) (by kernel_rfl) (by kernel_rfl) (by omega) (by omega)) (cut_len (by omega))) ?_
    refine wk_buildSlice (e := 50) (cs := #[]) (opd 156 (.buildSlice 44 0 #[]) 44) rfl (by kernel_rfl) (fun w_719 b_720 eq_721 e_722 sz_723 hb_724 => ⟨?_, ?_⟩)
    · obtain ⟨γ_725, hg_726, hn_727⟩ := cls_new γ_704 w_710.heap.size 3000
      have gx_728 := GX.ext0 [] e_722 hg_726
      have hk_729 : Bk γ_725 w_719 b_720 3000 (.cells #[] 50 (0, 0)) := ⟨hb_724, hn_727 _ (by omega)⟩
      exact (GX.then0 (GX.refl [3000] _ _) e_722 hg_726).gc
    obtain ⟨γ_725, hg_726, hn_727⟩ := cls_new γ_704 w_710.heap.size 3000
    have gx_728 := GX.ext0 [] e_722 hg_726
    have hk_729 : Bk γ_725 w_719 b_720 3000 (.cells #[] 50 (0, 0)) := ⟨hb_724, hn_727 _ (by omega)⟩
    have hb_730 := (SlG.keep hc_716 gx_728 ni0)
    have on_740 : OwNG γ_725 w_719 3000 50 7 (some ⟨b_720, 0, none⟩) b_720 0 encM ([]) ([]) := (OwNG.of ⟨OwnE.of_cells (M := []) hk_729.1 encM_len (by kernel_rfl) (Nat.zero_le _), hk_729.2⟩)
    refine wk_append_some (M := ((L.drop 0).take (k_667 - 0))) (L := ([])) (g := b_720) (cap := 0) (ax := (cutA la lc 0 7)) (bx := lg) (offx := (0 + 0 * 7)) (cx := (lc - 0)) (e := 50) (sz := 7) (by_ := 80) (opd 163 (.call ⟨.builtin .append, #[.tmp 156, .tmp 162], #[44, 44]⟩) 44) rfl (by kernel_rfl) (by kernel_rfl) encM_len (by kernel_rfl) on_740.1 (by kernel_rfl) hb_730.1  encM_one (by constructor <;> (first | omega | (simp only [List.length_singleton, List.length_nil, List.length_take, List.length_drop, List.length_append]; omega))) (fun w_731 b_732 cap_733 rest_734 hb_735 e_736 sz_737 lt_738 ho_739 => ⟨?_, ?_⟩)
    · obtain ⟨γ_741, hg_742, hn_743⟩ := cls_new γ_725 w_719.heap.size 3000
      have gx_744 : GX [3000] w_719 γ_725 w_731 γ_741 := OwNG.gx on_740 e_736 hg_742
      have hk_745 : OwnG γ_741 w_731 3000 50 7 b_732 cap_733 encM (([]) ++ ((L.drop 0).take (k_667 - 0))) rest_734 := ⟨ho_739, OwNG.appc on_740 hb_735 hg_742 hn_743⟩
      exact (GX.thenNew (GX.then0 (GX.refl [3000] _ _) e_722 hg_726) e_736 (OwNG.newS (OwNG.of ⟨OwnE.of_cells (M := []) hk_729.1 encM_len (by kernel_rfl) (Nat.zero_le _), hk_729.2⟩) (by exact .inr (by omega))) hg_742).gc
    obtain ⟨γ_741, hg_742, hn_743⟩ := cls_new γ_725 w_719.heap.size 3000
    have gx_744 : GX [3000] w_719 γ_725 w_731 γ_741 := OwNG.gx on_740 e_736 hg_742
    have hk_745 : OwnG γ_741 w_731 3000 50 7 b_732 cap_733 encM (([]) ++ ((L.drop 0).take (k_667 - 0))) rest_734 := ⟨ho_739, OwNG.appc on_740 hb_735 hg_742 hn_743⟩
    have hsz_746 := e_736.size
    have hb_747 := (SlG.keep (SlG.keep hc_718 gx_728 ni0) gx_744 ni1)
    have on_757 : OwNG γ_741 w_731 3000 50 7 (some ⟨b_732, 0, none⟩) b_732 cap_733 encM (([]) ++ ((L.drop 0).take (k_667 - 0))) rest_734 := (OwNG.of hk_745)
    refine wk_append_some (M := ((L.drop (k_667 + 1)).take (L.length - (k_667 + 1)))) (L := (([]) ++ ((L.drop 0).take (k_667 - 0)))) (g := b_732) (cap := cap_733) (ax := (cutA la lc (k_667 + 1) 7)) (bx := lg) (offx := (0 + (k_667 + 1) * 7)) (cx := (lc - (k_667 + 1))) (e := 50) (sz := 7) (by_ := 80) (opd 171 (.call ⟨.builtin .append, #[.tmp 163, .tmp 170], #[44, 44]⟩) 44) rfl (by kernel_rfl) (by kernel_rfl) encM_len (by kernel_rfl) on_757.1 (by kernel_rfl) hb_747.1  encM_one (by constructor <;> (first | omega | (simp only [List.length_singleton, List.length_nil, List.length_take, List.length_drop, List.length_append]; omega))) (fun w_748 b_749 cap_750 rest_751 hb_752 e_753 sz_754 lt_755 ho_756 => ⟨?_, ?_⟩)
    · obtain ⟨γ_758, hg_759, hn_760⟩ := cls_new γ_741 w_731.heap.size 3000
      have gx_761 : GX [3000] w_731 γ_741 w_748 γ_758 := OwNG.gx on_757 e_753 hg_759
      have hk_762 : OwnG γ_758 w_748 3000 50 7 b_749 cap_750 encM ((([]) ++ ((L.drop 0).take (k_667 - 0))) ++ ((L.drop (k_667 + 1)).take (L.length - (k_667 + 1)))) rest_751 := ⟨ho_756, OwNG.appc on_757 hb_752 hg_759 hn_760⟩
      exact (GX.thenNew (GX.thenNew (GX.then0 (GX.refl [3000] _ _) e_722 hg_726) e_736 (OwNG.newS (OwNG.of ⟨OwnE.of_cells (M := []) hk_729.1 encM_len (by kernel_rfl) (Nat.zero_le _), hk_729.2⟩) (by exact .inr (by omega))) hg_742) e_753 (OwNG.newS (OwNG.of hk_745) (by exact .inr (by omega))) hg_759).gc
    obtain ⟨γ_758, hg_759, hn_760⟩ := cls_new γ_741 w_731.heap.size 3000
    have gx_761 : GX [3000] w_731 γ_741 w_748 γ_758 := OwNG.gx on_757 e_753 hg_759
    have hk_762 : OwnG γ_758 w_748 3000 50 7 b_749 cap_750 encM ((([]) ++ ((L.drop 0).take (k_667 - 0))) ++ ((L.drop (k_667 + 1)).take (L.length - (k_667 + 1)))) rest_751 := ⟨ho_756, OwNG.appc on_757 hb_752 hg_759 hn_760⟩
    have hsz_763 := e_753.size
    refine wpn 172 (.tmp 155) ⟨p, 0, none⟩ ?_
    refine wpf 173 46 (.tmp 172) 7 p 0 7 7 ?_
    refine wk_nil ?_
    have hb_764 := (Bk.keep (Bk.keep (Bk.keep (Bk.keep (Bk.keep (Bk.keep hb_679 gx_690 ni0) gx_707 ni1) gx_712 ni0) gx_728 ni0) gx_744 ni1) gx_761 ni1)
    refine wk_store (b := p) (off := 7) (cs' := #[.int .i64 s.own, .int .i64 s.peer, .int .u32 s.view, .slice s.oa s.out.length s.oc, .int .u32 s.last, .int .u32 0, .int .u32 s.told, .slice (some ⟨b_749, 0, none⟩) (((([]) ++ ((L.drop 0).take (k_667 - 0))) ++ ((L.drop (k_667 + 1)).take (L.length - (k_667 + 1)))).length) cap_750, .int .u32 nx, .int .i64 s.now]) (vs := #[.slice (some ⟨b_749, 0, none⟩) (((([]) ++ ((L.drop 0).take (k_667 - 0))) ++ ((L.drop (k_667 + 1)).take (L.length - (k_667 + 1)))).length) cap_750]) (opn (.store 44 (.tmp 173) (.tmp 171)) 0) rfl (by kernel_rfl) (by kernel_rfl) (by kernel_rfl) (by kernel_rfl) hb_764.1 (Nat.le_of_ble_eq_true rfl) (by kernel_rfl) (by kernel_rfl) (fun w_765 e_766 sz_767 hb_768 => ⟨?_, ?_⟩)
    · exact trivial
    have gx_769 : GX [k] w_748 γ_758 w_765 γ_758 := GX.ext1 e_766 hb_764.2 (fun _ _ => rfl)
    have hk_770 : Bk γ_758 w_765 p k (.cells #[.int .i64 s.own, .int .i64 s.peer, .int .u32 s.view, .slice s.oa s.out.length s.oc, .int .u32 s.last, .int .u32 0, .int .u32 s.told, .slice (some ⟨b_749, 0, none⟩) (((([]) ++ ((L.drop 0).take (k_667 - 0))) ++ ((L.drop (k_667 + 1)).take (L.length - (k_667 + 1)))).length) cap_750, .int .u32 nx, .int .i64 s.now] 46 (0, 0)) := ⟨hb_768, hb_764.2⟩
    refine wk_nil ?_
    refine thn_n ?_
    refine g_region (ops := lX3R1_23) (id := 23) (by kernel_rfl) [pu 0, pu 1, pu 2, lo 3, pu 4, pu 5, pu 6, lo 7] (by kernel_rfl) (by kernel_rfl) ?_
    refine wpm 174 (.tmp 0) 42 (.pointer (some ⟨p, 0, none⟩)) ?_ (Eq.trans (by kernel_rfl) f_650)
    refine wpn 175 (.tmp 174) ⟨p, 0, none⟩ ?_
    refine wpf 176 46 (.tmp 175) 8 p 0 8 8 ?_
    refine wpl 177 27 (.tmp 176) (.int .u32 nx) p 8 hk_770.1 ?_
    refine wk_pure (opd 178 (.binOp .add 27 (.tmp 177) (.const (.int .u32 1)) 27) 27) rfl (.int .u32 (nx + 1)) (fun _ => y_add (k := .u32) (a := nx) (b := 1) (by kernel_rfl) (by kernel_rfl) (u32_to (by omega) rfl)) ?_
    refine wpn 179 (.tmp 174) ⟨p, 0, none⟩ ?_
    refine wpf 180 46 (.tmp 179) 8 p 0 8 8 ?_
    refine wk_store (b := p) (off := 8) (cs' := #[.int .i64 s.own, .int .i64 s.peer, .int .u32 s.view, .slice s.oa s.out.length s.oc, .int .u32 s.last, .int .u32 0, .int .u32 s.told, .slice (some ⟨b_749, 0, none⟩) (((([]) ++ ((L.drop 0).take (k_667 - 0))) ++ ((L.drop (k_667 + 1)).take (L.length - (k_667 + 1)))).length) cap_750, .int .u32 (nx + 1), .int .i64 s.now]) (vs := #[.int .u32 (nx + 1)]) (opn (.store 27 (.tmp 180) (.tmp 178)) 0) rfl (by kernel_rfl) (by kernel_rfl) (by kernel_rfl) (by kernel_rfl) hk_770.1 (Nat.le_of_ble_eq_true rfl) (by kernel_rfl) (by kernel_rfl) (fun w_771 e_772 sz_773 hb_774 => ⟨?_, ?_⟩)
    · exact trivial
    have gx_775 : GX [k] w_765 γ_758 w_771 γ_758 := GX.ext1 e_772 hk_770.2 (fun _ _ => rfl)
    have hk_776 : Bk γ_758 w_771 p k (.cells #[.int .i64 s.own, .int .i64 s.peer, .int .u32 s.view, .slice s.oa s.out.length s.oc, .int .u32 s.last, .int .u32 0, .int .u32 s.told, .slice (some ⟨b_749, 0, none⟩) (((([]) ++ ((L.drop 0).take (k_667 - 0))) ++ ((L.drop (k_667 + 1)).take (L.length - (k_667 + 1)))).length) cap_750, .int .u32 (nx + 1), .int .i64 s.now] 46 (0, 0)) := ⟨hb_774, hk_770.2⟩
    refine wk_nil ?_
    refine blk_n ?_
    refine thn_n ?_
    obtain ⟨γ_777, hr_778, hr_779, hr_780⟩ := recls γ_758 w.heap.size 3000 (k + 2)
    have gx_781 : GX [3000] w_771 γ_758 w_771 γ_777 := GX.re w_771 hr_779
    have her_ : ((([]) ++ ((L.drop 0).take (k_667 - 0))) ++ ((L.drop (k_667 + 1)).take (L.length - (k_667 + 1)))) = L.eraseIdx k_667 := erase_cuts (by omega)
    have hel_ : (L.eraseIdx k_667).length = L.length - 1 := List.length_eraseIdx_of_lt (by omega)
    have hb_782 := (AllOk.keep (AllOk.keep (AllOk.keep (AllOk.keep (AllOk.keep (AllOk.keep (AllOk.keep (AllOk.keep (AllOk.keep (AllOk.keep hr_664 gx_673 ni0) gx_690 ni0) gx_707 ni1) gx_712 ni0) gx_728 ni0) gx_744 ni1) gx_761 ni1) gx_769 ni1) gx_775 ni1) gx_781 ni1)
    have hsub_ : AllOk γ_777 w_771 (L.eraseIdx k_667) := AllOk.sub hb_782 (fun x_ hx_ => mem_eraseIdx' hx_)
    have hb_783 := (AllOk.keep (AllOk.keep (AllOk.keep (AllOk.keep (AllOk.keep (AllOk.keep (AllOk.keep (AllOk.keep (AllOk.keep (AllOk.keep hr_665 gx_673 ni0) gx_690 ni0) gx_707 ni1) gx_712 ni0) gx_728 ni0) gx_744 ni1) gx_761 ni1) gx_769 ni1) gx_775 ni1) gx_781 ni1)
    have hadd_ : AllOk γ_777 w_771 (outs ++ [(L.getD k_667 M0)]) := AllOk.add hb_783 (AllOk.get hb_782 (by omega))
    have hlg_ : OwNG γ_777 w_771 (k + 2) 50 7 (some ⟨b_749, 0, none⟩) b_749 cap_750 encM (L.eraseIdx k_667) rest_751 := by rw [← her_]; exact OwNG.of (OwnG.re (OwnG.keep (OwnG.keep hk_762 gx_769 ni1) gx_775 ni1) hr_780 (appNew hb_752 (.inr (appNew hb_735 (.inr (by omega)) (by omega))) (by omega)))
    have hb_784 := (Bk.keep hk_776 gx_781 ni1)
    have hpf_ := hb_784
    rw [her_] at hpf_
    have hb_785 := (OwnG.keep (OwnG.keep (OwnG.keep (OwnG.keep (OwnG.keep (OwnG.keep (OwnG.keep hk_708 gx_712 ni0) gx_728 ni0) gx_744 ni1) gx_761 ni1) gx_769 ni1) gx_775 ni1) gx_781 ni1)
    obtain ⟨f, rfl⟩ : ∃ f', f = f' + 1 := ⟨f - 1, by omega⟩
    have hb_786 := (QuG.keep (QuG.keep (QuG.keep (QuG.keep (QuG.keep (QuG.keep (QuG.keep (QuG.keep (QuG.keep (QuG.keep hr_655 gx_673 ni0) gx_690 ni0) gx_707 ni1) gx_712 ni0) gx_728 ni0) gx_744 ni1) gx_761 ni1) gx_769 ni1) gx_775 ni1) gx_781 ni1)
    have hb_787 := (AllOk.keep (AllOk.keep (AllOk.keep (AllOk.keep (AllOk.keep (AllOk.keep (AllOk.keep (AllOk.keep (AllOk.keep (AllOk.keep hr_656 gx_673 ni0) gx_690 ni0) gx_707 ni1) gx_712 ni0) gx_728 ni0) gx_744 ni1) gx_761 ni1) gx_769 ni1) gx_775 ni1) gx_781 ni1)
    have hb_788 := (MOk.keep (MOk.keep (MOk.keep (MOk.keep (MOk.keep (MOk.keep (MOk.keep (MOk.keep (MOk.keep (MOk.keep hr_657 gx_673 ni0) gx_690 ni0) gx_707 ni1) gx_712 ni0) gx_728 ni0) gx_744 ni1) gx_761 ni1) gx_769 ni1) gx_775 ni1) gx_781 ni1)
    have hb_789 := (Bk.keep (Bk.keep (Bk.keep (Bk.keep (Bk.keep (Bk.keep (Bk.keep (Bk.keep (Bk.keep (Bk.keep hr_658 gx_673 ni0) gx_690 ni0) gx_707 ni1) gx_712 ni0) gx_728 ni0) gx_744 ni1) gx_761 ni1) gx_769 ni1) gx_775 ni1) gx_781 ni1)
    have hb_790 := (Bk.keep (Bk.keep (Bk.keep (Bk.keep (Bk.keep (Bk.keep (Bk.keep (Bk.keep (Bk.keep (Bk.keep hr_659 gx_673 ni0) gx_690 ni0) gx_707 ni1) gx_712 ni0) gx_728 ni0) gx_744 ni1) gx_761 ni1) gx_769 ni1) gx_775 ni1) gx_781 ni1)
    have hb_791 := (OwnG.keep (OwnG.keep (OwnG.keep (OwnG.keep (OwnG.keep (OwnG.keep (OwnG.keep (OwnG.keep (OwnG.keep (OwnG.keep hr_660 gx_673 ni0) gx_690 ni0) gx_707 ni1) gx_712 ni0) gx_728 ni0) gx_744 ni1) gx_761 ni1) gx_769 ni1) gx_775 ni1) gx_781 ni1)
    exact ⟨_, (by omega), ⟨(L.eraseIdx k_667), _, b_749, cap_750, rest_751, (nx + 1), (outs ++ [(L.getD k_667 M0)]), _, b_694, cap_695, rest_696, f, _, rfl, by rw [hR]; simp only [readyG, hix_k_667]; rw [abs_getD, map_eraseIdx', List.map_append, Int.emod_eq_of_lt (by omega) (by omega)]; rfl, by omega, by rw [List.length_append, List.length_singleton]; omega, by omega, by exact .inr (appNew hb_697 hO (by omega)), (Eq.trans (by kernel_rfl) f_650), (Eq.trans (by kernel_rfl) f_651), (Eq.trans (by kernel_rfl) f_652), (Eq.trans (by kernel_rfl) f_653), (by kernel_rfl), hb_786, hb_787, hb_788, hb_789, hb_790, hb_791, hpf_, hlg_, (OwNG.of hb_785), hsub_, hadd_, (GX.thenRe (GX.trans (GX.trans (GX.thenNew (GX.thenNew (GX.then0 (GX.then_same (GX.thenNew (GX.then0 (GX.trans hE_648 gx_673 (fun _ h_ => absurd h_ List.not_mem_nil)) e_684 hg_688) e_698 (OwNG.newS hb_702 (by exact hO)) hg_705) sm_711) e_722 hg_726) e_736 (OwNG.newS (OwNG.of ⟨OwnE.of_cells (M := []) hk_729.1 encM_len (by kernel_rfl) (Nat.zero_le _), hk_729.2⟩) (by exact .inr (by omega))) hg_742) e_753 (OwNG.newS (OwNG.of hk_745) (by exact .inr (by omega))) hg_759) gx_769 (by intro c_ hc_; simp only [List.mem_cons, List.not_mem_nil, or_false] at hc_ ⊢; omega)) gx_775 (by intro c_ hc_; simp only [List.mem_cons, List.not_mem_nil, or_false] at hc_ ⊢; omega)) (fun b_ hb_ => hr_778 b_ (by omega)))⟩⟩
  · exact trivial
  have hsz_792 := gx_677.size
  have hix_ : idxOf (L.map MsgR.abs) (nx + 1) = none := idx_none (L := L) hn_674
  refine wpa 8 (.tmp 142) 3 (.int .i64 (-1)) ?_
  refine wk_nil ?_
  refine thn_n ?_
  refine g_seq (x := lX3N1_81) (y := lX3N1_82) (by kernel_rfl) ?_
  refine g_seq (x := lX3N1_83) (y := lX3N1_84) (by kernel_rfl) ?_
  refine g_region (ops := lX3R1_20) (id := 20) (by kernel_rfl) [pu 0, pu 1] (by kernel_rfl) (by kernel_rfl) ?_
  refine wpm 143 (.tmp 8) 3 (.int .i64 (-1)) ?_
  refine wk_pure (opd 144 (.binOp .lss 3 (.tmp 143) (.const (.int .i64 0)) 3) 4) rfl (.bool true) (fun _ => y_lss (k := .i64) (a := (-1)) (b := 0) (by kernel_rfl) (by kernel_rfl) (by decide)) ?_
  refine wk_nil ?_
  refine thn_n ?_
  refine g_cond_t (o := .tmp 144) (x := lX3N1_85) (y := lX3N1_86) (by kernel_rfl) (by kernel_rfl) ?_
  refine g_exit (id := 2) (by kernel_rfl) ?_
  refine thn_e ?_
  refine blk_miss (by decide) ?_
  refine thn_e ?_
  refine blk_hit ?_
  refine thn_n ?_
  refine g_seq (x := lX3N1_91) (y := lX3N1_92) (by kernel_rfl) ?_
  refine g_region (ops := lX3R1_24) (id := 24) (by kernel_rfl) [pu 0, pu 1, lo 2, pu 3, pu 4, pu 5] (by kernel_rfl) (by kernel_rfl) ?_
  refine wpm 181 (.tmp 7) 44 (.slice oA outs.length oC) ?_ (Eq.trans (by kernel_rfl) f_654)
  refine wpm 182 (.tmp 0) 42 (.pointer (some ⟨p, 0, none⟩)) ?_ (Eq.trans (by kernel_rfl) f_650)
  have hb_793 := (QuG.keep hr_655 gx_677 ni0)
  have hb_794 := (OwNG.keep hr_662 gx_677 ni0)
  have hb_795 := (Bk.keep hr_661 gx_677 ni0)
  have hb_796 := (AllOk.keep hr_656 gx_677 ni0)
  have hb_797 := (AllOk.keep hr_664 gx_677 ni0)
  have hL_798 : RefAt γ_676 w_675 k p (⟨s.own, s.peer, s.view, s.oa, s.og, s.oo, s.oc, s.out, s.last, s.told, la, lg, lc, L, lrest, nx, s.now⟩ : RfR) := ⟨hb_795, hb_793, hb_794, hb_796, hb_797, h_hn, h_b1, h_b2, h_b3, (by show 0 ≤ nx ∧ nx < 4294967295; omega), h_b5, h_l1, (by show L.length ≤ 1000000; first | omega | (rw [List.length_append, List.length_singleton]; omega)), h_l3⟩
  refine wkc 183 35 #[.tmp 182] #[42] 44 #[.pointer (some ⟨p, 0, none⟩)] Try.func35 (ack_c hL_798 hk (fun w_799 γ_800 v_801 r_802 gx_803 hM_804 ha_805 => ⟨?_, ?_⟩))
  · exact trivial
  have hsz_806 := gx_803.size
  refine wpa 4 (.tmp 181) 44 (.slice oA outs.length oC) ?_
  refine wpa 5 (.tmp 183) 44 v_801 ?_
  refine wpa 6 (.const (.int .i64 0)) 24 (.int .i64 0) ?_
  refine wk_nil ?_
  refine thn_n ?_
  refine g_ret (by kernel_rfl) ?_
  refine ends3_r (v := .slice oA outs.length oC) (v' := v_801) (v'' := .int .i64 0) rfl (by kernel_rfl) (by kernel_rfl) (by kernel_rfl) ?_
  have hb_807 := (OwNG.keep (OwNG.keep hr_663 gx_677 ni0) gx_803 ni0)
  obtain ⟨γ_808, hr_809, hr_810, hr_811⟩ := recls γ_800 w.heap.size 2000 0
  have gx_812 : GX [2000] w_799 γ_800 w_799 γ_808 := GX.re w_799 hr_810
  have hb_813 := (QuG.keep (QuG.keep hb_793 gx_803 ni0) gx_812 ni1)
  have hb_814 := (OwNG.keep (OwNG.keep hb_794 gx_803 ni0) gx_812 ni1)
  have hb_815 := (Bk.keep (Bk.keep hb_795 gx_803 ni0) gx_812 ni1)
  have hb_816 := (AllOk.keep (AllOk.keep hb_796 gx_803 ni0) gx_812 ni1)
  have hb_817 := (AllOk.keep (AllOk.keep hb_797 gx_803 ni0) gx_812 ni1)
  obtain ⟨f, rfl⟩ : ∃ f', f = f' + 1 := ⟨f - 1, by omega⟩
  have hR2 : readyG (s.held.length + 2) [] (s.held.map MsgR.abs ++ [m.abs]) (s.come + 1) = (outs.map MsgR.abs, L.map MsgR.abs, nx + 1) := by rw [← show (s.held ++ [m]).map MsgR.abs = s.held.map MsgR.abs ++ [m.abs] by rw [List.map_append]; rfl, hR]; simp only [readyG, hix_]
  have hb_818 := (AllOk.keep (AllOk.keep (AllOk.keep hr_665 gx_677 ni0) gx_803 ni0) gx_812 ni1)
  have hb_819 := (MsgsAt.keep hM_804 gx_812 ni1)
  exact h8 (by omega) (by omega) (by omega) (by omega) (by omega) (idx_none (L := s.held) hn_127) (by omega) _ _ _ _ outs r_802 (L := L) (la := la) (lg := lg) (lc := lc) (lrest := lrest) (nx := nx) (GX.thenRe (GX.trans (GX.trans hE_648 gx_677 (fun _ h_ => absurd h_ List.not_mem_nil)) gx_803 (fun _ h_ => absurd h_ List.not_mem_nil)) (fun b_ hb_ => hr_809 b_ (by omega))) ⟨_, _, _, _, rfl, OwNG.slg (OwNG.re hb_807 hr_811 hO), hb_818⟩ hb_819 ⟨hb_815, hb_813, hb_814, hb_816, hb_817, h_hn, h_b1, h_b2, h_b3, (by show 0 ≤ nx ∧ nx < 4294967295; omega), h_b5, h_l1, (by show L.length ≤ 1000000; omega), h_l3⟩ hR2.symm ha_805

end Go.Proofs.Ytpcdldakilkldaa
