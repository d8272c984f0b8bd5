/-
  Links: contracts of functions, step by step (E).
-/
import Derived.Test.YtpcdldakilkldaaLD
import Derived.Test.YtpcdldakilkldaaLPure
set_option linter.unusedSimpArgs false
set_option linter.unusedVariables false
namespace Go.Proofs.Ytpcdldakilkldaa
open Go Go.Wk

theorem delM_a {g cap i c : Nat} {a : Option Addr} {L : List MsgR} {rest : List Value} {w : World} {γ : Nat → Nat} (hg : OwNG γ w c 32 7 a g cap encM L rest) (hi : i < L.length) (hl : L.length ≤ 1000000) {K : Value → World → Prop}
    (hK : ∀ w' γ' rest', GX [c] w γ w' γ' → OwNG γ' w' c 32 7 a g cap encM (L.eraseIdx i) rest' → K (.slice a (L.eraseIdx i).length cap) w') : CallsV Try.prog 44 #[.slice a L.length cap, .int .i64 ((i : Nat) : Int), .int .i64 ((i + 1 : Nat) : Int)] w K := by
  obtain ⟨rfl, hO⟩ := hg.own (by omega)
  exact delM_c hO hi hl fun w' γ' rest' h1 h2 => hK w' γ' rest' h1 (.of h2)

noncomputable def lEN1_0 : Code := (Try.f30.body).getD .skip
noncomputable def lEN1_1 : Code := s1 lEN1_0
noncomputable def lEN1_2 : Code := s2 lEN1_0
noncomputable def lER1_0 : Array Oper := rops lEN1_1
noncomputable def lEN1_3 : Code := s1 lEN1_2
noncomputable def lEN1_4 : Code := s2 lEN1_2
noncomputable def lER1_1 : Array Oper := rops lEN1_3
noncomputable def lEN1_5 : Code := s1 lEN1_4
noncomputable def lEN1_6 : Code := s1 lEN1_5
noncomputable def lEN1_7 : Code := s1 lEN1_6
noncomputable def lEN1_8 : Code := s1 lEN1_7
noncomputable def lEN1_9 : Code := s2 lEN1_7
noncomputable def lER1_2 : Array Oper := rops lEN1_8
noncomputable def lEN1_10 : Code := s1 lEN1_9
noncomputable def lEN1_11 : Code := s2 lEN1_9
noncomputable def lEN1_12 : Code := s1 lEN1_10
noncomputable def lEN1_13 : Code := s2 lEN1_10
noncomputable def lER1_3 : Array Oper := rops lEN1_12
noncomputable def lEN1_14 : Code := s1 lEN1_13
noncomputable def lEN1_15 : Code := s2 lEN1_13
noncomputable def lEN1_16 : Code := s1 lEN1_11
noncomputable def lEN1_17 : Code := s2 lEN1_11
noncomputable def lER1_5 : Array Oper := rops lEN1_16
noncomputable def lEN1_18 : Code := s1 lEN1_17
noncomputable def lEN1_19 : Code := s2 lEN1_17
noncomputable def lER1_6 : Array Oper := rops lEN1_18
noncomputable def lER1_7 : Array Oper := rops lEN1_19
noncomputable def lEN1_20 : Code := s1 lEN1_14
noncomputable def lEN1_21 : Code := s2 lEN1_14
noncomputable def lER1_4 : Array Oper := rops lEN1_20
theorem ready_c {s : LkR} {k p : Nat} {w : World} {γ : Nat → Nat} (h : LinkAt γ w k p s) (hk : 10 ≤ k ∧ k ≤ 900)  {K : Value → World → Prop} (hK : ∀ w' γ' v (outs : List MsgR) {L : List MsgR} {la lg lc lrest nx}, GX [k, k + 2] w γ w' γ' → MsgsAt γ' w' v outs → LinkAt γ' w' k p { s with next := nx, ha := la, hg := lg, hc := lc, held := L, hrest := lrest } →
      (outs.map MsgR.abs, L.map MsgR.abs, nx) = readyG (s.held.length + 1) [] (s.held.map MsgR.abs) s.next → K v w') : CallsV Try.prog 30 #[.pointer (some ⟨p, 0, none⟩)] w K := by
  refine callsV_of (c := lEN1_0) Try.func30 (by kernel_rfl) (n := 42) (by kernel_rfl) ?_
  have hp : Bk γ w p k (.cells #[.int .i64 s.own, .int .i64 s.peer, .int .u32 s.view, .int .i64 s.now, .slice s.oa s.out.length s.oc, .int .u32 s.pushed, .int .u32 s.told, .int .u32 s.next, .slice s.ha s.held.length s.hc] 61 (0, 0)) := h.hp
  have h_b1 := h.b1
  have h_b2 := h.b2
  have h_b3 := h.b3
  have h_b4 := h.b4
  have h_b5 := h.b5
  have h_l1 := h.l1
  have h_l2 := h.l2
  have h_l3 := h.l3
  have h_pl := hp.lt
  refine g_seq (x := lEN1_1) (y := lEN1_2) (by kernel_rfl) ?_
  refine g_region (ops := lER1_0) (id := 0) (by kernel_rfl) [pu 0] (by kernel_rfl) (by kernel_rfl) ?_
  refine wpa 2 (.const (.slice none 0 0)) 33 (.slice none 0 0) ?_
  refine wk_nil ?_
  refine thn_n ?_
  refine g_seq (x := lEN1_3) (y := lEN1_4) (by kernel_rfl) ?_
  refine g_region (ops := lER1_1) (id := 1) (by kernel_rfl) [pu 0] (by kernel_rfl) (by kernel_rfl) ?_
  refine wpa 3 (.const (.slice none 0 0)) 33 (.slice none 0 0) ?_
  refine wk_nil ?_
  refine thn_n ?_
  refine g_block (x := lEN1_5) (id := 0) (by kernel_rfl) ?_
  refine g_loop (x := lEN1_6) (by kernel_rfl) (fun m_ ρ_ w_ => ∃ (L : List MsgR) (la : Option Addr) (lg : Nat) (lc : Nat) (lrest : List Value) (nx : Int) (outs : List MsgR) (oA : Option Addr) (oG : Nat) (oC : Nat) (orest : List Value) (f : Nat) (γ_ : Nat → Nat), m_ = L.length ∧ (readyG (s.held.length + 1) [] (s.held.map MsgR.abs) s.next = readyG f (outs.map MsgR.abs) (L.map MsgR.abs) nx) ∧ (L.length < f) ∧ (outs.length + L.length = s.held.length) ∧ (0 ≤ nx ∧ nx < 4294967296) ∧ (oA = none ∨ w.heap.size ≤ oG) ∧ ρ_ 0 = .pointer (some ⟨p, 0, none⟩) ∧ ρ_ 3 = .slice oA outs.length oC ∧ OwNG γ_ w_ (k + 1) 65 9 s.oa s.og s.oc encS s.out s.orest ∧ AllOk γ_ w_ (s.out.map (·.m)) ∧ Bk γ_ w_ p k (.cells #[.int .i64 s.own, .int .i64 s.peer, .int .u32 s.view, .int .i64 s.now, .slice s.oa s.out.length s.oc, .int .u32 s.pushed, .int .u32 s.told, .int .u32 nx, .slice la L.length lc] 61 (0, 0)) ∧ OwNG γ_ w_ (k + 2) 32 7 la lg lc encM L lrest ∧ OwNG γ_ w_ 2000 32 7 oA oG oC encM outs orest ∧ AllOk γ_ w_ L ∧ AllOk γ_ w_ outs ∧ GX [k, k + 2] w γ w_ γ_) (s.held.length) ?_ ?_
  · exact ⟨s.held, s.ha, s.hg, s.hc, s.hrest, s.next, [], none, 0, 0, [], s.held.length + 1, _, rfl, by rfl, by omega, by simp, by omega, by exact .inl rfl, (by kernel_rfl), (by kernel_rfl), h.ho, h.ao, hp, h.hh, (OwNG.nil _ _ _ _ _ 0 _ []), h.ah, AllOk.nil, (GX.refl [k, k + 2] _ _)⟩
  intro m_1 ρ_2 w_3 hI
  obtain ⟨L, la, lg, lc, lrest, nx, outs, oA, oG, oC, orest, f, γ_5, hm_m_1, hR, hf, hlen, hnx, hO, f_6, f_7, hr_8, hr_9, hr_10, hr_11, hr_12, hr_13, hr_14, hE_4⟩ := hI
  have hs_w_3 := hE_4.size
  refine g_block (x := lEN1_7) (id := 1) (by kernel_rfl) ?_
  refine g_seq (x := lEN1_8) (y := lEN1_9) (by kernel_rfl) ?_
  refine g_region (ops := lER1_2) (id := 2) (by kernel_rfl) [pu 0, pu 1, pu 2, pu 3, lo 4, lo 5, pu 6] (by kernel_rfl) (by kernel_rfl) ?_
  refine wpm 5 (.tmp 0) 23 (.pointer (some ⟨p, 0, none⟩)) ?_ (Eq.trans (by kernel_rfl) f_6)
  refine wpm 6 (.tmp 0) 23 (.pointer (some ⟨p, 0, none⟩)) ?_ (Eq.trans (by kernel_rfl) f_6)
  refine wpn 7 (.tmp 6) ⟨p, 0, none⟩ ?_
  refine wpf 8 61 (.tmp 7) 7 p 0 7 7 ?_
  refine wpl 9 27 (.tmp 8) (.int .u32 nx) p 7 hr_10.1 ?_
  have hL_15 : LinkAt γ_5 w_3 k p (⟨s.own, s.peer, s.view, s.now, s.oa, s.og, s.oc, s.out, s.orest, s.pushed, s.told, nx, la, lg, lc, L, lrest⟩ : LkR) := ⟨hr_10, hr_8, hr_11, hr_9, hr_13, h_b1, h_b2, h_b3, hnx, h_b5, h_l1, (by show L.length ≤ 1000000; omega), h_l3⟩
  refine wkc 10 28 #[.tmp 5, .tmp 9] #[23, 27] 3 #[.pointer (some ⟨p, 0, none⟩), .int .u32 nx] Try.func28 (find_c (s := (⟨s.own, s.peer, s.view, s.now, s.oa, s.og, s.oc, s.out, s.orest, s.pushed, s.told, nx, la, lg, lc, L, lrest⟩ : LkR)) hL_15 hk (fun k_16 hk_17 he_18 hn_19 w_20 γ_21 gx_22 => ⟨?_, ?_⟩) (fun hn_23 w_24 γ_25 gx_26 => ⟨?_, ?_⟩))
  · exact trivial
  · have hsz_27 := gx_22.size
    have hk_k_16 : k_16 < L.length := hk_17
    have he_k_16 : (L.getD k_16 M0).seq = nx := he_18
    have hix_k_16 := idx_some hk_k_16 he_k_16 hn_19
    refine wpa 4 (.tmp 10) 3 (.int .i64 ((k_16 : Nat) : Int)) ?_
    refine wk_nil ?_
    refine thn_n ?_
    refine g_seq (x := lEN1_10) (y := lEN1_11) (by kernel_rfl) ?_
    refine g_seq (x := lEN1_12) (y := lEN1_13) (by kernel_rfl) ?_
    refine g_region (ops := lER1_3) (id := 3) (by kernel_rfl) [pu 0, pu 1] (by kernel_rfl) (by kernel_rfl) ?_
    refine wpm 11 (.tmp 4) 3 (.int .i64 ((k_16 : Nat) : Int)) ?_
    refine wk_pure (opd 12 (.binOp .lss 3 (.tmp 11) (.const (.int .i64 0)) 3) 4) rfl (.bool false) (fun _ => y_lss (k := .i64) (a := ((k_16 : Nat) : Int)) (b := 0) (by kernel_rfl) (by kernel_rfl) (decide_eq_false (by omega))) ?_
    refine wk_nil ?_
    refine thn_n ?_
    refine g_cond_f (o := .tmp 12) (x := lEN1_14) (y := lEN1_15) (by kernel_rfl) (by kernel_rfl) ?_
    refine g_skip (by kernel_rfl) ?_
    refine thn_n ?_
    refine g_seq (x := lEN1_16) (y := lEN1_17) (by kernel_rfl) ?_
    refine g_region (ops := lER1_5) (id := 5) (by kernel_rfl) [pu 0, pu 1, pu 2, pu 3, lo 4, pu 5, pu 6, lo 7, lo 8, lo 9, pu 10] (by kernel_rfl) (by kernel_rfl) ?_
    refine wpm 14 (.tmp 3) 33 (.slice oA outs.length oC) ?_ (Eq.trans (by kernel_rfl) f_7)
    refine wpm 15 (.tmp 0) 23 (.pointer (some ⟨p, 0, none⟩)) ?_ (Eq.trans (by kernel_rfl) f_6)
    refine wpn 16 (.tmp 15) ⟨p, 0, none⟩ ?_
    refine wpf 17 61 (.tmp 16) 8 p 0 8 8 ?_
    have hb_28 := (Bk.keep hr_10 gx_22 ni0)
    refine wpl 18 33 (.tmp 17) (.slice la L.length lc) p 8 hb_28.1 ?_
    refine wpm 19 (.tmp 4) 3 (.int .i64 ((k_16 : Nat) : Int)) ?_
    have hb_29 := (OwNG.keep hr_11 gx_22 ni0)
    refine wk_pure (opd 20 (.indexAddr 33 (.tmp 18) (.tmp 19)) 0) rfl (.pointer (some ⟨lg, 0 + (k_16 * 7 + 0), none⟩)) (fun _ => y_ptr (x_indexN (a := la) (b := lg) (off := 0) (n := L.length) (c := lc) (k := .i64) (i := ((k_16 : Nat) : Int)) (e := 32) (sz := 7) (sz' := 7) (by kernel_rfl) hb_29.1.sl (by kernel_rfl) (by kernel_rfl) rfl (by omega) _) (by omega)) ?_
    refine wk_val (opd 21 (.load 32 (.tmp 20)) 32) rfl (.agg #[.int .i64 ((L.getD k_16 M0).kind), .int .i64 ((L.getD k_16 M0).frm), .int .i64 ((L.getD k_16 M0).to), .int .u32 ((L.getD k_16 M0).view), .int .u32 ((L.getD k_16 M0).seq), .slice ((L.getD k_16 M0).na) ((L.getD k_16 M0).N.length) ((L.getD k_16 M0).nc), .slice ((L.getD k_16 M0).wa) ((L.getD k_16 M0).W.length) ((L.getD k_16 M0).wc)]) (x_load_cs (b := lg) (off := (0 + (k_16 * 7 + 0))) (n := 7) (vs := [.int .i64 ((L.getD k_16 M0).kind), .int .i64 ((L.getD k_16 M0).frm), .int .i64 ((L.getD k_16 M0).to), .int .u32 ((L.getD k_16 M0).view), .int .u32 ((L.getD k_16 M0).seq), .slice ((L.getD k_16 M0).na) ((L.getD k_16 M0).N.length) ((L.getD k_16 M0).nc), .slice ((L.getD k_16 M0).wa) ((L.getD k_16 M0).W.length) ((L.getD k_16 M0).wc)]) (by kernel_rfl) (by kernel_rfl) rfl (SlE.getN hb_29.1.sl encM_len M0 k_16 0 (by omega) rfl)) trivial ?_
    refine wk_buildSlice (e := 32) (cs := #[.int .i64 ((L.getD k_16 M0).kind), .int .i64 ((L.getD k_16 M0).frm), .int .i64 ((L.getD k_16 M0).to), .int .u32 ((L.getD k_16 M0).view), .int .u32 ((L.getD k_16 M0).seq), .slice ((L.getD k_16 M0).na) ((L.getD k_16 M0).N.length) ((L.getD k_16 M0).nc), .slice ((L.getD k_16 M0).wa) ((L.getD k_16 M0).W.length) ((L.getD k_16 M0).wc)]) (opd 22 (.buildSlice 33 1 #[(0, .tmp 21)]) 33) rfl (by kernel_rfl) (fun w_30 b_31 eq_32 e_33 sz_34 hb_35 => ⟨?_, ?_⟩)
    · exact trivial
    obtain ⟨γ_36, hg_37, hn_38⟩ := cls_new γ_21 w_20.heap.size 13001
    have gx_39 := GX.ext0 [] e_33 hg_37
    have hk_40 : Bk γ_36 w_30 b_31 13001 (.cells #[.int .i64 ((L.getD k_16 M0).kind), .int .i64 ((L.getD k_16 M0).frm), .int .i64 ((L.getD k_16 M0).to), .int .u32 ((L.getD k_16 M0).view), .int .u32 ((L.getD k_16 M0).seq), .slice ((L.getD k_16 M0).na) ((L.getD k_16 M0).N.length) ((L.getD k_16 M0).nc), .slice ((L.getD k_16 M0).wa) ((L.getD k_16 M0).W.length) ((L.getD k_16 M0).wc)] 32 (0, 0)) := ⟨hb_35, hn_38 _ (by omega)⟩
    have hs_41 : SlE w_30 7 (some ⟨b_31, 0, none⟩) b_31 0 encM [(L.getD k_16 M0)] := SlE.of_cells hk_40.1 encM_len (by rfl)
    have hb_51 := (OwNG.keep (OwNG.keep hr_12 gx_22 ni0) gx_39 ni0)
    have on_52 : OwNG γ_36 w_30 2000 32 7 oA oG oC encM outs orest := hb_51
    refine wk_append (M := ([(L.getD k_16 M0)])) (L := outs) (a := oA) (g := oG) (c := oC) (ax := (some ⟨b_31, 0, none⟩)) (bx := b_31) (offx := 0) (cx := 1) (e := 32) (sz := 7) (by_ := 80) (opd 23 (.call ⟨.builtin .append, #[.tmp 14, .tmp 22], #[33, 33]⟩) 33) rfl (by kernel_rfl) (by kernel_rfl) encM_len (by kernel_rfl) on_52.1 (by kernel_rfl) hs_41 (by simp) encM_one (by constructor <;> (simp only [List.length_singleton]; omega)) (fun w_42 b_43 cap_44 rest_45 hb_46 e_47 sz_48 lt_49 ho_50 => ⟨?_, ?_⟩)
    · exact trivial
    obtain ⟨γ_53, hg_54, hn_55⟩ := cls_new γ_36 w_30.heap.size 2000
    have gx_56 : GX [2000] w_30 γ_36 w_42 γ_53 := OwNG.gx on_52 e_47 hg_54
    have hk_57 : OwnG γ_53 w_42 2000 32 7 b_43 cap_44 encM (outs ++ ([(L.getD k_16 M0)])) rest_45 := ⟨ho_50, OwNG.appc on_52 hb_46 hg_54 hn_55⟩
    have hsz_58 := e_47.size
    refine wpa 3 (.tmp 23) 33 (.slice (some ⟨b_43, 0, none⟩) ((outs ++ ([(L.getD k_16 M0)])).length) cap_44) ?_
    refine wk_nil ?_
    refine thn_n ?_
    refine g_seq (x := lEN1_18) (y := lEN1_19) (by kernel_rfl) ?_
    refine g_region (ops := lER1_6) (id := 6) (by kernel_rfl) [pu 0, pu 1, pu 2, pu 3, lo 4, pu 5, pu 6, pu 7, lo 8, pu 9, pu 10, lo 11] (by kernel_rfl) (by kernel_rfl) ?_
    refine wpm 24 (.tmp 0) 23 (.pointer (some ⟨p, 0, none⟩)) ?_ (Eq.trans (by kernel_rfl) f_6)
    refine wpm 25 (.tmp 0) 23 (.pointer (some ⟨p, 0, none⟩)) ?_ (Eq.trans (by kernel_rfl) f_6)
    refine wpn 26 (.tmp 25) ⟨p, 0, none⟩ ?_
    refine wpf 27 61 (.tmp 26) 8 p 0 8 8 ?_
    have hb_59 := (Bk.keep (Bk.keep hb_28 gx_39 ni0) gx_56 ni1)
    refine wpl 28 33 (.tmp 27) (.slice la L.length lc) p 8 hb_59.1 ?_
    refine wpm 29 (.tmp 4) 3 (.int .i64 ((k_16 : Nat) : Int)) ?_
    refine wpm 30 (.tmp 4) 3 (.int .i64 ((k_16 : Nat) : Int)) ?_
    refine wk_pure (opd 31 (.binOp .add 3 (.tmp 30) (.const (.int .i64 1)) 3) 3) rfl (.int .i64 ((k_16 + 1 : Nat) : Int)) (fun _ => y_add (k := .i64) (a := ((k_16 : Nat) : Int)) (b := 1) (by kernel_rfl) (by kernel_rfl) (i64_to (by omega) (by omega))) ?_
    have hb_60 := (OwNG.keep (OwNG.keep hb_29 gx_39 ni0) gx_56 ni1)
    refine wkc 32 44 #[.tmp 28, .tmp 29, .tmp 31] #[33, 3, 3] 33 #[.slice la L.length lc, .int .i64 ((k_16 : Nat) : Int), .int .i64 ((k_16 + 1 : Nat) : Int)] Try.func44 (delM_a (i := k_16) hb_60 (by omega) (by omega) (fun w_61 γ_62 rest_63 gx_64 hO_65 => ⟨?_, ?_⟩))
    · exact trivial
    have hsz_66 := gx_64.size
    have hel_ : (L.eraseIdx k_16).length = L.length - 1 := List.length_eraseIdx_of_lt (by omega)
    refine wpn 33 (.tmp 24) ⟨p, 0, none⟩ ?_
    refine wpf 34 61 (.tmp 33) 8 p 0 8 8 ?_
    have hb_67 := (Bk.keep hb_59 gx_64 ni1)
    refine wk_store (b := p) (off := 8) (cs' := #[.int .i64 s.own, .int .i64 s.peer, .int .u32 s.view, .int .i64 s.now, .slice s.oa s.out.length s.oc, .int .u32 s.pushed, .int .u32 s.told, .int .u32 nx, .slice la ((L.eraseIdx k_16).length) lc]) (vs := #[.slice la ((L.eraseIdx k_16).length) lc]) (opn (.store 33 (.tmp 34) (.tmp 32)) 0) rfl (by kernel_rfl) (by kernel_rfl) (by kernel_rfl) (by kernel_rfl) hb_67.1 (Nat.le_of_ble_eq_true rfl) (by kernel_rfl) (by kernel_rfl) (fun w_68 e_69 sz_70 hb_71 => ⟨?_, ?_⟩)
    · exact trivial
    have gx_72 : GX [k] w_61 γ_62 w_68 γ_62 := GX.ext1 e_69 hb_67.2 (fun _ _ => rfl)
    have hk_73 : Bk γ_62 w_68 p k (.cells #[.int .i64 s.own, .int .i64 s.peer, .int .u32 s.view, .int .i64 s.now, .slice s.oa s.out.length s.oc, .int .u32 s.pushed, .int .u32 s.told, .int .u32 nx, .slice la ((L.eraseIdx k_16).length) lc] 61 (0, 0)) := ⟨hb_71, hb_67.2⟩
    refine wk_nil ?_
    refine thn_n ?_
    refine g_region (ops := lER1_7) (id := 7) (by kernel_rfl) [pu 0, pu 1, pu 2, lo 3, pu 4, pu 5, pu 6, lo 7] (by kernel_rfl) (by kernel_rfl) ?_
    refine wpm 35 (.tmp 0) 23 (.pointer (some ⟨p, 0, none⟩)) ?_ (Eq.trans (by kernel_rfl) f_6)
    refine wpn 36 (.tmp 35) ⟨p, 0, none⟩ ?_
    refine wpf 37 61 (.tmp 36) 7 p 0 7 7 ?_
    refine wpl 38 27 (.tmp 37) (.int .u32 nx) p 7 hk_73.1 ?_
    refine wk_pure (opd 39 (.binOp .add 27 (.tmp 38) (.const (.int .u32 1)) 27) 27) rfl (.int .u32 ((nx + 1) % 4294967296)) (fun _ => y_add (k := .u32) (a := nx) (b := 1) (by kernel_rfl) (by kernel_rfl) (u32_wrap _)) ?_
    refine wpn 40 (.tmp 35) ⟨p, 0, none⟩ ?_
    refine wpf 41 61 (.tmp 40) 7 p 0 7 7 ?_
    refine wk_store (b := p) (off := 7) (cs' := #[.int .i64 s.own, .int .i64 s.peer, .int .u32 s.view, .int .i64 s.now, .slice s.oa s.out.length s.oc, .int .u32 s.pushed, .int .u32 s.told, .int .u32 ((nx + 1) % 4294967296), .slice la ((L.eraseIdx k_16).length) lc]) (vs := #[.int .u32 ((nx + 1) % 4294967296)]) (opn (.store 27 (.tmp 41) (.tmp 39)) 0) rfl (by kernel_rfl) (by kernel_rfl) (by kernel_rfl) (by kernel_rfl) hk_73.1 (Nat.le_of_ble_eq_true rfl) (by kernel_rfl) (by kernel_rfl) (fun w_74 e_75 sz_76 hb_77 => ⟨?_, ?_⟩)
    · exact trivial
    have gx_78 : GX [k] w_68 γ_62 w_74 γ_62 := GX.ext1 e_75 hk_73.2 (fun _ _ => rfl)
    have hk_79 : Bk γ_62 w_74 p k (.cells #[.int .i64 s.own, .int .i64 s.peer, .int .u32 s.view, .int .i64 s.now, .slice s.oa s.out.length s.oc, .int .u32 s.pushed, .int .u32 s.told, .int .u32 ((nx + 1) % 4294967296), .slice la ((L.eraseIdx k_16).length) lc] 61 (0, 0)) := ⟨hb_77, hk_73.2⟩
    refine wk_nil ?_
    refine blk_n ?_
    refine thn_n ?_
    have hb_80 := (AllOk.keep (AllOk.keep (AllOk.keep (AllOk.keep (AllOk.keep (AllOk.keep hr_13 gx_22 ni0) gx_39 ni0) gx_56 ni1) gx_64 ni1) gx_72 ni1) gx_78 ni1)
    have hsub_ : AllOk γ_62 w_74 (L.eraseIdx k_16) := AllOk.sub hb_80 (fun x_ hx_ => mem_eraseIdx' hx_)
    have hb_81 := (AllOk.keep (AllOk.keep (AllOk.keep (AllOk.keep (AllOk.keep (AllOk.keep hr_14 gx_22 ni0) gx_39 ni0) gx_56 ni1) gx_64 ni1) gx_72 ni1) gx_78 ni1)
    have hadd_ : AllOk γ_62 w_74 (outs ++ [(L.getD k_16 M0)]) := AllOk.add hb_81 (AllOk.get hb_80 (by omega))
    have hb_82 := (OwNG.keep (OwNG.keep hO_65 gx_72 ni1) gx_78 ni1)
    have hb_83 := (OwnG.keep (OwnG.keep (OwnG.keep hk_57 gx_64 ni1) gx_72 ni1) gx_78 ni1)
    obtain ⟨f, rfl⟩ : ∃ f', f = f' + 1 := ⟨f - 1, by omega⟩
    have hb_84 := (OwNG.keep (OwNG.keep (OwNG.keep (OwNG.keep (OwNG.keep (OwNG.keep hr_8 gx_22 ni0) gx_39 ni0) gx_56 ni1) gx_64 ni1) gx_72 ni1) gx_78 ni1)
    have hb_85 := (AllOk.keep (AllOk.keep (AllOk.keep (AllOk.keep (AllOk.keep (AllOk.keep hr_9 gx_22 ni0) gx_39 ni0) gx_56 ni1) gx_64 ni1) gx_72 ni1) gx_78 ni1)
    exact ⟨_, (by omega), ⟨(L.eraseIdx k_16), la, lg, lc, _, ((nx + 1) % 4294967296), (outs ++ [(L.getD k_16 M0)]), _, b_43, cap_44, rest_45, f, _, rfl, by rw [hR]; simp only [readyG, hix_k_16]; rw [abs_getD, map_eraseIdx', List.map_append]; rfl, by omega, by rw [List.length_append, List.length_singleton]; omega, by omega, by exact .inr (appNew hb_46 hO (by omega)), (Eq.trans (by kernel_rfl) f_6), (by kernel_rfl), hb_84, hb_85, hk_79, hb_82, (OwNG.of hb_83), hsub_, hadd_, (GX.trans (GX.trans (GX.trans (GX.thenNew (GX.then0 (GX.trans hE_4 gx_22 (fun _ h_ => absurd h_ List.not_mem_nil)) e_33 hg_37) e_47 (OwNG.newS hb_51 (by exact hO)) hg_54) gx_64 (by intro c_ hc_; simp only [List.mem_cons, List.not_mem_nil, or_false] at hc_ ⊢; omega)) gx_72 (by intro c_ hc_; simp only [List.mem_cons, List.not_mem_nil, or_false] at hc_ ⊢; omega)) gx_78 (by intro c_ hc_; simp only [List.mem_cons, List.not_mem_nil, or_false] at hc_ ⊢; omega))⟩⟩
  · exact trivial
  have hsz_86 := gx_26.size
  have hix_ : idxOf (L.map MsgR.abs) nx = none := idx_none (L := L) hn_23
  refine wpa 4 (.tmp 10) 3 (.int .i64 (-1)) ?_
  refine wk_nil ?_
  refine thn_n ?_
  refine g_seq (x := lEN1_10) (y := lEN1_11) (by kernel_rfl) ?_
  refine g_seq (x := lEN1_12) (y := lEN1_13) (by kernel_rfl) ?_
  refine g_region (ops := lER1_3) (id := 3) (by kernel_rfl) [pu 0, pu 1] (by kernel_rfl) (by kernel_rfl) ?_
  refine wpm 11 (.tmp 4) 3 (.int .i64 (-1)) ?_
  refine wk_pure (opd 12 (.binOp .lss 3 (.tmp 11) (.const (.int .i64 0)) 3) 4) rfl (.bool true) (fun _ => y_lss (k := .i64) (a := (-1)) (b := 0) (by kernel_rfl) (by kernel_rfl) (by decide)) ?_
  refine wk_nil ?_
  refine thn_n ?_
  refine g_cond_t (o := .tmp 12) (x := lEN1_14) (y := lEN1_15) (by kernel_rfl) (by kernel_rfl) ?_
  refine g_seq (x := lEN1_20) (y := lEN1_21) (by kernel_rfl) ?_
  refine g_region (ops := lER1_4) (id := 4) (by kernel_rfl) [pu 0, pu 1] (by kernel_rfl) (by kernel_rfl) ?_
  refine wpm 13 (.tmp 3) 33 (.slice oA outs.length oC) ?_ (Eq.trans (by kernel_rfl) f_7)
  refine wpa 2 (.tmp 13) 33 (.slice oA outs.length oC) ?_
  refine wk_nil ?_
  refine thn_n ?_
  refine g_ret (by kernel_rfl) ?_
  refine thn_r ?_
  refine blk_r ?_
  refine thn_r ?_
  refine blk_r ?_
  refine ends1_r (v := .slice oA outs.length oC) rfl (by kernel_rfl) ?_
  have hb_87 := (OwNG.keep hr_12 gx_26 ni0)
  obtain ⟨γ_88, hr_89, hr_90, hr_91⟩ := recls γ_25 w.heap.size 2000 0
  have gx_92 : GX [2000] w_24 γ_25 w_24 γ_88 := GX.re w_24 hr_90
  have hb_93 := (Bk.keep (Bk.keep hr_10 gx_26 ni0) gx_92 ni1)
  have hb_94 := (OwNG.keep (OwNG.keep hr_8 gx_26 ni0) gx_92 ni1)
  have hb_95 := (OwNG.keep (OwNG.keep hr_11 gx_26 ni0) gx_92 ni1)
  have hb_96 := (AllOk.keep (AllOk.keep hr_9 gx_26 ni0) gx_92 ni1)
  have hb_97 := (AllOk.keep (AllOk.keep hr_13 gx_26 ni0) gx_92 ni1)
  obtain ⟨f, rfl⟩ : ∃ f', f = f' + 1 := ⟨f - 1, by omega⟩
  have hR2 : readyG (s.held.length + 1) [] (s.held.map MsgR.abs) s.next = (outs.map MsgR.abs, L.map MsgR.abs, nx) := by rw [hR]; simp only [readyG, hix_]
  have hb_98 := (AllOk.keep (AllOk.keep hr_14 gx_26 ni0) gx_92 ni1)
  exact hK _ _ _ outs (L := L) (la := la) (lg := lg) (lc := lc) (lrest := lrest) (nx := nx) (GX.thenRe (GX.trans hE_4 gx_26 (fun _ h_ => absurd h_ List.not_mem_nil)) (fun b_ hb_ => hr_89 b_ (by omega))) ⟨_, _, _, _, rfl, OwNG.slg (OwNG.re hb_87 hr_91 hO), hb_98⟩ ⟨hb_93, hb_94, hb_95, hb_96, hb_97, h_b1, h_b2, h_b3, hnx, h_b5, h_l1, (by show L.length ≤ 1000000; omega), h_l3⟩ hR2.symm

end Go.Proofs.Ytpcdldakilkldaa
