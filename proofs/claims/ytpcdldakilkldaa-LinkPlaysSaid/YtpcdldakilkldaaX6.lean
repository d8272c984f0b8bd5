/-
  Links: contracts of functions, step by step (X6).
-/
import Derived.Test.YtpcdldakilkldaaX5
set_option linter.unusedSimpArgs false
set_option linter.unusedVariables false
namespace Go.Proofs.Ytpcdldakilkldaa
open Go Go.Wk

theorem tick_few {l l' : Lk} {now : Int} {o : List Msg} (hg : tickP l now = (l', o)) : o.length ≤ 32 := by
  unfold tickP at hg
  cases hg
  rw [List.length_map]
  refine Nat.le_trans (List.length_filter_le _ _) ?_
  rw [List.length_take]; omega
theorem ready_few : ∀ (f : Nat) (acc L : List Msg) (n : Int), (readyG f acc L n).1.length ≤ acc.length + L.length
  | 0, acc, L, n => Nat.le_add_right _ _
  | f + 1, acc, L, n => by
    unfold readyG
    split
    · exact Nat.le_add_right _ _
    · rename_i j hx
      obtain ⟨hj, _⟩ := idxOf_some hx
      have := ready_few f (acc ++ [L.getD j default]) (L.eraseIdx j) ((n + 1) % 4294967296)
      rw [List.length_append, List.length_singleton, List.length_eraseIdx_of_lt hj] at this
      omega
theorem get_few {l l' : Lk} {m : Msg} {o a : List Msg} {e : Int} (hg : getP l m = (l', o, a, e)) : o.length ≤ l.held.length + 1 ∧ a.length ≤ 1 := by
  unfold getP at hg
  split at hg
  · cases hg; simp
  split at hg
  · cases hg; simp
  split at hg
  · split at hg <;> cases hg <;> simp
  split at hg
  · cases hg; simp
  split at hg
  · cases hg; simp
  split at hg
  · cases hg; simp
  · cases hg
    have := ready_few (l.held.length + 2) [] (l.held ++ [m]) l.next
    rw [List.length_append, List.length_singleton] at this
    simp at this
    exact ⟨this, by simp⟩

noncomputable def lX6N1_0 : Code := (Try.f5.body).getD .skip
noncomputable def lX6N1_1 : Code := s1 lX6N1_0
noncomputable def lX6N1_2 : Code := s2 lX6N1_0
noncomputable def lX6R1_0 : Array Oper := rops lX6N1_1
noncomputable def lX6N1_3 : Code := s1 lX6N1_2
noncomputable def lX6N1_4 : Code := s2 lX6N1_2
noncomputable def lX6N1_5 : Code := s1 lX6N1_3
noncomputable def lX6N1_6 : Code := s2 lX6N1_3
noncomputable def lX6R1_1 : Array Oper := rops lX6N1_5
noncomputable def lX6N1_7 : Code := s1 lX6N1_6
noncomputable def lX6N1_8 : Code := s2 lX6N1_6
noncomputable def lX6N1_9 : Code := s1 lX6N1_4
noncomputable def lX6N1_10 : Code := s2 lX6N1_4
noncomputable def lX6R1_3 : Array Oper := rops lX6N1_9
noncomputable def lX6N1_11 : Code := s1 lX6N1_10
noncomputable def lX6N1_12 : Code := s2 lX6N1_10
noncomputable def lX6N1_13 : Code := s1 lX6N1_11
noncomputable def lX6N1_14 : Code := s2 lX6N1_11
noncomputable def lX6R1_4 : Array Oper := rops lX6N1_13
noncomputable def lX6N1_15 : Code := s1 lX6N1_14
noncomputable def lX6N1_16 : Code := s2 lX6N1_14
noncomputable def lX6N1_17 : Code := s1 lX6N1_12
noncomputable def lX6N1_18 : Code := s2 lX6N1_12
noncomputable def lX6N1_19 : Code := s1 lX6N1_17
noncomputable def lX6N1_20 : Code := s2 lX6N1_17
noncomputable def lX6R1_6 : Array Oper := rops lX6N1_19
noncomputable def lX6N1_21 : Code := s1 lX6N1_20
noncomputable def lX6N1_22 : Code := s2 lX6N1_20
noncomputable def lX6N1_23 : Code := s1 lX6N1_21
noncomputable def lX6N1_24 : Code := s2 lX6N1_21
noncomputable def lX6R1_7 : Array Oper := rops lX6N1_23
noncomputable def lX6N1_25 : Code := s1 lX6N1_18
noncomputable def lX6N1_26 : Code := s2 lX6N1_18
noncomputable def lX6R1_8 : Array Oper := rops lX6N1_25
noncomputable def lX6N1_27 : Code := s1 lX6N1_26
noncomputable def lX6N1_28 : Code := s2 lX6N1_26
noncomputable def lX6N1_29 : Code := s1 lX6N1_27
noncomputable def lX6N1_30 : Code := s2 lX6N1_27
noncomputable def lX6R1_9 : Array Oper := rops lX6N1_29
noncomputable def lX6N1_31 : Code := s1 lX6N1_30
noncomputable def lX6N1_32 : Code := s1 lX6N1_31
noncomputable def lX6N1_33 : Code := s1 lX6N1_32
noncomputable def lX6N1_34 : Code := s2 lX6N1_32
noncomputable def lX6N1_35 : Code := s1 lX6N1_33
noncomputable def lX6N1_36 : Code := s2 lX6N1_33
noncomputable def lX6R1_10 : Array Oper := rops lX6N1_35
noncomputable def lX6N1_37 : Code := s1 lX6N1_36
noncomputable def lX6N1_38 : Code := s2 lX6N1_36
noncomputable def lX6N1_39 : Code := s1 lX6N1_34
noncomputable def lX6N1_40 : Code := s2 lX6N1_34
noncomputable def lX6N1_41 : Code := s1 lX6N1_39
noncomputable def lX6N1_42 : Code := s1 lX6N1_41
noncomputable def lX6N1_43 : Code := s2 lX6N1_41
noncomputable def lX6R1_12 : Array Oper := rops lX6N1_42
noncomputable def lX6N1_44 : Code := s1 lX6N1_43
noncomputable def lX6N1_45 : Code := s2 lX6N1_43
noncomputable def lX6R1_13 : Array Oper := rops lX6N1_44
noncomputable def lX6N1_46 : Code := s1 lX6N1_45
noncomputable def lX6N1_47 : Code := s2 lX6N1_45
noncomputable def lX6N1_48 : Code := s1 lX6N1_46
noncomputable def lX6N1_49 : Code := s2 lX6N1_46
noncomputable def lX6R1_14 : Array Oper := rops lX6N1_48
noncomputable def lX6N1_50 : Code := s1 lX6N1_49
noncomputable def lX6N1_51 : Code := s2 lX6N1_49
noncomputable def lX6N1_52 : Code := s1 lX6N1_50
noncomputable def lX6N1_53 : Code := s2 lX6N1_50
noncomputable def lX6R1_15 : Array Oper := rops lX6N1_52
noncomputable def lX6N1_54 : Code := s1 lX6N1_47
noncomputable def lX6N1_55 : Code := s2 lX6N1_47
noncomputable def lX6N1_56 : Code := s1 lX6N1_54
noncomputable def lX6N1_57 : Code := s2 lX6N1_54
noncomputable def lX6R1_16 : Array Oper := rops lX6N1_56
noncomputable def lX6N1_58 : Code := s1 lX6N1_57
noncomputable def lX6N1_59 : Code := s2 lX6N1_57
noncomputable def lX6R1_17 : Array Oper := rops lX6N1_58
noncomputable def lX6N1_60 : Code := s1 lX6N1_55
noncomputable def lX6N1_61 : Code := s2 lX6N1_55
noncomputable def lX6R1_18 : Array Oper := rops lX6N1_60
noncomputable def lX6N1_62 : Code := s1 lX6N1_61
noncomputable def lX6N1_63 : Code := s2 lX6N1_61
noncomputable def lX6N1_64 : Code := s1 lX6N1_62
noncomputable def lX6N1_65 : Code := s2 lX6N1_62
noncomputable def lX6R1_19 : Array Oper := rops lX6N1_64
noncomputable def lX6N1_66 : Code := s1 lX6N1_65
noncomputable def lX6N1_67 : Code := s1 lX6N1_66
noncomputable def lX6N1_68 : Code := s2 lX6N1_66
noncomputable def lX6R1_23 : Array Oper := rops lX6N1_67
noncomputable def lX6N1_69 : Code := s1 lX6N1_68
noncomputable def lX6N1_70 : Code := s2 lX6N1_68
noncomputable def lX6R1_24 : Array Oper := rops lX6N1_69
noncomputable def lX6N1_71 : Code := s1 lX6N1_63
noncomputable def lX6N1_72 : Code := s2 lX6N1_63
noncomputable def lX6R1_27 : Array Oper := rops lX6N1_71
noncomputable def lX6N1_73 : Code := s1 lX6N1_72
noncomputable def lX6N1_74 : Code := s2 lX6N1_72
noncomputable def lX6R1_11 : Array Oper := rops lX6N1_40
noncomputable def lX6N1_75 : Code := s1 lX6N1_70
noncomputable def lX6N1_76 : Code := s2 lX6N1_70
noncomputable def lX6R1_25 : Array Oper := rops lX6N1_75
noncomputable def lX6N1_77 : Code := s1 lX6N1_76
noncomputable def lX6N1_78 : Code := s2 lX6N1_76
noncomputable def lX6R1_26 : Array Oper := rops lX6N1_77
noncomputable def lX6N1_79 : Code := s1 lX6N1_78
noncomputable def lX6N1_80 : Code := s2 lX6N1_78
noncomputable def lX6R1_20 : Array Oper := rops lX6N1_79
noncomputable def lX6N1_81 : Code := s1 lX6N1_80
noncomputable def lX6N1_82 : Code := s2 lX6N1_80
noncomputable def lX6R1_21 : Array Oper := rops lX6N1_81
noncomputable def lX6R1_22 : Array Oper := rops lX6N1_82
noncomputable def lX6N1_83 : Code := s1 lX6N1_28
noncomputable def lX6N1_84 : Code := s2 lX6N1_28
noncomputable def lX6R1_29 : Array Oper := rops lX6N1_83
noncomputable def lX6N1_85 : Code := s1 lX6N1_15
noncomputable def lX6N1_86 : Code := s2 lX6N1_15
noncomputable def lX6R1_5 : Array Oper := rops lX6N1_85
set_option maxHeartbeats 8000000 in
theorem linkPlays_c {own peer view : Int} {a : Option Addr} {b off c : Nat} {L : List ActR} {w : World} (hv : 0 ≤ view ∧ view < 4294967296) (hs : SlG (fun _ => 0) w 0 10 a b off encA L) (hA : AllA (fun _ => 0) w L) {K : Value → World → Prop} (hK : ∀ w', Ext [] w w' → K (.bool true) w') : CallsV Try.prog 5 #[.int .i64 own, .int .i64 peer, .int .u32 view, .slice a L.length c] w K := by
  refine callsV_of (c := lX6N1_0) Try.func5 (by kernel_rfl) (n := 164) (by kernel_rfl) ?_
  refine g_seq (x := lX6N1_1) (y := lX6N1_2) (by kernel_rfl) ?_
  refine g_region (ops := lX6R1_0) (id := 0) (by kernel_rfl) [pu 0] (by kernel_rfl) (by kernel_rfl) ?_
  refine wpa 8 (.const (.bool false)) 4 (.bool false) ?_
  refine wk_nil ?_
  refine thn_n ?_
  refine g_seq (x := lX6N1_3) (y := lX6N1_4) (by kernel_rfl) ?_
  refine g_seq (x := lX6N1_5) (y := lX6N1_6) (by kernel_rfl) ?_
  refine g_region (ops := lX6R1_1) (id := 1) (by kernel_rfl) [lo 0, pu 1] (by kernel_rfl) (by kernel_rfl) ?_
  refine wkc 22 7 #[] #[] 4 #[] Try.func7 (awake_c (fun w_1 e_2 => ⟨?_, ?_⟩))
  · exact trivial
  obtain ⟨γ_3, hg_4, hn_5⟩ := cls_new (fun _ => 0) w.heap.size 10501
  have gx_6 := GX.ext0 [] e_2 hg_4
  have hsz_7 := e_2.size
  refine wk_pure (opd 23 (.unOp .not 4 (.tmp 22)) 4) rfl (.bool false) (fun _ => y_not (p := true) (by kernel_rfl) rfl) ?_
  refine wk_nil ?_
  refine thn_n ?_
  refine g_cond_f (o := .tmp 23) (x := lX6N1_7) (y := lX6N1_8) (by kernel_rfl) (by kernel_rfl) ?_
  refine g_skip (by kernel_rfl) ?_
  refine thn_n ?_
  refine g_seq (x := lX6N1_9) (y := lX6N1_10) (by kernel_rfl) ?_
  refine g_region (ops := lX6R1_3) (id := 3) (by kernel_rfl) [pu 0, pu 1, pu 2, lo 3, pu 4, pu 5, pu 6, pu 7, pu 8] (by kernel_rfl) (by kernel_rfl) ?_
  refine wpm 25 (.tmp 0) 3 (.int .i64 own) ?_
  refine wpm 26 (.tmp 1) 3 (.int .i64 peer) ?_
  refine wpm 27 (.tmp 2) 27 (.int .u32 view) ?_
  by_cases hok_8 : 0 ≤ own ∧ own < 16 ∧ 0 ≤ peer ∧ peer < 16 ∧ own ≠ peer
  · refine wkc 28 8 #[.tmp 25, .tmp 26, .tmp 27] #[3, 3, 27] 25 #[.int .i64 own, .int .i64 peer, .int .u32 view] Try.func8 (newL_p (γ := γ_3) 10 (by omega) (by omega) (by omega) hv (fun w_9 γ_10 p_11 gx_12 hL_13 lo_14 => ⟨?_, ?_⟩))
    · exact trivial
    have hsz_15 := gx_12.size
    have hL_16 : LkAt γ_10 w_9 10 p_11 (newL own peer view) := hL_13
    refine wpm 24 (.tmp 28) 25 (.tuple #[.pointer (some ⟨p_11, 0, none⟩), .int .i64 0]) ?_
    refine wk_pure (opd 29 (.extract (.tmp 24) 0) 23) rfl (.pointer (some ⟨p_11, 0, none⟩)) (fun _ => x_extract (vs := #[.pointer (some ⟨p_11, 0, none⟩), .int .i64 0]) (by kernel_rfl) (by kernel_rfl)) ?_
    refine wk_pure (opd 30 (.extract (.tmp 24) 1) 24) rfl (.int .i64 0) (fun _ => x_extract (vs := #[.pointer (some ⟨p_11, 0, none⟩), .int .i64 0]) (by kernel_rfl) (by kernel_rfl)) ?_
    refine wpa 9 (.tmp 29) 23 (.pointer (some ⟨p_11, 0, none⟩)) ?_
    refine wpa 10 (.tmp 30) 24 (.int .i64 0) ?_
    refine wk_nil ?_
    refine thn_n ?_
    refine g_seq (x := lX6N1_11) (y := lX6N1_12) (by kernel_rfl) ?_
    refine g_seq (x := lX6N1_13) (y := lX6N1_14) (by kernel_rfl) ?_
    refine g_region (ops := lX6R1_4) (id := 4) (by kernel_rfl) [pu 0, pu 1, lo 2, pu 3] (by kernel_rfl) (by kernel_rfl) ?_
    refine wpm 31 (.tmp 0) 3 (.int .i64 own) ?_
    refine wpm 32 (.tmp 1) 3 (.int .i64 peer) ?_
    refine wkc 33 15 #[.tmp 31, .tmp 32] #[3, 3] 4 #[.int .i64 own, .int .i64 peer] Try.func15 (mayLink_c (γ := γ_10) (decide_eq_true (by omega)) (fun w_17 sm_18 => ⟨?_, ?_⟩))
    · exact trivial
    have gx_19 := GX.same [] γ_10 sm_18
    have hsz_20 : w_17.heap.size = w_9.heap.size := by rw [sm_18.heap]
    refine wk_pure (opd 34 (.unOp .not 4 (.tmp 33)) 4) rfl (.bool false) (fun _ => y_not (p := true) (by kernel_rfl) rfl) ?_
    refine wk_nil ?_
    refine thn_n ?_
    refine g_cond_f (o := .tmp 34) (x := lX6N1_15) (y := lX6N1_16) (by kernel_rfl) (by kernel_rfl) ?_
    refine g_skip (by kernel_rfl) ?_
    refine thn_n ?_
    refine g_seq (x := lX6N1_17) (y := lX6N1_18) (by kernel_rfl) ?_
    refine g_seq (x := lX6N1_19) (y := lX6N1_20) (by kernel_rfl) ?_
    refine g_region (ops := lX6R1_6) (id := 6) (by kernel_rfl) [pu 0, pu 1, pu 2, pu 3, pu 4, pu 5, pu 6] (by kernel_rfl) (by kernel_rfl) ?_
    refine wpm 41 (.tmp 10) 24 (.int .i64 0) ?_
    refine wk_pure (opd 42 (.binOp .neq 24 (.tmp 41) (.const (.int .i64 0)) 24) 4) rfl (.bool false) (fun _ => y_neq (k := .i64) (a := 0) (b := 0) (by kernel_rfl) (by kernel_rfl) (by decide)) ?_
    refine wpm 43 (.tmp 42) 4 (.bool false) ?_
    refine wk_pure (opg 44 (.move (.tmp 3)) 40 2 false) (by kernel_rfl) (.slice a L.length c) (fun _ => y_move (by kernel_rfl)) ?_
    refine wk_pure (opg 45 (.call ⟨.builtin .len, #[.tmp 44], #[40]⟩) 3 2 false) (by kernel_rfl) (.int .i64 ((L.length : Nat) : Int)) (fun _ => x_len (a := a) (n := L.length) (c := c) (by kernel_rfl) (by kernel_rfl)) ?_
    by_cases h_21 : (100 : Int) < ((L.length : Nat) : Int)
    · refine wk_pure (opg 46 (.binOp .gtr 3 (.tmp 45) (.const (.int .i64 100)) 3) 4 2 false) (by kernel_rfl) (.bool true) (fun _ => y_gtr (k := .i64) (a := ((L.length : Nat) : Int)) (b := 100) (by kernel_rfl) (by kernel_rfl) (decide_eq_true h_21)) ?_
      refine wpk 47 (.tmp 43) (.const (.bool true)) (.tmp 46) 4 (.bool true) ?_
      refine wk_nil ?_
      refine thn_n ?_
      refine g_cond_t (o := .tmp 47) (x := lX6N1_21) (y := lX6N1_22) (by kernel_rfl) (by kernel_rfl) ?_
      refine g_seq (x := lX6N1_23) (y := lX6N1_24) (by kernel_rfl) ?_
      refine g_region (ops := lX6R1_7) (id := 7) (by kernel_rfl) [pu 0, pu 1, pu 2] (by kernel_rfl) (by kernel_rfl) ?_
      refine wpm 48 (.tmp 10) 24 (.int .i64 0) ?_
      refine wk_pure (opd 49 (.binOp .eql 24 (.tmp 48) (.const (.int .i64 0)) 24) 4) rfl (.bool true) (fun _ => y_eql (k := .i64) (a := 0) (b := 0) (by kernel_rfl) (by kernel_rfl) (by decide)) ?_
      refine wpa 8 (.tmp 49) 4 (.bool true) ?_
      refine wk_nil ?_
      refine thn_n ?_
      refine g_ret (by kernel_rfl) ?_
      refine thn_r ?_
      refine ends1_r (v := .bool true) rfl (by kernel_rfl) ?_
      exact hK _ (GX.ext (GX.then_same (GX.trans (GX.then0 (GX.refl [10, 11, 12, 20, 21, 22] _ _) e_2 hg_4) gx_12 (fun _ h_ => absurd h_ List.not_mem_nil)) sm_18) (fun _ _ => by show 0 ∉ [10, 11, 12, 20, 21, 22]; decide))
    refine wk_pure (opg 46 (.binOp .gtr 3 (.tmp 45) (.const (.int .i64 100)) 3) 4 2 false) (by kernel_rfl) (.bool false) (fun _ => y_gtr (k := .i64) (a := ((L.length : Nat) : Int)) (b := 100) (by kernel_rfl) (by kernel_rfl) (decide_eq_false h_21)) ?_
    refine wpk 47 (.tmp 43) (.const (.bool true)) (.tmp 46) 4 (.bool false) ?_
    refine wk_nil ?_
    refine thn_n ?_
    refine g_cond_f (o := .tmp 47) (x := lX6N1_21) (y := lX6N1_22) (by kernel_rfl) (by kernel_rfl) ?_
    refine g_skip (by kernel_rfl) ?_
    refine thn_n ?_
    refine g_seq (x := lX6N1_25) (y := lX6N1_26) (by kernel_rfl) ?_
    refine g_region (ops := lX6R1_8) (id := 8) (by kernel_rfl) [pu 0, pu 1, pu 2, pu 3, lo 4, pu 5] (by kernel_rfl) (by kernel_rfl) ?_
    refine wpm 50 (.tmp 0) 3 (.int .i64 own) ?_
    refine wpm 51 (.tmp 1) 3 (.int .i64 peer) ?_
    refine wpm 52 (.tmp 2) 27 (.int .u32 view) ?_
    refine wk_pure (opd 53 (.build 46 #[(0, .tmp 50), (1, .tmp 51), (2, .tmp 52)]) 46) rfl (.agg #[.int .i64 own, .int .i64 peer, .int .u32 view, .slice none 0 0, .int .u32 0, .int .u32 0, .int .u32 0, .slice none 0 0, .int .u32 0, .int .i64 0]) (fun _ => x_build (by kernel_rfl)) ?_
    refine wk_box (cs := #[.int .i64 own, .int .i64 peer, .int .u32 view, .slice none 0 0, .int .u32 0, .int .u32 0, .int .u32 0, .slice none 0 0, .int .u32 0, .int .i64 0]) (opd 54 (.box 46 (.tmp 53)) 42) rfl (by kernel_rfl) (fun w_23 b_22 eq_25 e_24 sz_26 hb_27 => ⟨?_, ?_⟩)
    · exact trivial
    obtain ⟨γ_28, hg_29, hn_30⟩ := cls_new γ_10 w_17.heap.size 20
    have gx_31 := GX.ext0 [] e_24 hg_29
    have hk_32 : Bk γ_28 w_23 b_22 20 (.cells #[.int .i64 own, .int .i64 peer, .int .u32 view, .slice none 0 0, .int .u32 0, .int .u32 0, .int .u32 0, .slice none 0 0, .int .u32 0, .int .i64 0] 46 (0, 0)) := ⟨hb_27, hn_30 _ (by omega)⟩
    have hrk_ : RkAt γ_28 w_23 20 b_22 (newL own peer view) := ⟨⟨own, peer, view, none, 0, 0, 0, [], 0, 0, none, 0, 0, [], [], 0, 0⟩, ⟨hk_32, QuG.nil _ _ _ _ _ _ _ _ _, OwNG.nil _ _ _ _ _ 0 _ [], AllOk.nil, AllOk.nil, (fun _ => rfl), hv, by simp, by simp, by simp, by simp, by simp, by simp, by simp⟩, rfl⟩
    have hR_33 : RkAt γ_28 w_23 20 b_22 (newL own peer view) := hrk_
    refine wpa 11 (.tmp 54) 42 (.pointer (some ⟨b_22, 0, none⟩)) ?_
    refine wk_nil ?_
    refine thn_n ?_
    refine g_seq (x := lX6N1_27) (y := lX6N1_28) (by kernel_rfl) ?_
    refine g_seq (x := lX6N1_29) (y := lX6N1_30) (by kernel_rfl) ?_
    refine g_region (ops := lX6R1_9) (id := 9) (by kernel_rfl) [pu 0] (by kernel_rfl) (by kernel_rfl) ?_
    refine wpa 12 (.const (.int .i64 0)) 3 (.int .i64 0) ?_
    refine wk_nil ?_
    refine thn_n ?_
    refine g_block (x := lX6N1_31) (id := 0) (by kernel_rfl) ?_
    have hb_34 : SlG γ_28 w_23 0 10 a b off encA L := (SlG.keep (SlG.keep (SlG.keep (SlG.keep hs gx_6 ni0) gx_12 ni0) gx_19 ni0) gx_31 ni0)
    have hb_35 : AllA γ_28 w_23 L := (AllA.keep (AllA.keep (AllA.keep (AllA.keep hA gx_6 ni0) gx_12 ni0) gx_19 ni0) gx_31 ni0)
    have hb_36 := (LkAt.keep (LkAt.keep hL_16 gx_19 ni0 ni0 ni0 ni0) gx_31 ni0 ni0 ni0 ni0)
    refine g_loop (x := lX6N1_32) (by kernel_rfl) (fun m_ ρ_ w_ => ∃ (i : Nat) (s : Lk) (γ_ : Nat → Nat), m_ = L.length - i ∧ (i ≤ L.length) ∧ (Good s i) ∧ ρ_ 0 = .int .i64 own ∧ ρ_ 1 = .int .i64 peer ∧ ρ_ 2 = .int .u32 view ∧ ρ_ 3 = .slice a L.length c ∧ ρ_ 9 = .pointer (some ⟨p_11, 0, none⟩) ∧ ρ_ 11 = .pointer (some ⟨b_22, 0, none⟩) ∧ ρ_ 12 = .int .i64 ((i : Nat) : Int) ∧ SlG γ_ w_ 0 10 a b off encA L ∧ AllA γ_ w_ L ∧ RkAt γ_ w_ 20 b_22 s ∧ LkAt γ_ w_ 10 p_11 s ∧ GX [10, 11, 12, 20, 21, 22] w (fun _ => 0) w_ γ_) (L.length - 0) ?_ ?_
    · exact ⟨0, (newL own peer view), _, rfl, by omega, by exact Good.new, (by kernel_rfl), (by kernel_rfl), (by kernel_rfl), (by kernel_rfl), (by kernel_rfl), (by kernel_rfl), (by kernel_rfl), hb_34, hb_35, hR_33, hb_36, (GX.then0 (GX.then_same (GX.trans (GX.then0 (GX.refl [10, 11, 12, 20, 21, 22] _ _) e_2 hg_4) gx_12 (fun _ h_ => absurd h_ List.not_mem_nil)) sm_18) e_24 hg_29)⟩
    intro m_37 ρ_38 w_39 hI
    obtain ⟨i, s, γ_41, hm_m_37, hi, hg, f_42, f_43, f_44, f_45, f_46, f_47, f_48, hr_49, hr_50, hr_51, hr_52, hE_40⟩ := hI
    have hs_w_39 := hE_40.size
    refine g_seq (x := lX6N1_33) (y := lX6N1_34) (by kernel_rfl) ?_
    refine g_seq (x := lX6N1_35) (y := lX6N1_36) (by kernel_rfl) ?_
    refine g_region (ops := lX6R1_10) (id := 10) (by kernel_rfl) [pu 0, pu 1, pu 2, pu 3] (by kernel_rfl) (by kernel_rfl) ?_
    refine wpm 55 (.tmp 12) 3 (.int .i64 ((i : Nat) : Int)) ?_ (Eq.trans (by kernel_rfl) f_48)
    refine wpm 56 (.tmp 3) 40 (.slice a L.length c) ?_ (Eq.trans (by kernel_rfl) f_45)
    refine wk_pure (opd 57 (.call ⟨.builtin .len, #[.tmp 56], #[40]⟩) 3) rfl (.int .i64 ((L.length : Nat) : Int)) (fun _ => x_len (a := a) (n := L.length) (c := c) (by kernel_rfl) (by kernel_rfl)) ?_
    by_cases h_53 : (((i : Nat) : Int) : Int) < ((L.length : Nat) : Int)
    · refine wk_pure (opd 58 (.binOp .lss 3 (.tmp 55) (.tmp 57) 3) 4) rfl (.bool true) (fun _ => y_lss (k := .i64) (a := ((i : Nat) : Int)) (b := ((L.length : Nat) : Int)) (by kernel_rfl) (by kernel_rfl) (decide_eq_true h_53)) ?_
      refine wk_nil ?_
      refine thn_n ?_
      refine g_cond_t (o := .tmp 58) (x := lX6N1_37) (y := lX6N1_38) (by kernel_rfl) (by kernel_rfl) ?_
      refine g_skip (by kernel_rfl) ?_
      refine thn_n ?_
      refine g_seq (x := lX6N1_39) (y := lX6N1_40) (by kernel_rfl) ?_
      refine g_block (x := lX6N1_41) (id := 1) (by kernel_rfl) ?_
      refine g_seq (x := lX6N1_42) (y := lX6N1_43) (by kernel_rfl) ?_
      refine g_region (ops := lX6R1_12) (id := 12) (by kernel_rfl) [pu 0, pu 1, pu 2, lo 3, lo 4, lo 5] (by kernel_rfl) (by kernel_rfl) ?_
      refine wpm 61 (.tmp 3) 40 (.slice a L.length c) ?_ (Eq.trans (by kernel_rfl) f_45)
      refine wpm 62 (.tmp 12) 3 (.int .i64 ((i : Nat) : Int)) ?_ (Eq.trans (by kernel_rfl) f_48)
      refine wk_pure (opd 63 (.indexAddr 40 (.tmp 61) (.tmp 62)) 0) rfl (.pointer (some ⟨b, off + (i * 10 + 0), none⟩)) (fun _ => y_ptr (x_indexN (a := a) (b := b) (off := off) (n := L.length) (c := c) (k := .i64) (i := ((i : Nat) : Int)) (e := 48) (sz := 10) (sz' := 10) (by kernel_rfl) hr_49.1 (by kernel_rfl) (by kernel_rfl) rfl (by omega) _) (by omega)) ?_
      refine wk_val (opd 64 (.load 48 (.tmp 63)) 48) rfl (.agg #[.int .i64 ((L.getD i A0).op), .bool ((L.getD i A0).fit), .int .i64 ((L.getD i A0).m.kind), .int .i64 ((L.getD i A0).m.frm), .int .i64 ((L.getD i A0).m.to), .int .u32 ((L.getD i A0).m.view), .int .u32 ((L.getD i A0).m.seq), .slice ((L.getD i A0).m.na) ((L.getD i A0).m.N.length) ((L.getD i A0).m.nc), .slice ((L.getD i A0).m.wa) ((L.getD i A0).m.W.length) ((L.getD i A0).m.wc), .int .i64 ((L.getD i A0).now)]) (x_load_cs (b := b) (off := (off + (i * 10 + 0))) (n := 10) (vs := [.int .i64 ((L.getD i A0).op), .bool ((L.getD i A0).fit), .int .i64 ((L.getD i A0).m.kind), .int .i64 ((L.getD i A0).m.frm), .int .i64 ((L.getD i A0).m.to), .int .u32 ((L.getD i A0).m.view), .int .u32 ((L.getD i A0).m.seq), .slice ((L.getD i A0).m.na) ((L.getD i A0).m.N.length) ((L.getD i A0).m.nc), .slice ((L.getD i A0).m.wa) ((L.getD i A0).m.W.length) ((L.getD i A0).m.wc), .int .i64 ((L.getD i A0).now)]) (by kernel_rfl) (by kernel_rfl) rfl (SlE.getN hr_49.1 encA_len A0 i 0 (by omega) rfl)) trivial ?_
      refine wk_alloc (z := #[.int .i64 0, .bool false, .int .i64 0, .int .i64 0, .int .i64 0, .int .u32 0, .int .u32 0, .slice none 0 0, .slice none 0 0, .int .i64 0]) (opd 13 (.alloc 48) 0) rfl (by kernel_rfl) (fun w_55 b_54 eq_57 e_56 sz_58 hb_59 => ⟨?_, ?_⟩)
      · exact trivial
      obtain ⟨γ_60, hg_61, hn_62⟩ := cls_new γ_41 w_39.heap.size 10502
      have gx_63 := GX.ext0 [] e_56 hg_61
      have hk_64 : Bk γ_60 w_55 b_54 10502 (.cells #[.int .i64 0, .bool false, .int .i64 0, .int .i64 0, .int .i64 0, .int .u32 0, .int .u32 0, .slice none 0 0, .slice none 0 0, .int .i64 0] 48 (0, 0)) := ⟨hb_59, hn_62 _ (by omega)⟩
      refine wk_store (b := b_54) (off := 0) (cs' := #[.int .i64 ((L.getD i A0).op), .bool ((L.getD i A0).fit), .int .i64 ((L.getD i A0).m.kind), .int .i64 ((L.getD i A0).m.frm), .int .i64 ((L.getD i A0).m.to), .int .u32 ((L.getD i A0).m.view), .int .u32 ((L.getD i A0).m.seq), .slice ((L.getD i A0).m.na) ((L.getD i A0).m.N.length) ((L.getD i A0).m.nc), .slice ((L.getD i A0).m.wa) ((L.getD i A0).m.W.length) ((L.getD i A0).m.wc), .int .i64 ((L.getD i A0).now)]) (vs := #[.int .i64 ((L.getD i A0).op), .bool ((L.getD i A0).fit), .int .i64 ((L.getD i A0).m.kind), .int .i64 ((L.getD i A0).m.frm), .int .i64 ((L.getD i A0).m.to), .int .u32 ((L.getD i A0).m.view), .int .u32 ((L.getD i A0).m.seq), .slice ((L.getD i A0).m.na) ((L.getD i A0).m.N.length) ((L.getD i A0).m.nc), .slice ((L.getD i A0).m.wa) ((L.getD i A0).m.W.length) ((L.getD i A0).m.wc), .int .i64 ((L.getD i A0).now)]) (opn (.store 48 (.tmp 13) (.tmp 64)) 0) rfl (by kernel_rfl) (by kernel_rfl) (by kernel_rfl) (by kernel_rfl) hk_64.1 (Nat.le_of_ble_eq_true rfl) (by kernel_rfl) (by kernel_rfl) (fun w_65 e_66 sz_67 hb_68 => ⟨?_, ?_⟩)
      · exact trivial
      have gx_69 : GX [10502] w_55 γ_60 w_65 γ_60 := GX.ext1 e_66 hk_64.2 (fun _ _ => rfl)
      have hk_70 : Bk γ_60 w_65 b_54 10502 (.cells #[.int .i64 ((L.getD i A0).op), .bool ((L.getD i A0).fit), .int .i64 ((L.getD i A0).m.kind), .int .i64 ((L.getD i A0).m.frm), .int .i64 ((L.getD i A0).m.to), .int .u32 ((L.getD i A0).m.view), .int .u32 ((L.getD i A0).m.seq), .slice ((L.getD i A0).m.na) ((L.getD i A0).m.N.length) ((L.getD i A0).m.nc), .slice ((L.getD i A0).m.wa) ((L.getD i A0).m.W.length) ((L.getD i A0).m.wc), .int .i64 ((L.getD i A0).now)] 48 (0, 0)) := ⟨hb_68, hk_64.2⟩
      refine wk_nil ?_
      refine thn_n ?_
      refine g_seq (x := lX6N1_44) (y := lX6N1_45) (by kernel_rfl) ?_
      refine g_region (ops := lX6R1_13) (id := 13) (by kernel_rfl) [pu 0, lo 1, lo 2, lo 3] (by kernel_rfl) (by kernel_rfl) ?_
      refine wpf 65 48 (.tmp 13) 2 b_54 0 2 2 ?_
      refine wk_val (opd 66 (.load 32 (.tmp 65)) 32) rfl (.agg #[.int .i64 ((L.getD i A0).m.kind), .int .i64 ((L.getD i A0).m.frm), .int .i64 ((L.getD i A0).m.to), .int .u32 ((L.getD i A0).m.view), .int .u32 ((L.getD i A0).m.seq), .slice ((L.getD i A0).m.na) ((L.getD i A0).m.N.length) ((L.getD i A0).m.nc), .slice ((L.getD i A0).m.wa) ((L.getD i A0).m.W.length) ((L.getD i A0).m.wc)]) (x_load_agg (b := b_54) (off := 2) (n := 7) (by kernel_rfl) (by kernel_rfl) hk_70.1 (Nat.le_of_ble_eq_true rfl) (by kernel_rfl)) trivial ?_
      refine wk_alloc (z := #[.int .i64 0, .int .i64 0, .int .i64 0, .int .u32 0, .int .u32 0, .slice none 0 0, .slice none 0 0]) (opd 14 (.alloc 32) 0) rfl (by kernel_rfl) (fun w_72 b_71 eq_74 e_73 sz_75 hb_76 => ⟨?_, ?_⟩)
      · exact trivial
      obtain ⟨γ_77, hg_78, hn_79⟩ := cls_new γ_60 w_65.heap.size 10503
      have gx_80 := GX.ext0 [] e_73 hg_78
      have hk_81 : Bk γ_77 w_72 b_71 10503 (.cells #[.int .i64 0, .int .i64 0, .int .i64 0, .int .u32 0, .int .u32 0, .slice none 0 0, .slice none 0 0] 32 (0, 0)) := ⟨hb_76, hn_79 _ (by omega)⟩
      refine wk_store (b := b_71) (off := 0) (cs' := #[.int .i64 ((L.getD i A0).m.kind), .int .i64 ((L.getD i A0).m.frm), .int .i64 ((L.getD i A0).m.to), .int .u32 ((L.getD i A0).m.view), .int .u32 ((L.getD i A0).m.seq), .slice ((L.getD i A0).m.na) ((L.getD i A0).m.N.length) ((L.getD i A0).m.nc), .slice ((L.getD i A0).m.wa) ((L.getD i A0).m.W.length) ((L.getD i A0).m.wc)]) (vs := #[.int .i64 ((L.getD i A0).m.kind), .int .i64 ((L.getD i A0).m.frm), .int .i64 ((L.getD i A0).m.to), .int .u32 ((L.getD i A0).m.view), .int .u32 ((L.getD i A0).m.seq), .slice ((L.getD i A0).m.na) ((L.getD i A0).m.N.length) ((L.getD i A0).m.nc), .slice ((L.getD i A0).m.wa) ((L.getD i A0).m.W.length) ((L.getD i A0).m.wc)]) (opn (.store 32 (.tmp 14) (.tmp 66)) 0) rfl (by kernel_rfl) (by kernel_rfl) (by kernel_rfl) (by kernel_rfl) hk_81.1 (Nat.le_of_ble_eq_true rfl) (by kernel_rfl) (by kernel_rfl) (fun w_82 e_83 sz_84 hb_85 => ⟨?_, ?_⟩)
      · exact trivial
      have gx_86 : GX [10503] w_72 γ_77 w_82 γ_77 := GX.ext1 e_83 hk_81.2 (fun _ _ => rfl)
      have hk_87 : Bk γ_77 w_82 b_71 10503 (.cells #[.int .i64 ((L.getD i A0).m.kind), .int .i64 ((L.getD i A0).m.frm), .int .i64 ((L.getD i A0).m.to), .int .u32 ((L.getD i A0).m.view), .int .u32 ((L.getD i A0).m.seq), .slice ((L.getD i A0).m.na) ((L.getD i A0).m.N.length) ((L.getD i A0).m.nc), .slice ((L.getD i A0).m.wa) ((L.getD i A0).m.W.length) ((L.getD i A0).m.wc)] 32 (0, 0)) := ⟨hb_85, hk_81.2⟩
      refine wk_nil ?_
      refine thn_n ?_
      refine g_seq (x := lX6N1_46) (y := lX6N1_47) (by kernel_rfl) ?_
      refine g_seq (x := lX6N1_48) (y := lX6N1_49) (by kernel_rfl) ?_
      refine g_region (ops := lX6R1_14) (id := 14) (by kernel_rfl) [pu 0, lo 1, pu 2, pu 3, pu 4, pu 5, lo 6, pu 7, pu 8, pu 9] (by kernel_rfl) (by kernel_rfl) ?_
      refine wpf 67 32 (.tmp 14) 5 b_71 0 5 5 ?_
      refine wpl 68 29 (.tmp 67) (.slice ((L.getD i A0).m.na) ((L.getD i A0).m.N.length) ((L.getD i A0).m.nc)) b_71 5 hk_87.1 ?_
      refine wk_pure (opd 69 (.call ⟨.builtin .len, #[.tmp 68], #[29]⟩) 3) rfl (.int .i64 (((L.getD i A0).m.N.length : Nat) : Int)) (fun _ => x_len (a := (L.getD i A0).m.na) (n := ((L.getD i A0).m.N.length)) (c := ((L.getD i A0).m.nc)) (by kernel_rfl) (by kernel_rfl)) ?_
      by_cases h_88 : (10 : Int) < (((L.getD i A0).m.N.length : Nat) : Int)
      · refine wk_pure (opd 70 (.binOp .gtr 3 (.tmp 69) (.const (.int .i64 10)) 3) 4) rfl (.bool true) (fun _ => y_gtr (k := .i64) (a := (((L.getD i A0).m.N.length : Nat) : Int)) (b := 10) (by kernel_rfl) (by kernel_rfl) (decide_eq_true h_88)) ?_
        refine wpm 71 (.tmp 70) 4 (.bool true) ?_
        refine wks 72 ?_
        refine wks 73 ?_
        refine wks 74 ?_
        refine wks 75 ?_
        refine wpt 76 (.tmp 71) (.const (.bool true)) (.tmp 75) 4 (.bool true) ?_
        refine wk_nil ?_
        refine thn_n ?_
        refine g_cond_t (o := .tmp 76) (x := lX6N1_50) (y := lX6N1_51) (by kernel_rfl) (by kernel_rfl) ?_
        refine g_seq (x := lX6N1_52) (y := lX6N1_53) (by kernel_rfl) ?_
        refine g_region (ops := lX6R1_15) (id := 15) (by kernel_rfl) [pu 0] (by kernel_rfl) (by kernel_rfl) ?_
        refine wpa 8 (.const (.bool true)) 4 (.bool true) ?_
        refine wk_nil ?_
        refine thn_n ?_
        refine g_ret (by kernel_rfl) ?_
        refine thn_r ?_
        refine blk_r ?_
        refine thn_r ?_
        refine thn_r ?_
        refine blk_r ?_
        refine thn_r ?_
        refine ends1_r (v := .bool true) rfl (by kernel_rfl) ?_
        exact hK _ (GX.ext (GX.thenNew (GX.then0 (GX.thenNew (GX.then0 hE_40 e_56 hg_61) e_66 (by intro y_ hy_; simp only [List.mem_cons, List.not_mem_nil, or_false] at hy_; omega) (fun _ _ => rfl)) e_73 hg_78) e_83 (by intro y_ hy_; simp only [List.mem_cons, List.not_mem_nil, or_false] at hy_; omega) (fun _ _ => rfl)) (fun _ _ => by show 0 ∉ [10, 11, 12, 20, 21, 22]; decide))
      refine wk_pure (opd 70 (.binOp .gtr 3 (.tmp 69) (.const (.int .i64 10)) 3) 4) rfl (.bool false) (fun _ => y_gtr (k := .i64) (a := (((L.getD i A0).m.N.length : Nat) : Int)) (b := 10) (by kernel_rfl) (by kernel_rfl) (decide_eq_false h_88)) ?_
      refine wpm 71 (.tmp 70) 4 (.bool false) ?_
      refine wk_pure (opg 72 (.fieldAddr 32 (.tmp 14) 6) 0 4 false) (by kernel_rfl) (.pointer (some ⟨b_71, 6, none⟩)) (fun _ => x_fieldAddr (b := b_71) (off := 0) (o := 6) (by kernel_rfl) (by kernel_rfl)) ?_
      refine wk_val (opg 73 (.load 30 (.tmp 72)) 30 4 false) (by kernel_rfl) (.slice ((L.getD i A0).m.wa) ((L.getD i A0).m.W.length) ((L.getD i A0).m.wc)) (x_load (b := b_71) (off := 6) (by kernel_rfl) (by kernel_rfl) hk_87.1 (by kernel_rfl)) trivial ?_
      refine wk_pure (opg 74 (.call ⟨.builtin .len, #[.tmp 73], #[30]⟩) 3 4 false) (by kernel_rfl) (.int .i64 (((L.getD i A0).m.W.length : Nat) : Int)) (fun _ => x_len (a := (L.getD i A0).m.wa) (n := ((L.getD i A0).m.W.length)) (c := ((L.getD i A0).m.wc)) (by kernel_rfl) (by kernel_rfl)) ?_
      by_cases h_89 : (10 : Int) < (((L.getD i A0).m.W.length : Nat) : Int)
      · refine wk_pure (opg 75 (.binOp .gtr 3 (.tmp 74) (.const (.int .i64 10)) 3) 4 4 false) (by kernel_rfl) (.bool true) (fun _ => y_gtr (k := .i64) (a := (((L.getD i A0).m.W.length : Nat) : Int)) (b := 10) (by kernel_rfl) (by kernel_rfl) (decide_eq_true h_89)) ?_
        refine wpk 76 (.tmp 71) (.const (.bool true)) (.tmp 75) 4 (.bool true) ?_
        refine wk_nil ?_
        refine thn_n ?_
        refine g_cond_t (o := .tmp 76) (x := lX6N1_50) (y := lX6N1_51) (by kernel_rfl) (by kernel_rfl) ?_
        refine g_seq (x := lX6N1_52) (y := lX6N1_53) (by kernel_rfl) ?_
        refine g_region (ops := lX6R1_15) (id := 15) (by kernel_rfl) [pu 0] (by kernel_rfl) (by kernel_rfl) ?_
        refine wpa 8 (.const (.bool true)) 4 (.bool true) ?_
        refine wk_nil ?_
        refine thn_n ?_
        refine g_ret (by kernel_rfl) ?_
        refine thn_r ?_
        refine blk_r ?_
        refine thn_r ?_
        refine thn_r ?_
        refine blk_r ?_
        refine thn_r ?_
        refine ends1_r (v := .bool true) rfl (by kernel_rfl) ?_
        exact hK _ (GX.ext (GX.thenNew (GX.then0 (GX.thenNew (GX.then0 hE_40 e_56 hg_61) e_66 (by intro y_ hy_; simp only [List.mem_cons, List.not_mem_nil, or_false] at hy_; omega) (fun _ _ => rfl)) e_73 hg_78) e_83 (by intro y_ hy_; simp only [List.mem_cons, List.not_mem_nil, or_false] at hy_; omega) (fun _ _ => rfl)) (fun _ _ => by show 0 ∉ [10, 11, 12, 20, 21, 22]; decide))
      refine wk_pure (opg 75 (.binOp .gtr 3 (.tmp 74) (.const (.int .i64 10)) 3) 4 4 false) (by kernel_rfl) (.bool false) (fun _ => y_gtr (k := .i64) (a := (((L.getD i A0).m.W.length : Nat) : Int)) (b := 10) (by kernel_rfl) (by kernel_rfl) (decide_eq_false h_89)) ?_
      refine wpk 76 (.tmp 71) (.const (.bool true)) (.tmp 75) 4 (.bool false) ?_
      refine wk_nil ?_
      refine thn_n ?_
      refine g_cond_f (o := .tmp 76) (x := lX6N1_50) (y := lX6N1_51) (by kernel_rfl) (by kernel_rfl) ?_
      refine g_skip (by kernel_rfl) ?_
      refine thn_n ?_
      refine g_seq (x := lX6N1_54) (y := lX6N1_55) (by kernel_rfl) ?_
      refine g_seq (x := lX6N1_56) (y := lX6N1_57) (by kernel_rfl) ?_
      refine g_region (ops := lX6R1_16) (id := 16) (by kernel_rfl) [pu 0, lo 1] (by kernel_rfl) (by kernel_rfl) ?_
      refine wpf 77 48 (.tmp 13) 1 b_54 0 1 1 ?_
      rcases Bool.eq_false_or_eq_true ((L.getD i A0).fit) with h_90 | h_90
      · have hb_91 := (Bk.keep (Bk.keep hk_70 gx_80 ni0) gx_86 ni1)
        refine wk_val (opd 78 (.load 4 (.tmp 77)) 4) rfl (.bool true) (y_boolv (x_load (b := b_54) (off := 1) (by kernel_rfl) (by kernel_rfl) hb_91.1 (by kernel_rfl)) h_90) trivial ?_
        refine wk_nil ?_
        refine thn_n ?_
        refine g_cond_t (o := .tmp 78) (x := lX6N1_58) (y := lX6N1_59) (by kernel_rfl) (by kernel_rfl) ?_
        refine g_region (ops := lX6R1_17) (id := 17) (by kernel_rfl) [pu 0, pu 1, pu 2, pu 3, lo 4, pu 5, lo 6, pu 7, lo 8] (by kernel_rfl) (by kernel_rfl) ?_
        refine wpm 79 (.tmp 1) 3 (.int .i64 peer) ?_ (Eq.trans (by kernel_rfl) f_43)
        refine wpm 80 (.tmp 0) 3 (.int .i64 own) ?_ (Eq.trans (by kernel_rfl) f_42)
        refine wpm 81 (.tmp 2) 27 (.int .u32 view) ?_ (Eq.trans (by kernel_rfl) f_44)
        refine wpf 82 32 (.tmp 14) 1 b_71 0 1 1 ?_
        refine wk_store (b := b_71) (off := 1) (cs' := #[.int .i64 ((L.getD i A0).m.kind), .int .i64 peer, .int .i64 ((L.getD i A0).m.to), .int .u32 ((L.getD i A0).m.view), .int .u32 ((L.getD i A0).m.seq), .slice ((L.getD i A0).m.na) ((L.getD i A0).m.N.length) ((L.getD i A0).m.nc), .slice ((L.getD i A0).m.wa) ((L.getD i A0).m.W.length) ((L.getD i A0).m.wc)]) (vs := #[.int .i64 peer]) (opn (.store 3 (.tmp 82) (.tmp 79)) 0) rfl (by kernel_rfl) (by kernel_rfl) (by kernel_rfl) (by kernel_rfl) hk_87.1 (Nat.le_of_ble_eq_true rfl) (by kernel_rfl) (by kernel_rfl) (fun w_92 e_93 sz_94 hb_95 => ⟨?_, ?_⟩)
        · exact trivial
        have gx_96 : GX [10503] w_82 γ_77 w_92 γ_77 := GX.ext1 e_93 hk_87.2 (fun _ _ => rfl)
        have hk_97 : Bk γ_77 w_92 b_71 10503 (.cells #[.int .i64 ((L.getD i A0).m.kind), .int .i64 peer, .int .i64 ((L.getD i A0).m.to), .int .u32 ((L.getD i A0).m.view), .int .u32 ((L.getD i A0).m.seq), .slice ((L.getD i A0).m.na) ((L.getD i A0).m.N.length) ((L.getD i A0).m.nc), .slice ((L.getD i A0).m.wa) ((L.getD i A0).m.W.length) ((L.getD i A0).m.wc)] 32 (0, 0)) := ⟨hb_95, hk_87.2⟩
        refine wpf 83 32 (.tmp 14) 2 b_71 0 2 2 ?_
        refine wk_store (b := b_71) (off := 2) (cs' := #[.int .i64 ((L.getD i A0).m.kind), .int .i64 peer, .int .i64 own, .int .u32 ((L.getD i A0).m.view), .int .u32 ((L.getD i A0).m.seq), .slice ((L.getD i A0).m.na) ((L.getD i A0).m.N.length) ((L.getD i A0).m.nc), .slice ((L.getD i A0).m.wa) ((L.getD i A0).m.W.length) ((L.getD i A0).m.wc)]) (vs := #[.int .i64 own]) (opn (.store 3 (.tmp 83) (.tmp 80)) 0) rfl (by kernel_rfl) (by kernel_rfl) (by kernel_rfl) (by kernel_rfl) hk_97.1 (Nat.le_of_ble_eq_true rfl) (by kernel_rfl) (by kernel_rfl) (fun w_98 e_99 sz_100 hb_101 => ⟨?_, ?_⟩)
        · exact trivial
        have gx_102 : GX [10503] w_92 γ_77 w_98 γ_77 := GX.ext1 e_99 hk_97.2 (fun _ _ => rfl)
        have hk_103 : Bk γ_77 w_98 b_71 10503 (.cells #[.int .i64 ((L.getD i A0).m.kind), .int .i64 peer, .int .i64 own, .int .u32 ((L.getD i A0).m.view), .int .u32 ((L.getD i A0).m.seq), .slice ((L.getD i A0).m.na) ((L.getD i A0).m.N.length) ((L.getD i A0).m.nc), .slice ((L.getD i A0).m.wa) ((L.getD i A0).m.W.length) ((L.getD i A0).m.wc)] 32 (0, 0)) := ⟨hb_101, hk_97.2⟩
        refine wpf 84 32 (.tmp 14) 3 b_71 0 3 3 ?_
        refine wk_store (b := b_71) (off := 3) (cs' := #[.int .i64 ((L.getD i A0).m.kind), .int .i64 peer, .int .i64 own, .int .u32 view, .int .u32 ((L.getD i A0).m.seq), .slice ((L.getD i A0).m.na) ((L.getD i A0).m.N.length) ((L.getD i A0).m.nc), .slice ((L.getD i A0).m.wa) ((L.getD i A0).m.W.length) ((L.getD i A0).m.wc)]) (vs := #[.int .u32 view]) (opn (.store 27 (.tmp 84) (.tmp 81)) 0) rfl (by kernel_rfl) (by kernel_rfl) (by kernel_rfl) (by kernel_rfl) hk_103.1 (Nat.le_of_ble_eq_true rfl) (by kernel_rfl) (by kernel_rfl) (fun w_104 e_105 sz_106 hb_107 => ⟨?_, ?_⟩)
        · exact trivial
        have gx_108 : GX [10503] w_98 γ_77 w_104 γ_77 := GX.ext1 e_105 hk_103.2 (fun _ _ => rfl)
        have hk_109 : Bk γ_77 w_104 b_71 10503 (.cells #[.int .i64 ((L.getD i A0).m.kind), .int .i64 peer, .int .i64 own, .int .u32 view, .int .u32 ((L.getD i A0).m.seq), .slice ((L.getD i A0).m.na) ((L.getD i A0).m.N.length) ((L.getD i A0).m.nc), .slice ((L.getD i A0).m.wa) ((L.getD i A0).m.W.length) ((L.getD i A0).m.wc)] 32 (0, 0)) := ⟨hb_107, hk_103.2⟩
        refine wk_nil ?_
        refine thn_n ?_
        refine g_seq (x := lX6N1_60) (y := lX6N1_61) (by kernel_rfl) ?_
        refine g_region (ops := lX6R1_18) (id := 18) (by kernel_rfl) [pu 0] (by kernel_rfl) (by kernel_rfl) ?_
        refine wpa 15 (.const (.bool false)) 4 (.bool false) ?_
        refine wk_nil ?_
        refine thn_n ?_
        refine g_seq (x := lX6N1_62) (y := lX6N1_63) (by kernel_rfl) ?_
        refine g_seq (x := lX6N1_64) (y := lX6N1_65) (by kernel_rfl) ?_
        refine g_region (ops := lX6R1_19) (id := 19) (by kernel_rfl) [pu 0, lo 1] (by kernel_rfl) (by kernel_rfl) ?_
        refine wpf 85 48 (.tmp 13) 0 b_54 0 0 0 ?_
        have hb_110 := (Bk.keep (Bk.keep (Bk.keep hb_91 gx_96 ni1) gx_102 ni1) gx_108 ni1)
        refine wpl 86 3 (.tmp 85) (.int .i64 ((L.getD i A0).op)) b_54 0 hb_110.1 ?_
        refine wk_nil ?_
        refine thn_n ?_
        refine g_block (x := lX6N1_66) (id := 2) (by kernel_rfl) ?_
        refine g_seq (x := lX6N1_67) (y := lX6N1_68) (by kernel_rfl) ?_
        refine g_region (ops := lX6R1_23) (id := 23) (by kernel_rfl) [pu 0, pu 1] (by kernel_rfl) (by kernel_rfl) ?_
        by_cases h_111 : (((L.getD i A0).op) : Int) = 0
        · refine wk_pure (opd 116 (.binOp .eql 3 (.tmp 86) (.const (.int .i64 0)) 3) 4) rfl (.bool true) (fun _ => y_eql (k := .i64) (a := ((L.getD i A0).op)) (b := 0) (by kernel_rfl) (by kernel_rfl) (decide_eq_true h_111)) ?_
          refine wpa 115 (.tmp 116) 4 (.bool true) ?_
          refine wk_nil ?_
          refine thn_n ?_
          refine g_cond_t (o := .tmp 115) (x := lX6N1_69) (y := lX6N1_70) (by kernel_rfl) (by kernel_rfl) ?_
          refine g_draw (ops := lX6R1_24) (id := 24) (by kernel_rfl) (fun w w' => GC [10, 11, 20, 21] γ_77 w w') [pu 0, pu 3, (1, .stab), (4, .stab), lo 2, lo 5, lo 6, pu 7, pu 8] (by kernel_rfl) (by kernel_rfl) (fun _ => (GX.refl _ _ _).gc) (fun w_112 sm_113 => ?_)
          have gx_114 := GX.same [] γ_77 sm_113
          have hsz_115 : w_112.heap.size = w_104.heap.size := by rw [sm_113.heap]
          refine wpm 117 (.tmp 9) 23 (.pointer (some ⟨p_11, 0, none⟩)) ?_ (Eq.trans (by kernel_rfl) f_46)
          refine wpm 120 (.tmp 11) 42 (.pointer (some ⟨b_22, 0, none⟩)) ?_ (Eq.trans (by kernel_rfl) f_47)
          refine wk_stab (opd 118 (.load 32 (.tmp 14)) 32) rfl (.agg #[.int .i64 ((L.getD i A0).m.kind), .int .i64 peer, .int .i64 own, .int .u32 view, .int .u32 ((L.getD i A0).m.seq), .slice ((L.getD i A0).m.na) ((L.getD i A0).m.N.length) ((L.getD i A0).m.nc), .slice ((L.getD i A0).m.wa) ((L.getD i A0).m.W.length) ((L.getD i A0).m.wc)]) (fun w'_ g_ => x_load_agg (b := b_71) (off := 0) (n := 7) (by kernel_rfl) (by kernel_rfl) (GC.bk g_ (Bk.keep hk_109 gx_114 ni0) (by decide)) (Nat.le_of_ble_eq_true rfl) (by kernel_rfl)) ?_
          refine wk_stab (opd 121 (.load 32 (.tmp 14)) 32) rfl (.agg #[.int .i64 ((L.getD i A0).m.kind), .int .i64 peer, .int .i64 own, .int .u32 view, .int .u32 ((L.getD i A0).m.seq), .slice ((L.getD i A0).m.na) ((L.getD i A0).m.N.length) ((L.getD i A0).m.nc), .slice ((L.getD i A0).m.wa) ((L.getD i A0).m.W.length) ((L.getD i A0).m.wc)]) (fun w'_ g_ => x_load_agg (b := b_71) (off := 0) (n := 7) (by kernel_rfl) (by kernel_rfl) (GC.bk g_ (Bk.keep hk_109 gx_114 ni0) (by decide)) (Nat.le_of_ble_eq_true rfl) (by kernel_rfl)) ?_
          have hb_117 := (AllA.keep (AllA.keep (AllA.keep (AllA.keep (AllA.keep (AllA.keep (AllA.keep (AllA.keep hr_50 gx_63 ni0) gx_69 ni1) gx_80 ni0) gx_86 ni1) gx_96 ni1) gx_102 ni1) gx_108 ni1) gx_114 ni0)
          have hA_116 := AllA.get hb_117 (by omega : i < L.length); have hA_116_v := hA_116.1.v0; have hA_116_s := hA_116.1.s0; have hA_116_n := hA_116.2
          obtain ⟨l_118, e_119, hq_120⟩ : ∃ l_ e_, pushP s (⟨((L.getD i A0).m.kind), peer, own, view, ((L.getD i A0).m.seq), ((L.getD i A0).m.N), ((L.getD i A0).m.W)⟩ : Msg) = (l_, e_) := ⟨_, _, rfl⟩
          have hk_l_118 := push_keeps hq_120
          have hm_121 : MOk γ_77 w_112 (⟨((L.getD i A0).m.kind), peer, own, view, ((L.getD i A0).m.seq), ((L.getD i A0).m.na), (L.getD i A0).m.nb, ((L.getD i A0).m.noff), ((L.getD i A0).m.nc), ((L.getD i A0).m.N), ((L.getD i A0).m.wa), (L.getD i A0).m.wb, ((L.getD i A0).m.woff), ((L.getD i A0).m.wc), ((L.getD i A0).m.W)⟩ : MsgR) := ⟨(AllA.get hb_117 (by omega : i < L.length)).1.n, (AllA.get hb_117 (by omega : i < L.length)).1.w, (by show (0 : Int) ≤ view ∧ (view : Int) < 4294967296; omega), (by show (0 : Int) ≤ ((L.getD i A0).m.seq) ∧ (((L.getD i A0).m.seq) : Int) < 4294967296; omega), ((MIn.ok (AllA.get hb_117 (by omega : i < L.length)).1 (by omega) (by omega))).nr, ((MIn.ok (AllA.get hb_117 (by omega : i < L.length)).1 (by omega) (by omega))).nl, ((MIn.ok (AllA.get hb_117 (by omega : i < L.length)).1 (by omega) (by omega))).wl⟩
          have hb_122 := (LkAt.keep (LkAt.keep (LkAt.keep (LkAt.keep (LkAt.keep (LkAt.keep (LkAt.keep (LkAt.keep hr_52 gx_63 ni0 ni0 ni0 ni0) gx_69 ni1 ni1 ni1 ni1) gx_80 ni0 ni0 ni0 ni0) gx_86 ni1 ni1 ni1 ni1) gx_96 ni1 ni1 ni1 ni1) gx_102 ni1 ni1 ni1 ni1) gx_108 ni1 ni1 ni1 ni1) gx_114 ni0 ni0 ni0 ni0)
          refine wkc 119 9 #[.tmp 117, .tmp 118] #[23, 32] 24 #[.pointer (some ⟨p_11, 0, none⟩), .agg #[.int .i64 ((L.getD i A0).m.kind), .int .i64 peer, .int .i64 own, .int .u32 view, .int .u32 ((L.getD i A0).m.seq), .slice ((L.getD i A0).m.na) ((L.getD i A0).m.N.length) ((L.getD i A0).m.nc), .slice ((L.getD i A0).m.wa) ((L.getD i A0).m.W.length) ((L.getD i A0).m.wc)]] Try.func9 (push_q (m := (⟨((L.getD i A0).m.kind), peer, own, view, ((L.getD i A0).m.seq), ((L.getD i A0).m.na), (L.getD i A0).m.nb, ((L.getD i A0).m.noff), ((L.getD i A0).m.nc), ((L.getD i A0).m.N), ((L.getD i A0).m.wa), (L.getD i A0).m.wb, ((L.getD i A0).m.woff), ((L.getD i A0).m.wc), ((L.getD i A0).m.W)⟩ : MsgR)) hq_120 rfl hb_122 (by omega) hm_121 (fun w_123 γ_124 gx_125 hL_126 => ⟨?_, ?_⟩))
          · exact (GX.trans (GX.refl [10, 11, 20, 21] _ _) gx_125 (by intro c_ hc_; simp only [List.mem_cons, List.not_mem_nil, or_false] at hc_ ⊢; omega)).gc
          have hsz_127 := gx_125.size
          have hL_128 : LkAt γ_124 w_123 10 p_11 l_118 := hL_126
          have hb_129 := (SlG.keep (AllA.get hb_117 (by omega : i < L.length)).1.n gx_125 ni2)
          have hb_130 := (AllA.keep hb_117 gx_125 ni2)
          have hb_131 := (SlG.keep (AllA.get hb_117 (by omega : i < L.length)).1.w gx_125 ni2)
          have hm_132 : MOk γ_124 w_123 (⟨((L.getD i A0).m.kind), peer, own, view, ((L.getD i A0).m.seq), ((L.getD i A0).m.na), (L.getD i A0).m.nb, ((L.getD i A0).m.noff), ((L.getD i A0).m.nc), ((L.getD i A0).m.N), ((L.getD i A0).m.wa), (L.getD i A0).m.wb, ((L.getD i A0).m.woff), ((L.getD i A0).m.wc), ((L.getD i A0).m.W)⟩ : MsgR) := ⟨hb_129, hb_131, (by show (0 : Int) ≤ view ∧ (view : Int) < 4294967296; omega), (by show (0 : Int) ≤ ((L.getD i A0).m.seq) ∧ (((L.getD i A0).m.seq) : Int) < 4294967296; omega), ((MIn.ok (AllA.get hb_130 (by omega : i < L.length)).1 (by omega) (by omega))).nr, ((MIn.ok (AllA.get hb_130 (by omega : i < L.length)).1 (by omega) (by omega))).nl, ((MIn.ok (AllA.get hb_130 (by omega : i < L.length)).1 (by omega) (by omega))).wl⟩
          refine wkc 122 17 #[.tmp 121] #[32] 50 #[.agg #[.int .i64 ((L.getD i A0).m.kind), .int .i64 peer, .int .i64 own, .int .u32 view, .int .u32 ((L.getD i A0).m.seq), .slice ((L.getD i A0).m.na) ((L.getD i A0).m.N.length) ((L.getD i A0).m.nc), .slice ((L.getD i A0).m.wa) ((L.getD i A0).m.W.length) ((L.getD i A0).m.wc)]] Try.func17 (mown_c (γ := γ_124) (m := (⟨((L.getD i A0).m.kind), peer, own, view, ((L.getD i A0).m.seq), ((L.getD i A0).m.na), (L.getD i A0).m.nb, ((L.getD i A0).m.noff), ((L.getD i A0).m.nc), ((L.getD i A0).m.N), ((L.getD i A0).m.wa), (L.getD i A0).m.wb, ((L.getD i A0).m.woff), ((L.getD i A0).m.wc), ((L.getD i A0).m.W)⟩ : MsgR)) (fun w_133 γ_134 gx_135 => ⟨?_, ?_⟩))
          · exact (GX.trans (GX.trans (GX.refl [10, 11, 20, 21] _ _) gx_125 (by intro c_ hc_; simp only [List.mem_cons, List.not_mem_nil, or_false] at hc_ ⊢; omega)) gx_135 (fun _ h_ => absurd h_ List.not_mem_nil)).gc
          have hsz_136 := gx_135.size
          have hb_137 := (SlG.keep hb_129 gx_135 ni0)
          have hb_138 := (AllA.keep hb_130 gx_135 ni0)
          have hb_139 := (SlG.keep hb_131 gx_135 ni0)
          have hm_140 : MOk γ_134 w_133 (⟨((L.getD i A0).m.kind), peer, own, view, ((L.getD i A0).m.seq), ((L.getD i A0).m.na), (L.getD i A0).m.nb, ((L.getD i A0).m.noff), ((L.getD i A0).m.nc), ((L.getD i A0).m.N), ((L.getD i A0).m.wa), (L.getD i A0).m.wb, ((L.getD i A0).m.woff), ((L.getD i A0).m.wc), ((L.getD i A0).m.W)⟩ : MsgR) := ⟨hb_137, hb_139, (by show (0 : Int) ≤ view ∧ (view : Int) < 4294967296; omega), (by show (0 : Int) ≤ ((L.getD i A0).m.seq) ∧ (((L.getD i A0).m.seq) : Int) < 4294967296; omega), ((MIn.ok (AllA.get hb_138 (by omega : i < L.length)).1 (by omega) (by omega))).nr, ((MIn.ok (AllA.get hb_138 (by omega : i < L.length)).1 (by omega) (by omega))).nl, ((MIn.ok (AllA.get hb_138 (by omega : i < L.length)).1 (by omega) (by omega))).wl⟩
          have hb_141 := (RkAt.keep (RkAt.keep (RkAt.keep (RkAt.keep (RkAt.keep (RkAt.keep (RkAt.keep (RkAt.keep (RkAt.keep (RkAt.keep hr_51 gx_63 ni0 ni0 ni0 ni0) gx_69 ni1 ni1 ni1 ni1) gx_80 ni0 ni0 ni0 ni0) gx_86 ni1 ni1 ni1 ni1) gx_96 ni1 ni1 ni1 ni1) gx_102 ni1 ni1 ni1 ni1) gx_108 ni1 ni1 ni1 ni1) gx_114 ni0 ni0 ni0 ni0) gx_125 ni2 ni2 ni2 ni2) gx_135 ni0 ni0 ni0 ni0)
          refine wkc 123 16 #[.tmp 120, .tmp 122] #[42, 50] 24 #[.pointer (some ⟨b_22, 0, none⟩), .agg #[.int .i64 ((L.getD i A0).m.kind), .int .i64 peer, .int .i64 own, .int .u32 view, .int .u32 ((L.getD i A0).m.seq), .slice ((L.getD i A0).m.na) ((L.getD i A0).m.N.length) ((L.getD i A0).m.nc), .slice ((L.getD i A0).m.wa) ((L.getD i A0).m.W.length) ((L.getD i A0).m.wc)]] Try.func16 (push_r (m := (⟨((L.getD i A0).m.kind), peer, own, view, ((L.getD i A0).m.seq), ((L.getD i A0).m.na), (L.getD i A0).m.nb, ((L.getD i A0).m.noff), ((L.getD i A0).m.nc), ((L.getD i A0).m.N), ((L.getD i A0).m.wa), (L.getD i A0).m.wb, ((L.getD i A0).m.woff), ((L.getD i A0).m.wc), ((L.getD i A0).m.W)⟩ : MsgR)) hq_120 rfl hb_141 (by omega) hm_140 hg (by omega) (fun w_142 γ_143 gx_144 hL_145 => ⟨?_, ?_⟩))
          · exact (GX.trans (GX.trans (GX.trans (GX.refl [10, 11, 20, 21] _ _) gx_125 (by intro c_ hc_; simp only [List.mem_cons, List.not_mem_nil, or_false] at hc_ ⊢; omega)) gx_135 (fun _ h_ => absurd h_ List.not_mem_nil)) gx_144 (by intro c_ hc_; simp only [List.mem_cons, List.not_mem_nil, or_false] at hc_ ⊢; omega)).gc
          have hsz_146 := gx_144.size
          have hR_147 : RkAt γ_143 w_142 20 b_22 l_118 := hL_145
          refine wk_pure (opd 124 (.binOp .eql 24 (.tmp 119) (.tmp 123) 24) 4) rfl (.bool true) (fun _ => y_eql (k := .i64) (a := e_119) (b := e_119) (by kernel_rfl) (by kernel_rfl) (decide_eq_true (rfl))) ?_
          refine wpa 15 (.tmp 124) 4 (.bool true) ?_
          refine wk_nil ?_
          refine blk_n ?_
          refine thn_n ?_
          refine g_seq (x := lX6N1_71) (y := lX6N1_72) (by kernel_rfl) ?_
          refine g_region (ops := lX6R1_27) (id := 27) (by kernel_rfl) [pu 0, pu 1, pu 2, pu 3, lo 4, pu 5, lo 6, pu 7, pu 8, pu 9, pu 10, lo 11, pu 12, lo 13, pu 14, pu 15, pu 16, pu 17, lo 18, pu 19, lo 20, pu 21, pu 22, pu 23, pu 24, lo 25, pu 26, pu 27] (by kernel_rfl) (by kernel_rfl) ?_
          refine wpm 136 (.tmp 15) 4 (.bool true) ?_
          refine wk_pure (opd 137 (.unOp .not 4 (.tmp 136)) 4) rfl (.bool false) (fun _ => y_not (p := true) (by kernel_rfl) rfl) ?_
          refine wpm 138 (.tmp 137) 4 (.bool false) ?_
          refine wk_pure (opg 139 (.move (.tmp 9)) 23 2 false) (by kernel_rfl) (.pointer (some ⟨p_11, 0, none⟩)) (fun _ => y_move (Eq.trans (by kernel_rfl) f_46)) ?_
          have hb_148 := (LkAt.keep (LkAt.keep hL_128 gx_135 ni0 ni0 ni0 ni0) gx_144 ni2 ni2 ni2 ni2)
          refine wk_call (opg 140 (.call ⟨.value (.func 12), #[.tmp 139], #[23]⟩) 3 2 false) (by kernel_rfl) 12 #[.pointer (some ⟨p_11, 0, none⟩)] (x_call Try.func12 (by kernel_rfl) (c := (Try.f12.body).getD .skip) (by kernel_rfl) (by kernel_rfl) (by kernel_rfl)) (waiting_p hb_148 (by omega) (fun w_149 sm_150 => ⟨?_, ?_⟩))
          · exact trivial
          have gx_151 := GX.same [] γ_143 sm_150
          have hsz_152 : w_149.heap.size = w_142.heap.size := by rw [sm_150.heap]
          refine wk_pure (opg 141 (.move (.tmp 11)) 42 2 false) (by kernel_rfl) (.pointer (some ⟨b_22, 0, none⟩)) (fun _ => y_move (Eq.trans (by kernel_rfl) f_47)) ?_
          have hb_153 := (RkAt.keep hR_147 gx_151 ni0 ni0 ni0 ni0)
          refine wk_call (opg 142 (.call ⟨.value (.func 21), #[.tmp 141], #[42]⟩) 3 2 false) (by kernel_rfl) 21 #[.pointer (some ⟨b_22, 0, none⟩)] (x_call Try.func21 (by kernel_rfl) (c := (Try.f21.body).getD .skip) (by kernel_rfl) (by kernel_rfl) (by kernel_rfl)) (waiting_r hb_153 (by omega) (fun w_154 sm_155 => ⟨?_, ?_⟩))
          · exact trivial
          have gx_156 := GX.same [] γ_143 sm_155
          have hsz_157 : w_154.heap.size = w_149.heap.size := by rw [sm_155.heap]
          refine wk_pure (opg 143 (.binOp .neq 3 (.tmp 140) (.tmp 142) 3) 4 2 false) (by kernel_rfl) (.bool false) (fun _ => y_neq (k := .i64) (a := ((l_118.out.length : Nat) : Int)) (b := ((l_118.out.length : Nat) : Int)) (by kernel_rfl) (by kernel_rfl) (decide_eq_false (fun h_ => h_ rfl))) ?_
          refine wpk 144 (.tmp 138) (.const (.bool true)) (.tmp 143) 4 (.bool false) ?_
          refine wpm 145 (.tmp 144) 4 (.bool false) ?_
          refine wk_pure (opg 146 (.move (.tmp 9)) 23 9 false) (by kernel_rfl) (.pointer (some ⟨p_11, 0, none⟩)) (fun _ => y_move (Eq.trans (by kernel_rfl) f_46)) ?_
          have hb_158 := (LkAt.keep (LkAt.keep hb_148 gx_151 ni0 ni0 ni0 ni0) gx_156 ni0 ni0 ni0 ni0)
          refine wk_call (opg 147 (.call ⟨.value (.func 13), #[.tmp 146], #[23]⟩) 3 9 false) (by kernel_rfl) 13 #[.pointer (some ⟨p_11, 0, none⟩)] (x_call Try.func13 (by kernel_rfl) (c := (Try.f13.body).getD .skip) (by kernel_rfl) (by kernel_rfl) (by kernel_rfl)) (ahead_p hb_158 (by omega) (fun w_159 sm_160 => ⟨?_, ?_⟩))
          · exact trivial
          have gx_161 := GX.same [] γ_143 sm_160
          have hsz_162 : w_159.heap.size = w_154.heap.size := by rw [sm_160.heap]
          refine wk_pure (opg 148 (.move (.tmp 11)) 42 9 false) (by kernel_rfl) (.pointer (some ⟨b_22, 0, none⟩)) (fun _ => y_move (Eq.trans (by kernel_rfl) f_47)) ?_
          have hb_163 := (RkAt.keep (RkAt.keep hb_153 gx_156 ni0 ni0 ni0 ni0) gx_161 ni0 ni0 ni0 ni0)
          refine wk_call (opg 149 (.call ⟨.value (.func 22), #[.tmp 148], #[42]⟩) 3 9 false) (by kernel_rfl) 22 #[.pointer (some ⟨b_22, 0, none⟩)] (x_call Try.func22 (by kernel_rfl) (c := (Try.f22.body).getD .skip) (by kernel_rfl) (by kernel_rfl) (by kernel_rfl)) (ahead_r hb_163 (by omega) (fun w_164 sm_165 => ⟨?_, ?_⟩))
          · exact trivial
          have gx_166 := GX.same [] γ_143 sm_165
          have hsz_167 : w_164.heap.size = w_159.heap.size := by rw [sm_165.heap]
          refine wk_pure (opg 150 (.binOp .neq 3 (.tmp 147) (.tmp 149) 3) 4 9 false) (by kernel_rfl) (.bool false) (fun _ => y_neq (k := .i64) (a := ((l_118.held.length : Nat) : Int)) (b := ((l_118.held.length : Nat) : Int)) (by kernel_rfl) (by kernel_rfl) (decide_eq_false (fun h_ => h_ rfl))) ?_
          refine wpk 151 (.tmp 145) (.const (.bool true)) (.tmp 150) 4 (.bool false) ?_
          refine wpm 152 (.tmp 151) 4 (.bool false) ?_
          refine wk_pure (opg 153 (.move (.tmp 9)) 23 16 false) (by kernel_rfl) (.pointer (some ⟨p_11, 0, none⟩)) (fun _ => y_move (Eq.trans (by kernel_rfl) f_46)) ?_
          have hb_168 := (LkAt.keep (LkAt.keep hb_158 gx_161 ni0 ni0 ni0 ni0) gx_166 ni0 ni0 ni0 ni0)
          refine wk_call (opg 154 (.call ⟨.value (.func 14), #[.tmp 153], #[23]⟩) 27 16 false) (by kernel_rfl) 14 #[.pointer (some ⟨p_11, 0, none⟩)] (x_call Try.func14 (by kernel_rfl) (c := (Try.f14.body).getD .skip) (by kernel_rfl) (by kernel_rfl) (by kernel_rfl)) (next_p hb_168 (by omega) (fun w_169 sm_170 => ⟨?_, ?_⟩))
          · exact trivial
          have gx_171 := GX.same [] γ_143 sm_170
          have hsz_172 : w_169.heap.size = w_164.heap.size := by rw [sm_170.heap]
          refine wk_pure (opg 155 (.move (.tmp 11)) 42 16 false) (by kernel_rfl) (.pointer (some ⟨b_22, 0, none⟩)) (fun _ => y_move (Eq.trans (by kernel_rfl) f_47)) ?_
          have hb_173 := (RkAt.keep (RkAt.keep hb_163 gx_166 ni0 ni0 ni0 ni0) gx_171 ni0 ni0 ni0 ni0)
          refine wk_call (opg 156 (.call ⟨.value (.func 23), #[.tmp 155], #[42]⟩) 27 16 false) (by kernel_rfl) 23 #[.pointer (some ⟨b_22, 0, none⟩)] (x_call Try.func23 (by kernel_rfl) (c := (Try.f23.body).getD .skip) (by kernel_rfl) (by kernel_rfl) (by kernel_rfl)) (next_r hb_173 (by omega) (fun w_174 sm_175 => ⟨?_, ?_⟩))
          · exact trivial
          have gx_176 := GX.same [] γ_143 sm_175
          have hsz_177 : w_174.heap.size = w_169.heap.size := by rw [sm_175.heap]
          refine wk_pure (opg 157 (.binOp .neq 27 (.tmp 154) (.tmp 156) 27) 4 16 false) (by kernel_rfl) (.bool false) (fun _ => y_neq (k := .u32) (a := l_118.next) (b := l_118.next) (by kernel_rfl) (by kernel_rfl) (decide_eq_false (fun h_ => h_ rfl))) ?_
          refine wpk 158 (.tmp 152) (.const (.bool true)) (.tmp 157) 4 (.bool false) ?_
          refine wpm 159 (.tmp 158) 4 (.bool false) ?_
          refine wk_pure (opg 160 (.move (.tmp 9)) 23 23 false) (by kernel_rfl) (.pointer (some ⟨p_11, 0, none⟩)) (fun _ => y_move (Eq.trans (by kernel_rfl) f_46)) ?_
          have hb_178 := (LkAt.keep (LkAt.keep hb_168 gx_171 ni0 ni0 ni0 ni0) gx_176 ni0 ni0 ni0 ni0)
          refine wk_call (opg 161 (.call ⟨.value (.func 13), #[.tmp 160], #[23]⟩) 3 23 false) (by kernel_rfl) 13 #[.pointer (some ⟨p_11, 0, none⟩)] (x_call Try.func13 (by kernel_rfl) (c := (Try.f13.body).getD .skip) (by kernel_rfl) (by kernel_rfl) (by kernel_rfl)) (ahead_p hb_178 (by omega) (fun w_179 sm_180 => ⟨?_, ?_⟩))
          · exact trivial
          have gx_181 := GX.same [] γ_143 sm_180
          have hsz_182 : w_179.heap.size = w_174.heap.size := by rw [sm_180.heap]
          have hah2_ := (Good.push hg hq_120).ahead
          refine wk_pure (opg 162 (.binOp .gtr 3 (.tmp 161) (.const (.int .i64 32)) 3) 4 23 false) (by kernel_rfl) (.bool false) (fun _ => y_gtr (k := .i64) (a := ((l_118.held.length : Nat) : Int)) (b := 32) (by kernel_rfl) (by kernel_rfl) (decide_eq_false (by omega))) ?_
          refine wpk 163 (.tmp 159) (.const (.bool true)) (.tmp 162) 4 (.bool false) ?_
          refine wk_nil ?_
          refine thn_n ?_
          refine g_cond_f (o := .tmp 163) (x := lX6N1_73) (y := lX6N1_74) (by kernel_rfl) (by kernel_rfl) ?_
          refine g_skip (by kernel_rfl) ?_
          refine blk_n ?_
          refine thn_n ?_
          refine g_region (ops := lX6R1_11) (id := 11) (by kernel_rfl) [pu 0, pu 1, pu 2] (by kernel_rfl) (by kernel_rfl) ?_
          refine wpm 59 (.tmp 12) 3 (.int .i64 ((i : Nat) : Int)) ?_ (Eq.trans (by kernel_rfl) f_48)
          refine wk_pure (opd 60 (.binOp .add 3 (.tmp 59) (.const (.int .i64 1)) 3) 3) rfl (.int .i64 ((i + 1 : Nat) : Int)) (fun _ => y_add (k := .i64) (a := ((i : Nat) : Int)) (b := 1) (by kernel_rfl) (by kernel_rfl) (i64_to (by omega) (by omega))) ?_
          refine wpa 12 (.tmp 60) 3 (.int .i64 ((i + 1 : Nat) : Int)) ?_
          refine wk_nil ?_
          refine thn_n ?_
          have hb_183 := (SlG.keep (SlG.keep (SlG.keep (SlG.keep (SlG.keep (SlG.keep (SlG.keep (SlG.keep (SlG.keep (SlG.keep (SlG.keep (SlG.keep (SlG.keep (SlG.keep (SlG.keep (SlG.keep (SlG.keep (SlG.keep hr_49 gx_63 ni0) gx_69 ni1) gx_80 ni0) gx_86 ni1) gx_96 ni1) gx_102 ni1) gx_108 ni1) gx_114 ni0) gx_125 ni2) gx_135 ni0) gx_144 ni2) gx_151 ni0) gx_156 ni0) gx_161 ni0) gx_166 ni0) gx_171 ni0) gx_176 ni0) gx_181 ni0)
          have hb_184 := (AllA.keep (AllA.keep (AllA.keep (AllA.keep (AllA.keep (AllA.keep (AllA.keep (AllA.keep hb_138 gx_144 ni2) gx_151 ni0) gx_156 ni0) gx_161 ni0) gx_166 ni0) gx_171 ni0) gx_176 ni0) gx_181 ni0)
          have hb_185 := (RkAt.keep (RkAt.keep hb_173 gx_176 ni0 ni0 ni0 ni0) gx_181 ni0 ni0 ni0 ni0)
          have hb_186 := (LkAt.keep hb_178 gx_181 ni0 ni0 ni0 ni0)
          exact ⟨_, (by omega), ⟨(i + 1), l_118, _, rfl, by omega, by exact Good.push hg hq_120, (Eq.trans (by kernel_rfl) f_42), (Eq.trans (by kernel_rfl) f_43), (Eq.trans (by kernel_rfl) f_44), (Eq.trans (by kernel_rfl) f_45), (Eq.trans (by kernel_rfl) f_46), (Eq.trans (by kernel_rfl) f_47), (by kernel_rfl), hb_183, hb_184, hb_185, hb_186, (GX.then_same (GX.then_same (GX.then_same (GX.then_same (GX.then_same (GX.then_same (GX.then_same (GX.trans (GX.trans (GX.trans (GX.then_same (GX.thenNew (GX.thenNew (GX.thenNew (GX.thenNew (GX.then0 (GX.thenNew (GX.then0 hE_40 e_56 hg_61) e_66 (by intro y_ hy_; simp only [List.mem_cons, List.not_mem_nil, or_false] at hy_; omega) (fun _ _ => rfl)) e_73 hg_78) e_83 (by intro y_ hy_; simp only [List.mem_cons, List.not_mem_nil, or_false] at hy_; omega) (fun _ _ => rfl)) e_93 (by intro y_ hy_; simp only [List.mem_cons, List.not_mem_nil, or_false] at hy_; omega) (fun _ _ => rfl)) e_99 (by intro y_ hy_; simp only [List.mem_cons, List.not_mem_nil, or_false] at hy_; omega) (fun _ _ => rfl)) e_105 (by intro y_ hy_; simp only [List.mem_cons, List.not_mem_nil, or_false] at hy_; omega) (fun _ _ => rfl)) sm_113) gx_125 (by intro c_ hc_; simp only [List.mem_cons, List.not_mem_nil, or_false] at hc_ ⊢; omega)) gx_135 (fun _ h_ => absurd h_ List.not_mem_nil)) gx_144 (by intro c_ hc_; simp only [List.mem_cons, List.not_mem_nil, or_false] at hc_ ⊢; omega)) sm_150) sm_155) sm_160) sm_165) sm_170) sm_175) sm_180)⟩⟩
        refine wk_pure (opd 116 (.binOp .eql 3 (.tmp 86) (.const (.int .i64 0)) 3) 4) rfl (.bool false) (fun _ => y_eql (k := .i64) (a := ((L.getD i A0).op)) (b := 0) (by kernel_rfl) (by kernel_rfl) (decide_eq_false h_111)) ?_
        refine wpa 115 (.tmp 116) 4 (.bool false) ?_
        refine wk_nil ?_
        refine thn_n ?_
        refine g_cond_f (o := .tmp 115) (x := lX6N1_69) (y := lX6N1_70) (by kernel_rfl) (by kernel_rfl) ?_
        refine g_seq (x := lX6N1_75) (y := lX6N1_76) (by kernel_rfl) ?_
        refine g_region (ops := lX6R1_25) (id := 25) (by kernel_rfl) [pu 0, pu 1] (by kernel_rfl) (by kernel_rfl) ?_
        by_cases h_187 : (((L.getD i A0).op) : Int) = 1
        · refine wk_pure (opd 126 (.binOp .eql 3 (.tmp 86) (.const (.int .i64 1)) 3) 4) rfl (.bool true) (fun _ => y_eql (k := .i64) (a := ((L.getD i A0).op)) (b := 1) (by kernel_rfl) (by kernel_rfl) (decide_eq_true h_187)) ?_
          refine wpa 125 (.tmp 126) 4 (.bool true) ?_
          refine wk_nil ?_
          refine thn_n ?_
          refine g_cond_t (o := .tmp 125) (x := lX6N1_77) (y := lX6N1_78) (by kernel_rfl) (by kernel_rfl) ?_
          refine g_draw (ops := lX6R1_26) (id := 26) (by kernel_rfl) (fun w w' => GC [10, 11, 20, 21] γ_77 w w') [pu 0, pu 1, pu 4, pu 5, (2, .stab), (6, .stab), lo 3, lo 7, lo 8, pu 9] (by kernel_rfl) (by kernel_rfl) (fun _ => (GX.refl _ _ _).gc) (fun w_188 sm_189 => ?_)
          have gx_190 := GX.same [] γ_77 sm_189
          have hsz_191 : w_188.heap.size = w_104.heap.size := by rw [sm_189.heap]
          refine wpm 127 (.tmp 9) 23 (.pointer (some ⟨p_11, 0, none⟩)) ?_ (Eq.trans (by kernel_rfl) f_46)
          refine wpf 128 48 (.tmp 13) 3 b_54 0 9 9 ?_
          refine wpm 131 (.tmp 11) 42 (.pointer (some ⟨b_22, 0, none⟩)) ?_ (Eq.trans (by kernel_rfl) f_47)
          refine wpf 132 48 (.tmp 13) 3 b_54 0 9 9 ?_
          refine wk_stab (opd 129 (.load 2 (.tmp 128)) 2) rfl (.int .i64 ((L.getD i A0).now)) (fun w'_ g_ => x_load (b := b_54) (off := 9) (by kernel_rfl) (by kernel_rfl) (GC.bk g_ (Bk.keep hb_110 gx_190 ni0) (by decide)) (by kernel_rfl)) ?_
          refine wk_stab (opd 133 (.load 2 (.tmp 132)) 2) rfl (.int .i64 ((L.getD i A0).now)) (fun w'_ g_ => x_load (b := b_54) (off := 9) (by kernel_rfl) (by kernel_rfl) (GC.bk g_ (Bk.keep hb_110 gx_190 ni0) (by decide)) (by kernel_rfl)) ?_
          have hb_193 := (AllA.keep (AllA.keep (AllA.keep (AllA.keep (AllA.keep (AllA.keep (AllA.keep (AllA.keep hr_50 gx_63 ni0) gx_69 ni1) gx_80 ni0) gx_86 ni1) gx_96 ni1) gx_102 ni1) gx_108 ni1) gx_190 ni0)
          have hA_192 := AllA.get hb_193 (by omega : i < L.length); have hA_192_v := hA_192.1.v0; have hA_192_s := hA_192.1.s0; have hA_192_n := hA_192.2
          obtain ⟨l_194, po_195, hq_196⟩ : ∃ l_ e_, tickP s ((L.getD i A0).now) = (l_, e_) := ⟨_, _, rfl⟩
          have hk_l_194 := tick_keeps hq_196
          have hf_l_194 := tick_few hq_196
          have hb_197 := (LkAt.keep (LkAt.keep (LkAt.keep (LkAt.keep (LkAt.keep (LkAt.keep (LkAt.keep (LkAt.keep hr_52 gx_63 ni0 ni0 ni0 ni0) gx_69 ni1 ni1 ni1 ni1) gx_80 ni0 ni0 ni0 ni0) gx_86 ni1 ni1 ni1 ni1) gx_96 ni1 ni1 ni1 ni1) gx_102 ni1 ni1 ni1 ni1) gx_108 ni1 ni1 ni1 ni1) gx_190 ni0 ni0 ni0 ni0)
          refine wkc 130 10 #[.tmp 127, .tmp 129] #[23, 2] 33 #[.pointer (some ⟨p_11, 0, none⟩), .int .i64 ((L.getD i A0).now)] Try.func10 (tick_q (now := ((L.getD i A0).now)) hq_196 hb_197 (by omega) (by omega) (fun w_198 γ_199 v_200 outs_201 gx_202 hM_203 hL_204 ho_205 => ⟨?_, ?_⟩))
          · exact (GX.trans (GX.refl [10, 11, 20, 21] _ _) gx_202 (by intro c_ hc_; simp only [List.mem_cons, List.not_mem_nil, or_false] at hc_ ⊢; omega)).gc
          have hsz_206 := gx_202.size
          have hL_207 : LkAt γ_199 w_198 10 p_11 l_194 := hL_204
          obtain ⟨a_208, b_209, off_210, c_211, ev_214, hs_212, hall_213⟩ := hM_203
          subst ev_214
          have hlen_outs_201 : outs_201.length = po_195.length := by rw [← ho_205, List.length_map]
          have hb_215 := (RkAt.keep (RkAt.keep (RkAt.keep (RkAt.keep (RkAt.keep (RkAt.keep (RkAt.keep (RkAt.keep (RkAt.keep hr_51 gx_63 ni0 ni0 ni0 ni0) gx_69 ni1 ni1 ni1 ni1) gx_80 ni0 ni0 ni0 ni0) gx_86 ni1 ni1 ni1 ni1) gx_96 ni1 ni1 ni1 ni1) gx_102 ni1 ni1 ni1 ni1) gx_108 ni1 ni1 ni1 ni1) gx_190 ni0 ni0 ni0 ni0) gx_202 ni2 ni2 ni2 ni2)
          refine wkc 134 19 #[.tmp 131, .tmp 133] #[42, 2] 44 #[.pointer (some ⟨b_22, 0, none⟩), .int .i64 ((L.getD i A0).now)] Try.func19 (tick_r (now := ((L.getD i A0).now)) hq_196 hb_215 (by omega) (by omega) (fun w_216 γ_217 v_218 outs_219 gx_220 hM_221 hL_222 ho_223 => ⟨?_, ?_⟩))
          · exact (GX.trans (GX.trans (GX.refl [10, 11, 20, 21] _ _) gx_202 (by intro c_ hc_; simp only [List.mem_cons, List.not_mem_nil, or_false] at hc_ ⊢; omega)) gx_220 (by intro c_ hc_; simp only [List.mem_cons, List.not_mem_nil, or_false] at hc_ ⊢; omega)).gc
          have hsz_224 := gx_220.size
          have hR_225 : RkAt γ_217 w_216 20 b_22 l_194 := hL_222
          obtain ⟨a_226, b_227, off_228, c_229, ev_232, hs_230, hall_231⟩ := hM_221
          subst ev_232
          have hlen_outs_219 : outs_219.length = po_195.length := by rw [← ho_223, List.length_map]
          have hb_233 := (SlG.keep hs_212 gx_220 ni2)
          have hb_234 := (AllOk.keep hall_213 gx_220 ni2)
          refine wkc 135 18 #[.tmp 130, .tmp 134] #[33, 44] 4 #[.slice a_208 outs_201.length c_211, .slice a_226 outs_219.length c_229] Try.func18 (all_c hb_233 hs_230 hb_234 hall_231 (by rw [hlen_outs_201]; omega) (decide_eq_true (ho_205.trans ho_223.symm)) (fun w_235 γ_236 gx_237 => ⟨?_, ?_⟩))
          · exact (GX.trans (GX.trans (GX.trans (GX.refl [10, 11, 20, 21] _ _) gx_202 (by intro c_ hc_; simp only [List.mem_cons, List.not_mem_nil, or_false] at hc_ ⊢; omega)) gx_220 (by intro c_ hc_; simp only [List.mem_cons, List.not_mem_nil, or_false] at hc_ ⊢; omega)) gx_237 (fun _ h_ => absurd h_ List.not_mem_nil)).gc
          have hsz_238 := gx_237.size
          refine wpa 15 (.tmp 135) 4 (.bool true) ?_
          refine wk_nil ?_
          refine blk_n ?_
          refine thn_n ?_
          refine g_seq (x := lX6N1_71) (y := lX6N1_72) (by kernel_rfl) ?_
          refine g_region (ops := lX6R1_27) (id := 27) (by kernel_rfl) [pu 0, pu 1, pu 2, pu 3, lo 4, pu 5, lo 6, pu 7, pu 8, pu 9, pu 10, lo 11, pu 12, lo 13, pu 14, pu 15, pu 16, pu 17, lo 18, pu 19, lo 20, pu 21, pu 22, pu 23, pu 24, lo 25, pu 26, pu 27] (by kernel_rfl) (by kernel_rfl) ?_
          refine wpm 136 (.tmp 15) 4 (.bool true) ?_
          refine wk_pure (opd 137 (.unOp .not 4 (.tmp 136)) 4) rfl (.bool false) (fun _ => y_not (p := true) (by kernel_rfl) rfl) ?_
          refine wpm 138 (.tmp 137) 4 (.bool false) ?_
          refine wk_pure (opg 139 (.move (.tmp 9)) 23 2 false) (by kernel_rfl) (.pointer (some ⟨p_11, 0, none⟩)) (fun _ => y_move (Eq.trans (by kernel_rfl) f_46)) ?_
          have hb_239 := (LkAt.keep (LkAt.keep hL_207 gx_220 ni2 ni2 ni2 ni2) gx_237 ni0 ni0 ni0 ni0)
          refine wk_call (opg 140 (.call ⟨.value (.func 12), #[.tmp 139], #[23]⟩) 3 2 false) (by kernel_rfl) 12 #[.pointer (some ⟨p_11, 0, none⟩)] (x_call Try.func12 (by kernel_rfl) (c := (Try.f12.body).getD .skip) (by kernel_rfl) (by kernel_rfl) (by kernel_rfl)) (waiting_p hb_239 (by omega) (fun w_240 sm_241 => ⟨?_, ?_⟩))
          · exact trivial
          have gx_242 := GX.same [] γ_236 sm_241
          have hsz_243 : w_240.heap.size = w_235.heap.size := by rw [sm_241.heap]
          refine wk_pure (opg 141 (.move (.tmp 11)) 42 2 false) (by kernel_rfl) (.pointer (some ⟨b_22, 0, none⟩)) (fun _ => y_move (Eq.trans (by kernel_rfl) f_47)) ?_
          have hb_244 := (RkAt.keep (RkAt.keep hR_225 gx_237 ni0 ni0 ni0 ni0) gx_242 ni0 ni0 ni0 ni0)
          refine wk_call (opg 142 (.call ⟨.value (.func 21), #[.tmp 141], #[42]⟩) 3 2 false) (by kernel_rfl) 21 #[.pointer (some ⟨b_22, 0, none⟩)] (x_call Try.func21 (by kernel_rfl) (c := (Try.f21.body).getD .skip) (by kernel_rfl) (by kernel_rfl) (by kernel_rfl)) (waiting_r hb_244 (by omega) (fun w_245 sm_246 => ⟨?_, ?_⟩))
          · exact trivial
          have gx_247 := GX.same [] γ_236 sm_246
          have hsz_248 : w_245.heap.size = w_240.heap.size := by rw [sm_246.heap]
          refine wk_pure (opg 143 (.binOp .neq 3 (.tmp 140) (.tmp 142) 3) 4 2 false) (by kernel_rfl) (.bool false) (fun _ => y_neq (k := .i64) (a := ((l_194.out.length : Nat) : Int)) (b := ((l_194.out.length : Nat) : Int)) (by kernel_rfl) (by kernel_rfl) (decide_eq_false (fun h_ => h_ rfl))) ?_
          refine wpk 144 (.tmp 138) (.const (.bool true)) (.tmp 143) 4 (.bool false) ?_
          refine wpm 145 (.tmp 144) 4 (.bool false) ?_
          refine wk_pure (opg 146 (.move (.tmp 9)) 23 9 false) (by kernel_rfl) (.pointer (some ⟨p_11, 0, none⟩)) (fun _ => y_move (Eq.trans (by kernel_rfl) f_46)) ?_
          have hb_249 := (LkAt.keep (LkAt.keep hb_239 gx_242 ni0 ni0 ni0 ni0) gx_247 ni0 ni0 ni0 ni0)
          refine wk_call (opg 147 (.call ⟨.value (.func 13), #[.tmp 146], #[23]⟩) 3 9 false) (by kernel_rfl) 13 #[.pointer (some ⟨p_11, 0, none⟩)] (x_call Try.func13 (by kernel_rfl) (c := (Try.f13.body).getD .skip) (by kernel_rfl) (by kernel_rfl) (by kernel_rfl)) (ahead_p hb_249 (by omega) (fun w_250 sm_251 => ⟨?_, ?_⟩))
          · exact trivial
          have gx_252 := GX.same [] γ_236 sm_251
          have hsz_253 : w_250.heap.size = w_245.heap.size := by rw [sm_251.heap]
          refine wk_pure (opg 148 (.move (.tmp 11)) 42 9 false) (by kernel_rfl) (.pointer (some ⟨b_22, 0, none⟩)) (fun _ => y_move (Eq.trans (by kernel_rfl) f_47)) ?_
          have hb_254 := (RkAt.keep (RkAt.keep hb_244 gx_247 ni0 ni0 ni0 ni0) gx_252 ni0 ni0 ni0 ni0)
          refine wk_call (opg 149 (.call ⟨.value (.func 22), #[.tmp 148], #[42]⟩) 3 9 false) (by kernel_rfl) 22 #[.pointer (some ⟨b_22, 0, none⟩)] (x_call Try.func22 (by kernel_rfl) (c := (Try.f22.body).getD .skip) (by kernel_rfl) (by kernel_rfl) (by kernel_rfl)) (ahead_r hb_254 (by omega) (fun w_255 sm_256 => ⟨?_, ?_⟩))
          · exact trivial
          have gx_257 := GX.same [] γ_236 sm_256
          have hsz_258 : w_255.heap.size = w_250.heap.size := by rw [sm_256.heap]
          refine wk_pure (opg 150 (.binOp .neq 3 (.tmp 147) (.tmp 149) 3) 4 9 false) (by kernel_rfl) (.bool false) (fun _ => y_neq (k := .i64) (a := ((l_194.held.length : Nat) : Int)) (b := ((l_194.held.length : Nat) : Int)) (by kernel_rfl) (by kernel_rfl) (decide_eq_false (fun h_ => h_ rfl))) ?_
          refine wpk 151 (.tmp 145) (.const (.bool true)) (.tmp 150) 4 (.bool false) ?_
          refine wpm 152 (.tmp 151) 4 (.bool false) ?_
          refine wk_pure (opg 153 (.move (.tmp 9)) 23 16 false) (by kernel_rfl) (.pointer (some ⟨p_11, 0, none⟩)) (fun _ => y_move (Eq.trans (by kernel_rfl) f_46)) ?_
          have hb_259 := (LkAt.keep (LkAt.keep hb_249 gx_252 ni0 ni0 ni0 ni0) gx_257 ni0 ni0 ni0 ni0)
          refine wk_call (opg 154 (.call ⟨.value (.func 14), #[.tmp 153], #[23]⟩) 27 16 false) (by kernel_rfl) 14 #[.pointer (some ⟨p_11, 0, none⟩)] (x_call Try.func14 (by kernel_rfl) (c := (Try.f14.body).getD .skip) (by kernel_rfl) (by kernel_rfl) (by kernel_rfl)) (next_p hb_259 (by omega) (fun w_260 sm_261 => ⟨?_, ?_⟩))
          · exact trivial
          have gx_262 := GX.same [] γ_236 sm_261
          have hsz_263 : w_260.heap.size = w_255.heap.size := by rw [sm_261.heap]
          refine wk_pure (opg 155 (.move (.tmp 11)) 42 16 false) (by kernel_rfl) (.pointer (some ⟨b_22, 0, none⟩)) (fun _ => y_move (Eq.trans (by kernel_rfl) f_47)) ?_
          have hb_264 := (RkAt.keep (RkAt.keep hb_254 gx_257 ni0 ni0 ni0 ni0) gx_262 ni0 ni0 ni0 ni0)
          refine wk_call (opg 156 (.call ⟨.value (.func 23), #[.tmp 155], #[42]⟩) 27 16 false) (by kernel_rfl) 23 #[.pointer (some ⟨b_22, 0, none⟩)] (x_call Try.func23 (by kernel_rfl) (c := (Try.f23.body).getD .skip) (by kernel_rfl) (by kernel_rfl) (by kernel_rfl)) (next_r hb_264 (by omega) (fun w_265 sm_266 => ⟨?_, ?_⟩))
          · exact trivial
          have gx_267 := GX.same [] γ_236 sm_266
          have hsz_268 : w_265.heap.size = w_260.heap.size := by rw [sm_266.heap]
          refine wk_pure (opg 157 (.binOp .neq 27 (.tmp 154) (.tmp 156) 27) 4 16 false) (by kernel_rfl) (.bool false) (fun _ => y_neq (k := .u32) (a := l_194.next) (b := l_194.next) (by kernel_rfl) (by kernel_rfl) (decide_eq_false (fun h_ => h_ rfl))) ?_
          refine wpk 158 (.tmp 152) (.const (.bool true)) (.tmp 157) 4 (.bool false) ?_
          refine wpm 159 (.tmp 158) 4 (.bool false) ?_
          refine wk_pure (opg 160 (.move (.tmp 9)) 23 23 false) (by kernel_rfl) (.pointer (some ⟨p_11, 0, none⟩)) (fun _ => y_move (Eq.trans (by kernel_rfl) f_46)) ?_
          have hb_269 := (LkAt.keep (LkAt.keep hb_259 gx_262 ni0 ni0 ni0 ni0) gx_267 ni0 ni0 ni0 ni0)
          refine wk_call (opg 161 (.call ⟨.value (.func 13), #[.tmp 160], #[23]⟩) 3 23 false) (by kernel_rfl) 13 #[.pointer (some ⟨p_11, 0, none⟩)] (x_call Try.func13 (by kernel_rfl) (c := (Try.f13.body).getD .skip) (by kernel_rfl) (by kernel_rfl) (by kernel_rfl)) (ahead_p hb_269 (by omega) (fun w_270 sm_271 => ⟨?_, ?_⟩))
          · exact trivial
          have gx_272 := GX.same [] γ_236 sm_271
          have hsz_273 : w_270.heap.size = w_265.heap.size := by rw [sm_271.heap]
          have hah2_ := (Good.tick hg hq_196).ahead
          refine wk_pure (opg 162 (.binOp .gtr 3 (.tmp 161) (.const (.int .i64 32)) 3) 4 23 false) (by kernel_rfl) (.bool false) (fun _ => y_gtr (k := .i64) (a := ((l_194.held.length : Nat) : Int)) (b := 32) (by kernel_rfl) (by kernel_rfl) (decide_eq_false (by omega))) ?_
          refine wpk 163 (.tmp 159) (.const (.bool true)) (.tmp 162) 4 (.bool false) ?_
          refine wk_nil ?_
          refine thn_n ?_
          refine g_cond_f (o := .tmp 163) (x := lX6N1_73) (y := lX6N1_74) (by kernel_rfl) (by kernel_rfl) ?_
          refine g_skip (by kernel_rfl) ?_
          refine blk_n ?_
          refine thn_n ?_
          refine g_region (ops := lX6R1_11) (id := 11) (by kernel_rfl) [pu 0, pu 1, pu 2] (by kernel_rfl) (by kernel_rfl) ?_
          refine wpm 59 (.tmp 12) 3 (.int .i64 ((i : Nat) : Int)) ?_ (Eq.trans (by kernel_rfl) f_48)
          refine wk_pure (opd 60 (.binOp .add 3 (.tmp 59) (.const (.int .i64 1)) 3) 3) rfl (.int .i64 ((i + 1 : Nat) : Int)) (fun _ => y_add (k := .i64) (a := ((i : Nat) : Int)) (b := 1) (by kernel_rfl) (by kernel_rfl) (i64_to (by omega) (by omega))) ?_
          refine wpa 12 (.tmp 60) 3 (.int .i64 ((i + 1 : Nat) : Int)) ?_
          refine wk_nil ?_
          refine thn_n ?_
          have hb_274 := (SlG.keep (SlG.keep (SlG.keep (SlG.keep (SlG.keep (SlG.keep (SlG.keep (SlG.keep (SlG.keep (SlG.keep (SlG.keep (SlG.keep (SlG.keep (SlG.keep (SlG.keep (SlG.keep (SlG.keep (SlG.keep hr_49 gx_63 ni0) gx_69 ni1) gx_80 ni0) gx_86 ni1) gx_96 ni1) gx_102 ni1) gx_108 ni1) gx_190 ni0) gx_202 ni2) gx_220 ni2) gx_237 ni0) gx_242 ni0) gx_247 ni0) gx_252 ni0) gx_257 ni0) gx_262 ni0) gx_267 ni0) gx_272 ni0)
          have hb_275 := (AllA.keep (AllA.keep (AllA.keep (AllA.keep (AllA.keep (AllA.keep (AllA.keep (AllA.keep (AllA.keep (AllA.keep hb_193 gx_202 ni2) gx_220 ni2) gx_237 ni0) gx_242 ni0) gx_247 ni0) gx_252 ni0) gx_257 ni0) gx_262 ni0) gx_267 ni0) gx_272 ni0)
          have hb_276 := (RkAt.keep (RkAt.keep hb_264 gx_267 ni0 ni0 ni0 ni0) gx_272 ni0 ni0 ni0 ni0)
          have hb_277 := (LkAt.keep hb_269 gx_272 ni0 ni0 ni0 ni0)
          exact ⟨_, (by omega), ⟨(i + 1), l_194, _, rfl, by omega, by exact Good.tick hg hq_196, (Eq.trans (by kernel_rfl) f_42), (Eq.trans (by kernel_rfl) f_43), (Eq.trans (by kernel_rfl) f_44), (Eq.trans (by kernel_rfl) f_45), (Eq.trans (by kernel_rfl) f_46), (Eq.trans (by kernel_rfl) f_47), (by kernel_rfl), hb_274, hb_275, hb_276, hb_277, (GX.then_same (GX.then_same (GX.then_same (GX.then_same (GX.then_same (GX.then_same (GX.then_same (GX.trans (GX.trans (GX.trans (GX.then_same (GX.thenNew (GX.thenNew (GX.thenNew (GX.thenNew (GX.then0 (GX.thenNew (GX.then0 hE_40 e_56 hg_61) e_66 (by intro y_ hy_; simp only [List.mem_cons, List.not_mem_nil, or_false] at hy_; omega) (fun _ _ => rfl)) e_73 hg_78) e_83 (by intro y_ hy_; simp only [List.mem_cons, List.not_mem_nil, or_false] at hy_; omega) (fun _ _ => rfl)) e_93 (by intro y_ hy_; simp only [List.mem_cons, List.not_mem_nil, or_false] at hy_; omega) (fun _ _ => rfl)) e_99 (by intro y_ hy_; simp only [List.mem_cons, List.not_mem_nil, or_false] at hy_; omega) (fun _ _ => rfl)) e_105 (by intro y_ hy_; simp only [List.mem_cons, List.not_mem_nil, or_false] at hy_; omega) (fun _ _ => rfl)) sm_189) gx_202 (by intro c_ hc_; simp only [List.mem_cons, List.not_mem_nil, or_false] at hc_ ⊢; omega)) gx_220 (by intro c_ hc_; simp only [List.mem_cons, List.not_mem_nil, or_false] at hc_ ⊢; omega)) gx_237 (fun _ h_ => absurd h_ List.not_mem_nil)) sm_241) sm_246) sm_251) sm_256) sm_261) sm_266) sm_271)⟩⟩
        refine wk_pure (opd 126 (.binOp .eql 3 (.tmp 86) (.const (.int .i64 1)) 3) 4) rfl (.bool false) (fun _ => y_eql (k := .i64) (a := ((L.getD i A0).op)) (b := 1) (by kernel_rfl) (by kernel_rfl) (decide_eq_false h_187)) ?_
        refine wpa 125 (.tmp 126) 4 (.bool false) ?_
        refine wk_nil ?_
        refine thn_n ?_
        refine g_cond_f (o := .tmp 125) (x := lX6N1_77) (y := lX6N1_78) (by kernel_rfl) (by kernel_rfl) ?_
        refine g_seq (x := lX6N1_79) (y := lX6N1_80) (by kernel_rfl) ?_
        refine g_region (ops := lX6R1_20) (id := 20) (by kernel_rfl) [pu 0, lo 1, lo 2, pu 3, pu 4, pu 5, pu 6, pu 7, pu 8, pu 9] (by kernel_rfl) (by kernel_rfl) ?_
        refine wpm 88 (.tmp 9) 23 (.pointer (some ⟨p_11, 0, none⟩)) ?_ (Eq.trans (by kernel_rfl) f_46)
        refine wk_val (opd 89 (.load 32 (.tmp 14)) 32) rfl (.agg #[.int .i64 ((L.getD i A0).m.kind), .int .i64 peer, .int .i64 own, .int .u32 view, .int .u32 ((L.getD i A0).m.seq), .slice ((L.getD i A0).m.na) ((L.getD i A0).m.N.length) ((L.getD i A0).m.nc), .slice ((L.getD i A0).m.wa) ((L.getD i A0).m.W.length) ((L.getD i A0).m.wc)]) (x_load_agg (b := b_71) (off := 0) (n := 7) (by kernel_rfl) (by kernel_rfl) hk_109.1 (Nat.le_of_ble_eq_true rfl) (by kernel_rfl)) trivial ?_
        have hb_279 := (AllA.keep (AllA.keep (AllA.keep (AllA.keep (AllA.keep (AllA.keep (AllA.keep hr_50 gx_63 ni0) gx_69 ni1) gx_80 ni0) gx_86 ni1) gx_96 ni1) gx_102 ni1) gx_108 ni1)
        have hA_278 := AllA.get hb_279 (by omega : i < L.length); have hA_278_v := hA_278.1.v0; have hA_278_s := hA_278.1.s0; have hA_278_n := hA_278.2
        obtain ⟨l_280, po_281, pa_282, e_283, hq_284⟩ : ∃ l_ o_ a_ e_, getP s (⟨((L.getD i A0).m.kind), peer, own, view, ((L.getD i A0).m.seq), ((L.getD i A0).m.N), ((L.getD i A0).m.W)⟩ : Msg) = (l_, o_, a_, e_) := ⟨_, _, _, _, rfl⟩
        have hk_l_280 := get_keeps hq_284
        have hah_ := hg.ahead
        have hf_l_280 := get_few hq_284
        have hm_285 : MOk γ_77 w_104 (⟨((L.getD i A0).m.kind), peer, own, view, ((L.getD i A0).m.seq), ((L.getD i A0).m.na), (L.getD i A0).m.nb, ((L.getD i A0).m.noff), ((L.getD i A0).m.nc), ((L.getD i A0).m.N), ((L.getD i A0).m.wa), (L.getD i A0).m.wb, ((L.getD i A0).m.woff), ((L.getD i A0).m.wc), ((L.getD i A0).m.W)⟩ : MsgR) := ⟨(AllA.get hb_279 (by omega : i < L.length)).1.n, (AllA.get hb_279 (by omega : i < L.length)).1.w, (by show (0 : Int) ≤ view ∧ (view : Int) < 4294967296; omega), (by show (0 : Int) ≤ ((L.getD i A0).m.seq) ∧ (((L.getD i A0).m.seq) : Int) < 4294967296; omega), ((MIn.ok (AllA.get hb_279 (by omega : i < L.length)).1 (by omega) (by omega))).nr, ((MIn.ok (AllA.get hb_279 (by omega : i < L.length)).1 (by omega) (by omega))).nl, ((MIn.ok (AllA.get hb_279 (by omega : i < L.length)).1 (by omega) (by omega))).wl⟩
        have hb_286 := (LkAt.keep (LkAt.keep (LkAt.keep (LkAt.keep (LkAt.keep (LkAt.keep (LkAt.keep hr_52 gx_63 ni0 ni0 ni0 ni0) gx_69 ni1 ni1 ni1 ni1) gx_80 ni0 ni0 ni0 ni0) gx_86 ni1 ni1 ni1 ni1) gx_96 ni1 ni1 ni1 ni1) gx_102 ni1 ni1 ni1 ni1) gx_108 ni1 ni1 ni1 ni1)
        refine wkc 90 11 #[.tmp 88, .tmp 89] #[23, 32] 35 #[.pointer (some ⟨p_11, 0, none⟩), .agg #[.int .i64 ((L.getD i A0).m.kind), .int .i64 peer, .int .i64 own, .int .u32 view, .int .u32 ((L.getD i A0).m.seq), .slice ((L.getD i A0).m.na) ((L.getD i A0).m.N.length) ((L.getD i A0).m.nc), .slice ((L.getD i A0).m.wa) ((L.getD i A0).m.W.length) ((L.getD i A0).m.wc)]] Try.func11 (get_q (m := (⟨((L.getD i A0).m.kind), peer, own, view, ((L.getD i A0).m.seq), ((L.getD i A0).m.na), (L.getD i A0).m.nb, ((L.getD i A0).m.noff), ((L.getD i A0).m.nc), ((L.getD i A0).m.N), ((L.getD i A0).m.wa), (L.getD i A0).m.wb, ((L.getD i A0).m.woff), ((L.getD i A0).m.wc), ((L.getD i A0).m.W)⟩ : MsgR)) hq_284 rfl hb_286 (by omega) hm_285 (by omega) (fun w_287 γ_288 v_289 v_290 outs_291 outs_292 gx_293 hM_294 hM_295 hL_296 ho_297 ho_298 => ⟨?_, ?_⟩))
        · exact trivial
        have hsz_299 := gx_293.size
        have hL_300 : LkAt γ_288 w_287 10 p_11 l_280 := hL_296
        obtain ⟨a_301, b_302, off_303, c_304, ev_307, hs_305, hall_306⟩ := hM_294
        subst ev_307
        have hlen_outs_291 : outs_291.length = po_281.length := by rw [← ho_297, List.length_map]
        obtain ⟨a_308, b_309, off_310, c_311, ev_314, hs_312, hall_313⟩ := hM_295
        subst ev_314
        have hlen_outs_292 : outs_292.length = pa_282.length := by rw [← ho_298, List.length_map]
        refine wpm 87 (.tmp 90) 35 (.tuple #[.slice a_301 outs_291.length c_304, .slice a_308 outs_292.length c_311, .int .i64 e_283]) ?_
        refine wk_pure (opd 91 (.extract (.tmp 87) 0) 33) rfl (.slice a_301 outs_291.length c_304) (fun _ => x_extract (vs := #[.slice a_301 outs_291.length c_304, .slice a_308 outs_292.length c_311, .int .i64 e_283]) (by kernel_rfl) (by kernel_rfl)) ?_
        refine wk_pure (opd 92 (.extract (.tmp 87) 1) 33) rfl (.slice a_308 outs_292.length c_311) (fun _ => x_extract (vs := #[.slice a_301 outs_291.length c_304, .slice a_308 outs_292.length c_311, .int .i64 e_283]) (by kernel_rfl) (by kernel_rfl)) ?_
        refine wk_pure (opd 93 (.extract (.tmp 87) 2) 24) rfl (.int .i64 e_283) (fun _ => x_extract (vs := #[.slice a_301 outs_291.length c_304, .slice a_308 outs_292.length c_311, .int .i64 e_283]) (by kernel_rfl) (by kernel_rfl)) ?_
        refine wpa 16 (.tmp 91) 33 (.slice a_301 outs_291.length c_304) ?_
        refine wpa 17 (.tmp 92) 33 (.slice a_308 outs_292.length c_311) ?_
        refine wpa 18 (.tmp 93) 24 (.int .i64 e_283) ?_
        refine wk_nil ?_
        refine thn_n ?_
        refine g_seq (x := lX6N1_81) (y := lX6N1_82) (by kernel_rfl) ?_
        refine g_region (ops := lX6R1_21) (id := 21) (by kernel_rfl) [pu 0, lo 1, lo 2, lo 3, pu 4, pu 5, pu 6, pu 7, pu 8, pu 9, pu 10] (by kernel_rfl) (by kernel_rfl) ?_
        refine wpm 95 (.tmp 11) 42 (.pointer (some ⟨b_22, 0, none⟩)) ?_ (Eq.trans (by kernel_rfl) f_47)
        have hb_315 := (Bk.keep hk_109 gx_293 ni3)
        refine wk_val (opd 96 (.load 32 (.tmp 14)) 32) rfl (.agg #[.int .i64 ((L.getD i A0).m.kind), .int .i64 peer, .int .i64 own, .int .u32 view, .int .u32 ((L.getD i A0).m.seq), .slice ((L.getD i A0).m.na) ((L.getD i A0).m.N.length) ((L.getD i A0).m.nc), .slice ((L.getD i A0).m.wa) ((L.getD i A0).m.W.length) ((L.getD i A0).m.wc)]) (x_load_agg (b := b_71) (off := 0) (n := 7) (by kernel_rfl) (by kernel_rfl) hb_315.1 (Nat.le_of_ble_eq_true rfl) (by kernel_rfl)) trivial ?_
        have hb_316 := (SlG.keep (AllA.get hb_279 (by omega : i < L.length)).1.n gx_293 ni3)
        have hb_317 := (AllA.keep hb_279 gx_293 ni3)
        have hb_318 := (SlG.keep (AllA.get hb_279 (by omega : i < L.length)).1.w gx_293 ni3)
        have hm_319 : MOk γ_288 w_287 (⟨((L.getD i A0).m.kind), peer, own, view, ((L.getD i A0).m.seq), ((L.getD i A0).m.na), (L.getD i A0).m.nb, ((L.getD i A0).m.noff), ((L.getD i A0).m.nc), ((L.getD i A0).m.N), ((L.getD i A0).m.wa), (L.getD i A0).m.wb, ((L.getD i A0).m.woff), ((L.getD i A0).m.wc), ((L.getD i A0).m.W)⟩ : MsgR) := ⟨hb_316, hb_318, (by show (0 : Int) ≤ view ∧ (view : Int) < 4294967296; omega), (by show (0 : Int) ≤ ((L.getD i A0).m.seq) ∧ (((L.getD i A0).m.seq) : Int) < 4294967296; omega), ((MIn.ok (AllA.get hb_317 (by omega : i < L.length)).1 (by omega) (by omega))).nr, ((MIn.ok (AllA.get hb_317 (by omega : i < L.length)).1 (by omega) (by omega))).nl, ((MIn.ok (AllA.get hb_317 (by omega : i < L.length)).1 (by omega) (by omega))).wl⟩
        refine wkc 97 17 #[.tmp 96] #[32] 50 #[.agg #[.int .i64 ((L.getD i A0).m.kind), .int .i64 peer, .int .i64 own, .int .u32 view, .int .u32 ((L.getD i A0).m.seq), .slice ((L.getD i A0).m.na) ((L.getD i A0).m.N.length) ((L.getD i A0).m.nc), .slice ((L.getD i A0).m.wa) ((L.getD i A0).m.W.length) ((L.getD i A0).m.wc)]] Try.func17 (mown_c (γ := γ_288) (m := (⟨((L.getD i A0).m.kind), peer, own, view, ((L.getD i A0).m.seq), ((L.getD i A0).m.na), (L.getD i A0).m.nb, ((L.getD i A0).m.noff), ((L.getD i A0).m.nc), ((L.getD i A0).m.N), ((L.getD i A0).m.wa), (L.getD i A0).m.wb, ((L.getD i A0).m.woff), ((L.getD i A0).m.wc), ((L.getD i A0).m.W)⟩ : MsgR)) (fun w_320 γ_321 gx_322 => ⟨?_, ?_⟩))
        · exact trivial
        have hsz_323 := gx_322.size
        have hb_324 := (SlG.keep hb_316 gx_322 ni0)
        have hb_325 := (AllA.keep hb_317 gx_322 ni0)
        have hb_326 := (SlG.keep hb_318 gx_322 ni0)
        have hm_327 : MOk γ_321 w_320 (⟨((L.getD i A0).m.kind), peer, own, view, ((L.getD i A0).m.seq), ((L.getD i A0).m.na), (L.getD i A0).m.nb, ((L.getD i A0).m.noff), ((L.getD i A0).m.nc), ((L.getD i A0).m.N), ((L.getD i A0).m.wa), (L.getD i A0).m.wb, ((L.getD i A0).m.woff), ((L.getD i A0).m.wc), ((L.getD i A0).m.W)⟩ : MsgR) := ⟨hb_324, hb_326, (by show (0 : Int) ≤ view ∧ (view : Int) < 4294967296; omega), (by show (0 : Int) ≤ ((L.getD i A0).m.seq) ∧ (((L.getD i A0).m.seq) : Int) < 4294967296; omega), ((MIn.ok (AllA.get hb_325 (by omega : i < L.length)).1 (by omega) (by omega))).nr, ((MIn.ok (AllA.get hb_325 (by omega : i < L.length)).1 (by omega) (by omega))).nl, ((MIn.ok (AllA.get hb_325 (by omega : i < L.length)).1 (by omega) (by omega))).wl⟩
        have hb_328 := (RkAt.keep (RkAt.keep (RkAt.keep (RkAt.keep (RkAt.keep (RkAt.keep (RkAt.keep (RkAt.keep (RkAt.keep hr_51 gx_63 ni0 ni0 ni0 ni0) gx_69 ni1 ni1 ni1 ni1) gx_80 ni0 ni0 ni0 ni0) gx_86 ni1 ni1 ni1 ni1) gx_96 ni1 ni1 ni1 ni1) gx_102 ni1 ni1 ni1 ni1) gx_108 ni1 ni1 ni1 ni1) gx_293 ni3 ni3 ni3 ni3) gx_322 ni0 ni0 ni0 ni0)
        refine wkc 98 20 #[.tmp 95, .tmp 97] #[42, 50] 54 #[.pointer (some ⟨b_22, 0, none⟩), .agg #[.int .i64 ((L.getD i A0).m.kind), .int .i64 peer, .int .i64 own, .int .u32 view, .int .u32 ((L.getD i A0).m.seq), .slice ((L.getD i A0).m.na) ((L.getD i A0).m.N.length) ((L.getD i A0).m.nc), .slice ((L.getD i A0).m.wa) ((L.getD i A0).m.W.length) ((L.getD i A0).m.wc)]] Try.func20 (get_r (m := (⟨((L.getD i A0).m.kind), peer, own, view, ((L.getD i A0).m.seq), ((L.getD i A0).m.na), (L.getD i A0).m.nb, ((L.getD i A0).m.noff), ((L.getD i A0).m.nc), ((L.getD i A0).m.N), ((L.getD i A0).m.wa), (L.getD i A0).m.wb, ((L.getD i A0).m.woff), ((L.getD i A0).m.wc), ((L.getD i A0).m.W)⟩ : MsgR)) hq_284 rfl hb_328 (by omega) hm_327 hg (by omega) (fun w_329 γ_330 v_331 v_332 outs_333 outs_334 gx_335 hM_336 hM_337 hL_338 ho_339 ho_340 => ⟨?_, ?_⟩))
        · exact trivial
        have hsz_341 := gx_335.size
        have hR_342 : RkAt γ_330 w_329 20 b_22 l_280 := hL_338
        obtain ⟨a_343, b_344, off_345, c_346, ev_349, hs_347, hall_348⟩ := hM_336
        subst ev_349
        have hlen_outs_333 : outs_333.length = po_281.length := by rw [← ho_339, List.length_map]
        obtain ⟨a_350, b_351, off_352, c_353, ev_356, hs_354, hall_355⟩ := hM_337
        subst ev_356
        have hlen_outs_334 : outs_334.length = pa_282.length := by rw [← ho_340, List.length_map]
        refine wpm 94 (.tmp 98) 54 (.tuple #[.slice a_343 outs_333.length c_346, .slice a_350 outs_334.length c_353, .int .i64 e_283]) ?_
        refine wk_pure (opd 99 (.extract (.tmp 94) 0) 44) rfl (.slice a_343 outs_333.length c_346) (fun _ => x_extract (vs := #[.slice a_343 outs_333.length c_346, .slice a_350 outs_334.length c_353, .int .i64 e_283]) (by kernel_rfl) (by kernel_rfl)) ?_
        refine wk_pure (opd 100 (.extract (.tmp 94) 1) 44) rfl (.slice a_350 outs_334.length c_353) (fun _ => x_extract (vs := #[.slice a_343 outs_333.length c_346, .slice a_350 outs_334.length c_353, .int .i64 e_283]) (by kernel_rfl) (by kernel_rfl)) ?_
        refine wk_pure (opd 101 (.extract (.tmp 94) 2) 24) rfl (.int .i64 e_283) (fun _ => x_extract (vs := #[.slice a_343 outs_333.length c_346, .slice a_350 outs_334.length c_353, .int .i64 e_283]) (by kernel_rfl) (by kernel_rfl)) ?_
        refine wpa 19 (.tmp 99) 44 (.slice a_343 outs_333.length c_346) ?_
        refine wpa 20 (.tmp 100) 44 (.slice a_350 outs_334.length c_353) ?_
        refine wpa 21 (.tmp 101) 24 (.int .i64 e_283) ?_
        refine wk_nil ?_
        refine thn_n ?_
        refine g_region (ops := lX6R1_22) (id := 22) (by kernel_rfl) [pu 0, pu 1, pu 2, pu 3, pu 4, pu 5, lo 6, pu 7, pu 8, pu 9, pu 10, lo 11, pu 12, pu 13] (by kernel_rfl) (by kernel_rfl) ?_
        refine wpm 102 (.tmp 18) 24 (.int .i64 e_283) ?_
        refine wpm 103 (.tmp 21) 24 (.int .i64 e_283) ?_
        refine wk_pure (opd 104 (.binOp .eql 24 (.tmp 102) (.tmp 103) 24) 4) rfl (.bool true) (fun _ => y_eql (k := .i64) (a := e_283) (b := e_283) (by kernel_rfl) (by kernel_rfl) (decide_eq_true (rfl))) ?_
        refine wpm 105 (.tmp 104) 4 (.bool true) ?_
        refine wk_pure (opg 106 (.move (.tmp 16)) 33 3 true) (by kernel_rfl) (.slice a_301 outs_291.length c_304) (fun _ => y_move (by kernel_rfl)) ?_
        refine wk_pure (opg 107 (.move (.tmp 19)) 44 3 true) (by kernel_rfl) (.slice a_343 outs_333.length c_346) (fun _ => y_move (by kernel_rfl)) ?_
        have hb_357 := (SlG.keep (SlG.keep hs_305 gx_322 ni0) gx_335 ni3)
        have hb_358 := (AllOk.keep (AllOk.keep hall_306 gx_322 ni0) gx_335 ni3)
        refine wk_call (opg 108 (.call ⟨.value (.func 18), #[.tmp 106, .tmp 107], #[33, 44]⟩) 4 3 true) (by kernel_rfl) 18 #[.slice a_301 outs_291.length c_304, .slice a_343 outs_333.length c_346] (x_call Try.func18 (by kernel_rfl) (c := (Try.f18.body).getD .skip) (by kernel_rfl) (by kernel_rfl) (by kernel_rfl)) (all_c hb_357 hs_347 hb_358 hall_348 (by rw [hlen_outs_291]; omega) (decide_eq_true (ho_297.trans ho_339.symm)) (fun w_359 γ_360 gx_361 => ⟨?_, ?_⟩))
        · exact trivial
        have hsz_362 := gx_361.size
        refine wpt 109 (.tmp 105) (.tmp 108) (.const (.bool false)) 4 (.bool true) ?_
        refine wpm 110 (.tmp 109) 4 (.bool true) ?_
        refine wk_pure (opg 111 (.move (.tmp 17)) 33 8 true) (by kernel_rfl) (.slice a_308 outs_292.length c_311) (fun _ => y_move (by kernel_rfl)) ?_
        refine wk_pure (opg 112 (.move (.tmp 20)) 44 8 true) (by kernel_rfl) (.slice a_350 outs_334.length c_353) (fun _ => y_move (by kernel_rfl)) ?_
        have hb_363 := (SlG.keep (SlG.keep (SlG.keep hs_312 gx_322 ni0) gx_335 ni3) gx_361 ni0)
        have hb_364 := (SlG.keep hs_354 gx_361 ni0)
        have hb_365 := (AllOk.keep (AllOk.keep (AllOk.keep hall_313 gx_322 ni0) gx_335 ni3) gx_361 ni0)
        have hb_366 := (AllOk.keep hall_355 gx_361 ni0)
        refine wk_call (opg 113 (.call ⟨.value (.func 18), #[.tmp 111, .tmp 112], #[33, 44]⟩) 4 8 true) (by kernel_rfl) 18 #[.slice a_308 outs_292.length c_311, .slice a_350 outs_334.length c_353] (x_call Try.func18 (by kernel_rfl) (c := (Try.f18.body).getD .skip) (by kernel_rfl) (by kernel_rfl) (by kernel_rfl)) (all_c hb_363 hb_364 hb_365 hb_366 (by rw [hlen_outs_292]; omega) (decide_eq_true (ho_298.trans ho_340.symm)) (fun w_367 γ_368 gx_369 => ⟨?_, ?_⟩))
        · exact trivial
        have hsz_370 := gx_369.size
        refine wpt 114 (.tmp 110) (.tmp 113) (.const (.bool false)) 4 (.bool true) ?_
        refine wpa 15 (.tmp 114) 4 (.bool true) ?_
        refine wk_nil ?_
        refine blk_n ?_
        refine thn_n ?_
        refine g_seq (x := lX6N1_71) (y := lX6N1_72) (by kernel_rfl) ?_
        refine g_region (ops := lX6R1_27) (id := 27) (by kernel_rfl) [pu 0, pu 1, pu 2, pu 3, lo 4, pu 5, lo 6, pu 7, pu 8, pu 9, pu 10, lo 11, pu 12, lo 13, pu 14, pu 15, pu 16, pu 17, lo 18, pu 19, lo 20, pu 21, pu 22, pu 23, pu 24, lo 25, pu 26, pu 27] (by kernel_rfl) (by kernel_rfl) ?_
        refine wpm 136 (.tmp 15) 4 (.bool true) ?_
        refine wk_pure (opd 137 (.unOp .not 4 (.tmp 136)) 4) rfl (.bool false) (fun _ => y_not (p := true) (by kernel_rfl) rfl) ?_
        refine wpm 138 (.tmp 137) 4 (.bool false) ?_
        refine wk_pure (opg 139 (.move (.tmp 9)) 23 2 false) (by kernel_rfl) (.pointer (some ⟨p_11, 0, none⟩)) (fun _ => y_move (Eq.trans (by kernel_rfl) f_46)) ?_
        have hb_371 := (LkAt.keep (LkAt.keep (LkAt.keep (LkAt.keep hL_300 gx_322 ni0 ni0 ni0 ni0) gx_335 ni3 ni3 ni3 ni3) gx_361 ni0 ni0 ni0 ni0) gx_369 ni0 ni0 ni0 ni0)
        refine wk_call (opg 140 (.call ⟨.value (.func 12), #[.tmp 139], #[23]⟩) 3 2 false) (by kernel_rfl) 12 #[.pointer (some ⟨p_11, 0, none⟩)] (x_call Try.func12 (by kernel_rfl) (c := (Try.f12.body).getD .skip) (by kernel_rfl) (by kernel_rfl) (by kernel_rfl)) (waiting_p hb_371 (by omega) (fun w_372 sm_373 => ⟨?_, ?_⟩))
        · exact trivial
        have gx_374 := GX.same [] γ_368 sm_373
        have hsz_375 : w_372.heap.size = w_367.heap.size := by rw [sm_373.heap]
        refine wk_pure (opg 141 (.move (.tmp 11)) 42 2 false) (by kernel_rfl) (.pointer (some ⟨b_22, 0, none⟩)) (fun _ => y_move (Eq.trans (by kernel_rfl) f_47)) ?_
        have hb_376 := (RkAt.keep (RkAt.keep (RkAt.keep hR_342 gx_361 ni0 ni0 ni0 ni0) gx_369 ni0 ni0 ni0 ni0) gx_374 ni0 ni0 ni0 ni0)
        refine wk_call (opg 142 (.call ⟨.value (.func 21), #[.tmp 141], #[42]⟩) 3 2 false) (by kernel_rfl) 21 #[.pointer (some ⟨b_22, 0, none⟩)] (x_call Try.func21 (by kernel_rfl) (c := (Try.f21.body).getD .skip) (by kernel_rfl) (by kernel_rfl) (by kernel_rfl)) (waiting_r hb_376 (by omega) (fun w_377 sm_378 => ⟨?_, ?_⟩))
        · exact trivial
        have gx_379 := GX.same [] γ_368 sm_378
        have hsz_380 : w_377.heap.size = w_372.heap.size := by rw [sm_378.heap]
        refine wk_pure (opg 143 (.binOp .neq 3 (.tmp 140) (.tmp 142) 3) 4 2 false) (by kernel_rfl) (.bool false) (fun _ => y_neq (k := .i64) (a := ((l_280.out.length : Nat) : Int)) (b := ((l_280.out.length : Nat) : Int)) (by kernel_rfl) (by kernel_rfl) (decide_eq_false (fun h_ => h_ rfl))) ?_
        refine wpk 144 (.tmp 138) (.const (.bool true)) (.tmp 143) 4 (.bool false) ?_
        refine wpm 145 (.tmp 144) 4 (.bool false) ?_
        refine wk_pure (opg 146 (.move (.tmp 9)) 23 9 false) (by kernel_rfl) (.pointer (some ⟨p_11, 0, none⟩)) (fun _ => y_move (Eq.trans (by kernel_rfl) f_46)) ?_
        have hb_381 := (LkAt.keep (LkAt.keep hb_371 gx_374 ni0 ni0 ni0 ni0) gx_379 ni0 ni0 ni0 ni0)
        refine wk_call (opg 147 (.call ⟨.value (.func 13), #[.tmp 146], #[23]⟩) 3 9 false) (by kernel_rfl) 13 #[.pointer (some ⟨p_11, 0, none⟩)] (x_call Try.func13 (by kernel_rfl) (c := (Try.f13.body).getD .skip) (by kernel_rfl) (by kernel_rfl) (by kernel_rfl)) (ahead_p hb_381 (by omega) (fun w_382 sm_383 => ⟨?_, ?_⟩))
        · exact trivial
        have gx_384 := GX.same [] γ_368 sm_383
        have hsz_385 : w_382.heap.size = w_377.heap.size := by rw [sm_383.heap]
        refine wk_pure (opg 148 (.move (.tmp 11)) 42 9 false) (by kernel_rfl) (.pointer (some ⟨b_22, 0, none⟩)) (fun _ => y_move (Eq.trans (by kernel_rfl) f_47)) ?_
        have hb_386 := (RkAt.keep (RkAt.keep hb_376 gx_379 ni0 ni0 ni0 ni0) gx_384 ni0 ni0 ni0 ni0)
        refine wk_call (opg 149 (.call ⟨.value (.func 22), #[.tmp 148], #[42]⟩) 3 9 false) (by kernel_rfl) 22 #[.pointer (some ⟨b_22, 0, none⟩)] (x_call Try.func22 (by kernel_rfl) (c := (Try.f22.body).getD .skip) (by kernel_rfl) (by kernel_rfl) (by kernel_rfl)) (ahead_r hb_386 (by omega) (fun w_387 sm_388 => ⟨?_, ?_⟩))
        · exact trivial
        have gx_389 := GX.same [] γ_368 sm_388
        have hsz_390 : w_387.heap.size = w_382.heap.size := by rw [sm_388.heap]
        refine wk_pure (opg 150 (.binOp .neq 3 (.tmp 147) (.tmp 149) 3) 4 9 false) (by kernel_rfl) (.bool false) (fun _ => y_neq (k := .i64) (a := ((l_280.held.length : Nat) : Int)) (b := ((l_280.held.length : Nat) : Int)) (by kernel_rfl) (by kernel_rfl) (decide_eq_false (fun h_ => h_ rfl))) ?_
        refine wpk 151 (.tmp 145) (.const (.bool true)) (.tmp 150) 4 (.bool false) ?_
        refine wpm 152 (.tmp 151) 4 (.bool false) ?_
        refine wk_pure (opg 153 (.move (.tmp 9)) 23 16 false) (by kernel_rfl) (.pointer (some ⟨p_11, 0, none⟩)) (fun _ => y_move (Eq.trans (by kernel_rfl) f_46)) ?_
        have hb_391 := (LkAt.keep (LkAt.keep hb_381 gx_384 ni0 ni0 ni0 ni0) gx_389 ni0 ni0 ni0 ni0)
        refine wk_call (opg 154 (.call ⟨.value (.func 14), #[.tmp 153], #[23]⟩) 27 16 false) (by kernel_rfl) 14 #[.pointer (some ⟨p_11, 0, none⟩)] (x_call Try.func14 (by kernel_rfl) (c := (Try.f14.body).getD .skip) (by kernel_rfl) (by kernel_rfl) (by kernel_rfl)) (next_p hb_391 (by omega) (fun w_392 sm_393 => ⟨?_, ?_⟩))
        · exact trivial
        have gx_394 := GX.same [] γ_368 sm_393
        have hsz_395 : w_392.heap.size = w_387.heap.size := by rw [sm_393.heap]
        refine wk_pure (opg 155 (.move (.tmp 11)) 42 16 false) (by kernel_rfl) (.pointer (some ⟨b_22, 0, none⟩)) (fun _ => y_move (Eq.trans (by kernel_rfl) f_47)) ?_
        have hb_396 := (RkAt.keep (RkAt.keep hb_386 gx_389 ni0 ni0 ni0 ni0) gx_394 ni0 ni0 ni0 ni0)
        refine wk_call (opg 156 (.call ⟨.value (.func 23), #[.tmp 155], #[42]⟩) 27 16 false) (by kernel_rfl) 23 #[.pointer (some ⟨b_22, 0, none⟩)] (x_call Try.func23 (by kernel_rfl) (c := (Try.f23.body).getD .skip) (by kernel_rfl) (by kernel_rfl) (by kernel_rfl)) (next_r hb_396 (by omega) (fun w_397 sm_398 => ⟨?_, ?_⟩))
        · exact trivial
        have gx_399 := GX.same [] γ_368 sm_398
        have hsz_400 : w_397.heap.size = w_392.heap.size := by rw [sm_398.heap]
        refine wk_pure (opg 157 (.binOp .neq 27 (.tmp 154) (.tmp 156) 27) 4 16 false) (by kernel_rfl) (.bool false) (fun _ => y_neq (k := .u32) (a := l_280.next) (b := l_280.next) (by kernel_rfl) (by kernel_rfl) (decide_eq_false (fun h_ => h_ rfl))) ?_
        refine wpk 158 (.tmp 152) (.const (.bool true)) (.tmp 157) 4 (.bool false) ?_
        refine wpm 159 (.tmp 158) 4 (.bool false) ?_
        refine wk_pure (opg 160 (.move (.tmp 9)) 23 23 false) (by kernel_rfl) (.pointer (some ⟨p_11, 0, none⟩)) (fun _ => y_move (Eq.trans (by kernel_rfl) f_46)) ?_
        have hb_401 := (LkAt.keep (LkAt.keep hb_391 gx_394 ni0 ni0 ni0 ni0) gx_399 ni0 ni0 ni0 ni0)
        refine wk_call (opg 161 (.call ⟨.value (.func 13), #[.tmp 160], #[23]⟩) 3 23 false) (by kernel_rfl) 13 #[.pointer (some ⟨p_11, 0, none⟩)] (x_call Try.func13 (by kernel_rfl) (c := (Try.f13.body).getD .skip) (by kernel_rfl) (by kernel_rfl) (by kernel_rfl)) (ahead_p hb_401 (by omega) (fun w_402 sm_403 => ⟨?_, ?_⟩))
        · exact trivial
        have gx_404 := GX.same [] γ_368 sm_403
        have hsz_405 : w_402.heap.size = w_397.heap.size := by rw [sm_403.heap]
        have hah2_ := (Good.get (by omega) hg hq_284).ahead
        refine wk_pure (opg 162 (.binOp .gtr 3 (.tmp 161) (.const (.int .i64 32)) 3) 4 23 false) (by kernel_rfl) (.bool false) (fun _ => y_gtr (k := .i64) (a := ((l_280.held.length : Nat) : Int)) (b := 32) (by kernel_rfl) (by kernel_rfl) (decide_eq_false (by omega))) ?_
        refine wpk 163 (.tmp 159) (.const (.bool true)) (.tmp 162) 4 (.bool false) ?_
        refine wk_nil ?_
        refine thn_n ?_
        refine g_cond_f (o := .tmp 163) (x := lX6N1_73) (y := lX6N1_74) (by kernel_rfl) (by kernel_rfl) ?_
        refine g_skip (by kernel_rfl) ?_
        refine blk_n ?_
        refine thn_n ?_
        refine g_region (ops := lX6R1_11) (id := 11) (by kernel_rfl) [pu 0, pu 1, pu 2] (by kernel_rfl) (by kernel_rfl) ?_
        refine wpm 59 (.tmp 12) 3 (.int .i64 ((i : Nat) : Int)) ?_ (Eq.trans (by kernel_rfl) f_48)
        refine wk_pure (opd 60 (.binOp .add 3 (.tmp 59) (.const (.int .i64 1)) 3) 3) rfl (.int .i64 ((i + 1 : Nat) : Int)) (fun _ => y_add (k := .i64) (a := ((i : Nat) : Int)) (b := 1) (by kernel_rfl) (by kernel_rfl) (i64_to (by omega) (by omega))) ?_
        refine wpa 12 (.tmp 60) 3 (.int .i64 ((i + 1 : Nat) : Int)) ?_
        refine wk_nil ?_
        refine thn_n ?_
        have hb_406 := (SlG.keep (SlG.keep (SlG.keep (SlG.keep (SlG.keep (SlG.keep (SlG.keep (SlG.keep (SlG.keep (SlG.keep (SlG.keep (SlG.keep (SlG.keep (SlG.keep (SlG.keep (SlG.keep (SlG.keep (SlG.keep (SlG.keep hr_49 gx_63 ni0) gx_69 ni1) gx_80 ni0) gx_86 ni1) gx_96 ni1) gx_102 ni1) gx_108 ni1) gx_293 ni3) gx_322 ni0) gx_335 ni3) gx_361 ni0) gx_369 ni0) gx_374 ni0) gx_379 ni0) gx_384 ni0) gx_389 ni0) gx_394 ni0) gx_399 ni0) gx_404 ni0)
        have hb_407 := (AllA.keep (AllA.keep (AllA.keep (AllA.keep (AllA.keep (AllA.keep (AllA.keep (AllA.keep (AllA.keep (AllA.keep hb_325 gx_335 ni3) gx_361 ni0) gx_369 ni0) gx_374 ni0) gx_379 ni0) gx_384 ni0) gx_389 ni0) gx_394 ni0) gx_399 ni0) gx_404 ni0)
        have hb_408 := (RkAt.keep (RkAt.keep hb_396 gx_399 ni0 ni0 ni0 ni0) gx_404 ni0 ni0 ni0 ni0)
        have hb_409 := (LkAt.keep hb_401 gx_404 ni0 ni0 ni0 ni0)
        exact ⟨_, (by omega), ⟨(i + 1), l_280, _, rfl, by omega, by exact Good.get (by omega) hg hq_284, (Eq.trans (by kernel_rfl) f_42), (Eq.trans (by kernel_rfl) f_43), (Eq.trans (by kernel_rfl) f_44), (Eq.trans (by kernel_rfl) f_45), (Eq.trans (by kernel_rfl) f_46), (Eq.trans (by kernel_rfl) f_47), (by kernel_rfl), hb_406, hb_407, hb_408, hb_409, (GX.then_same (GX.then_same (GX.then_same (GX.then_same (GX.then_same (GX.then_same (GX.then_same (GX.trans (GX.trans (GX.trans (GX.trans (GX.trans (GX.thenNew (GX.thenNew (GX.thenNew (GX.thenNew (GX.then0 (GX.thenNew (GX.then0 hE_40 e_56 hg_61) e_66 (by intro y_ hy_; simp only [List.mem_cons, List.not_mem_nil, or_false] at hy_; omega) (fun _ _ => rfl)) e_73 hg_78) e_83 (by intro y_ hy_; simp only [List.mem_cons, List.not_mem_nil, or_false] at hy_; omega) (fun _ _ => rfl)) e_93 (by intro y_ hy_; simp only [List.mem_cons, List.not_mem_nil, or_false] at hy_; omega) (fun _ _ => rfl)) e_99 (by intro y_ hy_; simp only [List.mem_cons, List.not_mem_nil, or_false] at hy_; omega) (fun _ _ => rfl)) e_105 (by intro y_ hy_; simp only [List.mem_cons, List.not_mem_nil, or_false] at hy_; omega) (fun _ _ => rfl)) gx_293 (by intro c_ hc_; simp only [List.mem_cons, List.not_mem_nil, or_false] at hc_ ⊢; omega)) gx_322 (fun _ h_ => absurd h_ List.not_mem_nil)) gx_335 (by intro c_ hc_; simp only [List.mem_cons, List.not_mem_nil, or_false] at hc_ ⊢; omega)) gx_361 (fun _ h_ => absurd h_ List.not_mem_nil)) gx_369 (fun _ h_ => absurd h_ List.not_mem_nil)) sm_373) sm_378) sm_383) sm_388) sm_393) sm_398) sm_403)⟩⟩
      have hb_410 := (Bk.keep (Bk.keep hk_70 gx_80 ni0) gx_86 ni1)
      refine wk_val (opd 78 (.load 4 (.tmp 77)) 4) rfl (.bool false) (y_boolv (x_load (b := b_54) (off := 1) (by kernel_rfl) (by kernel_rfl) hb_410.1 (by kernel_rfl)) h_90) trivial ?_
      refine wk_nil ?_
      refine thn_n ?_
      refine g_cond_f (o := .tmp 78) (x := lX6N1_58) (y := lX6N1_59) (by kernel_rfl) (by kernel_rfl) ?_
      refine g_skip (by kernel_rfl) ?_
      refine thn_n ?_
      refine g_seq (x := lX6N1_60) (y := lX6N1_61) (by kernel_rfl) ?_
      refine g_region (ops := lX6R1_18) (id := 18) (by kernel_rfl) [pu 0] (by kernel_rfl) (by kernel_rfl) ?_
      refine wpa 15 (.const (.bool false)) 4 (.bool false) ?_
      refine wk_nil ?_
      refine thn_n ?_
      refine g_seq (x := lX6N1_62) (y := lX6N1_63) (by kernel_rfl) ?_
      refine g_seq (x := lX6N1_64) (y := lX6N1_65) (by kernel_rfl) ?_
      refine g_region (ops := lX6R1_19) (id := 19) (by kernel_rfl) [pu 0, lo 1] (by kernel_rfl) (by kernel_rfl) ?_
      refine wpf 85 48 (.tmp 13) 0 b_54 0 0 0 ?_
      refine wpl 86 3 (.tmp 85) (.int .i64 ((L.getD i A0).op)) b_54 0 hb_410.1 ?_
      refine wk_nil ?_
      refine thn_n ?_
      refine g_block (x := lX6N1_66) (id := 2) (by kernel_rfl) ?_
      refine g_seq (x := lX6N1_67) (y := lX6N1_68) (by kernel_rfl) ?_
      refine g_region (ops := lX6R1_23) (id := 23) (by kernel_rfl) [pu 0, pu 1] (by kernel_rfl) (by kernel_rfl) ?_
      by_cases h_411 : (((L.getD i A0).op) : Int) = 0
      · refine wk_pure (opd 116 (.binOp .eql 3 (.tmp 86) (.const (.int .i64 0)) 3) 4) rfl (.bool true) (fun _ => y_eql (k := .i64) (a := ((L.getD i A0).op)) (b := 0) (by kernel_rfl) (by kernel_rfl) (decide_eq_true h_411)) ?_
        refine wpa 115 (.tmp 116) 4 (.bool true) ?_
        refine wk_nil ?_
        refine thn_n ?_
        refine g_cond_t (o := .tmp 115) (x := lX6N1_69) (y := lX6N1_70) (by kernel_rfl) (by kernel_rfl) ?_
        refine g_draw (ops := lX6R1_24) (id := 24) (by kernel_rfl) (fun w w' => GC [10, 11, 20, 21] γ_77 w w') [pu 0, pu 3, (1, .stab), (4, .stab), lo 2, lo 5, lo 6, pu 7, pu 8] (by kernel_rfl) (by kernel_rfl) (fun _ => (GX.refl _ _ _).gc) (fun w_412 sm_413 => ?_)
        have gx_414 := GX.same [] γ_77 sm_413
        have hsz_415 : w_412.heap.size = w_82.heap.size := by rw [sm_413.heap]
        refine wpm 117 (.tmp 9) 23 (.pointer (some ⟨p_11, 0, none⟩)) ?_ (Eq.trans (by kernel_rfl) f_46)
        refine wpm 120 (.tmp 11) 42 (.pointer (some ⟨b_22, 0, none⟩)) ?_ (Eq.trans (by kernel_rfl) f_47)
        refine wk_stab (opd 118 (.load 32 (.tmp 14)) 32) rfl (.agg #[.int .i64 ((L.getD i A0).m.kind), .int .i64 ((L.getD i A0).m.frm), .int .i64 ((L.getD i A0).m.to), .int .u32 ((L.getD i A0).m.view), .int .u32 ((L.getD i A0).m.seq), .slice ((L.getD i A0).m.na) ((L.getD i A0).m.N.length) ((L.getD i A0).m.nc), .slice ((L.getD i A0).m.wa) ((L.getD i A0).m.W.length) ((L.getD i A0).m.wc)]) (fun w'_ g_ => x_load_agg (b := b_71) (off := 0) (n := 7) (by kernel_rfl) (by kernel_rfl) (GC.bk g_ (Bk.keep hk_87 gx_414 ni0) (by decide)) (Nat.le_of_ble_eq_true rfl) (by kernel_rfl)) ?_
        refine wk_stab (opd 121 (.load 32 (.tmp 14)) 32) rfl (.agg #[.int .i64 ((L.getD i A0).m.kind), .int .i64 ((L.getD i A0).m.frm), .int .i64 ((L.getD i A0).m.to), .int .u32 ((L.getD i A0).m.view), .int .u32 ((L.getD i A0).m.seq), .slice ((L.getD i A0).m.na) ((L.getD i A0).m.N.length) ((L.getD i A0).m.nc), .slice ((L.getD i A0).m.wa) ((L.getD i A0).m.W.length) ((L.getD i A0).m.wc)]) (fun w'_ g_ => x_load_agg (b := b_71) (off := 0) (n := 7) (by kernel_rfl) (by kernel_rfl) (GC.bk g_ (Bk.keep hk_87 gx_414 ni0) (by decide)) (Nat.le_of_ble_eq_true rfl) (by kernel_rfl)) ?_
        have hb_417 := (AllA.keep (AllA.keep (AllA.keep (AllA.keep (AllA.keep hr_50 gx_63 ni0) gx_69 ni1) gx_80 ni0) gx_86 ni1) gx_414 ni0)
        have hA_416 := AllA.get hb_417 (by omega : i < L.length); have hA_416_v := hA_416.1.v0; have hA_416_s := hA_416.1.s0; have hA_416_n := hA_416.2
        obtain ⟨l_418, e_419, hq_420⟩ : ∃ l_ e_, pushP s (⟨((L.getD i A0).m.kind), ((L.getD i A0).m.frm), ((L.getD i A0).m.to), ((L.getD i A0).m.view), ((L.getD i A0).m.seq), ((L.getD i A0).m.N), ((L.getD i A0).m.W)⟩ : Msg) = (l_, e_) := ⟨_, _, rfl⟩
        have hk_l_418 := push_keeps hq_420
        have hb_421 := (LkAt.keep (LkAt.keep (LkAt.keep (LkAt.keep (LkAt.keep hr_52 gx_63 ni0 ni0 ni0 ni0) gx_69 ni1 ni1 ni1 ni1) gx_80 ni0 ni0 ni0 ni0) gx_86 ni1 ni1 ni1 ni1) gx_414 ni0 ni0 ni0 ni0)
        refine wkc 119 9 #[.tmp 117, .tmp 118] #[23, 32] 24 #[.pointer (some ⟨p_11, 0, none⟩), .agg #[.int .i64 ((L.getD i A0).m.kind), .int .i64 ((L.getD i A0).m.frm), .int .i64 ((L.getD i A0).m.to), .int .u32 ((L.getD i A0).m.view), .int .u32 ((L.getD i A0).m.seq), .slice ((L.getD i A0).m.na) ((L.getD i A0).m.N.length) ((L.getD i A0).m.nc), .slice ((L.getD i A0).m.wa) ((L.getD i A0).m.W.length) ((L.getD i A0).m.wc)]] Try.func9 (push_q (m := (L.getD i A0).m) hq_420 rfl hb_421 (by omega) (MIn.ok (AllA.get hb_417 (by omega : i < L.length)).1 (by omega) (by omega)) (fun w_422 γ_423 gx_424 hL_425 => ⟨?_, ?_⟩))
        · exact (GX.trans (GX.refl [10, 11, 20, 21] _ _) gx_424 (by intro c_ hc_; simp only [List.mem_cons, List.not_mem_nil, or_false] at hc_ ⊢; omega)).gc
        have hsz_426 := gx_424.size
        have hL_427 : LkAt γ_423 w_422 10 p_11 l_418 := hL_425
        have hb_428 := (AllA.keep hb_417 gx_424 ni2)
        refine wkc 122 17 #[.tmp 121] #[32] 50 #[.agg #[.int .i64 ((L.getD i A0).m.kind), .int .i64 ((L.getD i A0).m.frm), .int .i64 ((L.getD i A0).m.to), .int .u32 ((L.getD i A0).m.view), .int .u32 ((L.getD i A0).m.seq), .slice ((L.getD i A0).m.na) ((L.getD i A0).m.N.length) ((L.getD i A0).m.nc), .slice ((L.getD i A0).m.wa) ((L.getD i A0).m.W.length) ((L.getD i A0).m.wc)]] Try.func17 (mown_c (γ := γ_423) (m := (L.getD i A0).m) (fun w_429 γ_430 gx_431 => ⟨?_, ?_⟩))
        · exact (GX.trans (GX.trans (GX.refl [10, 11, 20, 21] _ _) gx_424 (by intro c_ hc_; simp only [List.mem_cons, List.not_mem_nil, or_false] at hc_ ⊢; omega)) gx_431 (fun _ h_ => absurd h_ List.not_mem_nil)).gc
        have hsz_432 := gx_431.size
        have hb_433 := (AllA.keep hb_428 gx_431 ni0)
        have hb_434 := (RkAt.keep (RkAt.keep (RkAt.keep (RkAt.keep (RkAt.keep (RkAt.keep (RkAt.keep hr_51 gx_63 ni0 ni0 ni0 ni0) gx_69 ni1 ni1 ni1 ni1) gx_80 ni0 ni0 ni0 ni0) gx_86 ni1 ni1 ni1 ni1) gx_414 ni0 ni0 ni0 ni0) gx_424 ni2 ni2 ni2 ni2) gx_431 ni0 ni0 ni0 ni0)
        refine wkc 123 16 #[.tmp 120, .tmp 122] #[42, 50] 24 #[.pointer (some ⟨b_22, 0, none⟩), .agg #[.int .i64 ((L.getD i A0).m.kind), .int .i64 ((L.getD i A0).m.frm), .int .i64 ((L.getD i A0).m.to), .int .u32 ((L.getD i A0).m.view), .int .u32 ((L.getD i A0).m.seq), .slice ((L.getD i A0).m.na) ((L.getD i A0).m.N.length) ((L.getD i A0).m.nc), .slice ((L.getD i A0).m.wa) ((L.getD i A0).m.W.length) ((L.getD i A0).m.wc)]] Try.func16 (push_r (m := (L.getD i A0).m) hq_420 rfl hb_434 (by omega) (MIn.ok (AllA.get hb_433 (by omega : i < L.length)).1 (by omega) (by omega)) hg (by omega) (fun w_435 γ_436 gx_437 hL_438 => ⟨?_, ?_⟩))
        · exact (GX.trans (GX.trans (GX.trans (GX.refl [10, 11, 20, 21] _ _) gx_424 (by intro c_ hc_; simp only [List.mem_cons, List.not_mem_nil, or_false] at hc_ ⊢; omega)) gx_431 (fun _ h_ => absurd h_ List.not_mem_nil)) gx_437 (by intro c_ hc_; simp only [List.mem_cons, List.not_mem_nil, or_false] at hc_ ⊢; omega)).gc
        have hsz_439 := gx_437.size
        have hR_440 : RkAt γ_436 w_435 20 b_22 l_418 := hL_438
        refine wk_pure (opd 124 (.binOp .eql 24 (.tmp 119) (.tmp 123) 24) 4) rfl (.bool true) (fun _ => y_eql (k := .i64) (a := e_419) (b := e_419) (by kernel_rfl) (by kernel_rfl) (decide_eq_true (rfl))) ?_
        refine wpa 15 (.tmp 124) 4 (.bool true) ?_
        refine wk_nil ?_
        refine blk_n ?_
        refine thn_n ?_
        refine g_seq (x := lX6N1_71) (y := lX6N1_72) (by kernel_rfl) ?_
        refine g_region (ops := lX6R1_27) (id := 27) (by kernel_rfl) [pu 0, pu 1, pu 2, pu 3, lo 4, pu 5, lo 6, pu 7, pu 8, pu 9, pu 10, lo 11, pu 12, lo 13, pu 14, pu 15, pu 16, pu 17, lo 18, pu 19, lo 20, pu 21, pu 22, pu 23, pu 24, lo 25, pu 26, pu 27] (by kernel_rfl) (by kernel_rfl) ?_
        refine wpm 136 (.tmp 15) 4 (.bool true) ?_
        refine wk_pure (opd 137 (.unOp .not 4 (.tmp 136)) 4) rfl (.bool false) (fun _ => y_not (p := true) (by kernel_rfl) rfl) ?_
        refine wpm 138 (.tmp 137) 4 (.bool false) ?_
        refine wk_pure (opg 139 (.move (.tmp 9)) 23 2 false) (by kernel_rfl) (.pointer (some ⟨p_11, 0, none⟩)) (fun _ => y_move (Eq.trans (by kernel_rfl) f_46)) ?_
        have hb_441 := (LkAt.keep (LkAt.keep hL_427 gx_431 ni0 ni0 ni0 ni0) gx_437 ni2 ni2 ni2 ni2)
        refine wk_call (opg 140 (.call ⟨.value (.func 12), #[.tmp 139], #[23]⟩) 3 2 false) (by kernel_rfl) 12 #[.pointer (some ⟨p_11, 0, none⟩)] (x_call Try.func12 (by kernel_rfl) (c := (Try.f12.body).getD .skip) (by kernel_rfl) (by kernel_rfl) (by kernel_rfl)) (waiting_p hb_441 (by omega) (fun w_442 sm_443 => ⟨?_, ?_⟩))
        · exact trivial
        have gx_444 := GX.same [] γ_436 sm_443
        have hsz_445 : w_442.heap.size = w_435.heap.size := by rw [sm_443.heap]
        refine wk_pure (opg 141 (.move (.tmp 11)) 42 2 false) (by kernel_rfl) (.pointer (some ⟨b_22, 0, none⟩)) (fun _ => y_move (Eq.trans (by kernel_rfl) f_47)) ?_
        have hb_446 := (RkAt.keep hR_440 gx_444 ni0 ni0 ni0 ni0)
        refine wk_call (opg 142 (.call ⟨.value (.func 21), #[.tmp 141], #[42]⟩) 3 2 false) (by kernel_rfl) 21 #[.pointer (some ⟨b_22, 0, none⟩)] (x_call Try.func21 (by kernel_rfl) (c := (Try.f21.body).getD .skip) (by kernel_rfl) (by kernel_rfl) (by kernel_rfl)) (waiting_r hb_446 (by omega) (fun w_447 sm_448 => ⟨?_, ?_⟩))
        · exact trivial
        have gx_449 := GX.same [] γ_436 sm_448
        have hsz_450 : w_447.heap.size = w_442.heap.size := by rw [sm_448.heap]
        refine wk_pure (opg 143 (.binOp .neq 3 (.tmp 140) (.tmp 142) 3) 4 2 false) (by kernel_rfl) (.bool false) (fun _ => y_neq (k := .i64) (a := ((l_418.out.length : Nat) : Int)) (b := ((l_418.out.length : Nat) : Int)) (by kernel_rfl) (by kernel_rfl) (decide_eq_false (fun h_ => h_ rfl))) ?_
        refine wpk 144 (.tmp 138) (.const (.bool true)) (.tmp 143) 4 (.bool false) ?_
        refine wpm 145 (.tmp 144) 4 (.bool false) ?_
        refine wk_pure (opg 146 (.move (.tmp 9)) 23 9 false) (by kernel_rfl) (.pointer (some ⟨p_11, 0, none⟩)) (fun _ => y_move (Eq.trans (by kernel_rfl) f_46)) ?_
        have hb_451 := (LkAt.keep (LkAt.keep hb_441 gx_444 ni0 ni0 ni0 ni0) gx_449 ni0 ni0 ni0 ni0)
        refine wk_call (opg 147 (.call ⟨.value (.func 13), #[.tmp 146], #[23]⟩) 3 9 false) (by kernel_rfl) 13 #[.pointer (some ⟨p_11, 0, none⟩)] (x_call Try.func13 (by kernel_rfl) (c := (Try.f13.body).getD .skip) (by kernel_rfl) (by kernel_rfl) (by kernel_rfl)) (ahead_p hb_451 (by omega) (fun w_452 sm_453 => ⟨?_, ?_⟩))
        · exact trivial
        have gx_454 := GX.same [] γ_436 sm_453
        have hsz_455 : w_452.heap.size = w_447.heap.size := by rw [sm_453.heap]
        refine wk_pure (opg 148 (.move (.tmp 11)) 42 9 false) (by kernel_rfl) (.pointer (some ⟨b_22, 0, none⟩)) (fun _ => y_move (Eq.trans (by kernel_rfl) f_47)) ?_
        have hb_456 := (RkAt.keep (RkAt.keep hb_446 gx_449 ni0 ni0 ni0 ni0) gx_454 ni0 ni0 ni0 ni0)
        refine wk_call (opg 149 (.call ⟨.value (.func 22), #[.tmp 148], #[42]⟩) 3 9 false) (by kernel_rfl) 22 #[.pointer (some ⟨b_22, 0, none⟩)] (x_call Try.func22 (by kernel_rfl) (c := (Try.f22.body).getD .skip) (by kernel_rfl) (by kernel_rfl) (by kernel_rfl)) (ahead_r hb_456 (by omega) (fun w_457 sm_458 => ⟨?_, ?_⟩))
        · exact trivial
        have gx_459 := GX.same [] γ_436 sm_458
        have hsz_460 : w_457.heap.size = w_452.heap.size := by rw [sm_458.heap]
        refine wk_pure (opg 150 (.binOp .neq 3 (.tmp 147) (.tmp 149) 3) 4 9 false) (by kernel_rfl) (.bool false) (fun _ => y_neq (k := .i64) (a := ((l_418.held.length : Nat) : Int)) (b := ((l_418.held.length : Nat) : Int)) (by kernel_rfl) (by kernel_rfl) (decide_eq_false (fun h_ => h_ rfl))) ?_
        refine wpk 151 (.tmp 145) (.const (.bool true)) (.tmp 150) 4 (.bool false) ?_
        refine wpm 152 (.tmp 151) 4 (.bool false) ?_
        refine wk_pure (opg 153 (.move (.tmp 9)) 23 16 false) (by kernel_rfl) (.pointer (some ⟨p_11, 0, none⟩)) (fun _ => y_move (Eq.trans (by kernel_rfl) f_46)) ?_
        have hb_461 := (LkAt.keep (LkAt.keep hb_451 gx_454 ni0 ni0 ni0 ni0) gx_459 ni0 ni0 ni0 ni0)
        refine wk_call (opg 154 (.call ⟨.value (.func 14), #[.tmp 153], #[23]⟩) 27 16 false) (by kernel_rfl) 14 #[.pointer (some ⟨p_11, 0, none⟩)] (x_call Try.func14 (by kernel_rfl) (c := (Try.f14.body).getD .skip) (by kernel_rfl) (by kernel_rfl) (by kernel_rfl)) (next_p hb_461 (by omega) (fun w_462 sm_463 => ⟨?_, ?_⟩))
        · exact trivial
        have gx_464 := GX.same [] γ_436 sm_463
        have hsz_465 : w_462.heap.size = w_457.heap.size := by rw [sm_463.heap]
        refine wk_pure (opg 155 (.move (.tmp 11)) 42 16 false) (by kernel_rfl) (.pointer (some ⟨b_22, 0, none⟩)) (fun _ => y_move (Eq.trans (by kernel_rfl) f_47)) ?_
        have hb_466 := (RkAt.keep (RkAt.keep hb_456 gx_459 ni0 ni0 ni0 ni0) gx_464 ni0 ni0 ni0 ni0)
        refine wk_call (opg 156 (.call ⟨.value (.func 23), #[.tmp 155], #[42]⟩) 27 16 false) (by kernel_rfl) 23 #[.pointer (some ⟨b_22, 0, none⟩)] (x_call Try.func23 (by kernel_rfl) (c := (Try.f23.body).getD .skip) (by kernel_rfl) (by kernel_rfl) (by kernel_rfl)) (next_r hb_466 (by omega) (fun w_467 sm_468 => ⟨?_, ?_⟩))
        · exact trivial
        have gx_469 := GX.same [] γ_436 sm_468
        have hsz_470 : w_467.heap.size = w_462.heap.size := by rw [sm_468.heap]
        refine wk_pure (opg 157 (.binOp .neq 27 (.tmp 154) (.tmp 156) 27) 4 16 false) (by kernel_rfl) (.bool false) (fun _ => y_neq (k := .u32) (a := l_418.next) (b := l_418.next) (by kernel_rfl) (by kernel_rfl) (decide_eq_false (fun h_ => h_ rfl))) ?_
        refine wpk 158 (.tmp 152) (.const (.bool true)) (.tmp 157) 4 (.bool false) ?_
        refine wpm 159 (.tmp 158) 4 (.bool false) ?_
        refine wk_pure (opg 160 (.move (.tmp 9)) 23 23 false) (by kernel_rfl) (.pointer (some ⟨p_11, 0, none⟩)) (fun _ => y_move (Eq.trans (by kernel_rfl) f_46)) ?_
        have hb_471 := (LkAt.keep (LkAt.keep hb_461 gx_464 ni0 ni0 ni0 ni0) gx_469 ni0 ni0 ni0 ni0)
        refine wk_call (opg 161 (.call ⟨.value (.func 13), #[.tmp 160], #[23]⟩) 3 23 false) (by kernel_rfl) 13 #[.pointer (some ⟨p_11, 0, none⟩)] (x_call Try.func13 (by kernel_rfl) (c := (Try.f13.body).getD .skip) (by kernel_rfl) (by kernel_rfl) (by kernel_rfl)) (ahead_p hb_471 (by omega) (fun w_472 sm_473 => ⟨?_, ?_⟩))
        · exact trivial
        have gx_474 := GX.same [] γ_436 sm_473
        have hsz_475 : w_472.heap.size = w_467.heap.size := by rw [sm_473.heap]
        have hah2_ := (Good.push hg hq_420).ahead
        refine wk_pure (opg 162 (.binOp .gtr 3 (.tmp 161) (.const (.int .i64 32)) 3) 4 23 false) (by kernel_rfl) (.bool false) (fun _ => y_gtr (k := .i64) (a := ((l_418.held.length : Nat) : Int)) (b := 32) (by kernel_rfl) (by kernel_rfl) (decide_eq_false (by omega))) ?_
        refine wpk 163 (.tmp 159) (.const (.bool true)) (.tmp 162) 4 (.bool false) ?_
        refine wk_nil ?_
        refine thn_n ?_
        refine g_cond_f (o := .tmp 163) (x := lX6N1_73) (y := lX6N1_74) (by kernel_rfl) (by kernel_rfl) ?_
        refine g_skip (by kernel_rfl) ?_
        refine blk_n ?_
        refine thn_n ?_
        refine g_region (ops := lX6R1_11) (id := 11) (by kernel_rfl) [pu 0, pu 1, pu 2] (by kernel_rfl) (by kernel_rfl) ?_
        refine wpm 59 (.tmp 12) 3 (.int .i64 ((i : Nat) : Int)) ?_ (Eq.trans (by kernel_rfl) f_48)
        refine wk_pure (opd 60 (.binOp .add 3 (.tmp 59) (.const (.int .i64 1)) 3) 3) rfl (.int .i64 ((i + 1 : Nat) : Int)) (fun _ => y_add (k := .i64) (a := ((i : Nat) : Int)) (b := 1) (by kernel_rfl) (by kernel_rfl) (i64_to (by omega) (by omega))) ?_
        refine wpa 12 (.tmp 60) 3 (.int .i64 ((i + 1 : Nat) : Int)) ?_
        refine wk_nil ?_
        refine thn_n ?_
        have hb_476 := (SlG.keep (SlG.keep (SlG.keep (SlG.keep (SlG.keep (SlG.keep (SlG.keep (SlG.keep (SlG.keep (SlG.keep (SlG.keep (SlG.keep (SlG.keep (SlG.keep (SlG.keep hr_49 gx_63 ni0) gx_69 ni1) gx_80 ni0) gx_86 ni1) gx_414 ni0) gx_424 ni2) gx_431 ni0) gx_437 ni2) gx_444 ni0) gx_449 ni0) gx_454 ni0) gx_459 ni0) gx_464 ni0) gx_469 ni0) gx_474 ni0)
        have hb_477 := (AllA.keep (AllA.keep (AllA.keep (AllA.keep (AllA.keep (AllA.keep (AllA.keep (AllA.keep hb_433 gx_437 ni2) gx_444 ni0) gx_449 ni0) gx_454 ni0) gx_459 ni0) gx_464 ni0) gx_469 ni0) gx_474 ni0)
        have hb_478 := (RkAt.keep (RkAt.keep hb_466 gx_469 ni0 ni0 ni0 ni0) gx_474 ni0 ni0 ni0 ni0)
        have hb_479 := (LkAt.keep hb_471 gx_474 ni0 ni0 ni0 ni0)
        exact ⟨_, (by omega), ⟨(i + 1), l_418, _, rfl, by omega, by exact Good.push hg hq_420, (Eq.trans (by kernel_rfl) f_42), (Eq.trans (by kernel_rfl) f_43), (Eq.trans (by kernel_rfl) f_44), (Eq.trans (by kernel_rfl) f_45), (Eq.trans (by kernel_rfl) f_46), (Eq.trans (by kernel_rfl) f_47), (by kernel_rfl), hb_476, hb_477, hb_478, hb_479, (GX.then_same (GX.then_same (GX.then_same (GX.then_same (GX.then_same (GX.then_same (GX.then_same (GX.trans (GX.trans (GX.trans (GX.then_same (GX.thenNew (GX.then0 (GX.thenNew (GX.then0 hE_40 e_56 hg_61) e_66 (by intro y_ hy_; simp only [List.mem_cons, List.not_mem_nil, or_false] at hy_; omega) (fun _ _ => rfl)) e_73 hg_78) e_83 (by intro y_ hy_; simp only [List.mem_cons, List.not_mem_nil, or_false] at hy_; omega) (fun _ _ => rfl)) sm_413) gx_424 (by intro c_ hc_; simp only [List.mem_cons, List.not_mem_nil, or_false] at hc_ ⊢; omega)) gx_431 (fun _ h_ => absurd h_ List.not_mem_nil)) gx_437 (by intro c_ hc_; simp only [List.mem_cons, List.not_mem_nil, or_false] at hc_ ⊢; omega)) sm_443) sm_448) sm_453) sm_458) sm_463) sm_468) sm_473)⟩⟩
      refine wk_pure (opd 116 (.binOp .eql 3 (.tmp 86) (.const (.int .i64 0)) 3) 4) rfl (.bool false) (fun _ => y_eql (k := .i64) (a := ((L.getD i A0).op)) (b := 0) (by kernel_rfl) (by kernel_rfl) (decide_eq_false h_411)) ?_
      refine wpa 115 (.tmp 116) 4 (.bool false) ?_
      refine wk_nil ?_
      refine thn_n ?_
      refine g_cond_f (o := .tmp 115) (x := lX6N1_69) (y := lX6N1_70) (by kernel_rfl) (by kernel_rfl) ?_
      refine g_seq (x := lX6N1_75) (y := lX6N1_76) (by kernel_rfl) ?_
      refine g_region (ops := lX6R1_25) (id := 25) (by kernel_rfl) [pu 0, pu 1] (by kernel_rfl) (by kernel_rfl) ?_
      by_cases h_480 : (((L.getD i A0).op) : Int) = 1
      · refine wk_pure (opd 126 (.binOp .eql 3 (.tmp 86) (.const (.int .i64 1)) 3) 4) rfl (.bool true) (fun _ => y_eql (k := .i64) (a := ((L.getD i A0).op)) (b := 1) (by kernel_rfl) (by kernel_rfl) (decide_eq_true h_480)) ?_
        refine wpa 125 (.tmp 126) 4 (.bool true) ?_
        refine wk_nil ?_
        refine thn_n ?_
        refine g_cond_t (o := .tmp 125) (x := lX6N1_77) (y := lX6N1_78) (by kernel_rfl) (by kernel_rfl) ?_
        refine g_draw (ops := lX6R1_26) (id := 26) (by kernel_rfl) (fun w w' => GC [10, 11, 20, 21] γ_77 w w') [pu 0, pu 1, pu 4, pu 5, (2, .stab), (6, .stab), lo 3, lo 7, lo 8, pu 9] (by kernel_rfl) (by kernel_rfl) (fun _ => (GX.refl _ _ _).gc) (fun w_481 sm_482 => ?_)
        have gx_483 := GX.same [] γ_77 sm_482
        have hsz_484 : w_481.heap.size = w_82.heap.size := by rw [sm_482.heap]
        refine wpm 127 (.tmp 9) 23 (.pointer (some ⟨p_11, 0, none⟩)) ?_ (Eq.trans (by kernel_rfl) f_46)
        refine wpf 128 48 (.tmp 13) 3 b_54 0 9 9 ?_
        refine wpm 131 (.tmp 11) 42 (.pointer (some ⟨b_22, 0, none⟩)) ?_ (Eq.trans (by kernel_rfl) f_47)
        refine wpf 132 48 (.tmp 13) 3 b_54 0 9 9 ?_
        refine wk_stab (opd 129 (.load 2 (.tmp 128)) 2) rfl (.int .i64 ((L.getD i A0).now)) (fun w'_ g_ => x_load (b := b_54) (off := 9) (by kernel_rfl) (by kernel_rfl) (GC.bk g_ (Bk.keep hb_410 gx_483 ni0) (by decide)) (by kernel_rfl)) ?_
        refine wk_stab (opd 133 (.load 2 (.tmp 132)) 2) rfl (.int .i64 ((L.getD i A0).now)) (fun w'_ g_ => x_load (b := b_54) (off := 9) (by kernel_rfl) (by kernel_rfl) (GC.bk g_ (Bk.keep hb_410 gx_483 ni0) (by decide)) (by kernel_rfl)) ?_
        have hb_486 := (AllA.keep (AllA.keep (AllA.keep (AllA.keep (AllA.keep hr_50 gx_63 ni0) gx_69 ni1) gx_80 ni0) gx_86 ni1) gx_483 ni0)
        have hA_485 := AllA.get hb_486 (by omega : i < L.length); have hA_485_v := hA_485.1.v0; have hA_485_s := hA_485.1.s0; have hA_485_n := hA_485.2
        obtain ⟨l_487, po_488, hq_489⟩ : ∃ l_ e_, tickP s ((L.getD i A0).now) = (l_, e_) := ⟨_, _, rfl⟩
        have hk_l_487 := tick_keeps hq_489
        have hf_l_487 := tick_few hq_489
        have hb_490 := (LkAt.keep (LkAt.keep (LkAt.keep (LkAt.keep (LkAt.keep hr_52 gx_63 ni0 ni0 ni0 ni0) gx_69 ni1 ni1 ni1 ni1) gx_80 ni0 ni0 ni0 ni0) gx_86 ni1 ni1 ni1 ni1) gx_483 ni0 ni0 ni0 ni0)
        refine wkc 130 10 #[.tmp 127, .tmp 129] #[23, 2] 33 #[.pointer (some ⟨p_11, 0, none⟩), .int .i64 ((L.getD i A0).now)] Try.func10 (tick_q (now := ((L.getD i A0).now)) hq_489 hb_490 (by omega) (by omega) (fun w_491 γ_492 v_493 outs_494 gx_495 hM_496 hL_497 ho_498 => ⟨?_, ?_⟩))
        · exact (GX.trans (GX.refl [10, 11, 20, 21] _ _) gx_495 (by intro c_ hc_; simp only [List.mem_cons, List.not_mem_nil, or_false] at hc_ ⊢; omega)).gc
        have hsz_499 := gx_495.size
        have hL_500 : LkAt γ_492 w_491 10 p_11 l_487 := hL_497
        obtain ⟨a_501, b_502, off_503, c_504, ev_507, hs_505, hall_506⟩ := hM_496
        subst ev_507
        have hlen_outs_494 : outs_494.length = po_488.length := by rw [← ho_498, List.length_map]
        have hb_508 := (RkAt.keep (RkAt.keep (RkAt.keep (RkAt.keep (RkAt.keep (RkAt.keep hr_51 gx_63 ni0 ni0 ni0 ni0) gx_69 ni1 ni1 ni1 ni1) gx_80 ni0 ni0 ni0 ni0) gx_86 ni1 ni1 ni1 ni1) gx_483 ni0 ni0 ni0 ni0) gx_495 ni2 ni2 ni2 ni2)
        refine wkc 134 19 #[.tmp 131, .tmp 133] #[42, 2] 44 #[.pointer (some ⟨b_22, 0, none⟩), .int .i64 ((L.getD i A0).now)] Try.func19 (tick_r (now := ((L.getD i A0).now)) hq_489 hb_508 (by omega) (by omega) (fun w_509 γ_510 v_511 outs_512 gx_513 hM_514 hL_515 ho_516 => ⟨?_, ?_⟩))
        · exact (GX.trans (GX.trans (GX.refl [10, 11, 20, 21] _ _) gx_495 (by intro c_ hc_; simp only [List.mem_cons, List.not_mem_nil, or_false] at hc_ ⊢; omega)) gx_513 (by intro c_ hc_; simp only [List.mem_cons, List.not_mem_nil, or_false] at hc_ ⊢; omega)).gc
        have hsz_517 := gx_513.size
        have hR_518 : RkAt γ_510 w_509 20 b_22 l_487 := hL_515
        obtain ⟨a_519, b_520, off_521, c_522, ev_525, hs_523, hall_524⟩ := hM_514
        subst ev_525
        have hlen_outs_512 : outs_512.length = po_488.length := by rw [← ho_516, List.length_map]
        have hb_526 := (SlG.keep hs_505 gx_513 ni2)
        have hb_527 := (AllOk.keep hall_506 gx_513 ni2)
        refine wkc 135 18 #[.tmp 130, .tmp 134] #[33, 44] 4 #[.slice a_501 outs_494.length c_504, .slice a_519 outs_512.length c_522] Try.func18 (all_c hb_526 hs_523 hb_527 hall_524 (by rw [hlen_outs_494]; omega) (decide_eq_true (ho_498.trans ho_516.symm)) (fun w_528 γ_529 gx_530 => ⟨?_, ?_⟩))
        · exact (GX.trans (GX.trans (GX.trans (GX.refl [10, 11, 20, 21] _ _) gx_495 (by intro c_ hc_; simp only [List.mem_cons, List.not_mem_nil, or_false] at hc_ ⊢; omega)) gx_513 (by intro c_ hc_; simp only [List.mem_cons, List.not_mem_nil, or_false] at hc_ ⊢; omega)) gx_530 (fun _ h_ => absurd h_ List.not_mem_nil)).gc
        have hsz_531 := gx_530.size
        refine wpa 15 (.tmp 135) 4 (.bool true) ?_
        refine wk_nil ?_
        refine blk_n ?_
        refine thn_n ?_
        refine g_seq (x := lX6N1_71) (y := lX6N1_72) (by kernel_rfl) ?_
        refine g_region (ops := lX6R1_27) (id := 27) (by kernel_rfl) [pu 0, pu 1, pu 2, pu 3, lo 4, pu 5, lo 6, pu 7, pu 8, pu 9, pu 10, lo 11, pu 12, lo 13, pu 14, pu 15, pu 16, pu 17, lo 18, pu 19, lo 20, pu 21, pu 22, pu 23, pu 24, lo 25, pu 26, pu 27] (by kernel_rfl) (by kernel_rfl) ?_
        refine wpm 136 (.tmp 15) 4 (.bool true) ?_
        refine wk_pure (opd 137 (.unOp .not 4 (.tmp 136)) 4) rfl (.bool false) (fun _ => y_not (p := true) (by kernel_rfl) rfl) ?_
        refine wpm 138 (.tmp 137) 4 (.bool false) ?_
        refine wk_pure (opg 139 (.move (.tmp 9)) 23 2 false) (by kernel_rfl) (.pointer (some ⟨p_11, 0, none⟩)) (fun _ => y_move (Eq.trans (by kernel_rfl) f_46)) ?_
        have hb_532 := (LkAt.keep (LkAt.keep hL_500 gx_513 ni2 ni2 ni2 ni2) gx_530 ni0 ni0 ni0 ni0)
        refine wk_call (opg 140 (.call ⟨.value (.func 12), #[.tmp 139], #[23]⟩) 3 2 false) (by kernel_rfl) 12 #[.pointer (some ⟨p_11, 0, none⟩)] (x_call Try.func12 (by kernel_rfl) (c := (Try.f12.body).getD .skip) (by kernel_rfl) (by kernel_rfl) (by kernel_rfl)) (waiting_p hb_532 (by omega) (fun w_533 sm_534 => ⟨?_, ?_⟩))
        · exact trivial
        have gx_535 := GX.same [] γ_529 sm_534
        have hsz_536 : w_533.heap.size = w_528.heap.size := by rw [sm_534.heap]
        refine wk_pure (opg 141 (.move (.tmp 11)) 42 2 false) (by kernel_rfl) (.pointer (some ⟨b_22, 0, none⟩)) (fun _ => y_move (Eq.trans (by kernel_rfl) f_47)) ?_
        have hb_537 := (RkAt.keep (RkAt.keep hR_518 gx_530 ni0 ni0 ni0 ni0) gx_535 ni0 ni0 ni0 ni0)
        refine wk_call (opg 142 (.call ⟨.value (.func 21), #[.tmp 141], #[42]⟩) 3 2 false) (by kernel_rfl) 21 #[.pointer (some ⟨b_22, 0, none⟩)] (x_call Try.func21 (by kernel_rfl) (c := (Try.f21.body).getD .skip) (by kernel_rfl) (by kernel_rfl) (by kernel_rfl)) (waiting_r hb_537 (by omega) (fun w_538 sm_539 => ⟨?_, ?_⟩))
        · exact trivial
        have gx_540 := GX.same [] γ_529 sm_539
        have hsz_541 : w_538.heap.size = w_533.heap.size := by rw [sm_539.heap]
        refine wk_pure (opg 143 (.binOp .neq 3 (.tmp 140) (.tmp 142) 3) 4 2 false) (by kernel_rfl) (.bool false) (fun _ => y_neq (k := .i64) (a := ((l_487.out.length : Nat) : Int)) (b := ((l_487.out.length : Nat) : Int)) (by kernel_rfl) (by kernel_rfl) (decide_eq_false (fun h_ => h_ rfl))) ?_
        refine wpk 144 (.tmp 138) (.const (.bool true)) (.tmp 143) 4 (.bool false) ?_
        refine wpm 145 (.tmp 144) 4 (.bool false) ?_
        refine wk_pure (opg 146 (.move (.tmp 9)) 23 9 false) (by kernel_rfl) (.pointer (some ⟨p_11, 0, none⟩)) (fun _ => y_move (Eq.trans (by kernel_rfl) f_46)) ?_
        have hb_542 := (LkAt.keep (LkAt.keep hb_532 gx_535 ni0 ni0 ni0 ni0) gx_540 ni0 ni0 ni0 ni0)
        refine wk_call (opg 147 (.call ⟨.value (.func 13), #[.tmp 146], #[23]⟩) 3 9 false) (by kernel_rfl) 13 #[.pointer (some ⟨p_11, 0, none⟩)] (x_call Try.func13 (by kernel_rfl) (c := (Try.f13.body).getD .skip) (by kernel_rfl) (by kernel_rfl) (by kernel_rfl)) (ahead_p hb_542 (by omega) (fun w_543 sm_544 => ⟨?_, ?_⟩))
        · exact trivial
        have gx_545 := GX.same [] γ_529 sm_544
        have hsz_546 : w_543.heap.size = w_538.heap.size := by rw [sm_544.heap]
        refine wk_pure (opg 148 (.move (.tmp 11)) 42 9 false) (by kernel_rfl) (.pointer (some ⟨b_22, 0, none⟩)) (fun _ => y_move (Eq.trans (by kernel_rfl) f_47)) ?_
        have hb_547 := (RkAt.keep (RkAt.keep hb_537 gx_540 ni0 ni0 ni0 ni0) gx_545 ni0 ni0 ni0 ni0)
        refine wk_call (opg 149 (.call ⟨.value (.func 22), #[.tmp 148], #[42]⟩) 3 9 false) (by kernel_rfl) 22 #[.pointer (some ⟨b_22, 0, none⟩)] (x_call Try.func22 (by kernel_rfl) (c := (Try.f22.body).getD .skip) (by kernel_rfl) (by kernel_rfl) (by kernel_rfl)) (ahead_r hb_547 (by omega) (fun w_548 sm_549 => ⟨?_, ?_⟩))
        · exact trivial
        have gx_550 := GX.same [] γ_529 sm_549
        have hsz_551 : w_548.heap.size = w_543.heap.size := by rw [sm_549.heap]
        refine wk_pure (opg 150 (.binOp .neq 3 (.tmp 147) (.tmp 149) 3) 4 9 false) (by kernel_rfl) (.bool false) (fun _ => y_neq (k := .i64) (a := ((l_487.held.length : Nat) : Int)) (b := ((l_487.held.length : Nat) : Int)) (by kernel_rfl) (by kernel_rfl) (decide_eq_false (fun h_ => h_ rfl))) ?_
        refine wpk 151 (.tmp 145) (.const (.bool true)) (.tmp 150) 4 (.bool false) ?_
        refine wpm 152 (.tmp 151) 4 (.bool false) ?_
        refine wk_pure (opg 153 (.move (.tmp 9)) 23 16 false) (by kernel_rfl) (.pointer (some ⟨p_11, 0, none⟩)) (fun _ => y_move (Eq.trans (by kernel_rfl) f_46)) ?_
        have hb_552 := (LkAt.keep (LkAt.keep hb_542 gx_545 ni0 ni0 ni0 ni0) gx_550 ni0 ni0 ni0 ni0)
        refine wk_call (opg 154 (.call ⟨.value (.func 14), #[.tmp 153], #[23]⟩) 27 16 false) (by kernel_rfl) 14 #[.pointer (some ⟨p_11, 0, none⟩)] (x_call Try.func14 (by kernel_rfl) (c := (Try.f14.body).getD .skip) (by kernel_rfl) (by kernel_rfl) (by kernel_rfl)) (next_p hb_552 (by omega) (fun w_553 sm_554 => ⟨?_, ?_⟩))
        · exact trivial
        have gx_555 := GX.same [] γ_529 sm_554
        have hsz_556 : w_553.heap.size = w_548.heap.size := by rw [sm_554.heap]
        refine wk_pure (opg 155 (.move (.tmp 11)) 42 16 false) (by kernel_rfl) (.pointer (some ⟨b_22, 0, none⟩)) (fun _ => y_move (Eq.trans (by kernel_rfl) f_47)) ?_
        have hb_557 := (RkAt.keep (RkAt.keep hb_547 gx_550 ni0 ni0 ni0 ni0) gx_555 ni0 ni0 ni0 ni0)
        refine wk_call (opg 156 (.call ⟨.value (.func 23), #[.tmp 155], #[42]⟩) 27 16 false) (by kernel_rfl) 23 #[.pointer (some ⟨b_22, 0, none⟩)] (x_call Try.func23 (by kernel_rfl) (c := (Try.f23.body).getD .skip) (by kernel_rfl) (by kernel_rfl) (by kernel_rfl)) (next_r hb_557 (by omega) (fun w_558 sm_559 => ⟨?_, ?_⟩))
        · exact trivial
        have gx_560 := GX.same [] γ_529 sm_559
        have hsz_561 : w_558.heap.size = w_553.heap.size := by rw [sm_559.heap]
        refine wk_pure (opg 157 (.binOp .neq 27 (.tmp 154) (.tmp 156) 27) 4 16 false) (by kernel_rfl) (.bool false) (fun _ => y_neq (k := .u32) (a := l_487.next) (b := l_487.next) (by kernel_rfl) (by kernel_rfl) (decide_eq_false (fun h_ => h_ rfl))) ?_
        refine wpk 158 (.tmp 152) (.const (.bool true)) (.tmp 157) 4 (.bool false) ?_
        refine wpm 159 (.tmp 158) 4 (.bool false) ?_
        refine wk_pure (opg 160 (.move (.tmp 9)) 23 23 false) (by kernel_rfl) (.pointer (some ⟨p_11, 0, none⟩)) (fun _ => y_move (Eq.trans (by kernel_rfl) f_46)) ?_
        have hb_562 := (LkAt.keep (LkAt.keep hb_552 gx_555 ni0 ni0 ni0 ni0) gx_560 ni0 ni0 ni0 ni0)
        refine wk_call (opg 161 (.call ⟨.value (.func 13), #[.tmp 160], #[23]⟩) 3 23 false) (by kernel_rfl) 13 #[.pointer (some ⟨p_11, 0, none⟩)] (x_call Try.func13 (by kernel_rfl) (c := (Try.f13.body).getD .skip) (by kernel_rfl) (by kernel_rfl) (by kernel_rfl)) (ahead_p hb_562 (by omega) (fun w_563 sm_564 => ⟨?_, ?_⟩))
        · exact trivial
        have gx_565 := GX.same [] γ_529 sm_564
        have hsz_566 : w_563.heap.size = w_558.heap.size := by rw [sm_564.heap]
        have hah2_ := (Good.tick hg hq_489).ahead
        refine wk_pure (opg 162 (.binOp .gtr 3 (.tmp 161) (.const (.int .i64 32)) 3) 4 23 false) (by kernel_rfl) (.bool false) (fun _ => y_gtr (k := .i64) (a := ((l_487.held.length : Nat) : Int)) (b := 32) (by kernel_rfl) (by kernel_rfl) (decide_eq_false (by omega))) ?_
        refine wpk 163 (.tmp 159) (.const (.bool true)) (.tmp 162) 4 (.bool false) ?_
        refine wk_nil ?_
        refine thn_n ?_
        refine g_cond_f (o := .tmp 163) (x := lX6N1_73) (y := lX6N1_74) (by kernel_rfl) (by kernel_rfl) ?_
        refine g_skip (by kernel_rfl) ?_
        refine blk_n ?_
        refine thn_n ?_
        refine g_region (ops := lX6R1_11) (id := 11) (by kernel_rfl) [pu 0, pu 1, pu 2] (by kernel_rfl) (by kernel_rfl) ?_
        refine wpm 59 (.tmp 12) 3 (.int .i64 ((i : Nat) : Int)) ?_ (Eq.trans (by kernel_rfl) f_48)
        refine wk_pure (opd 60 (.binOp .add 3 (.tmp 59) (.const (.int .i64 1)) 3) 3) rfl (.int .i64 ((i + 1 : Nat) : Int)) (fun _ => y_add (k := .i64) (a := ((i : Nat) : Int)) (b := 1) (by kernel_rfl) (by kernel_rfl) (i64_to (by omega) (by omega))) ?_
        refine wpa 12 (.tmp 60) 3 (.int .i64 ((i + 1 : Nat) : Int)) ?_
        refine wk_nil ?_
        refine thn_n ?_
        have hb_567 := (SlG.keep (SlG.keep (SlG.keep (SlG.keep (SlG.keep (SlG.keep (SlG.keep (SlG.keep (SlG.keep (SlG.keep (SlG.keep (SlG.keep (SlG.keep (SlG.keep (SlG.keep hr_49 gx_63 ni0) gx_69 ni1) gx_80 ni0) gx_86 ni1) gx_483 ni0) gx_495 ni2) gx_513 ni2) gx_530 ni0) gx_535 ni0) gx_540 ni0) gx_545 ni0) gx_550 ni0) gx_555 ni0) gx_560 ni0) gx_565 ni0)
        have hb_568 := (AllA.keep (AllA.keep (AllA.keep (AllA.keep (AllA.keep (AllA.keep (AllA.keep (AllA.keep (AllA.keep (AllA.keep hb_486 gx_495 ni2) gx_513 ni2) gx_530 ni0) gx_535 ni0) gx_540 ni0) gx_545 ni0) gx_550 ni0) gx_555 ni0) gx_560 ni0) gx_565 ni0)
        have hb_569 := (RkAt.keep (RkAt.keep hb_557 gx_560 ni0 ni0 ni0 ni0) gx_565 ni0 ni0 ni0 ni0)
        have hb_570 := (LkAt.keep hb_562 gx_565 ni0 ni0 ni0 ni0)
        exact ⟨_, (by omega), ⟨(i + 1), l_487, _, rfl, by omega, by exact Good.tick hg hq_489, (Eq.trans (by kernel_rfl) f_42), (Eq.trans (by kernel_rfl) f_43), (Eq.trans (by kernel_rfl) f_44), (Eq.trans (by kernel_rfl) f_45), (Eq.trans (by kernel_rfl) f_46), (Eq.trans (by kernel_rfl) f_47), (by kernel_rfl), hb_567, hb_568, hb_569, hb_570, (GX.then_same (GX.then_same (GX.then_same (GX.then_same (GX.then_same (GX.then_same (GX.then_same (GX.trans (GX.trans (GX.trans (GX.then_same (GX.thenNew (GX.then0 (GX.thenNew (GX.then0 hE_40 e_56 hg_61) e_66 (by intro y_ hy_; simp only [List.mem_cons, List.not_mem_nil, or_false] at hy_; omega) (fun _ _ => rfl)) e_73 hg_78) e_83 (by intro y_ hy_; simp only [List.mem_cons, List.not_mem_nil, or_false] at hy_; omega) (fun _ _ => rfl)) sm_482) gx_495 (by intro c_ hc_; simp only [List.mem_cons, List.not_mem_nil, or_false] at hc_ ⊢; omega)) gx_513 (by intro c_ hc_; simp only [List.mem_cons, List.not_mem_nil, or_false] at hc_ ⊢; omega)) gx_530 (fun _ h_ => absurd h_ List.not_mem_nil)) sm_534) sm_539) sm_544) sm_549) sm_554) sm_559) sm_564)⟩⟩
      refine wk_pure (opd 126 (.binOp .eql 3 (.tmp 86) (.const (.int .i64 1)) 3) 4) rfl (.bool false) (fun _ => y_eql (k := .i64) (a := ((L.getD i A0).op)) (b := 1) (by kernel_rfl) (by kernel_rfl) (decide_eq_false h_480)) ?_
      refine wpa 125 (.tmp 126) 4 (.bool false) ?_
      refine wk_nil ?_
      refine thn_n ?_
      refine g_cond_f (o := .tmp 125) (x := lX6N1_77) (y := lX6N1_78) (by kernel_rfl) (by kernel_rfl) ?_
      refine g_seq (x := lX6N1_79) (y := lX6N1_80) (by kernel_rfl) ?_
      refine g_region (ops := lX6R1_20) (id := 20) (by kernel_rfl) [pu 0, lo 1, lo 2, pu 3, pu 4, pu 5, pu 6, pu 7, pu 8, pu 9] (by kernel_rfl) (by kernel_rfl) ?_
      refine wpm 88 (.tmp 9) 23 (.pointer (some ⟨p_11, 0, none⟩)) ?_ (Eq.trans (by kernel_rfl) f_46)
      refine wk_val (opd 89 (.load 32 (.tmp 14)) 32) rfl (.agg #[.int .i64 ((L.getD i A0).m.kind), .int .i64 ((L.getD i A0).m.frm), .int .i64 ((L.getD i A0).m.to), .int .u32 ((L.getD i A0).m.view), .int .u32 ((L.getD i A0).m.seq), .slice ((L.getD i A0).m.na) ((L.getD i A0).m.N.length) ((L.getD i A0).m.nc), .slice ((L.getD i A0).m.wa) ((L.getD i A0).m.W.length) ((L.getD i A0).m.wc)]) (x_load_agg (b := b_71) (off := 0) (n := 7) (by kernel_rfl) (by kernel_rfl) hk_87.1 (Nat.le_of_ble_eq_true rfl) (by kernel_rfl)) trivial ?_
      have hb_572 := (AllA.keep (AllA.keep (AllA.keep (AllA.keep hr_50 gx_63 ni0) gx_69 ni1) gx_80 ni0) gx_86 ni1)
      have hA_571 := AllA.get hb_572 (by omega : i < L.length); have hA_571_v := hA_571.1.v0; have hA_571_s := hA_571.1.s0; have hA_571_n := hA_571.2
      obtain ⟨l_573, po_574, pa_575, e_576, hq_577⟩ : ∃ l_ o_ a_ e_, getP s (⟨((L.getD i A0).m.kind), ((L.getD i A0).m.frm), ((L.getD i A0).m.to), ((L.getD i A0).m.view), ((L.getD i A0).m.seq), ((L.getD i A0).m.N), ((L.getD i A0).m.W)⟩ : Msg) = (l_, o_, a_, e_) := ⟨_, _, _, _, rfl⟩
      have hk_l_573 := get_keeps hq_577
      have hah_ := hg.ahead
      have hf_l_573 := get_few hq_577
      have hb_578 := (LkAt.keep (LkAt.keep (LkAt.keep (LkAt.keep hr_52 gx_63 ni0 ni0 ni0 ni0) gx_69 ni1 ni1 ni1 ni1) gx_80 ni0 ni0 ni0 ni0) gx_86 ni1 ni1 ni1 ni1)
      refine wkc 90 11 #[.tmp 88, .tmp 89] #[23, 32] 35 #[.pointer (some ⟨p_11, 0, none⟩), .agg #[.int .i64 ((L.getD i A0).m.kind), .int .i64 ((L.getD i A0).m.frm), .int .i64 ((L.getD i A0).m.to), .int .u32 ((L.getD i A0).m.view), .int .u32 ((L.getD i A0).m.seq), .slice ((L.getD i A0).m.na) ((L.getD i A0).m.N.length) ((L.getD i A0).m.nc), .slice ((L.getD i A0).m.wa) ((L.getD i A0).m.W.length) ((L.getD i A0).m.wc)]] Try.func11 (get_q (m := (L.getD i A0).m) hq_577 rfl hb_578 (by omega) (MIn.ok (AllA.get hb_572 (by omega : i < L.length)).1 (by omega) (by omega)) (by omega) (fun w_579 γ_580 v_581 v_582 outs_583 outs_584 gx_585 hM_586 hM_587 hL_588 ho_589 ho_590 => ⟨?_, ?_⟩))
      · exact trivial
      have hsz_591 := gx_585.size
      have hL_592 : LkAt γ_580 w_579 10 p_11 l_573 := hL_588
      obtain ⟨a_593, b_594, off_595, c_596, ev_599, hs_597, hall_598⟩ := hM_586
      subst ev_599
      have hlen_outs_583 : outs_583.length = po_574.length := by rw [← ho_589, List.length_map]
      obtain ⟨a_600, b_601, off_602, c_603, ev_606, hs_604, hall_605⟩ := hM_587
      subst ev_606
      have hlen_outs_584 : outs_584.length = pa_575.length := by rw [← ho_590, List.length_map]
      refine wpm 87 (.tmp 90) 35 (.tuple #[.slice a_593 outs_583.length c_596, .slice a_600 outs_584.length c_603, .int .i64 e_576]) ?_
      refine wk_pure (opd 91 (.extract (.tmp 87) 0) 33) rfl (.slice a_593 outs_583.length c_596) (fun _ => x_extract (vs := #[.slice a_593 outs_583.length c_596, .slice a_600 outs_584.length c_603, .int .i64 e_576]) (by kernel_rfl) (by kernel_rfl)) ?_
      refine wk_pure (opd 92 (.extract (.tmp 87) 1) 33) rfl (.slice a_600 outs_584.length c_603) (fun _ => x_extract (vs := #[.slice a_593 outs_583.length c_596, .slice a_600 outs_584.length c_603, .int .i64 e_576]) (by kernel_rfl) (by kernel_rfl)) ?_
      refine wk_pure (opd 93 (.extract (.tmp 87) 2) 24) rfl (.int .i64 e_576) (fun _ => x_extract (vs := #[.slice a_593 outs_583.length c_596, .slice a_600 outs_584.length c_603, .int .i64 e_576]) (by kernel_rfl) (by kernel_rfl)) ?_
      refine wpa 16 (.tmp 91) 33 (.slice a_593 outs_583.length c_596) ?_
      refine wpa 17 (.tmp 92) 33 (.slice a_600 outs_584.length c_603) ?_
      refine wpa 18 (.tmp 93) 24 (.int .i64 e_576) ?_
      refine wk_nil ?_
      refine thn_n ?_
      refine g_seq (x := lX6N1_81) (y := lX6N1_82) (by kernel_rfl) ?_
      refine g_region (ops := lX6R1_21) (id := 21) (by kernel_rfl) [pu 0, lo 1, lo 2, lo 3, pu 4, pu 5, pu 6, pu 7, pu 8, pu 9, pu 10] (by kernel_rfl) (by kernel_rfl) ?_
      refine wpm 95 (.tmp 11) 42 (.pointer (some ⟨b_22, 0, none⟩)) ?_ (Eq.trans (by kernel_rfl) f_47)
      have hb_607 := (Bk.keep hk_87 gx_585 ni3)
      refine wk_val (opd 96 (.load 32 (.tmp 14)) 32) rfl (.agg #[.int .i64 ((L.getD i A0).m.kind), .int .i64 ((L.getD i A0).m.frm), .int .i64 ((L.getD i A0).m.to), .int .u32 ((L.getD i A0).m.view), .int .u32 ((L.getD i A0).m.seq), .slice ((L.getD i A0).m.na) ((L.getD i A0).m.N.length) ((L.getD i A0).m.nc), .slice ((L.getD i A0).m.wa) ((L.getD i A0).m.W.length) ((L.getD i A0).m.wc)]) (x_load_agg (b := b_71) (off := 0) (n := 7) (by kernel_rfl) (by kernel_rfl) hb_607.1 (Nat.le_of_ble_eq_true rfl) (by kernel_rfl)) trivial ?_
      have hb_608 := (AllA.keep hb_572 gx_585 ni3)
      refine wkc 97 17 #[.tmp 96] #[32] 50 #[.agg #[.int .i64 ((L.getD i A0).m.kind), .int .i64 ((L.getD i A0).m.frm), .int .i64 ((L.getD i A0).m.to), .int .u32 ((L.getD i A0).m.view), .int .u32 ((L.getD i A0).m.seq), .slice ((L.getD i A0).m.na) ((L.getD i A0).m.N.length) ((L.getD i A0).m.nc), .slice ((L.getD i A0).m.wa) ((L.getD i A0).m.W.length) ((L.getD i A0).m.wc)]] Try.func17 (mown_c (γ := γ_580) (m := (L.getD i A0).m) (fun w_609 γ_610 gx_611 => ⟨?_, ?_⟩))
      · exact trivial
      have hsz_612 := gx_611.size
      have hb_613 := (AllA.keep hb_608 gx_611 ni0)
      have hb_614 := (RkAt.keep (RkAt.keep (RkAt.keep (RkAt.keep (RkAt.keep (RkAt.keep hr_51 gx_63 ni0 ni0 ni0 ni0) gx_69 ni1 ni1 ni1 ni1) gx_80 ni0 ni0 ni0 ni0) gx_86 ni1 ni1 ni1 ni1) gx_585 ni3 ni3 ni3 ni3) gx_611 ni0 ni0 ni0 ni0)
      refine wkc 98 20 #[.tmp 95, .tmp 97] #[42, 50] 54 #[.pointer (some ⟨b_22, 0, none⟩), .agg #[.int .i64 ((L.getD i A0).m.kind), .int .i64 ((L.getD i A0).m.frm), .int .i64 ((L.getD i A0).m.to), .int .u32 ((L.getD i A0).m.view), .int .u32 ((L.getD i A0).m.seq), .slice ((L.getD i A0).m.na) ((L.getD i A0).m.N.length) ((L.getD i A0).m.nc), .slice ((L.getD i A0).m.wa) ((L.getD i A0).m.W.length) ((L.getD i A0).m.wc)]] Try.func20 (get_r (m := (L.getD i A0).m) hq_577 rfl hb_614 (by omega) (MIn.ok (AllA.get hb_613 (by omega : i < L.length)).1 (by omega) (by omega)) hg (by omega) (fun w_615 γ_616 v_617 v_618 outs_619 outs_620 gx_621 hM_622 hM_623 hL_624 ho_625 ho_626 => ⟨?_, ?_⟩))
      · exact trivial
      have hsz_627 := gx_621.size
      have hR_628 : RkAt γ_616 w_615 20 b_22 l_573 := hL_624
      obtain ⟨a_629, b_630, off_631, c_632, ev_635, hs_633, hall_634⟩ := hM_622
      subst ev_635
      have hlen_outs_619 : outs_619.length = po_574.length := by rw [← ho_625, List.length_map]
      obtain ⟨a_636, b_637, off_638, c_639, ev_642, hs_640, hall_641⟩ := hM_623
      subst ev_642
      have hlen_outs_620 : outs_620.length = pa_575.length := by rw [← ho_626, List.length_map]
      refine wpm 94 (.tmp 98) 54 (.tuple #[.slice a_629 outs_619.length c_632, .slice a_636 outs_620.length c_639, .int .i64 e_576]) ?_
      refine wk_pure (opd 99 (.extract (.tmp 94) 0) 44) rfl (.slice a_629 outs_619.length c_632) (fun _ => x_extract (vs := #[.slice a_629 outs_619.length c_632, .slice a_636 outs_620.length c_639, .int .i64 e_576]) (by kernel_rfl) (by kernel_rfl)) ?_
      refine wk_pure (opd 100 (.extract (.tmp 94) 1) 44) rfl (.slice a_636 outs_620.length c_639) (fun _ => x_extract (vs := #[.slice a_629 outs_619.length c_632, .slice a_636 outs_620.length c_639, .int .i64 e_576]) (by kernel_rfl) (by kernel_rfl)) ?_
      refine wk_pure (opd 101 (.extract (.tmp 94) 2) 24) rfl (.int .i64 e_576) (fun _ => x_extract (vs := #[.slice a_629 outs_619.length c_632, .slice a_636 outs_620.length c_639, .int .i64 e_576]) (by kernel_rfl) (by kernel_rfl)) ?_
      refine wpa 19 (.tmp 99) 44 (.slice a_629 outs_619.length c_632) ?_
      refine wpa 20 (.tmp 100) 44 (.slice a_636 outs_620.length c_639) ?_
      refine wpa 21 (.tmp 101) 24 (.int .i64 e_576) ?_
      refine wk_nil ?_
      refine thn_n ?_
      refine g_region (ops := lX6R1_22) (id := 22) (by kernel_rfl) [pu 0, pu 1, pu 2, pu 3, pu 4, pu 5, lo 6, pu 7, pu 8, pu 9, pu 10, lo 11, pu 12, pu 13] (by kernel_rfl) (by kernel_rfl) ?_
      refine wpm 102 (.tmp 18) 24 (.int .i64 e_576) ?_
      refine wpm 103 (.tmp 21) 24 (.int .i64 e_576) ?_
      refine wk_pure (opd 104 (.binOp .eql 24 (.tmp 102) (.tmp 103) 24) 4) rfl (.bool true) (fun _ => y_eql (k := .i64) (a := e_576) (b := e_576) (by kernel_rfl) (by kernel_rfl) (decide_eq_true (rfl))) ?_
      refine wpm 105 (.tmp 104) 4 (.bool true) ?_
      refine wk_pure (opg 106 (.move (.tmp 16)) 33 3 true) (by kernel_rfl) (.slice a_593 outs_583.length c_596) (fun _ => y_move (by kernel_rfl)) ?_
      refine wk_pure (opg 107 (.move (.tmp 19)) 44 3 true) (by kernel_rfl) (.slice a_629 outs_619.length c_632) (fun _ => y_move (by kernel_rfl)) ?_
      have hb_643 := (SlG.keep (SlG.keep hs_597 gx_611 ni0) gx_621 ni3)
      have hb_644 := (AllOk.keep (AllOk.keep hall_598 gx_611 ni0) gx_621 ni3)
      refine wk_call (opg 108 (.call ⟨.value (.func 18), #[.tmp 106, .tmp 107], #[33, 44]⟩) 4 3 true) (by kernel_rfl) 18 #[.slice a_593 outs_583.length c_596, .slice a_629 outs_619.length c_632] (x_call Try.func18 (by kernel_rfl) (c := (Try.f18.body).getD .skip) (by kernel_rfl) (by kernel_rfl) (by kernel_rfl)) (all_c hb_643 hs_633 hb_644 hall_634 (by rw [hlen_outs_583]; omega) (decide_eq_true (ho_589.trans ho_625.symm)) (fun w_645 γ_646 gx_647 => ⟨?_, ?_⟩))
      · exact trivial
      have hsz_648 := gx_647.size
      refine wpt 109 (.tmp 105) (.tmp 108) (.const (.bool false)) 4 (.bool true) ?_
      refine wpm 110 (.tmp 109) 4 (.bool true) ?_
      refine wk_pure (opg 111 (.move (.tmp 17)) 33 8 true) (by kernel_rfl) (.slice a_600 outs_584.length c_603) (fun _ => y_move (by kernel_rfl)) ?_
      refine wk_pure (opg 112 (.move (.tmp 20)) 44 8 true) (by kernel_rfl) (.slice a_636 outs_620.length c_639) (fun _ => y_move (by kernel_rfl)) ?_
      have hb_649 := (SlG.keep (SlG.keep (SlG.keep hs_604 gx_611 ni0) gx_621 ni3) gx_647 ni0)
      have hb_650 := (SlG.keep hs_640 gx_647 ni0)
      have hb_651 := (AllOk.keep (AllOk.keep (AllOk.keep hall_605 gx_611 ni0) gx_621 ni3) gx_647 ni0)
      have hb_652 := (AllOk.keep hall_641 gx_647 ni0)
      refine wk_call (opg 113 (.call ⟨.value (.func 18), #[.tmp 111, .tmp 112], #[33, 44]⟩) 4 8 true) (by kernel_rfl) 18 #[.slice a_600 outs_584.length c_603, .slice a_636 outs_620.length c_639] (x_call Try.func18 (by kernel_rfl) (c := (Try.f18.body).getD .skip) (by kernel_rfl) (by kernel_rfl) (by kernel_rfl)) (all_c hb_649 hb_650 hb_651 hb_652 (by rw [hlen_outs_584]; omega) (decide_eq_true (ho_590.trans ho_626.symm)) (fun w_653 γ_654 gx_655 => ⟨?_, ?_⟩))
      · exact trivial
      have hsz_656 := gx_655.size
      refine wpt 114 (.tmp 110) (.tmp 113) (.const (.bool false)) 4 (.bool true) ?_
      refine wpa 15 (.tmp 114) 4 (.bool true) ?_
      refine wk_nil ?_
      refine blk_n ?_
      refine thn_n ?_
      refine g_seq (x := lX6N1_71) (y := lX6N1_72) (by kernel_rfl) ?_
      refine g_region (ops := lX6R1_27) (id := 27) (by kernel_rfl) [pu 0, pu 1, pu 2, pu 3, lo 4, pu 5, lo 6, pu 7, pu 8, pu 9, pu 10, lo 11, pu 12, lo 13, pu 14, pu 15, pu 16, pu 17, lo 18, pu 19, lo 20, pu 21, pu 22, pu 23, pu 24, lo 25, pu 26, pu 27] (by kernel_rfl) (by kernel_rfl) ?_
      refine wpm 136 (.tmp 15) 4 (.bool true) ?_
      refine wk_pure (opd 137 (.unOp .not 4 (.tmp 136)) 4) rfl (.bool false) (fun _ => y_not (p := true) (by kernel_rfl) rfl) ?_
      refine wpm 138 (.tmp 137) 4 (.bool false) ?_
      refine wk_pure (opg 139 (.move (.tmp 9)) 23 2 false) (by kernel_rfl) (.pointer (some ⟨p_11, 0, none⟩)) (fun _ => y_move (Eq.trans (by kernel_rfl) f_46)) ?_
      have hb_657 := (LkAt.keep (LkAt.keep (LkAt.keep (LkAt.keep hL_592 gx_611 ni0 ni0 ni0 ni0) gx_621 ni3 ni3 ni3 ni3) gx_647 ni0 ni0 ni0 ni0) gx_655 ni0 ni0 ni0 ni0)
      refine wk_call (opg 140 (.call ⟨.value (.func 12), #[.tmp 139], #[23]⟩) 3 2 false) (by kernel_rfl) 12 #[.pointer (some ⟨p_11, 0, none⟩)] (x_call Try.func12 (by kernel_rfl) (c := (Try.f12.body).getD .skip) (by kernel_rfl) (by kernel_rfl) (by kernel_rfl)) (waiting_p hb_657 (by omega) (fun w_658 sm_659 => ⟨?_, ?_⟩))
      · exact trivial
      have gx_660 := GX.same [] γ_654 sm_659
      have hsz_661 : w_658.heap.size = w_653.heap.size := by rw [sm_659.heap]
      refine wk_pure (opg 141 (.move (.tmp 11)) 42 2 false) (by kernel_rfl) (.pointer (some ⟨b_22, 0, none⟩)) (fun _ => y_move (Eq.trans (by kernel_rfl) f_47)) ?_
      have hb_662 := (RkAt.keep (RkAt.keep (RkAt.keep hR_628 gx_647 ni0 ni0 ni0 ni0) gx_655 ni0 ni0 ni0 ni0) gx_660 ni0 ni0 ni0 ni0)
      refine wk_call (opg 142 (.call ⟨.value (.func 21), #[.tmp 141], #[42]⟩) 3 2 false) (by kernel_rfl) 21 #[.pointer (some ⟨b_22, 0, none⟩)] (x_call Try.func21 (by kernel_rfl) (c := (Try.f21.body).getD .skip) (by kernel_rfl) (by kernel_rfl) (by kernel_rfl)) (waiting_r hb_662 (by omega) (fun w_663 sm_664 => ⟨?_, ?_⟩))
      · exact trivial
      have gx_665 := GX.same [] γ_654 sm_664
      have hsz_666 : w_663.heap.size = w_658.heap.size := by rw [sm_664.heap]
      refine wk_pure (opg 143 (.binOp .neq 3 (.tmp 140) (.tmp 142) 3) 4 2 false) (by kernel_rfl) (.bool false) (fun _ => y_neq (k := .i64) (a := ((l_573.out.length : Nat) : Int)) (b := ((l_573.out.length : Nat) : Int)) (by kernel_rfl) (by kernel_rfl) (decide_eq_false (fun h_ => h_ rfl))) ?_
      refine wpk 144 (.tmp 138) (.const (.bool true)) (.tmp 143) 4 (.bool false) ?_
      refine wpm 145 (.tmp 144) 4 (.bool false) ?_
      refine wk_pure (opg 146 (.move (.tmp 9)) 23 9 false) (by kernel_rfl) (.pointer (some ⟨p_11, 0, none⟩)) (fun _ => y_move (Eq.trans (by kernel_rfl) f_46)) ?_
      have hb_667 := (LkAt.keep (LkAt.keep hb_657 gx_660 ni0 ni0 ni0 ni0) gx_665 ni0 ni0 ni0 ni0)
      refine wk_call (opg 147 (.call ⟨.value (.func 13), #[.tmp 146], #[23]⟩) 3 9 false) (by kernel_rfl) 13 #[.pointer (some ⟨p_11, 0, none⟩)] (x_call Try.func13 (by kernel_rfl) (c := (Try.f13.body).getD .skip) (by kernel_rfl) (by kernel_rfl) (by kernel_rfl)) (ahead_p hb_667 (by omega) (fun w_668 sm_669 => ⟨?_, ?_⟩))
      · exact trivial
      have gx_670 := GX.same [] γ_654 sm_669
      have hsz_671 : w_668.heap.size = w_663.heap.size := by rw [sm_669.heap]
      refine wk_pure (opg 148 (.move (.tmp 11)) 42 9 false) (by kernel_rfl) (.pointer (some ⟨b_22, 0, none⟩)) (fun _ => y_move (Eq.trans (by kernel_rfl) f_47)) ?_
      have hb_672 := (RkAt.keep (RkAt.keep hb_662 gx_665 ni0 ni0 ni0 ni0) gx_670 ni0 ni0 ni0 ni0)
      refine wk_call (opg 149 (.call ⟨.value (.func 22), #[.tmp 148], #[42]⟩) 3 9 false) (by kernel_rfl) 22 #[.pointer (some ⟨b_22, 0, none⟩)] (x_call Try.func22 (by kernel_rfl) (c := (Try.f22.body).getD .skip) (by kernel_rfl) (by kernel_rfl) (by kernel_rfl)) (ahead_r hb_672 (by omega) (fun w_673 sm_674 => ⟨?_, ?_⟩))
      · exact trivial
      have gx_675 := GX.same [] γ_654 sm_674
      have hsz_676 : w_673.heap.size = w_668.heap.size := by rw [sm_674.heap]
      refine wk_pure (opg 150 (.binOp .neq 3 (.tmp 147) (.tmp 149) 3) 4 9 false) (by kernel_rfl) (.bool false) (fun _ => y_neq (k := .i64) (a := ((l_573.held.length : Nat) : Int)) (b := ((l_573.held.length : Nat) : Int)) (by kernel_rfl) (by kernel_rfl) (decide_eq_false (fun h_ => h_ rfl))) ?_
      refine wpk 151 (.tmp 145) (.const (.bool true)) (.tmp 150) 4 (.bool false) ?_
      refine wpm 152 (.tmp 151) 4 (.bool false) ?_
      refine wk_pure (opg 153 (.move (.tmp 9)) 23 16 false) (by kernel_rfl) (.pointer (some ⟨p_11, 0, none⟩)) (fun _ => y_move (Eq.trans (by kernel_rfl) f_46)) ?_
      have hb_677 := (LkAt.keep (LkAt.keep hb_667 gx_670 ni0 ni0 ni0 ni0) gx_675 ni0 ni0 ni0 ni0)
      refine wk_call (opg 154 (.call ⟨.value (.func 14), #[.tmp 153], #[23]⟩) 27 16 false) (by kernel_rfl) 14 #[.pointer (some ⟨p_11, 0, none⟩)] (x_call Try.func14 (by kernel_rfl) (c := (Try.f14.body).getD .skip) (by kernel_rfl) (by kernel_rfl) (by kernel_rfl)) (next_p hb_677 (by omega) (fun w_678 sm_679 => ⟨?_, ?_⟩))
      · exact trivial
      have gx_680 := GX.same [] γ_654 sm_679
      have hsz_681 : w_678.heap.size = w_673.heap.size := by rw [sm_679.heap]
      refine wk_pure (opg 155 (.move (.tmp 11)) 42 16 false) (by kernel_rfl) (.pointer (some ⟨b_22, 0, none⟩)) (fun _ => y_move (Eq.trans (by kernel_rfl) f_47)) ?_
      have hb_682 := (RkAt.keep (RkAt.keep hb_672 gx_675 ni0 ni0 ni0 ni0) gx_680 ni0 ni0 ni0 ni0)
      refine wk_call (opg 156 (.call ⟨.value (.func 23), #[.tmp 155], #[42]⟩) 27 16 false) (by kernel_rfl) 23 #[.pointer (some ⟨b_22, 0, none⟩)] (x_call Try.func23 (by kernel_rfl) (c := (Try.f23.body).getD .skip) (by kernel_rfl) (by kernel_rfl) (by kernel_rfl)) (next_r hb_682 (by omega) (fun w_683 sm_684 => ⟨?_, ?_⟩))
      · exact trivial
      have gx_685 := GX.same [] γ_654 sm_684
      have hsz_686 : w_683.heap.size = w_678.heap.size := by rw [sm_684.heap]
      refine wk_pure (opg 157 (.binOp .neq 27 (.tmp 154) (.tmp 156) 27) 4 16 false) (by kernel_rfl) (.bool false) (fun _ => y_neq (k := .u32) (a := l_573.next) (b := l_573.next) (by kernel_rfl) (by kernel_rfl) (decide_eq_false (fun h_ => h_ rfl))) ?_
      refine wpk 158 (.tmp 152) (.const (.bool true)) (.tmp 157) 4 (.bool false) ?_
      refine wpm 159 (.tmp 158) 4 (.bool false) ?_
      refine wk_pure (opg 160 (.move (.tmp 9)) 23 23 false) (by kernel_rfl) (.pointer (some ⟨p_11, 0, none⟩)) (fun _ => y_move (Eq.trans (by kernel_rfl) f_46)) ?_
      have hb_687 := (LkAt.keep (LkAt.keep hb_677 gx_680 ni0 ni0 ni0 ni0) gx_685 ni0 ni0 ni0 ni0)
      refine wk_call (opg 161 (.call ⟨.value (.func 13), #[.tmp 160], #[23]⟩) 3 23 false) (by kernel_rfl) 13 #[.pointer (some ⟨p_11, 0, none⟩)] (x_call Try.func13 (by kernel_rfl) (c := (Try.f13.body).getD .skip) (by kernel_rfl) (by kernel_rfl) (by kernel_rfl)) (ahead_p hb_687 (by omega) (fun w_688 sm_689 => ⟨?_, ?_⟩))
      · exact trivial
      have gx_690 := GX.same [] γ_654 sm_689
      have hsz_691 : w_688.heap.size = w_683.heap.size := by rw [sm_689.heap]
      have hah2_ := (Good.get (by omega) hg hq_577).ahead
      refine wk_pure (opg 162 (.binOp .gtr 3 (.tmp 161) (.const (.int .i64 32)) 3) 4 23 false) (by kernel_rfl) (.bool false) (fun _ => y_gtr (k := .i64) (a := ((l_573.held.length : Nat) : Int)) (b := 32) (by kernel_rfl) (by kernel_rfl) (decide_eq_false (by omega))) ?_
      refine wpk 163 (.tmp 159) (.const (.bool true)) (.tmp 162) 4 (.bool false) ?_
      refine wk_nil ?_
      refine thn_n ?_
      refine g_cond_f (o := .tmp 163) (x := lX6N1_73) (y := lX6N1_74) (by kernel_rfl) (by kernel_rfl) ?_
      refine g_skip (by kernel_rfl) ?_
      refine blk_n ?_
      refine thn_n ?_
      refine g_region (ops := lX6R1_11) (id := 11) (by kernel_rfl) [pu 0, pu 1, pu 2] (by kernel_rfl) (by kernel_rfl) ?_
      refine wpm 59 (.tmp 12) 3 (.int .i64 ((i : Nat) : Int)) ?_ (Eq.trans (by kernel_rfl) f_48)
      refine wk_pure (opd 60 (.binOp .add 3 (.tmp 59) (.const (.int .i64 1)) 3) 3) rfl (.int .i64 ((i + 1 : Nat) : Int)) (fun _ => y_add (k := .i64) (a := ((i : Nat) : Int)) (b := 1) (by kernel_rfl) (by kernel_rfl) (i64_to (by omega) (by omega))) ?_
      refine wpa 12 (.tmp 60) 3 (.int .i64 ((i + 1 : Nat) : Int)) ?_
      refine wk_nil ?_
      refine thn_n ?_
      have hb_692 := (SlG.keep (SlG.keep (SlG.keep (SlG.keep (SlG.keep (SlG.keep (SlG.keep (SlG.keep (SlG.keep (SlG.keep (SlG.keep (SlG.keep (SlG.keep (SlG.keep (SlG.keep (SlG.keep hr_49 gx_63 ni0) gx_69 ni1) gx_80 ni0) gx_86 ni1) gx_585 ni3) gx_611 ni0) gx_621 ni3) gx_647 ni0) gx_655 ni0) gx_660 ni0) gx_665 ni0) gx_670 ni0) gx_675 ni0) gx_680 ni0) gx_685 ni0) gx_690 ni0)
      have hb_693 := (AllA.keep (AllA.keep (AllA.keep (AllA.keep (AllA.keep (AllA.keep (AllA.keep (AllA.keep (AllA.keep (AllA.keep hb_613 gx_621 ni3) gx_647 ni0) gx_655 ni0) gx_660 ni0) gx_665 ni0) gx_670 ni0) gx_675 ni0) gx_680 ni0) gx_685 ni0) gx_690 ni0)
      have hb_694 := (RkAt.keep (RkAt.keep hb_682 gx_685 ni0 ni0 ni0 ni0) gx_690 ni0 ni0 ni0 ni0)
      have hb_695 := (LkAt.keep hb_687 gx_690 ni0 ni0 ni0 ni0)
      exact ⟨_, (by omega), ⟨(i + 1), l_573, _, rfl, by omega, by exact Good.get (by omega) hg hq_577, (Eq.trans (by kernel_rfl) f_42), (Eq.trans (by kernel_rfl) f_43), (Eq.trans (by kernel_rfl) f_44), (Eq.trans (by kernel_rfl) f_45), (Eq.trans (by kernel_rfl) f_46), (Eq.trans (by kernel_rfl) f_47), (by kernel_rfl), hb_692, hb_693, hb_694, hb_695, (GX.then_same (GX.then_same (GX.then_same (GX.then_same (GX.then_same (GX.then_same (GX.then_same (GX.trans (GX.trans (GX.trans (GX.trans (GX.trans (GX.thenNew (GX.then0 (GX.thenNew (GX.then0 hE_40 e_56 hg_61) e_66 (by intro y_ hy_; simp only [List.mem_cons, List.not_mem_nil, or_false] at hy_; omega) (fun _ _ => rfl)) e_73 hg_78) e_83 (by intro y_ hy_; simp only [List.mem_cons, List.not_mem_nil, or_false] at hy_; omega) (fun _ _ => rfl)) gx_585 (by intro c_ hc_; simp only [List.mem_cons, List.not_mem_nil, or_false] at hc_ ⊢; omega)) gx_611 (fun _ h_ => absurd h_ List.not_mem_nil)) gx_621 (by intro c_ hc_; simp only [List.mem_cons, List.not_mem_nil, or_false] at hc_ ⊢; omega)) gx_647 (fun _ h_ => absurd h_ List.not_mem_nil)) gx_655 (fun _ h_ => absurd h_ List.not_mem_nil)) sm_659) sm_664) sm_669) sm_674) sm_679) sm_684) sm_689)⟩⟩
    refine wk_pure (opd 58 (.binOp .lss 3 (.tmp 55) (.tmp 57) 3) 4) rfl (.bool false) (fun _ => y_lss (k := .i64) (a := ((i : Nat) : Int)) (b := ((L.length : Nat) : Int)) (by kernel_rfl) (by kernel_rfl) (decide_eq_false h_53)) ?_
    refine wk_nil ?_
    refine thn_n ?_
    refine g_cond_f (o := .tmp 58) (x := lX6N1_37) (y := lX6N1_38) (by kernel_rfl) (by kernel_rfl) ?_
    refine g_exit (id := 0) (by kernel_rfl) ?_
    refine thn_e ?_
    refine thn_e ?_
    refine blk_hit ?_
    refine thn_n ?_
    refine g_seq (x := lX6N1_83) (y := lX6N1_84) (by kernel_rfl) ?_
    refine g_region (ops := lX6R1_29) (id := 29) (by kernel_rfl) [pu 0] (by kernel_rfl) (by kernel_rfl) ?_
    refine wpa 8 (.const (.bool true)) 4 (.bool true) ?_
    refine wk_nil ?_
    refine thn_n ?_
    refine g_ret (by kernel_rfl) ?_
    refine ends1_r (v := .bool true) rfl (by kernel_rfl) ?_
    exact hK _ (GX.ext hE_40 (fun _ _ => by show 0 ∉ [10, 11, 12, 20, 21, 22]; decide))
  refine wkc 28 8 #[.tmp 25, .tmp 26, .tmp 27] #[3, 3, 27] 25 #[.int .i64 own, .int .i64 peer, .int .u32 view] Try.func8 (new_bad (γ := γ_3) (by omega) (fun w_696 sm_697 => ⟨?_, ?_⟩))
  · exact trivial
  have gx_698 := GX.same [] γ_3 sm_697
  have hsz_699 : w_696.heap.size = w_1.heap.size := by rw [sm_697.heap]
  refine wpm 24 (.tmp 28) 25 (.tuple #[.pointer none, .int .i64 1]) ?_
  refine wk_pure (opd 29 (.extract (.tmp 24) 0) 23) rfl (.pointer none) (fun _ => x_extract (vs := #[.pointer none, .int .i64 1]) (by kernel_rfl) (by kernel_rfl)) ?_
  refine wk_pure (opd 30 (.extract (.tmp 24) 1) 24) rfl (.int .i64 1) (fun _ => x_extract (vs := #[.pointer none, .int .i64 1]) (by kernel_rfl) (by kernel_rfl)) ?_
  refine wpa 9 (.tmp 29) 23 (.pointer none) ?_
  refine wpa 10 (.tmp 30) 24 (.int .i64 1) ?_
  refine wk_nil ?_
  refine thn_n ?_
  refine g_seq (x := lX6N1_11) (y := lX6N1_12) (by kernel_rfl) ?_
  refine g_seq (x := lX6N1_13) (y := lX6N1_14) (by kernel_rfl) ?_
  refine g_region (ops := lX6R1_4) (id := 4) (by kernel_rfl) [pu 0, pu 1, lo 2, pu 3] (by kernel_rfl) (by kernel_rfl) ?_
  refine wpm 31 (.tmp 0) 3 (.int .i64 own) ?_
  refine wpm 32 (.tmp 1) 3 (.int .i64 peer) ?_
  refine wkc 33 15 #[.tmp 31, .tmp 32] #[3, 3] 4 #[.int .i64 own, .int .i64 peer] Try.func15 (mayLink_c (γ := γ_3) (decide_eq_false (by omega)) (fun w_700 sm_701 => ⟨?_, ?_⟩))
  · exact trivial
  have gx_702 := GX.same [] γ_3 sm_701
  have hsz_703 : w_700.heap.size = w_696.heap.size := by rw [sm_701.heap]
  refine wk_pure (opd 34 (.unOp .not 4 (.tmp 33)) 4) rfl (.bool true) (fun _ => y_not (p := false) (by kernel_rfl) rfl) ?_
  refine wk_nil ?_
  refine thn_n ?_
  refine g_cond_t (o := .tmp 34) (x := lX6N1_15) (y := lX6N1_16) (by kernel_rfl) (by kernel_rfl) ?_
  refine g_seq (x := lX6N1_85) (y := lX6N1_86) (by kernel_rfl) ?_
  refine g_region (ops := lX6R1_5) (id := 5) (by kernel_rfl) [pu 0, pu 1, pu 2, pu 3, pu 4, pu 5, pu 6] (by kernel_rfl) (by kernel_rfl) ?_
  refine wpm 35 (.tmp 10) 24 (.int .i64 1) ?_
  refine wk_pure (opd 36 (.binOp .eql 24 (.tmp 35) (.const (.int .i64 1)) 24) 4) rfl (.bool true) (fun _ => y_eql (k := .i64) (a := 1) (b := 1) (by kernel_rfl) (by kernel_rfl) (by decide)) ?_
  refine wpm 37 (.tmp 36) 4 (.bool true) ?_
  refine wk_pure (opg 38 (.move (.tmp 9)) 23 2 true) (by kernel_rfl) (.pointer none) (fun _ => y_move (by kernel_rfl)) ?_
  refine wk_pure (opg 39 (.binOp .eql 23 (.tmp 38) (.const (.pointer none)) 23) 4 2 true) (by kernel_rfl) (.bool true) (fun _ => x_ptr_eql_nil (a := none) (e := 61) (by kernel_rfl) (by kernel_rfl) (by kernel_rfl)) ?_
  refine wpt 40 (.tmp 37) (.tmp 39) (.const (.bool false)) 4 (.bool true) ?_
  refine wpa 8 (.tmp 40) 4 (.bool true) ?_
  refine wk_nil ?_
  refine thn_n ?_
  refine g_ret (by kernel_rfl) ?_
  refine thn_r ?_
  refine ends1_r (v := .bool true) rfl (by kernel_rfl) ?_
  exact hK _ (GX.ext (GX.then_same (GX.then_same (GX.then0 (GX.refl [10, 11, 12, 20, 21, 22] _ _) e_2 hg_4) sm_697) sm_701) (fun _ _ => by show 0 ∉ [10, 11, 12, 20, 21, 22]; decide))

end Go.Proofs.Ytpcdldakilkldaa
