/-
  A part of the proofs over the program's package ring: contracts of its functions, step by step.
-/
import Derived.Test.YtjdlgidacnphpaaRF
set_option linter.unusedSimpArgs false
set_option linter.unusedVariables false
namespace Go.Proofs.Ytjdlgidacnphpaa
open Go Go.Wk

theorem inW_one {n : Int} (h : InW n) : ∀ i, InW ([n].getD i 0) := by
  intro i
  cases i with
  | zero => exact h
  | succ i => show InW 0; unfold InW; omega
theorem inW_M {L : List Int} (h : ∀ i, InW (L.getD i 0)) (place n round : Nat) : ∀ i, InW ((M L place n round).getD i 0) := inW_cut h _ _

noncomputable def qN6w1_0 : Code := (Try.f6.body).getD .skip
noncomputable def qN6w1_1 : Code := s1 qN6w1_0
noncomputable def qN6w1_2 : Code := s2 qN6w1_0
noncomputable def qR6w1_0 : Array Oper := rops qN6w1_1
noncomputable def qN6w1_3 : Code := s1 qN6w1_2
noncomputable def qN6w1_4 : Code := s2 qN6w1_2
noncomputable def qR6w1_1 : Array Oper := rops qN6w1_3
noncomputable def qN6w1_5 : Code := s1 qN6w1_4
noncomputable def qN6w1_6 : Code := s2 qN6w1_4
noncomputable def qR6w1_2 : Array Oper := rops qN6w1_5
noncomputable def qN6w1_7 : Code := s1 qN6w1_6
noncomputable def qN6w1_8 : Code := s2 qN6w1_6
noncomputable def qN6w1_9 : Code := s1 qN6w1_7
noncomputable def qN6w1_10 : Code := s2 qN6w1_7
noncomputable def qR6w1_3 : Array Oper := rops qN6w1_9
noncomputable def qN6w1_11 : Code := s1 qN6w1_10
noncomputable def qN6w1_12 : Code := s2 qN6w1_10
noncomputable def qN6w1_13 : Code := s1 qN6w1_8
noncomputable def qN6w1_14 : Code := s2 qN6w1_8
noncomputable def qN6w1_15 : Code := s1 qN6w1_13
noncomputable def qN6w1_16 : Code := s2 qN6w1_13
noncomputable def qR6w1_5 : Array Oper := rops qN6w1_15
noncomputable def qN6w1_17 : Code := s1 qN6w1_16
noncomputable def qN6w1_18 : Code := s1 qN6w1_17
noncomputable def qN6w1_19 : Code := s1 qN6w1_18
noncomputable def qN6w1_20 : Code := s2 qN6w1_18
noncomputable def qN6w1_21 : Code := s1 qN6w1_19
noncomputable def qN6w1_22 : Code := s2 qN6w1_19
noncomputable def qR6w1_6 : Array Oper := rops qN6w1_21
noncomputable def qN6w1_23 : Code := s1 qN6w1_22
noncomputable def qN6w1_24 : Code := s2 qN6w1_22
noncomputable def qN6w1_25 : Code := s1 qN6w1_20
noncomputable def qN6w1_26 : Code := s2 qN6w1_20
noncomputable def qN6w1_27 : Code := s1 qN6w1_25
noncomputable def qN6w1_28 : Code := s1 qN6w1_27
noncomputable def qN6w1_29 : Code := s2 qN6w1_27
noncomputable def qR6w1_8 : Array Oper := rops qN6w1_28
noncomputable def qN6w1_30 : Code := s1 qN6w1_29
noncomputable def qN6w1_31 : Code := s2 qN6w1_29
noncomputable def qR6w1_9 : Array Oper := rops qN6w1_30
noncomputable def qN6w1_32 : Code := s1 qN6w1_31
noncomputable def qN6w1_33 : Code := s2 qN6w1_31
noncomputable def qR6w1_10 : Array Oper := rops qN6w1_32
noncomputable def qN6w1_34 : Code := s1 qN6w1_33
noncomputable def qN6w1_35 : Code := s2 qN6w1_33
noncomputable def qR6w1_7 : Array Oper := rops qN6w1_26
noncomputable def qN6w1_36 : Code := s1 qN6w1_14
noncomputable def qN6w1_37 : Code := s2 qN6w1_14
noncomputable def qR6w1_12 : Array Oper := rops qN6w1_36
noncomputable def qN6w1_38 : Code := s1 qN6w1_37
noncomputable def qN6w1_39 : Code := s2 qN6w1_37
noncomputable def qR6w1_13 : Array Oper := rops qN6w1_38
noncomputable def qN6w1_40 : Code := s1 qN6w1_39
noncomputable def qN6w1_41 : Code := s2 qN6w1_39
noncomputable def qR6w1_14 : Array Oper := rops qN6w1_40
theorem awake_c {w : World} {K : Value → World → Prop} (hK : ∀ w', Ext [] w w' → K (.bool true) w') : CallsV Try.prog 6 #[] w K := by
  refine callsV_of (c := qN6w1_0) Try.func6 (by kernel_rfl) (n := 98) (by kernel_rfl) ?_
  refine g_seq (x := qN6w1_1) (y := qN6w1_2) (by kernel_rfl) ?_
  refine g_region (ops := qR6w1_0) (id := 0) (by kernel_rfl) [(0, .pure)] (by kernel_rfl) (by kernel_rfl) ?_
  refine wk_pure (show opD qR6w1_0 0 = some (some 0, .assign (.const (.bool false)), 4, none) from by kernel_rfl) (by kernel_rfl) (.bool false) (fun _ => y_assign (by kernel_rfl)) ?_
  refine wk_nil ?_
  refine thn_n ?_
  refine g_seq (x := qN6w1_3) (y := qN6w1_4) (by kernel_rfl) ?_
  refine g_region (ops := qR6w1_1) (id := 1) (by kernel_rfl) [(0, .loud), (1, .loud), (2, .pure), (3, .pure), (4, .pure), (5, .pure), (6, .pure)] (by kernel_rfl) (by kernel_rfl) ?_
  refine wk_call (show opD qR6w1_1 0 = some (some 15, .call ⟨.value (.func 14), #[.const (.int .i64 1)], #[2]⟩, 25, none) from by kernel_rfl) (by kernel_rfl) 14 #[.int .i64 1] (x_call Try.func14 (by kernel_rfl) (c := (Try.f14.body).getD .skip) (by kernel_rfl) (by kernel_rfl) (by kernel_rfl)) (one_c (n := 1) (by omega) (fun w_1 g_2 e_3 hO_4 lo_5 hi_6 => ⟨?_, ?_⟩))
  · exact trivial
  have hsz_7 : w.heap.size ≤ w_1.heap.size := e_3.size
  refine wk_call (show opD qR6w1_1 1 = some (some 16, .call ⟨.value (.func 7), #[.const (.int .i64 0), .const (.int .i64 2), .tmp 15], #[3, 3, 25]⟩, 29, none) from by kernel_rfl) (by kernel_rfl) 7 #[.int .i64 0, .int .i64 2, .slice (some ⟨g_2, 0, none⟩) ([1].length) 1] (x_call Try.func7 (by kernel_rfl) (c := (Try.f7.body).getD .skip) (by kernel_rfl) (by kernel_rfl) (by kernel_rfl)) (new_ok (place := 0) (n := 2) (L := ([1])) hO_4.sl (by decide) (by omega) (by omega) (by omega) (by exact inW_one (by unfold InW; omega)) (fun w_8 r_9 g_10 ck_11 la_12 lc_13 kc_14 rest_15 crest_16 e_17 hR_18 lo_19 hi_20 lg_21 lk_22 => ⟨?_, ?_⟩))
  · exact trivial
  have hsz_26 : w_1.heap.size ≤ w_8.heap.size := e_17.size
  obtain ⟨u_23, u_24, u_25⟩ := hR_18.rl
  refine wk_pure (show opD qR6w1_1 2 = some (some 14, .move (.tmp 16), 29, none) from by kernel_rfl) (by kernel_rfl) (.tuple #[.pointer (some ⟨r_9, 0, none⟩), .int .i64 0]) (fun _ => y_move (by kernel_rfl)) ?_
  refine wk_pure (show opD qR6w1_1 3 = some (some 17, .extract (.tmp 14) 0, 27, none) from by kernel_rfl) (by kernel_rfl) (.pointer (some ⟨r_9, 0, none⟩)) (fun _ => x_extract (vs := #[.pointer (some ⟨r_9, 0, none⟩), .int .i64 0]) (by kernel_rfl) (by kernel_rfl)) ?_
  refine wk_pure (show opD qR6w1_1 4 = some (some 18, .extract (.tmp 14) 1, 28, none) from by kernel_rfl) (by kernel_rfl) (.int .i64 0) (fun _ => x_extract (vs := #[.pointer (some ⟨r_9, 0, none⟩), .int .i64 0]) (by kernel_rfl) (by kernel_rfl)) ?_
  refine wk_pure (show opD qR6w1_1 5 = some (some 1, .assign (.tmp 17), 27, none) from by kernel_rfl) (by kernel_rfl) (.pointer (some ⟨r_9, 0, none⟩)) (fun _ => y_assign (by kernel_rfl)) ?_
  refine wk_pure (show opD qR6w1_1 6 = some (some 2, .assign (.tmp 18), 28, none) from by kernel_rfl) (by kernel_rfl) (.int .i64 0) (fun _ => y_assign (by kernel_rfl)) ?_
  refine wk_nil ?_
  refine thn_n ?_
  refine g_seq (x := qN6w1_5) (y := qN6w1_6) (by kernel_rfl) ?_
  refine g_region (ops := qR6w1_2) (id := 2) (by kernel_rfl) [(0, .loud), (1, .loud), (2, .pure), (3, .pure), (4, .pure), (5, .pure), (6, .pure)] (by kernel_rfl) (by kernel_rfl) ?_
  refine wk_call (show opD qR6w1_2 0 = some (some 20, .call ⟨.value (.func 14), #[.const (.int .i64 2)], #[2]⟩, 25, none) from by kernel_rfl) (by kernel_rfl) 14 #[.int .i64 2] (x_call Try.func14 (by kernel_rfl) (c := (Try.f14.body).getD .skip) (by kernel_rfl) (by kernel_rfl) (by kernel_rfl)) (one_c (n := 2) (by omega) (fun w_27 g_28 e_29 hO_30 lo_31 hi_32 => ⟨?_, ?_⟩))
  · exact trivial
  have hsz_33 : w_8.heap.size ≤ w_27.heap.size := e_29.size
  refine wk_call (show opD qR6w1_2 1 = some (some 21, .call ⟨.value (.func 7), #[.const (.int .i64 1), .const (.int .i64 2), .tmp 20], #[3, 3, 25]⟩, 29, none) from by kernel_rfl) (by kernel_rfl) 7 #[.int .i64 1, .int .i64 2, .slice (some ⟨g_28, 0, none⟩) ([2].length) 1] (x_call Try.func7 (by kernel_rfl) (c := (Try.f7.body).getD .skip) (by kernel_rfl) (by kernel_rfl) (by kernel_rfl)) (new_ok (place := 1) (n := 2) (L := ([2])) hO_30.sl (by decide) (by omega) (by omega) (by omega) (by exact inW_one (by unfold InW; omega)) (fun w_34 r_35 g_36 ck_37 la_38 lc_39 kc_40 rest_41 crest_42 e_43 hR_44 lo_45 hi_46 lg_47 lk_48 => ⟨?_, ?_⟩))
  · exact trivial
  have hsz_52 : w_27.heap.size ≤ w_34.heap.size := e_43.size
  obtain ⟨u_49, u_50, u_51⟩ := hR_44.rl
  refine wk_pure (show opD qR6w1_2 2 = some (some 19, .move (.tmp 21), 29, none) from by kernel_rfl) (by kernel_rfl) (.tuple #[.pointer (some ⟨r_35, 0, none⟩), .int .i64 0]) (fun _ => y_move (by kernel_rfl)) ?_
  refine wk_pure (show opD qR6w1_2 3 = some (some 22, .extract (.tmp 19) 0, 27, none) from by kernel_rfl) (by kernel_rfl) (.pointer (some ⟨r_35, 0, none⟩)) (fun _ => x_extract (vs := #[.pointer (some ⟨r_35, 0, none⟩), .int .i64 0]) (by kernel_rfl) (by kernel_rfl)) ?_
  refine wk_pure (show opD qR6w1_2 4 = some (some 23, .extract (.tmp 19) 1, 28, none) from by kernel_rfl) (by kernel_rfl) (.int .i64 0) (fun _ => x_extract (vs := #[.pointer (some ⟨r_35, 0, none⟩), .int .i64 0]) (by kernel_rfl) (by kernel_rfl)) ?_
  refine wk_pure (show opD qR6w1_2 5 = some (some 3, .assign (.tmp 22), 27, none) from by kernel_rfl) (by kernel_rfl) (.pointer (some ⟨r_35, 0, none⟩)) (fun _ => y_assign (by kernel_rfl)) ?_
  refine wk_pure (show opD qR6w1_2 6 = some (some 4, .assign (.tmp 23), 28, none) from by kernel_rfl) (by kernel_rfl) (.int .i64 0) (fun _ => y_assign (by kernel_rfl)) ?_
  refine wk_nil ?_
  refine thn_n ?_
  refine g_seq (x := qN6w1_7) (y := qN6w1_8) (by kernel_rfl) ?_
  refine g_seq (x := qN6w1_9) (y := qN6w1_10) (by kernel_rfl) ?_
  refine g_region (ops := qR6w1_3) (id := 3) (by kernel_rfl) [(0, .pure), (1, .pure), (2, .pure), (3, .pure), (4, .pure), (5, .pure), (6, .pure), (7, .pure), (8, .pure), (9, .pure), (10, .pure), (11, .pure), (12, .pure), (13, .pure)] (by kernel_rfl) (by kernel_rfl) ?_
  refine wk_pure (show opD qR6w1_3 0 = some (some 24, .move (.tmp 2), 28, none) from by kernel_rfl) (by kernel_rfl) (.int .i64 0) (fun _ => y_move (by kernel_rfl)) ?_
  refine wk_pure (show opD qR6w1_3 1 = some (some 25, .binOp .neq 28 (.tmp 24) (.const (.int .i64 0)) 28, 4, none) from by kernel_rfl) (by kernel_rfl) (.bool false) (fun _ => y_neq (k := .i64) (a := 0) (b := 0) (by kernel_rfl) (by kernel_rfl) (by decide)) ?_
  refine wk_pure (show opD qR6w1_3 2 = some (some 26, .move (.tmp 25), 4, none) from by kernel_rfl) (by kernel_rfl) (.bool false) (fun _ => y_move (by kernel_rfl)) ?_
  refine wk_pure (show opD qR6w1_3 3 = some (some 27, .move (.tmp 4), 28, some (2, false)) from by kernel_rfl) (by kernel_rfl) (.int .i64 0) (fun _ => y_move (by kernel_rfl)) ?_
  refine wk_pure (show opD qR6w1_3 4 = some (some 28, .binOp .neq 28 (.tmp 27) (.const (.int .i64 0)) 28, 4, some (2, false)) from by kernel_rfl) (by kernel_rfl) (.bool false) (fun _ => y_neq (k := .i64) (a := 0) (b := 0) (by kernel_rfl) (by kernel_rfl) (by decide)) ?_
  refine wk_pure (show opD qR6w1_3 5 = some (some 29, .pick (.tmp 26) (.const (.bool true)) (.tmp 28), 4, none) from by kernel_rfl) (by kernel_rfl) (.bool false) (fun _ => y_pick_f (by kernel_rfl) (by kernel_rfl)) ?_
  refine wk_pure (show opD qR6w1_3 6 = some (some 30, .move (.tmp 29), 4, none) from by kernel_rfl) (by kernel_rfl) (.bool false) (fun _ => y_move (by kernel_rfl)) ?_
  refine wk_pure (show opD qR6w1_3 7 = some (some 31, .move (.tmp 1), 27, some (6, false)) from by kernel_rfl) (by kernel_rfl) (.pointer (some ⟨r_9, 0, none⟩)) (fun _ => y_move (by kernel_rfl)) ?_
  refine wk_pure (show opD qR6w1_3 8 = some (some 32, .binOp .eql 27 (.tmp 31) (.const (.pointer none)) 27, 4, some (6, false)) from by kernel_rfl) (by kernel_rfl) (.bool false) (fun _ => x_ptr_eql_nil (a := some ⟨r_9, 0, none⟩) (e := 54) (by kernel_rfl) (by kernel_rfl) (by kernel_rfl)) ?_
  refine wk_pure (show opD qR6w1_3 9 = some (some 33, .pick (.tmp 30) (.const (.bool true)) (.tmp 32), 4, none) from by kernel_rfl) (by kernel_rfl) (.bool false) (fun _ => y_pick_f (by kernel_rfl) (by kernel_rfl)) ?_
  refine wk_pure (show opD qR6w1_3 10 = some (some 34, .move (.tmp 33), 4, none) from by kernel_rfl) (by kernel_rfl) (.bool false) (fun _ => y_move (by kernel_rfl)) ?_
  refine wk_pure (show opD qR6w1_3 11 = some (some 35, .move (.tmp 3), 27, some (10, false)) from by kernel_rfl) (by kernel_rfl) (.pointer (some ⟨r_35, 0, none⟩)) (fun _ => y_move (by kernel_rfl)) ?_
  refine wk_pure (show opD qR6w1_3 12 = some (some 36, .binOp .eql 27 (.tmp 35) (.const (.pointer none)) 27, 4, some (10, false)) from by kernel_rfl) (by kernel_rfl) (.bool false) (fun _ => x_ptr_eql_nil (a := some ⟨r_35, 0, none⟩) (e := 54) (by kernel_rfl) (by kernel_rfl) (by kernel_rfl)) ?_
  refine wk_pure (show opD qR6w1_3 13 = some (some 37, .pick (.tmp 34) (.const (.bool true)) (.tmp 36), 4, none) from by kernel_rfl) (by kernel_rfl) (.bool false) (fun _ => y_pick_f (by kernel_rfl) (by kernel_rfl)) ?_
  refine wk_nil ?_
  refine thn_n ?_
  refine g_cond_f (o := .tmp 37) (x := qN6w1_11) (y := qN6w1_12) (by kernel_rfl) (by kernel_rfl) ?_
  refine g_skip (by kernel_rfl) ?_
  refine thn_n ?_
  refine g_seq (x := qN6w1_13) (y := qN6w1_14) (by kernel_rfl) ?_
  refine g_seq (x := qN6w1_15) (y := qN6w1_16) (by kernel_rfl) ?_
  refine g_region (ops := qR6w1_5) (id := 5) (by kernel_rfl) [(0, .pure)] (by kernel_rfl) (by kernel_rfl) ?_
  refine wk_pure (show opD qR6w1_5 0 = some (some 5, .assign (.const (.int .i64 0)), 3, none) from by kernel_rfl) (by kernel_rfl) (.int .i64 0) (fun _ => y_assign (by kernel_rfl)) ?_
  refine wk_nil ?_
  refine thn_n ?_
  refine g_block (x := qN6w1_17) (id := 0) (by kernel_rfl) ?_
  refine g_unroll (x := qN6w1_18) (by kernel_rfl) 3 ?_
  refine un_succ ?_
  refine g_seq (x := qN6w1_19) (y := qN6w1_20) (by kernel_rfl) ?_
  refine g_seq (x := qN6w1_21) (y := qN6w1_22) (by kernel_rfl) ?_
  refine g_region (ops := qR6w1_6) (id := 6) (by kernel_rfl) [(0, .pure), (1, .pure)] (by kernel_rfl) (by kernel_rfl) ?_
  refine wk_pure (show opD qR6w1_6 0 = some (some 38, .move (.tmp 5), 3, none) from by kernel_rfl) (by kernel_rfl) (.int .i64 0) (fun _ => y_move (by kernel_rfl)) ?_
  refine wk_pure (show opD qR6w1_6 1 = some (some 39, .binOp .lss 3 (.tmp 38) (.const (.int .i64 2)) 3, 4, none) from by kernel_rfl) (by kernel_rfl) (.bool true) (fun _ => y_lss (k := .i64) (a := 0) (b := 2) (by kernel_rfl) (by kernel_rfl) (by decide)) ?_
  refine wk_nil ?_
  refine thn_n ?_
  refine g_cond_t (o := .tmp 39) (x := qN6w1_23) (y := qN6w1_24) (by kernel_rfl) (by kernel_rfl) ?_
  refine g_skip (by kernel_rfl) ?_
  refine thn_n ?_
  refine g_seq (x := qN6w1_25) (y := qN6w1_26) (by kernel_rfl) ?_
  refine g_block (x := qN6w1_27) (id := 1) (by kernel_rfl) ?_
  refine g_seq (x := qN6w1_28) (y := qN6w1_29) (by kernel_rfl) ?_
  refine g_region (ops := qR6w1_8) (id := 8) (by kernel_rfl) [(0, .pure), (1, .loud), (2, .pure), (3, .pure), (4, .pure), (5, .loud), (6, .loud), (7, .pure)] (by kernel_rfl) (by kernel_rfl) ?_
  refine wk_pure (show opD qR6w1_8 0 = some (some 43, .move (.tmp 1), 27, none) from by kernel_rfl) (by kernel_rfl) (.pointer (some ⟨r_9, 0, none⟩)) (fun _ => y_move (by kernel_rfl)) ?_
  have hb_53 : RingAt w_34 r_9 g_10 ck_11 0 2 ([1]) 0 false false la_12 lc_13 kc_14 rest_15 crest_16 := (keepRingE e_43 (keepRingE e_29 hR_18 List.not_mem_nil (.inr List.not_mem_nil) List.not_mem_nil) List.not_mem_nil (.inr List.not_mem_nil) List.not_mem_nil)
  refine wk_call (show opD qR6w1_8 1 = some (some 44, .call ⟨.value (.func 9), #[.tmp 43], #[27]⟩, 38, none) from by kernel_rfl) (by kernel_rfl) 9 #[.pointer (some ⟨r_9, 0, none⟩)] (x_call Try.func9 (by kernel_rfl) (c := (Try.f9.body).getD .skip) (by kernel_rfl) (by kernel_rfl) (by kernel_rfl)) (out_c hb_53 (by omega) (by omega) (fun w_54 a_55 g_56 c_57 rest_58 e_59 hR_60 hO_61 hg_62 sz_63 => ⟨?_, ?_⟩))
  · exact trivial
  have hsz_65 : w_34.heap.size ≤ w_54.heap.size := e_59.size
  have hR_64 : RingAt w_54 r_9 g_10 ck_11 0 2 ([1]) 0 true false la_12 lc_13 kc_14 rest_15 crest_16 := hR_60
  refine wk_pure (show opD qR6w1_8 2 = some (some 42, .move (.tmp 44), 38, none) from by kernel_rfl) (by kernel_rfl) (.tuple #[.agg #[.int .i64 ((0 : Nat) : Int), .int .i64 ((sendsN 0 2 0 : Nat) : Int), .slice a_55 ((M ([1]) 0 2 0).length) c_57], .bool true]) (fun _ => y_move (by kernel_rfl)) ?_
  refine wk_pure (show opD qR6w1_8 3 = some (some 45, .extract (.tmp 42) 0, 37, none) from by kernel_rfl) (by kernel_rfl) (.agg #[.int .i64 ((0 : Nat) : Int), .int .i64 ((sendsN 0 2 0 : Nat) : Int), .slice a_55 ((M ([1]) 0 2 0).length) c_57]) (fun _ => x_extract (vs := #[.agg #[.int .i64 ((0 : Nat) : Int), .int .i64 ((sendsN 0 2 0 : Nat) : Int), .slice a_55 ((M ([1]) 0 2 0).length) c_57], .bool true]) (by kernel_rfl) (by kernel_rfl)) ?_
  refine wk_pure (show opD qR6w1_8 4 = some (some 46, .extract (.tmp 42) 1, 4, none) from by kernel_rfl) (by kernel_rfl) (.bool true) (fun _ => x_extract (vs := #[.agg #[.int .i64 ((0 : Nat) : Int), .int .i64 ((sendsN 0 2 0 : Nat) : Int), .slice a_55 ((M ([1]) 0 2 0).length) c_57], .bool true]) (by kernel_rfl) (by kernel_rfl)) ?_
  refine wk_alloc (z := #[.int .i64 0, .int .i64 0, .slice none 0 0]) (show opD qR6w1_8 5 = some (some 6, .alloc 37, 0, none) from by kernel_rfl) (by kernel_rfl) (by kernel_rfl) (fun w_67 b_66 eq_69 e_68 sz_70 hb_71 => ⟨?_, ?_⟩)
  · exact trivial
  refine wk_store (b := b_66) (off := 0) (cs' := #[.int .i64 ((0 : Nat) : Int), .int .i64 ((sendsN 0 2 0 : Nat) : Int), .slice a_55 ((M ([1]) 0 2 0).length) c_57]) (vs := #[.int .i64 ((0 : Nat) : Int), .int .i64 ((sendsN 0 2 0 : Nat) : Int), .slice a_55 ((M ([1]) 0 2 0).length) c_57]) (show opD qR6w1_8 6 = some (none, .store 37 (.tmp 6) (.tmp 45), 0, none) from by kernel_rfl) (by kernel_rfl) (by kernel_rfl) (by kernel_rfl) (by kernel_rfl) (by kernel_rfl) hb_71 (Nat.le_of_ble_eq_true rfl) (by kernel_rfl) (by kernel_rfl) (fun w_72 e_73 sz_74 hb_75 => ⟨?_, ?_⟩)
  · exact trivial
  refine wk_pure (show opD qR6w1_8 7 = some (some 7, .assign (.tmp 46), 4, none) from by kernel_rfl) (by kernel_rfl) (.bool true) (fun _ => y_assign (by kernel_rfl)) ?_
  refine wk_nil ?_
  refine thn_n ?_
  refine g_seq (x := qN6w1_30) (y := qN6w1_31) (by kernel_rfl) ?_
  refine g_region (ops := qR6w1_9) (id := 9) (by kernel_rfl) [(0, .pure), (1, .loud), (2, .pure), (3, .pure), (4, .pure), (5, .loud), (6, .loud), (7, .pure)] (by kernel_rfl) (by kernel_rfl) ?_
  refine wk_pure (show opD qR6w1_9 0 = some (some 48, .move (.tmp 3), 27, none) from by kernel_rfl) (by kernel_rfl) (.pointer (some ⟨r_35, 0, none⟩)) (fun _ => y_move (by kernel_rfl)) ?_
  have hb_76 : RingAt w_72 r_35 g_36 ck_37 1 2 ([2]) 0 false false la_38 lc_39 kc_40 rest_41 crest_42 := (keepRingE e_73 (keepRingE e_68 (keepRingE e_59 hR_44 (by simp only [List.mem_cons, List.not_mem_nil, or_false]; omega) (.inr (by simp only [List.mem_cons, List.not_mem_nil, or_false]; omega)) (by simp only [List.mem_cons, List.not_mem_nil, or_false]; omega)) List.not_mem_nil (.inr List.not_mem_nil) List.not_mem_nil) (by simp only [List.mem_cons, List.not_mem_nil, or_false]; omega) (.inr (by simp only [List.mem_cons, List.not_mem_nil, or_false]; omega)) (by simp only [List.mem_cons, List.not_mem_nil, or_false]; omega))
  refine wk_call (show opD qR6w1_9 1 = some (some 49, .call ⟨.value (.func 9), #[.tmp 48], #[27]⟩, 38, none) from by kernel_rfl) (by kernel_rfl) 9 #[.pointer (some ⟨r_35, 0, none⟩)] (x_call Try.func9 (by kernel_rfl) (c := (Try.f9.body).getD .skip) (by kernel_rfl) (by kernel_rfl) (by kernel_rfl)) (out_c hb_76 (by omega) (by omega) (fun w_77 a_78 g_79 c_80 rest_81 e_82 hR_83 hO_84 hg_85 sz_86 => ⟨?_, ?_⟩))
  · exact trivial
  have hsz_88 : w_72.heap.size ≤ w_77.heap.size := e_82.size
  have hR_87 : RingAt w_77 r_35 g_36 ck_37 1 2 ([2]) 0 true false la_38 lc_39 kc_40 rest_41 crest_42 := hR_83
  refine wk_pure (show opD qR6w1_9 2 = some (some 47, .move (.tmp 49), 38, none) from by kernel_rfl) (by kernel_rfl) (.tuple #[.agg #[.int .i64 ((0 : Nat) : Int), .int .i64 ((sendsN 1 2 0 : Nat) : Int), .slice a_78 ((M ([2]) 1 2 0).length) c_80], .bool true]) (fun _ => y_move (by kernel_rfl)) ?_
  refine wk_pure (show opD qR6w1_9 3 = some (some 50, .extract (.tmp 47) 0, 37, none) from by kernel_rfl) (by kernel_rfl) (.agg #[.int .i64 ((0 : Nat) : Int), .int .i64 ((sendsN 1 2 0 : Nat) : Int), .slice a_78 ((M ([2]) 1 2 0).length) c_80]) (fun _ => x_extract (vs := #[.agg #[.int .i64 ((0 : Nat) : Int), .int .i64 ((sendsN 1 2 0 : Nat) : Int), .slice a_78 ((M ([2]) 1 2 0).length) c_80], .bool true]) (by kernel_rfl) (by kernel_rfl)) ?_
  refine wk_pure (show opD qR6w1_9 4 = some (some 51, .extract (.tmp 47) 1, 4, none) from by kernel_rfl) (by kernel_rfl) (.bool true) (fun _ => x_extract (vs := #[.agg #[.int .i64 ((0 : Nat) : Int), .int .i64 ((sendsN 1 2 0 : Nat) : Int), .slice a_78 ((M ([2]) 1 2 0).length) c_80], .bool true]) (by kernel_rfl) (by kernel_rfl)) ?_
  refine wk_alloc (z := #[.int .i64 0, .int .i64 0, .slice none 0 0]) (show opD qR6w1_9 5 = some (some 8, .alloc 37, 0, none) from by kernel_rfl) (by kernel_rfl) (by kernel_rfl) (fun w_90 b_89 eq_92 e_91 sz_93 hb_94 => ⟨?_, ?_⟩)
  · exact trivial
  refine wk_store (b := b_89) (off := 0) (cs' := #[.int .i64 ((0 : Nat) : Int), .int .i64 ((sendsN 1 2 0 : Nat) : Int), .slice a_78 ((M ([2]) 1 2 0).length) c_80]) (vs := #[.int .i64 ((0 : Nat) : Int), .int .i64 ((sendsN 1 2 0 : Nat) : Int), .slice a_78 ((M ([2]) 1 2 0).length) c_80]) (show opD qR6w1_9 6 = some (none, .store 37 (.tmp 8) (.tmp 50), 0, none) from by kernel_rfl) (by kernel_rfl) (by kernel_rfl) (by kernel_rfl) (by kernel_rfl) (by kernel_rfl) hb_94 (Nat.le_of_ble_eq_true rfl) (by kernel_rfl) (by kernel_rfl) (fun w_95 e_96 sz_97 hb_98 => ⟨?_, ?_⟩)
  · exact trivial
  refine wk_pure (show opD qR6w1_9 7 = some (some 9, .assign (.tmp 51), 4, none) from by kernel_rfl) (by kernel_rfl) (.bool true) (fun _ => y_assign (by kernel_rfl)) ?_
  refine wk_nil ?_
  refine thn_n ?_
  refine g_seq (x := qN6w1_32) (y := qN6w1_33) (by kernel_rfl) ?_
  refine g_region (ops := qR6w1_10) (id := 10) (by kernel_rfl) [(0, .pure), (1, .pure), (2, .pure), (3, .pure), (4, .pure), (5, .pure), (6, .pure), (7, .pure), (8, .loud), (9, .loud), (10, .pure), (11, .pure), (12, .pure), (13, .pure), (14, .loud), (15, .loud), (16, .pure), (17, .pure)] (by kernel_rfl) (by kernel_rfl) ?_
  refine wk_pure (show opD qR6w1_10 0 = some (some 52, .move (.tmp 7), 4, none) from by kernel_rfl) (by kernel_rfl) (.bool true) (fun _ => y_move (by kernel_rfl)) ?_
  refine wk_pure (show opD qR6w1_10 1 = some (some 53, .unOp .not 4 (.tmp 52), 4, none) from by kernel_rfl) (by kernel_rfl) (.bool false) (fun _ => y_not (p := true) (by kernel_rfl) rfl) ?_
  refine wk_pure (show opD qR6w1_10 2 = some (some 54, .move (.tmp 53), 4, none) from by kernel_rfl) (by kernel_rfl) (.bool false) (fun _ => y_move (by kernel_rfl)) ?_
  refine wk_pure (show opD qR6w1_10 3 = some (some 55, .move (.tmp 9), 4, some (2, false)) from by kernel_rfl) (by kernel_rfl) (.bool true) (fun _ => y_move (by kernel_rfl)) ?_
  refine wk_pure (show opD qR6w1_10 4 = some (some 56, .unOp .not 4 (.tmp 55), 4, some (2, false)) from by kernel_rfl) (by kernel_rfl) (.bool false) (fun _ => y_not (p := true) (by kernel_rfl) rfl) ?_
  refine wk_pure (show opD qR6w1_10 5 = some (some 57, .pick (.tmp 54) (.const (.bool true)) (.tmp 56), 4, none) from by kernel_rfl) (by kernel_rfl) (.bool false) (fun _ => y_pick_f (by kernel_rfl) (by kernel_rfl)) ?_
  refine wk_pure (show opD qR6w1_10 6 = some (some 58, .move (.tmp 57), 4, none) from by kernel_rfl) (by kernel_rfl) (.bool false) (fun _ => y_move (by kernel_rfl)) ?_
  refine wk_pure (show opD qR6w1_10 7 = some (some 59, .move (.tmp 3), 27, some (6, false)) from by kernel_rfl) (by kernel_rfl) (.pointer (some ⟨r_35, 0, none⟩)) (fun _ => y_move (by kernel_rfl)) ?_
  have hb_99 : w_95.heap[b_66]? = some (.cells #[.int .i64 ((0 : Nat) : Int), .int .i64 ((sendsN 0 2 0 : Nat) : Int), .slice a_55 ((M ([1]) 0 2 0).length) c_57] 37 (0, 0)) := (e_96.keep (e_91.keep (e_82.keep hb_75 (by simp only [List.mem_cons, List.not_mem_nil, or_false]; omega)) List.not_mem_nil) (by simp only [List.mem_cons, List.not_mem_nil, or_false]; omega))
  refine wk_val (show opD qR6w1_10 8 = some (some 60, .load 37 (.tmp 6), 37, some (6, false)) from by kernel_rfl) (by kernel_rfl) (.agg #[.int .i64 ((0 : Nat) : Int), .int .i64 ((sendsN 0 2 0 : Nat) : Int), .slice a_55 ((M ([1]) 0 2 0).length) c_57]) (x_load_agg (b := b_66) (off := 0) (n := 3) (by kernel_rfl) (by kernel_rfl) hb_99 (Nat.le_of_ble_eq_true rfl) (by kernel_rfl)) trivial ?_
  have hb_100 : RingAt w_95 r_35 g_36 ck_37 1 2 ([2]) 0 true false la_38 lc_39 kc_40 rest_41 crest_42 := (keepRingE e_96 (keepRingE e_91 hR_87 List.not_mem_nil (.inr List.not_mem_nil) List.not_mem_nil) (by simp only [List.mem_cons, List.not_mem_nil, or_false]; omega) (.inr (by simp only [List.mem_cons, List.not_mem_nil, or_false]; omega)) (by simp only [List.mem_cons, List.not_mem_nil, or_false]; omega))
  have hb_101 : OwO w_95 33 2 a_55 g_56 c_57 encW (M ([1]) 0 2 0) rest_58 := (e_96.keepOwP (e_91.keepOwP (e_82.keepOwP (e_73.keepOwP (e_68.keepOwP hO_61 (hg_62.imp id (fun h_ => List.not_mem_nil))) (hg_62.imp id (fun h_ => (by simp only [List.mem_cons, List.not_mem_nil, or_false]; omega)))) (hg_62.imp id (fun h_ => (by simp only [List.mem_cons, List.not_mem_nil, or_false]; omega)))) (hg_62.imp id (fun h_ => List.not_mem_nil))) (hg_62.imp id (fun h_ => (by simp only [List.mem_cons, List.not_mem_nil, or_false]; omega))))
  refine wk_call (show opD qR6w1_10 9 = some (some 61, .call ⟨.value (.func 10), #[.tmp 59, .tmp 60], #[27, 37]⟩, 28, some (6, false)) from by kernel_rfl) (by kernel_rfl) 10 #[.pointer (some ⟨r_35, 0, none⟩), .agg #[.int .i64 ((0 : Nat) : Int), .int .i64 ((sendsN 0 2 0 : Nat) : Int), .slice a_55 ((M ([1]) 0 2 0).length) c_57]] (x_call Try.func10 (by kernel_rfl) (c := (Try.f10.body).getD .skip) (by kernel_rfl) (by kernel_rfl) (by kernel_rfl)) (get_c (L' := ([3])) (pr := 0) (pc := (sendsN 0 2 0)) (W := (M ([1]) 0 2 0)) hb_100 (by omega) (by omega) (by decide) (by decide) (by decide) hb_101.sl (by have := hg_62; omega) (by exact inW_M (inW_one (by unfold InW; omega)) _ _ _) (by decide) (fun w_102 e_103 hR_104 sz_105 => ⟨?_, ?_⟩))
  · exact trivial
  have hsz_107 : w_95.heap.size ≤ w_102.heap.size := e_103.size
  have hR_106 : RingAt w_102 r_35 g_36 ck_37 1 2 ([3]) 1 false false la_38 lc_39 kc_40 rest_41 crest_42 := hR_104
  refine wk_pure (show opD qR6w1_10 10 = some (some 62, .binOp .neq 28 (.tmp 61) (.const (.int .i64 0)) 28, 4, some (6, false)) from by kernel_rfl) (by kernel_rfl) (.bool false) (fun _ => y_neq (k := .i64) (a := 0) (b := 0) (by kernel_rfl) (by kernel_rfl) (by decide)) ?_
  refine wk_pure (show opD qR6w1_10 11 = some (some 63, .pick (.tmp 58) (.const (.bool true)) (.tmp 62), 4, none) from by kernel_rfl) (by kernel_rfl) (.bool false) (fun _ => y_pick_f (by kernel_rfl) (by kernel_rfl)) ?_
  refine wk_pure (show opD qR6w1_10 12 = some (some 64, .move (.tmp 63), 4, none) from by kernel_rfl) (by kernel_rfl) (.bool false) (fun _ => y_move (by kernel_rfl)) ?_
  refine wk_pure (show opD qR6w1_10 13 = some (some 65, .move (.tmp 1), 27, some (12, false)) from by kernel_rfl) (by kernel_rfl) (.pointer (some ⟨r_9, 0, none⟩)) (fun _ => y_move (by kernel_rfl)) ?_
  have hb_108 : w_102.heap[b_89]? = some (.cells #[.int .i64 ((0 : Nat) : Int), .int .i64 ((sendsN 1 2 0 : Nat) : Int), .slice a_78 ((M ([2]) 1 2 0).length) c_80] 37 (0, 0)) := (e_103.keep hb_98 (by simp only [List.mem_cons, List.not_mem_nil, or_false]; omega))
  refine wk_val (show opD qR6w1_10 14 = some (some 66, .load 37 (.tmp 8), 37, some (12, false)) from by kernel_rfl) (by kernel_rfl) (.agg #[.int .i64 ((0 : Nat) : Int), .int .i64 ((sendsN 1 2 0 : Nat) : Int), .slice a_78 ((M ([2]) 1 2 0).length) c_80]) (x_load_agg (b := b_89) (off := 0) (n := 3) (by kernel_rfl) (by kernel_rfl) hb_108 (Nat.le_of_ble_eq_true rfl) (by kernel_rfl)) trivial ?_
  have hb_109 : RingAt w_102 r_9 g_10 ck_11 0 2 ([1]) 0 true false la_12 lc_13 kc_14 rest_15 crest_16 := (keepRingE e_103 (keepRingE e_96 (keepRingE e_91 (keepRingE e_82 (keepRingE e_73 (keepRingE e_68 hR_64 List.not_mem_nil (.inr List.not_mem_nil) List.not_mem_nil) (by simp only [List.mem_cons, List.not_mem_nil, or_false]; omega) (.inr (by simp only [List.mem_cons, List.not_mem_nil, or_false]; omega)) (by simp only [List.mem_cons, List.not_mem_nil, or_false]; omega)) (by simp only [List.mem_cons, List.not_mem_nil, or_false]; omega) (.inr (by simp only [List.mem_cons, List.not_mem_nil, or_false]; omega)) (by simp only [List.mem_cons, List.not_mem_nil, or_false]; omega)) List.not_mem_nil (.inr List.not_mem_nil) List.not_mem_nil) (by simp only [List.mem_cons, List.not_mem_nil, or_false]; omega) (.inr (by simp only [List.mem_cons, List.not_mem_nil, or_false]; omega)) (by simp only [List.mem_cons, List.not_mem_nil, or_false]; omega)) (by simp only [List.mem_cons, List.not_mem_nil, or_false]; omega) (.inr (by simp only [List.mem_cons, List.not_mem_nil, or_false]; omega)) (by simp only [List.mem_cons, List.not_mem_nil, or_false]; omega))
  have hb_110 : OwO w_102 33 2 a_78 g_79 c_80 encW (M ([2]) 1 2 0) rest_81 := (e_103.keepOwP (e_96.keepOwP (e_91.keepOwP hO_84 (hg_85.imp id (fun h_ => List.not_mem_nil))) (hg_85.imp id (fun h_ => (by simp only [List.mem_cons, List.not_mem_nil, or_false]; omega)))) (hg_85.imp id (fun h_ => (by simp only [List.mem_cons, List.not_mem_nil, or_false]; omega))))
  refine wk_call (show opD qR6w1_10 15 = some (some 67, .call ⟨.value (.func 10), #[.tmp 65, .tmp 66], #[27, 37]⟩, 28, some (12, false)) from by kernel_rfl) (by kernel_rfl) 10 #[.pointer (some ⟨r_9, 0, none⟩), .agg #[.int .i64 ((0 : Nat) : Int), .int .i64 ((sendsN 1 2 0 : Nat) : Int), .slice a_78 ((M ([2]) 1 2 0).length) c_80]] (x_call Try.func10 (by kernel_rfl) (c := (Try.f10.body).getD .skip) (by kernel_rfl) (by kernel_rfl) (by kernel_rfl)) (get_c (L' := ([1])) (pr := 0) (pc := (sendsN 1 2 0)) (W := (M ([2]) 1 2 0)) hb_109 (by omega) (by omega) (by decide) (by decide) (by decide) hb_110.sl (by have := hg_85; omega) (by exact inW_M (inW_one (by unfold InW; omega)) _ _ _) (by decide) (fun w_111 e_112 hR_113 sz_114 => ⟨?_, ?_⟩))
  · exact trivial
  have hsz_116 : w_102.heap.size ≤ w_111.heap.size := e_112.size
  have hR_115 : RingAt w_111 r_9 g_10 ck_11 0 2 ([1]) 1 false false la_12 lc_13 kc_14 rest_15 crest_16 := hR_113
  refine wk_pure (show opD qR6w1_10 16 = some (some 68, .binOp .neq 28 (.tmp 67) (.const (.int .i64 0)) 28, 4, some (12, false)) from by kernel_rfl) (by kernel_rfl) (.bool false) (fun _ => y_neq (k := .i64) (a := 0) (b := 0) (by kernel_rfl) (by kernel_rfl) (by decide)) ?_
  refine wk_pure (show opD qR6w1_10 17 = some (some 69, .pick (.tmp 64) (.const (.bool true)) (.tmp 68), 4, none) from by kernel_rfl) (by kernel_rfl) (.bool false) (fun _ => y_pick_f (by kernel_rfl) (by kernel_rfl)) ?_
  refine wk_nil ?_
  refine thn_n ?_
  refine g_cond_f (o := .tmp 69) (x := qN6w1_34) (y := qN6w1_35) (by kernel_rfl) (by kernel_rfl) ?_
  refine g_skip (by kernel_rfl) ?_
  refine blk_n ?_
  refine thn_n ?_
  refine g_region (ops := qR6w1_7) (id := 7) (by kernel_rfl) [(0, .pure), (1, .pure), (2, .pure)] (by kernel_rfl) (by kernel_rfl) ?_
  refine wk_pure (show opD qR6w1_7 0 = some (some 40, .move (.tmp 5), 3, none) from by kernel_rfl) (by kernel_rfl) (.int .i64 0) (fun _ => y_move (by kernel_rfl)) ?_
  refine wk_pure (show opD qR6w1_7 1 = some (some 41, .binOp .add 3 (.tmp 40) (.const (.int .i64 1)) 3, 3, none) from by kernel_rfl) (by kernel_rfl) (.int .i64 1) (fun _ => y_add (k := .i64) (a := 0) (b := 1) (by kernel_rfl) (by kernel_rfl) (by decide)) ?_
  refine wk_pure (show opD qR6w1_7 2 = some (some 5, .assign (.tmp 41), 3, none) from by kernel_rfl) (by kernel_rfl) (.int .i64 1) (fun _ => y_assign (by kernel_rfl)) ?_
  refine wk_nil ?_
  refine thn_n ?_
  refine un_succ ?_
  refine g_seq (x := qN6w1_19) (y := qN6w1_20) (by kernel_rfl) ?_
  refine g_seq (x := qN6w1_21) (y := qN6w1_22) (by kernel_rfl) ?_
  refine g_region (ops := qR6w1_6) (id := 6) (by kernel_rfl) [(0, .pure), (1, .pure)] (by kernel_rfl) (by kernel_rfl) ?_
  refine wk_pure (show opD qR6w1_6 0 = some (some 38, .move (.tmp 5), 3, none) from by kernel_rfl) (by kernel_rfl) (.int .i64 1) (fun _ => y_move (by kernel_rfl)) ?_
  refine wk_pure (show opD qR6w1_6 1 = some (some 39, .binOp .lss 3 (.tmp 38) (.const (.int .i64 2)) 3, 4, none) from by kernel_rfl) (by kernel_rfl) (.bool true) (fun _ => y_lss (k := .i64) (a := 1) (b := 2) (by kernel_rfl) (by kernel_rfl) (by decide)) ?_
  refine wk_nil ?_
  refine thn_n ?_
  refine g_cond_t (o := .tmp 39) (x := qN6w1_23) (y := qN6w1_24) (by kernel_rfl) (by kernel_rfl) ?_
  refine g_skip (by kernel_rfl) ?_
  refine thn_n ?_
  refine g_seq (x := qN6w1_25) (y := qN6w1_26) (by kernel_rfl) ?_
  refine g_block (x := qN6w1_27) (id := 1) (by kernel_rfl) ?_
  refine g_seq (x := qN6w1_28) (y := qN6w1_29) (by kernel_rfl) ?_
  refine g_region (ops := qR6w1_8) (id := 8) (by kernel_rfl) [(0, .pure), (1, .loud), (2, .pure), (3, .pure), (4, .pure), (5, .loud), (6, .loud), (7, .pure)] (by kernel_rfl) (by kernel_rfl) ?_
  refine wk_pure (show opD qR6w1_8 0 = some (some 43, .move (.tmp 1), 27, none) from by kernel_rfl) (by kernel_rfl) (.pointer (some ⟨r_9, 0, none⟩)) (fun _ => y_move (by kernel_rfl)) ?_
  refine wk_call (show opD qR6w1_8 1 = some (some 44, .call ⟨.value (.func 9), #[.tmp 43], #[27]⟩, 38, none) from by kernel_rfl) (by kernel_rfl) 9 #[.pointer (some ⟨r_9, 0, none⟩)] (x_call Try.func9 (by kernel_rfl) (c := (Try.f9.body).getD .skip) (by kernel_rfl) (by kernel_rfl) (by kernel_rfl)) (out_c hR_115 (by omega) (by omega) (fun w_117 a_118 g_119 c_120 rest_121 e_122 hR_123 hO_124 hg_125 sz_126 => ⟨?_, ?_⟩))
  · exact trivial
  have hsz_128 : w_111.heap.size ≤ w_117.heap.size := e_122.size
  have hR_127 : RingAt w_117 r_9 g_10 ck_11 0 2 ([1]) 1 true false la_12 lc_13 kc_14 rest_15 crest_16 := hR_123
  refine wk_pure (show opD qR6w1_8 2 = some (some 42, .move (.tmp 44), 38, none) from by kernel_rfl) (by kernel_rfl) (.tuple #[.agg #[.int .i64 ((1 : Nat) : Int), .int .i64 ((sendsN 0 2 1 : Nat) : Int), .slice a_118 ((M ([1]) 0 2 1).length) c_120], .bool true]) (fun _ => y_move (by kernel_rfl)) ?_
  refine wk_pure (show opD qR6w1_8 3 = some (some 45, .extract (.tmp 42) 0, 37, none) from by kernel_rfl) (by kernel_rfl) (.agg #[.int .i64 ((1 : Nat) : Int), .int .i64 ((sendsN 0 2 1 : Nat) : Int), .slice a_118 ((M ([1]) 0 2 1).length) c_120]) (fun _ => x_extract (vs := #[.agg #[.int .i64 ((1 : Nat) : Int), .int .i64 ((sendsN 0 2 1 : Nat) : Int), .slice a_118 ((M ([1]) 0 2 1).length) c_120], .bool true]) (by kernel_rfl) (by kernel_rfl)) ?_
  refine wk_pure (show opD qR6w1_8 4 = some (some 46, .extract (.tmp 42) 1, 4, none) from by kernel_rfl) (by kernel_rfl) (.bool true) (fun _ => x_extract (vs := #[.agg #[.int .i64 ((1 : Nat) : Int), .int .i64 ((sendsN 0 2 1 : Nat) : Int), .slice a_118 ((M ([1]) 0 2 1).length) c_120], .bool true]) (by kernel_rfl) (by kernel_rfl)) ?_
  refine wk_alloc (z := #[.int .i64 0, .int .i64 0, .slice none 0 0]) (show opD qR6w1_8 5 = some (some 6, .alloc 37, 0, none) from by kernel_rfl) (by kernel_rfl) (by kernel_rfl) (fun w_130 b_129 eq_132 e_131 sz_133 hb_134 => ⟨?_, ?_⟩)
  · exact trivial
  refine wk_store (b := b_129) (off := 0) (cs' := #[.int .i64 ((1 : Nat) : Int), .int .i64 ((sendsN 0 2 1 : Nat) : Int), .slice a_118 ((M ([1]) 0 2 1).length) c_120]) (vs := #[.int .i64 ((1 : Nat) : Int), .int .i64 ((sendsN 0 2 1 : Nat) : Int), .slice a_118 ((M ([1]) 0 2 1).length) c_120]) (show opD qR6w1_8 6 = some (none, .store 37 (.tmp 6) (.tmp 45), 0, none) from by kernel_rfl) (by kernel_rfl) (by kernel_rfl) (by kernel_rfl) (by kernel_rfl) (by kernel_rfl) hb_134 (Nat.le_of_ble_eq_true rfl) (by kernel_rfl) (by kernel_rfl) (fun w_135 e_136 sz_137 hb_138 => ⟨?_, ?_⟩)
  · exact trivial
  refine wk_pure (show opD qR6w1_8 7 = some (some 7, .assign (.tmp 46), 4, none) from by kernel_rfl) (by kernel_rfl) (.bool true) (fun _ => y_assign (by kernel_rfl)) ?_
  refine wk_nil ?_
  refine thn_n ?_
  refine g_seq (x := qN6w1_30) (y := qN6w1_31) (by kernel_rfl) ?_
  refine g_region (ops := qR6w1_9) (id := 9) (by kernel_rfl) [(0, .pure), (1, .loud), (2, .pure), (3, .pure), (4, .pure), (5, .loud), (6, .loud), (7, .pure)] (by kernel_rfl) (by kernel_rfl) ?_
  refine wk_pure (show opD qR6w1_9 0 = some (some 48, .move (.tmp 3), 27, none) from by kernel_rfl) (by kernel_rfl) (.pointer (some ⟨r_35, 0, none⟩)) (fun _ => y_move (by kernel_rfl)) ?_
  have hb_139 : RingAt w_135 r_35 g_36 ck_37 1 2 ([3]) 1 false false la_38 lc_39 kc_40 rest_41 crest_42 := (keepRingE e_136 (keepRingE e_131 (keepRingE e_122 (keepRingE e_112 hR_106 (by simp only [List.mem_cons, List.not_mem_nil, or_false]; omega) (.inr (by simp only [List.mem_cons, List.not_mem_nil, or_false]; omega)) (by simp only [List.mem_cons, List.not_mem_nil, or_false]; omega)) (by simp only [List.mem_cons, List.not_mem_nil, or_false]; omega) (.inr (by simp only [List.mem_cons, List.not_mem_nil, or_false]; omega)) (by simp only [List.mem_cons, List.not_mem_nil, or_false]; omega)) List.not_mem_nil (.inr List.not_mem_nil) List.not_mem_nil) (by simp only [List.mem_cons, List.not_mem_nil, or_false]; omega) (.inr (by simp only [List.mem_cons, List.not_mem_nil, or_false]; omega)) (by simp only [List.mem_cons, List.not_mem_nil, or_false]; omega))
  refine wk_call (show opD qR6w1_9 1 = some (some 49, .call ⟨.value (.func 9), #[.tmp 48], #[27]⟩, 38, none) from by kernel_rfl) (by kernel_rfl) 9 #[.pointer (some ⟨r_35, 0, none⟩)] (x_call Try.func9 (by kernel_rfl) (c := (Try.f9.body).getD .skip) (by kernel_rfl) (by kernel_rfl) (by kernel_rfl)) (out_c hb_139 (by omega) (by omega) (fun w_140 a_141 g_142 c_143 rest_144 e_145 hR_146 hO_147 hg_148 sz_149 => ⟨?_, ?_⟩))
  · exact trivial
  have hsz_151 : w_135.heap.size ≤ w_140.heap.size := e_145.size
  have hR_150 : RingAt w_140 r_35 g_36 ck_37 1 2 ([3]) 1 true false la_38 lc_39 kc_40 rest_41 crest_42 := hR_146
  refine wk_pure (show opD qR6w1_9 2 = some (some 47, .move (.tmp 49), 38, none) from by kernel_rfl) (by kernel_rfl) (.tuple #[.agg #[.int .i64 ((1 : Nat) : Int), .int .i64 ((sendsN 1 2 1 : Nat) : Int), .slice a_141 ((M ([3]) 1 2 1).length) c_143], .bool true]) (fun _ => y_move (by kernel_rfl)) ?_
  refine wk_pure (show opD qR6w1_9 3 = some (some 50, .extract (.tmp 47) 0, 37, none) from by kernel_rfl) (by kernel_rfl) (.agg #[.int .i64 ((1 : Nat) : Int), .int .i64 ((sendsN 1 2 1 : Nat) : Int), .slice a_141 ((M ([3]) 1 2 1).length) c_143]) (fun _ => x_extract (vs := #[.agg #[.int .i64 ((1 : Nat) : Int), .int .i64 ((sendsN 1 2 1 : Nat) : Int), .slice a_141 ((M ([3]) 1 2 1).length) c_143], .bool true]) (by kernel_rfl) (by kernel_rfl)) ?_
  refine wk_pure (show opD qR6w1_9 4 = some (some 51, .extract (.tmp 47) 1, 4, none) from by kernel_rfl) (by kernel_rfl) (.bool true) (fun _ => x_extract (vs := #[.agg #[.int .i64 ((1 : Nat) : Int), .int .i64 ((sendsN 1 2 1 : Nat) : Int), .slice a_141 ((M ([3]) 1 2 1).length) c_143], .bool true]) (by kernel_rfl) (by kernel_rfl)) ?_
  refine wk_alloc (z := #[.int .i64 0, .int .i64 0, .slice none 0 0]) (show opD qR6w1_9 5 = some (some 8, .alloc 37, 0, none) from by kernel_rfl) (by kernel_rfl) (by kernel_rfl) (fun w_153 b_152 eq_155 e_154 sz_156 hb_157 => ⟨?_, ?_⟩)
  · exact trivial
  refine wk_store (b := b_152) (off := 0) (cs' := #[.int .i64 ((1 : Nat) : Int), .int .i64 ((sendsN 1 2 1 : Nat) : Int), .slice a_141 ((M ([3]) 1 2 1).length) c_143]) (vs := #[.int .i64 ((1 : Nat) : Int), .int .i64 ((sendsN 1 2 1 : Nat) : Int), .slice a_141 ((M ([3]) 1 2 1).length) c_143]) (show opD qR6w1_9 6 = some (none, .store 37 (.tmp 8) (.tmp 50), 0, none) from by kernel_rfl) (by kernel_rfl) (by kernel_rfl) (by kernel_rfl) (by kernel_rfl) (by kernel_rfl) hb_157 (Nat.le_of_ble_eq_true rfl) (by kernel_rfl) (by kernel_rfl) (fun w_158 e_159 sz_160 hb_161 => ⟨?_, ?_⟩)
  · exact trivial
  refine wk_pure (show opD qR6w1_9 7 = some (some 9, .assign (.tmp 51), 4, none) from by kernel_rfl) (by kernel_rfl) (.bool true) (fun _ => y_assign (by kernel_rfl)) ?_
  refine wk_nil ?_
  refine thn_n ?_
  refine g_seq (x := qN6w1_32) (y := qN6w1_33) (by kernel_rfl) ?_
  refine g_region (ops := qR6w1_10) (id := 10) (by kernel_rfl) [(0, .pure), (1, .pure), (2, .pure), (3, .pure), (4, .pure), (5, .pure), (6, .pure), (7, .pure), (8, .loud), (9, .loud), (10, .pure), (11, .pure), (12, .pure), (13, .pure), (14, .loud), (15, .loud), (16, .pure), (17, .pure)] (by kernel_rfl) (by kernel_rfl) ?_
  refine wk_pure (show opD qR6w1_10 0 = some (some 52, .move (.tmp 7), 4, none) from by kernel_rfl) (by kernel_rfl) (.bool true) (fun _ => y_move (by kernel_rfl)) ?_
  refine wk_pure (show opD qR6w1_10 1 = some (some 53, .unOp .not 4 (.tmp 52), 4, none) from by kernel_rfl) (by kernel_rfl) (.bool false) (fun _ => y_not (p := true) (by kernel_rfl) rfl) ?_
  refine wk_pure (show opD qR6w1_10 2 = some (some 54, .move (.tmp 53), 4, none) from by kernel_rfl) (by kernel_rfl) (.bool false) (fun _ => y_move (by kernel_rfl)) ?_
  refine wk_pure (show opD qR6w1_10 3 = some (some 55, .move (.tmp 9), 4, some (2, false)) from by kernel_rfl) (by kernel_rfl) (.bool true) (fun _ => y_move (by kernel_rfl)) ?_
  refine wk_pure (show opD qR6w1_10 4 = some (some 56, .unOp .not 4 (.tmp 55), 4, some (2, false)) from by kernel_rfl) (by kernel_rfl) (.bool false) (fun _ => y_not (p := true) (by kernel_rfl) rfl) ?_
  refine wk_pure (show opD qR6w1_10 5 = some (some 57, .pick (.tmp 54) (.const (.bool true)) (.tmp 56), 4, none) from by kernel_rfl) (by kernel_rfl) (.bool false) (fun _ => y_pick_f (by kernel_rfl) (by kernel_rfl)) ?_
  refine wk_pure (show opD qR6w1_10 6 = some (some 58, .move (.tmp 57), 4, none) from by kernel_rfl) (by kernel_rfl) (.bool false) (fun _ => y_move (by kernel_rfl)) ?_
  refine wk_pure (show opD qR6w1_10 7 = some (some 59, .move (.tmp 3), 27, some (6, false)) from by kernel_rfl) (by kernel_rfl) (.pointer (some ⟨r_35, 0, none⟩)) (fun _ => y_move (by kernel_rfl)) ?_
  have hb_162 : w_158.heap[b_129]? = some (.cells #[.int .i64 ((1 : Nat) : Int), .int .i64 ((sendsN 0 2 1 : Nat) : Int), .slice a_118 ((M ([1]) 0 2 1).length) c_120] 37 (0, 0)) := (e_159.keep (e_154.keep (e_145.keep hb_138 (by simp only [List.mem_cons, List.not_mem_nil, or_false]; omega)) List.not_mem_nil) (by simp only [List.mem_cons, List.not_mem_nil, or_false]; omega))
  refine wk_val (show opD qR6w1_10 8 = some (some 60, .load 37 (.tmp 6), 37, some (6, false)) from by kernel_rfl) (by kernel_rfl) (.agg #[.int .i64 ((1 : Nat) : Int), .int .i64 ((sendsN 0 2 1 : Nat) : Int), .slice a_118 ((M ([1]) 0 2 1).length) c_120]) (x_load_agg (b := b_129) (off := 0) (n := 3) (by kernel_rfl) (by kernel_rfl) hb_162 (Nat.le_of_ble_eq_true rfl) (by kernel_rfl)) trivial ?_
  have hb_163 : RingAt w_158 r_35 g_36 ck_37 1 2 ([3]) 1 true false la_38 lc_39 kc_40 rest_41 crest_42 := (keepRingE e_159 (keepRingE e_154 hR_150 List.not_mem_nil (.inr List.not_mem_nil) List.not_mem_nil) (by simp only [List.mem_cons, List.not_mem_nil, or_false]; omega) (.inr (by simp only [List.mem_cons, List.not_mem_nil, or_false]; omega)) (by simp only [List.mem_cons, List.not_mem_nil, or_false]; omega))
  have hb_164 : OwO w_158 33 2 a_118 g_119 c_120 encW (M ([1]) 0 2 1) rest_121 := (e_159.keepOwP (e_154.keepOwP (e_145.keepOwP (e_136.keepOwP (e_131.keepOwP hO_124 (hg_125.imp id (fun h_ => List.not_mem_nil))) (hg_125.imp id (fun h_ => (by simp only [List.mem_cons, List.not_mem_nil, or_false]; omega)))) (hg_125.imp id (fun h_ => (by simp only [List.mem_cons, List.not_mem_nil, or_false]; omega)))) (hg_125.imp id (fun h_ => List.not_mem_nil))) (hg_125.imp id (fun h_ => (by simp only [List.mem_cons, List.not_mem_nil, or_false]; omega))))
  refine wk_call (show opD qR6w1_10 9 = some (some 61, .call ⟨.value (.func 10), #[.tmp 59, .tmp 60], #[27, 37]⟩, 28, some (6, false)) from by kernel_rfl) (by kernel_rfl) 10 #[.pointer (some ⟨r_35, 0, none⟩), .agg #[.int .i64 ((1 : Nat) : Int), .int .i64 ((sendsN 0 2 1 : Nat) : Int), .slice a_118 ((M ([1]) 0 2 1).length) c_120]] (x_call Try.func10 (by kernel_rfl) (c := (Try.f10.body).getD .skip) (by kernel_rfl) (by kernel_rfl) (by kernel_rfl)) (get_c (L' := ([3])) (pr := 1) (pc := (sendsN 0 2 1)) (W := (M ([1]) 0 2 1)) hb_163 (by omega) (by omega) (by decide) (by decide) (by decide) hb_164.sl (by have := hg_125; omega) (by exact inW_M (inW_one (by unfold InW; omega)) _ _ _) (by decide) (fun w_165 e_166 hR_167 sz_168 => ⟨?_, ?_⟩))
  · exact trivial
  have hsz_170 : w_158.heap.size ≤ w_165.heap.size := e_166.size
  have hR_169 : RingAt w_165 r_35 g_36 ck_37 1 2 ([3]) 2 false false la_38 lc_39 kc_40 rest_41 crest_42 := hR_167
  refine wk_pure (show opD qR6w1_10 10 = some (some 62, .binOp .neq 28 (.tmp 61) (.const (.int .i64 0)) 28, 4, some (6, false)) from by kernel_rfl) (by kernel_rfl) (.bool false) (fun _ => y_neq (k := .i64) (a := 0) (b := 0) (by kernel_rfl) (by kernel_rfl) (by decide)) ?_
  refine wk_pure (show opD qR6w1_10 11 = some (some 63, .pick (.tmp 58) (.const (.bool true)) (.tmp 62), 4, none) from by kernel_rfl) (by kernel_rfl) (.bool false) (fun _ => y_pick_f (by kernel_rfl) (by kernel_rfl)) ?_
  refine wk_pure (show opD qR6w1_10 12 = some (some 64, .move (.tmp 63), 4, none) from by kernel_rfl) (by kernel_rfl) (.bool false) (fun _ => y_move (by kernel_rfl)) ?_
  refine wk_pure (show opD qR6w1_10 13 = some (some 65, .move (.tmp 1), 27, some (12, false)) from by kernel_rfl) (by kernel_rfl) (.pointer (some ⟨r_9, 0, none⟩)) (fun _ => y_move (by kernel_rfl)) ?_
  have hb_171 : w_165.heap[b_152]? = some (.cells #[.int .i64 ((1 : Nat) : Int), .int .i64 ((sendsN 1 2 1 : Nat) : Int), .slice a_141 ((M ([3]) 1 2 1).length) c_143] 37 (0, 0)) := (e_166.keep hb_161 (by simp only [List.mem_cons, List.not_mem_nil, or_false]; omega))
  refine wk_val (show opD qR6w1_10 14 = some (some 66, .load 37 (.tmp 8), 37, some (12, false)) from by kernel_rfl) (by kernel_rfl) (.agg #[.int .i64 ((1 : Nat) : Int), .int .i64 ((sendsN 1 2 1 : Nat) : Int), .slice a_141 ((M ([3]) 1 2 1).length) c_143]) (x_load_agg (b := b_152) (off := 0) (n := 3) (by kernel_rfl) (by kernel_rfl) hb_171 (Nat.le_of_ble_eq_true rfl) (by kernel_rfl)) trivial ?_
  have hb_172 : RingAt w_165 r_9 g_10 ck_11 0 2 ([1]) 1 true false la_12 lc_13 kc_14 rest_15 crest_16 := (keepRingE e_166 (keepRingE e_159 (keepRingE e_154 (keepRingE e_145 (keepRingE e_136 (keepRingE e_131 hR_127 List.not_mem_nil (.inr List.not_mem_nil) List.not_mem_nil) (by simp only [List.mem_cons, List.not_mem_nil, or_false]; omega) (.inr (by simp only [List.mem_cons, List.not_mem_nil, or_false]; omega)) (by simp only [List.mem_cons, List.not_mem_nil, or_false]; omega)) (by simp only [List.mem_cons, List.not_mem_nil, or_false]; omega) (.inr (by simp only [List.mem_cons, List.not_mem_nil, or_false]; omega)) (by simp only [List.mem_cons, List.not_mem_nil, or_false]; omega)) List.not_mem_nil (.inr List.not_mem_nil) List.not_mem_nil) (by simp only [List.mem_cons, List.not_mem_nil, or_false]; omega) (.inr (by simp only [List.mem_cons, List.not_mem_nil, or_false]; omega)) (by simp only [List.mem_cons, List.not_mem_nil, or_false]; omega)) (by simp only [List.mem_cons, List.not_mem_nil, or_false]; omega) (.inr (by simp only [List.mem_cons, List.not_mem_nil, or_false]; omega)) (by simp only [List.mem_cons, List.not_mem_nil, or_false]; omega))
  have hb_173 : OwO w_165 33 2 a_141 g_142 c_143 encW (M ([3]) 1 2 1) rest_144 := (e_166.keepOwP (e_159.keepOwP (e_154.keepOwP hO_147 (hg_148.imp id (fun h_ => List.not_mem_nil))) (hg_148.imp id (fun h_ => (by simp only [List.mem_cons, List.not_mem_nil, or_false]; omega)))) (hg_148.imp id (fun h_ => (by simp only [List.mem_cons, List.not_mem_nil, or_false]; omega))))
  refine wk_call (show opD qR6w1_10 15 = some (some 67, .call ⟨.value (.func 10), #[.tmp 65, .tmp 66], #[27, 37]⟩, 28, some (12, false)) from by kernel_rfl) (by kernel_rfl) 10 #[.pointer (some ⟨r_9, 0, none⟩), .agg #[.int .i64 ((1 : Nat) : Int), .int .i64 ((sendsN 1 2 1 : Nat) : Int), .slice a_141 ((M ([3]) 1 2 1).length) c_143]] (x_call Try.func10 (by kernel_rfl) (c := (Try.f10.body).getD .skip) (by kernel_rfl) (by kernel_rfl) (by kernel_rfl)) (get_c (L' := ([3])) (pr := 1) (pc := (sendsN 1 2 1)) (W := (M ([3]) 1 2 1)) hb_172 (by omega) (by omega) (by decide) (by decide) (by decide) hb_173.sl (by have := hg_148; omega) (by exact inW_M (inW_one (by unfold InW; omega)) _ _ _) (by decide) (fun w_174 e_175 hR_176 sz_177 => ⟨?_, ?_⟩))
  · exact trivial
  have hsz_179 : w_165.heap.size ≤ w_174.heap.size := e_175.size
  have hR_178 : RingAt w_174 r_9 g_10 ck_11 0 2 ([3]) 2 false false la_12 lc_13 kc_14 rest_15 crest_16 := hR_176
  refine wk_pure (show opD qR6w1_10 16 = some (some 68, .binOp .neq 28 (.tmp 67) (.const (.int .i64 0)) 28, 4, some (12, false)) from by kernel_rfl) (by kernel_rfl) (.bool false) (fun _ => y_neq (k := .i64) (a := 0) (b := 0) (by kernel_rfl) (by kernel_rfl) (by decide)) ?_
  refine wk_pure (show opD qR6w1_10 17 = some (some 69, .pick (.tmp 64) (.const (.bool true)) (.tmp 68), 4, none) from by kernel_rfl) (by kernel_rfl) (.bool false) (fun _ => y_pick_f (by kernel_rfl) (by kernel_rfl)) ?_
  refine wk_nil ?_
  refine thn_n ?_
  refine g_cond_f (o := .tmp 69) (x := qN6w1_34) (y := qN6w1_35) (by kernel_rfl) (by kernel_rfl) ?_
  refine g_skip (by kernel_rfl) ?_
  refine blk_n ?_
  refine thn_n ?_
  refine g_region (ops := qR6w1_7) (id := 7) (by kernel_rfl) [(0, .pure), (1, .pure), (2, .pure)] (by kernel_rfl) (by kernel_rfl) ?_
  refine wk_pure (show opD qR6w1_7 0 = some (some 40, .move (.tmp 5), 3, none) from by kernel_rfl) (by kernel_rfl) (.int .i64 1) (fun _ => y_move (by kernel_rfl)) ?_
  refine wk_pure (show opD qR6w1_7 1 = some (some 41, .binOp .add 3 (.tmp 40) (.const (.int .i64 1)) 3, 3, none) from by kernel_rfl) (by kernel_rfl) (.int .i64 2) (fun _ => y_add (k := .i64) (a := 1) (b := 1) (by kernel_rfl) (by kernel_rfl) (by decide)) ?_
  refine wk_pure (show opD qR6w1_7 2 = some (some 5, .assign (.tmp 41), 3, none) from by kernel_rfl) (by kernel_rfl) (.int .i64 2) (fun _ => y_assign (by kernel_rfl)) ?_
  refine wk_nil ?_
  refine thn_n ?_
  refine un_succ ?_
  refine g_seq (x := qN6w1_19) (y := qN6w1_20) (by kernel_rfl) ?_
  refine g_seq (x := qN6w1_21) (y := qN6w1_22) (by kernel_rfl) ?_
  refine g_region (ops := qR6w1_6) (id := 6) (by kernel_rfl) [(0, .pure), (1, .pure)] (by kernel_rfl) (by kernel_rfl) ?_
  refine wk_pure (show opD qR6w1_6 0 = some (some 38, .move (.tmp 5), 3, none) from by kernel_rfl) (by kernel_rfl) (.int .i64 2) (fun _ => y_move (by kernel_rfl)) ?_
  refine wk_pure (show opD qR6w1_6 1 = some (some 39, .binOp .lss 3 (.tmp 38) (.const (.int .i64 2)) 3, 4, none) from by kernel_rfl) (by kernel_rfl) (.bool false) (fun _ => y_lss (k := .i64) (a := 2) (b := 2) (by kernel_rfl) (by kernel_rfl) (by decide)) ?_
  refine wk_nil ?_
  refine thn_n ?_
  refine g_cond_f (o := .tmp 39) (x := qN6w1_23) (y := qN6w1_24) (by kernel_rfl) (by kernel_rfl) ?_
  refine g_exit (id := 0) (by kernel_rfl) ?_
  refine thn_e ?_
  refine thn_e ?_
  refine blk_hit ?_
  refine thn_n ?_
  refine g_seq (x := qN6w1_36) (y := qN6w1_37) (by kernel_rfl) ?_
  refine g_region (ops := qR6w1_12) (id := 12) (by kernel_rfl) [(0, .pure), (1, .loud), (2, .pure), (3, .pure), (4, .pure), (5, .pure), (6, .pure)] (by kernel_rfl) (by kernel_rfl) ?_
  refine wk_pure (show opD qR6w1_12 0 = some (some 71, .move (.tmp 1), 27, none) from by kernel_rfl) (by kernel_rfl) (.pointer (some ⟨r_9, 0, none⟩)) (fun _ => y_move (by kernel_rfl)) ?_
  refine wk_call (show opD qR6w1_12 1 = some (some 72, .call ⟨.value (.func 11), #[.tmp 71], #[27]⟩, 42, none) from by kernel_rfl) (by kernel_rfl) 11 #[.pointer (some ⟨r_9, 0, none⟩)] (x_call Try.func11 (by kernel_rfl) (c := (Try.f11.body).getD .skip) (by kernel_rfl) (by kernel_rfl) (by kernel_rfl)) (sum_yes hR_178 (by omega) (fun w_180 a_181 g_182 c_183 rest_184 e_185 hO_186 hg_187 sz_188 => ⟨?_, ?_⟩))
  · exact trivial
  have hsz_189 : w_174.heap.size ≤ w_180.heap.size := e_185.size
  refine wk_pure (show opD qR6w1_12 2 = some (some 70, .move (.tmp 72), 42, none) from by kernel_rfl) (by kernel_rfl) (.tuple #[.slice a_181 (([3]).length) c_183, .bool true]) (fun _ => y_move (by kernel_rfl)) ?_
  refine wk_pure (show opD qR6w1_12 3 = some (some 73, .extract (.tmp 70) 0, 25, none) from by kernel_rfl) (by kernel_rfl) (.slice a_181 (([3]).length) c_183) (fun _ => x_extract (vs := #[.slice a_181 (([3]).length) c_183, .bool true]) (by kernel_rfl) (by kernel_rfl)) ?_
  refine wk_pure (show opD qR6w1_12 4 = some (some 74, .extract (.tmp 70) 1, 4, none) from by kernel_rfl) (by kernel_rfl) (.bool true) (fun _ => x_extract (vs := #[.slice a_181 (([3]).length) c_183, .bool true]) (by kernel_rfl) (by kernel_rfl)) ?_
  refine wk_pure (show opD qR6w1_12 5 = some (some 10, .assign (.tmp 73), 25, none) from by kernel_rfl) (by kernel_rfl) (.slice a_181 (([3]).length) c_183) (fun _ => y_assign (by kernel_rfl)) ?_
  refine wk_pure (show opD qR6w1_12 6 = some (some 11, .assign (.tmp 74), 4, none) from by kernel_rfl) (by kernel_rfl) (.bool true) (fun _ => y_assign (by kernel_rfl)) ?_
  refine wk_nil ?_
  refine thn_n ?_
  refine g_seq (x := qN6w1_38) (y := qN6w1_39) (by kernel_rfl) ?_
  refine g_region (ops := qR6w1_13) (id := 13) (by kernel_rfl) [(0, .pure), (1, .loud), (2, .pure), (3, .pure), (4, .pure), (5, .pure), (6, .pure)] (by kernel_rfl) (by kernel_rfl) ?_
  refine wk_pure (show opD qR6w1_13 0 = some (some 76, .move (.tmp 3), 27, none) from by kernel_rfl) (by kernel_rfl) (.pointer (some ⟨r_35, 0, none⟩)) (fun _ => y_move (by kernel_rfl)) ?_
  have hb_199 : RingAt w_180 r_35 g_36 ck_37 1 2 ([3]) 2 false false la_38 lc_39 kc_40 rest_41 crest_42 := (keepRingE e_185 (keepRingE e_175 hR_169 (by simp only [List.mem_cons, List.not_mem_nil, or_false]; omega) (.inr (by simp only [List.mem_cons, List.not_mem_nil, or_false]; omega)) (by simp only [List.mem_cons, List.not_mem_nil, or_false]; omega)) List.not_mem_nil (.inr List.not_mem_nil) List.not_mem_nil)
  refine wk_call (show opD qR6w1_13 1 = some (some 77, .call ⟨.value (.func 11), #[.tmp 76], #[27]⟩, 42, none) from by kernel_rfl) (by kernel_rfl) 11 #[.pointer (some ⟨r_35, 0, none⟩)] (x_call Try.func11 (by kernel_rfl) (c := (Try.f11.body).getD .skip) (by kernel_rfl) (by kernel_rfl) (by kernel_rfl)) (sum_yes hb_199 (by omega) (fun w_190 a_191 g_192 c_193 rest_194 e_195 hO_196 hg_197 sz_198 => ⟨?_, ?_⟩))
  · exact trivial
  have hsz_200 : w_180.heap.size ≤ w_190.heap.size := e_195.size
  refine wk_pure (show opD qR6w1_13 2 = some (some 75, .move (.tmp 77), 42, none) from by kernel_rfl) (by kernel_rfl) (.tuple #[.slice a_191 (([3]).length) c_193, .bool true]) (fun _ => y_move (by kernel_rfl)) ?_
  refine wk_pure (show opD qR6w1_13 3 = some (some 78, .extract (.tmp 75) 0, 25, none) from by kernel_rfl) (by kernel_rfl) (.slice a_191 (([3]).length) c_193) (fun _ => x_extract (vs := #[.slice a_191 (([3]).length) c_193, .bool true]) (by kernel_rfl) (by kernel_rfl)) ?_
  refine wk_pure (show opD qR6w1_13 4 = some (some 79, .extract (.tmp 75) 1, 4, none) from by kernel_rfl) (by kernel_rfl) (.bool true) (fun _ => x_extract (vs := #[.slice a_191 (([3]).length) c_193, .bool true]) (by kernel_rfl) (by kernel_rfl)) ?_
  refine wk_pure (show opD qR6w1_13 5 = some (some 12, .assign (.tmp 78), 25, none) from by kernel_rfl) (by kernel_rfl) (.slice a_191 (([3]).length) c_193) (fun _ => y_assign (by kernel_rfl)) ?_
  refine wk_pure (show opD qR6w1_13 6 = some (some 13, .assign (.tmp 79), 4, none) from by kernel_rfl) (by kernel_rfl) (.bool true) (fun _ => y_assign (by kernel_rfl)) ?_
  refine wk_nil ?_
  refine thn_n ?_
  refine g_seq (x := qN6w1_40) (y := qN6w1_41) (by kernel_rfl) ?_
  refine g_region (ops := qR6w1_14) (id := 14) (by kernel_rfl) [(0, .pure), (1, .pure), (2, .pure), (3, .pure), (4, .pure), (5, .pure), (6, .loud), (7, .loud), (8, .pure), (9, .pure), (10, .pure), (11, .loud), (12, .loud), (13, .pure), (14, .pure), (15, .pure), (16, .loud), (17, .pure), (18, .pure)] (by kernel_rfl) (by kernel_rfl) ?_
  refine wk_pure (show opD qR6w1_14 0 = some (some 80, .move (.tmp 11), 4, none) from by kernel_rfl) (by kernel_rfl) (.bool true) (fun _ => y_move (by kernel_rfl)) ?_
  refine wk_pure (show opD qR6w1_14 1 = some (some 81, .move (.tmp 80), 4, none) from by kernel_rfl) (by kernel_rfl) (.bool true) (fun _ => y_move (by kernel_rfl)) ?_
  refine wk_pure (show opD qR6w1_14 2 = some (some 82, .move (.tmp 13), 4, some (1, true)) from by kernel_rfl) (by kernel_rfl) (.bool true) (fun _ => y_move (by kernel_rfl)) ?_
  refine wk_pure (show opD qR6w1_14 3 = some (some 83, .pick (.tmp 81) (.tmp 82) (.const (.bool false)), 4, none) from by kernel_rfl) (by kernel_rfl) (.bool true) (fun _ => y_pick_t (by kernel_rfl) (by kernel_rfl)) ?_
  refine wk_pure (show opD qR6w1_14 4 = some (some 84, .move (.tmp 83), 4, none) from by kernel_rfl) (by kernel_rfl) (.bool true) (fun _ => y_move (by kernel_rfl)) ?_
  refine wk_pure (show opD qR6w1_14 5 = some (some 85, .move (.tmp 10), 25, some (4, true)) from by kernel_rfl) (by kernel_rfl) (.slice a_181 (([3]).length) c_183) (fun _ => y_move (by kernel_rfl)) ?_
  refine wk_call (show opD qR6w1_14 6 = some (some 86, .call ⟨.value (.func 14), #[.const (.int .i64 3)], #[2]⟩, 25, some (4, true)) from by kernel_rfl) (by kernel_rfl) 14 #[.int .i64 3] (x_call Try.func14 (by kernel_rfl) (c := (Try.f14.body).getD .skip) (by kernel_rfl) (by kernel_rfl) (by kernel_rfl)) (one_c (n := 3) (by omega) (fun w_201 g_202 e_203 hO_204 lo_205 hi_206 => ⟨?_, ?_⟩))
  · exact trivial
  have hsz_207 : w_190.heap.size ≤ w_201.heap.size := e_203.size
  have hb_208 : OwO w_201 33 2 a_181 g_182 c_183 encW ([3]) rest_184 := (e_203.keepOwP (e_195.keepOwP hO_186 (hg_187.imp id (fun h_ => List.not_mem_nil))) (hg_187.imp id (fun h_ => List.not_mem_nil)))
  refine wk_call (show opD qR6w1_14 7 = some (some 87, .call ⟨.value (.func 12), #[.tmp 85, .tmp 86], #[25, 25]⟩, 4, some (4, true)) from by kernel_rfl) (by kernel_rfl) 12 #[.slice a_181 (([3]).length) c_183, .slice (some ⟨g_202, 0, none⟩) ([3].length) 1] (x_call Try.func12 (by kernel_rfl) (c := (Try.f12.body).getD .skip) (by kernel_rfl) (by kernel_rfl) (by kernel_rfl)) (wides_c (L := ([3])) (M := ([3])) hb_208.sl hO_204.sl (by decide) (fun w_209 t_210 sm_211 ht_212 => ⟨?_, ?_⟩))
  · exact trivial
  have hsz_213 : w_209.heap.size = w_201.heap.size := by rw [sm_211.heap]
  obtain rfl : t_210 = true := ht_212.trans (by decide)
  refine wk_pure (show opD qR6w1_14 8 = some (some 88, .pick (.tmp 84) (.tmp 87) (.const (.bool false)), 4, none) from by kernel_rfl) (by kernel_rfl) (.bool true) (fun _ => y_pick_t (by kernel_rfl) (by kernel_rfl)) ?_
  refine wk_pure (show opD qR6w1_14 9 = some (some 89, .move (.tmp 88), 4, none) from by kernel_rfl) (by kernel_rfl) (.bool true) (fun _ => y_move (by kernel_rfl)) ?_
  refine wk_pure (show opD qR6w1_14 10 = some (some 90, .move (.tmp 12), 25, some (9, true)) from by kernel_rfl) (by kernel_rfl) (.slice a_191 (([3]).length) c_193) (fun _ => y_move (by kernel_rfl)) ?_
  refine wk_call (show opD qR6w1_14 11 = some (some 91, .call ⟨.value (.func 14), #[.const (.int .i64 3)], #[2]⟩, 25, some (9, true)) from by kernel_rfl) (by kernel_rfl) 14 #[.int .i64 3] (x_call Try.func14 (by kernel_rfl) (c := (Try.f14.body).getD .skip) (by kernel_rfl) (by kernel_rfl) (by kernel_rfl)) (one_c (n := 3) (by omega) (fun w_214 g_215 e_216 hO_217 lo_218 hi_219 => ⟨?_, ?_⟩))
  · exact trivial
  have hsz_220 : w_209.heap.size ≤ w_214.heap.size := e_216.size
  have hb_221 : OwO w_214 33 2 a_191 g_192 c_193 encW ([3]) rest_194 := (e_216.keepOwP (sm_211.keepOwO (e_203.keepOwP hO_196 (hg_197.imp id (fun h_ => List.not_mem_nil)))) (hg_197.imp id (fun h_ => List.not_mem_nil)))
  refine wk_call (show opD qR6w1_14 12 = some (some 92, .call ⟨.value (.func 12), #[.tmp 90, .tmp 91], #[25, 25]⟩, 4, some (9, true)) from by kernel_rfl) (by kernel_rfl) 12 #[.slice a_191 (([3]).length) c_193, .slice (some ⟨g_215, 0, none⟩) ([3].length) 1] (x_call Try.func12 (by kernel_rfl) (c := (Try.f12.body).getD .skip) (by kernel_rfl) (by kernel_rfl) (by kernel_rfl)) (wides_c (L := ([3])) (M := ([3])) hb_221.sl hO_217.sl (by decide) (fun w_222 t_223 sm_224 ht_225 => ⟨?_, ?_⟩))
  · exact trivial
  have hsz_226 : w_222.heap.size = w_214.heap.size := by rw [sm_224.heap]
  obtain rfl : t_223 = true := ht_225.trans (by decide)
  refine wk_pure (show opD qR6w1_14 13 = some (some 93, .pick (.tmp 89) (.tmp 92) (.const (.bool false)), 4, none) from by kernel_rfl) (by kernel_rfl) (.bool true) (fun _ => y_pick_t (by kernel_rfl) (by kernel_rfl)) ?_
  refine wk_pure (show opD qR6w1_14 14 = some (some 94, .move (.tmp 93), 4, none) from by kernel_rfl) (by kernel_rfl) (.bool true) (fun _ => y_move (by kernel_rfl)) ?_
  refine wk_pure (show opD qR6w1_14 15 = some (some 95, .move (.tmp 1), 27, some (14, true)) from by kernel_rfl) (by kernel_rfl) (.pointer (some ⟨r_9, 0, none⟩)) (fun _ => y_move (by kernel_rfl)) ?_
  have hb_229 : RingAt w_222 r_9 g_10 ck_11 0 2 ([3]) 2 false false la_12 lc_13 kc_14 rest_15 crest_16 := (keepRingS sm_224 (keepRingE e_216 (keepRingS sm_211 (keepRingE e_203 (keepRingE e_195 (keepRingE e_185 hR_178 List.not_mem_nil (.inr List.not_mem_nil) List.not_mem_nil) List.not_mem_nil (.inr List.not_mem_nil) List.not_mem_nil) List.not_mem_nil (.inr List.not_mem_nil) List.not_mem_nil)) List.not_mem_nil (.inr List.not_mem_nil) List.not_mem_nil))
  refine wk_call (show opD qR6w1_14 16 = some (some 96, .call ⟨.value (.func 13), #[.tmp 95], #[27]⟩, 4, some (14, true)) from by kernel_rfl) (by kernel_rfl) 13 #[.pointer (some ⟨r_9, 0, none⟩)] (x_call Try.func13 (by kernel_rfl) (c := (Try.f13.body).getD .skip) (by kernel_rfl) (by kernel_rfl) (by kernel_rfl)) (done_d hb_229.hr (by omega) (by decide : _ = true) (fun w_227 sm_228 => ⟨?_, ?_⟩))
  · exact trivial
  have hsz_230 : w_227.heap.size = w_222.heap.size := by rw [sm_228.heap]
  refine wk_pure (show opD qR6w1_14 17 = some (some 97, .pick (.tmp 94) (.tmp 96) (.const (.bool false)), 4, none) from by kernel_rfl) (by kernel_rfl) (.bool true) (fun _ => y_pick_t (by kernel_rfl) (by kernel_rfl)) ?_
  refine wk_pure (show opD qR6w1_14 18 = some (some 0, .assign (.tmp 97), 4, none) from by kernel_rfl) (by kernel_rfl) (.bool true) (fun _ => y_assign (by kernel_rfl)) ?_
  refine wk_nil ?_
  refine thn_n ?_
  refine g_ret (by kernel_rfl) ?_
  refine ends1_r (v := .bool true) rfl (by kernel_rfl) ?_
  exact hK _ (Ext.then (Ext.then (Ext.then (Ext.then (Ext.then (Ext.then (Ext.then (Ext.then (Ext.then (Ext.then (Ext.then (Ext.then (Ext.then (Ext.then (Ext.then (Ext.then (Ext.then (Ext.then (Ext.then (Ext.then (Ext.then (Ext.then (Ext.then (Ext.then (Ext.then (Ext.then (Ext.then (Ext.refl [] _) e_3 (fun _ h_ => absurd h_ List.not_mem_nil)) e_17 (fun _ h_ => absurd h_ List.not_mem_nil)) e_29 (fun _ h_ => absurd h_ List.not_mem_nil)) e_43 (fun _ h_ => absurd h_ List.not_mem_nil)) e_59 (by intro x_ hx_ hl_; simp only [List.mem_cons, List.not_mem_nil, or_false] at hx_ ⊢; omega)) e_68 (fun _ h_ => absurd h_ List.not_mem_nil)) e_73 (by intro x_ hx_ hl_; simp only [List.mem_cons, List.not_mem_nil, or_false] at hx_ ⊢; omega)) e_82 (by intro x_ hx_ hl_; simp only [List.mem_cons, List.not_mem_nil, or_false] at hx_ ⊢; omega)) e_91 (fun _ h_ => absurd h_ List.not_mem_nil)) e_96 (by intro x_ hx_ hl_; simp only [List.mem_cons, List.not_mem_nil, or_false] at hx_ ⊢; omega)) e_103 (by intro x_ hx_ hl_; simp only [List.mem_cons, List.not_mem_nil, or_false] at hx_ ⊢; omega)) e_112 (by intro x_ hx_ hl_; simp only [List.mem_cons, List.not_mem_nil, or_false] at hx_ ⊢; omega)) e_122 (by intro x_ hx_ hl_; simp only [List.mem_cons, List.not_mem_nil, or_false] at hx_ ⊢; omega)) e_131 (fun _ h_ => absurd h_ List.not_mem_nil)) e_136 (by intro x_ hx_ hl_; simp only [List.mem_cons, List.not_mem_nil, or_false] at hx_ ⊢; omega)) e_145 (by intro x_ hx_ hl_; simp only [List.mem_cons, List.not_mem_nil, or_false] at hx_ ⊢; omega)) e_154 (fun _ h_ => absurd h_ List.not_mem_nil)) e_159 (by intro x_ hx_ hl_; simp only [List.mem_cons, List.not_mem_nil, or_false] at hx_ ⊢; omega)) e_166 (by intro x_ hx_ hl_; simp only [List.mem_cons, List.not_mem_nil, or_false] at hx_ ⊢; omega)) e_175 (by intro x_ hx_ hl_; simp only [List.mem_cons, List.not_mem_nil, or_false] at hx_ ⊢; omega)) e_185 (fun _ h_ => absurd h_ List.not_mem_nil)) e_195 (fun _ h_ => absurd h_ List.not_mem_nil)) e_203 (fun _ h_ => absurd h_ List.not_mem_nil)) (sm_211.ext []) (fun _ h_ => absurd h_ List.not_mem_nil)) e_216 (fun _ h_ => absurd h_ List.not_mem_nil)) (sm_224.ext []) (fun _ h_ => absurd h_ List.not_mem_nil)) (sm_228.ext []) (fun _ h_ => absurd h_ List.not_mem_nil))

end Go.Proofs.Ytjdlgidacnphpaa
