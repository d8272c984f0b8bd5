/-
  A part of the proofs over the program's package ring: contracts of its functions, step by step.
-/
import Derived.Test.YtjdlgidacnphpaaRG
set_option linter.unusedSimpArgs false
set_option linter.unusedVariables false
namespace Go.Proofs.Ytjdlgidacnphpaa
open Go Go.Wk

theorem inW_rep (n : Nat) : ∀ i, InW ((List.replicate n (0 : Int)).getD i 0) := by
  intro i
  simp only [List.getD_eq_getElem?_getD, List.getElem?_replicate]
  split <;> (simp only [Option.getD_some, Option.getD_none]; unfold InW; omega)

noncomputable def sN5w1_0 : Code := (Try.f5.body).getD .skip
noncomputable def sN5w1_1 : Code := s1 sN5w1_0
noncomputable def sN5w1_2 : Code := s2 sN5w1_0
noncomputable def sR5w1_0 : Array Oper := rops sN5w1_1
noncomputable def sN5w1_3 : Code := s1 sN5w1_2
noncomputable def sN5w1_4 : Code := s2 sN5w1_2
noncomputable def sN5w1_5 : Code := s1 sN5w1_3
noncomputable def sN5w1_6 : Code := s2 sN5w1_3
noncomputable def sR5w1_1 : Array Oper := rops sN5w1_5
noncomputable def sN5w1_7 : Code := s1 sN5w1_6
noncomputable def sN5w1_8 : Code := s2 sN5w1_6
noncomputable def sN5w1_9 : Code := s1 sN5w1_4
noncomputable def sN5w1_10 : Code := s2 sN5w1_4
noncomputable def sR5w1_3 : Array Oper := rops sN5w1_9
noncomputable def sN5w1_11 : Code := s1 sN5w1_10
noncomputable def sN5w1_12 : Code := s2 sN5w1_10
noncomputable def sR5w1_4 : Array Oper := rops sN5w1_11
noncomputable def sN5w1_13 : Code := s1 sN5w1_12
noncomputable def sN5w1_14 : Code := s2 sN5w1_12
noncomputable def sR5w1_5 : Array Oper := rops sN5w1_13
noncomputable def sN5w1_15 : Code := s1 sN5w1_14
noncomputable def sN5w1_16 : Code := s2 sN5w1_14
noncomputable def sR5w1_6 : Array Oper := rops sN5w1_15
noncomputable def sN5w1_17 : Code := s1 sN5w1_16
noncomputable def sN5w1_18 : Code := s2 sN5w1_16
noncomputable def sR5w1_7 : Array Oper := rops sN5w1_17
noncomputable def sN5w1_19 : Code := s1 sN5w1_18
noncomputable def sN5w1_20 : Code := s2 sN5w1_18
noncomputable def sR5w1_8 : Array Oper := rops sN5w1_19
noncomputable def sN5w1_21 : Code := s1 sN5w1_20
noncomputable def sN5w1_22 : Code := s2 sN5w1_20
noncomputable def sR5w1_9 : Array Oper := rops sN5w1_21
noncomputable def sN5w1_23 : Code := s1 sN5w1_22
noncomputable def sN5w1_24 : Code := s2 sN5w1_22
noncomputable def sR5w1_10 : Array Oper := rops sN5w1_23
noncomputable def sN5w1_25 : Code := s1 sN5w1_24
noncomputable def sN5w1_26 : Code := s2 sN5w1_24
noncomputable def sR5w1_11 : Array Oper := rops sN5w1_25
noncomputable def sN5w1_27 : Code := s1 sN5w1_26
noncomputable def sN5w1_28 : Code := s2 sN5w1_26
noncomputable def sR5w1_12 : Array Oper := rops sN5w1_27
noncomputable def sN5w1_29 : Code := s1 sN5w1_28
noncomputable def sN5w1_30 : Code := s2 sN5w1_28
noncomputable def sR5w1_13 : Array Oper := rops sN5w1_29
noncomputable def sN5w1_31 : Code := s1 sN5w1_30
noncomputable def sN5w1_32 : Code := s2 sN5w1_30
noncomputable def sR5w1_14 : Array Oper := rops sN5w1_31
noncomputable def sN5w1_33 : Code := s1 sN5w1_32
noncomputable def sN5w1_34 : Code := s2 sN5w1_32
noncomputable def sR5w1_15 : Array Oper := rops sN5w1_33
noncomputable def sN5w1_35 : Code := s1 sN5w1_34
noncomputable def sN5w1_36 : Code := s2 sN5w1_34
noncomputable def sR5w1_16 : Array Oper := rops sN5w1_35
noncomputable def sN5w1_37 : Code := s1 sN5w1_36
noncomputable def sN5w1_38 : Code := s2 sN5w1_36
noncomputable def sR5w1_17 : Array Oper := rops sN5w1_37
theorem ringKnown_c {w : World} {K : Value → World → Prop} (hK : ∀ w', Ext [] w w' → K (.bool true) w') : CallsV Try.prog 5 #[] w K := by
  refine callsV_of (c := sN5w1_0) Try.func5 (by kernel_rfl) (n := 148) (by kernel_rfl) ?_
  refine g_seq (x := sN5w1_1) (y := sN5w1_2) (by kernel_rfl) ?_
  refine g_region (ops := sR5w1_0) (id := 0) (by kernel_rfl) [(0, .pure)] (by kernel_rfl) (by kernel_rfl) ?_
  refine wk_pure (show opD sR5w1_0 0 = some (some 0, .assign (.const (.bool false)), 4, none) from by kernel_rfl) (by kernel_rfl) (.bool false) (fun _ => y_assign (by kernel_rfl)) ?_
  refine wk_nil ?_
  refine thn_n ?_
  refine g_seq (x := sN5w1_3) (y := sN5w1_4) (by kernel_rfl) ?_
  refine g_seq (x := sN5w1_5) (y := sN5w1_6) (by kernel_rfl) ?_
  refine g_region (ops := sR5w1_1) (id := 1) (by kernel_rfl) [(0, .loud), (1, .pure)] (by kernel_rfl) (by kernel_rfl) ?_
  refine wk_call (show opD sR5w1_1 0 = some (some 23, .call ⟨.value (.func 6), #[], #[]⟩, 4, none) from by kernel_rfl) (by kernel_rfl) 6 #[] (x_call Try.func6 (by kernel_rfl) (c := (Try.f6.body).getD .skip) (by kernel_rfl) (by kernel_rfl) (by kernel_rfl)) (awake_c (fun w_1 e_2 => ⟨?_, ?_⟩))
  · exact trivial
  have hsz_3 : w.heap.size ≤ w_1.heap.size := e_2.size
  refine wk_pure (show opD sR5w1_1 1 = some (some 24, .unOp .not 4 (.tmp 23), 4, none) from by kernel_rfl) (by kernel_rfl) (.bool false) (fun _ => y_not (p := true) (by kernel_rfl) rfl) ?_
  refine wk_nil ?_
  refine thn_n ?_
  refine g_cond_f (o := .tmp 24) (x := sN5w1_7) (y := sN5w1_8) (by kernel_rfl) (by kernel_rfl) ?_
  refine g_skip (by kernel_rfl) ?_
  refine thn_n ?_
  refine g_seq (x := sN5w1_9) (y := sN5w1_10) (by kernel_rfl) ?_
  refine g_region (ops := sR5w1_3) (id := 3) (by kernel_rfl) [(0, .loud), (1, .pure), (2, .pure), (3, .pure), (4, .pure), (5, .pure)] (by kernel_rfl) (by kernel_rfl) ?_
  refine wk_call (show opD sR5w1_3 0 = some (some 26, .call ⟨.value (.func 7), #[.const (.int .i64 2), .const (.int .i64 2), .const (.slice none 0 0)], #[3, 3, 25]⟩, 29, none) from by kernel_rfl) (by kernel_rfl) 7 #[.int .i64 2, .int .i64 2, .slice none 0 0] (x_call Try.func7 (by kernel_rfl) (c := (Try.f7.body).getD .skip) (by kernel_rfl) (by kernel_rfl) (by kernel_rfl)) (new_bad (place := 2) (n := 2) (L := []) (by first | (simp only [List.length_replicate]; omega) | simp) ⟨?_, ?_⟩)
  · exact trivial
  refine wk_pure (show opD sR5w1_3 1 = some (some 25, .move (.tmp 26), 29, none) from by kernel_rfl) (by kernel_rfl) (.tuple #[.pointer none, .int .i64 1]) (fun _ => y_move (by kernel_rfl)) ?_
  refine wk_pure (show opD sR5w1_3 2 = some (some 27, .extract (.tmp 25) 0, 27, none) from by kernel_rfl) (by kernel_rfl) (.pointer none) (fun _ => x_extract (vs := #[.pointer none, .int .i64 1]) (by kernel_rfl) (by kernel_rfl)) ?_
  refine wk_pure (show opD sR5w1_3 3 = some (some 28, .extract (.tmp 25) 1, 28, none) from by kernel_rfl) (by kernel_rfl) (.int .i64 1) (fun _ => x_extract (vs := #[.pointer none, .int .i64 1]) (by kernel_rfl) (by kernel_rfl)) ?_
  refine wk_pure (show opD sR5w1_3 4 = some (some 1, .assign (.tmp 27), 27, none) from by kernel_rfl) (by kernel_rfl) (.pointer none) (fun _ => y_assign (by kernel_rfl)) ?_
  refine wk_pure (show opD sR5w1_3 5 = some (some 2, .assign (.tmp 28), 28, none) from by kernel_rfl) (by kernel_rfl) (.int .i64 1) (fun _ => y_assign (by kernel_rfl)) ?_
  refine wk_nil ?_
  refine thn_n ?_
  refine g_seq (x := sN5w1_11) (y := sN5w1_12) (by kernel_rfl) ?_
  refine g_region (ops := sR5w1_4) (id := 4) (by kernel_rfl) [(0, .loud), (1, .loud), (2, .pure), (3, .pure), (4, .pure), (5, .pure), (6, .pure)] (by kernel_rfl) (by kernel_rfl) ?_
  refine wk_makeR (enc := encW) (n := 401) (a := 401) (b := 401) (k := .i64) (q := .i64) (e := 33) (sz := 2) (by_ := 16) 0 (show opD sR5w1_4 0 = some (some 30, .makeSlice 25 (.const (.int .i64 401)) (.const (.int .i64 401)), 25, none) from by kernel_rfl) (by kernel_rfl) (by kernel_rfl) (by kernel_rfl) (by kernel_rfl) (by omega) (by omega) (by constructor <;> omega) encW_len (by kernel_rfl) (fun w_4 b_5 eq_6 e_7 sz_8 ho_9 => ⟨?_, ?_⟩)
  · exact trivial
  refine wk_call (show opD sR5w1_4 1 = some (some 31, .call ⟨.value (.func 7), #[.const (.int .i64 0), .const (.int .i64 1), .tmp 30], #[3, 3, 25]⟩, 29, none) from by kernel_rfl) (by kernel_rfl) 7 #[.int .i64 0, .int .i64 1, .slice (some ⟨b_5, 0, none⟩) ((List.replicate 401 0).length) 401] (x_call Try.func7 (by kernel_rfl) (c := (Try.f7.body).getD .skip) (by kernel_rfl) (by kernel_rfl) (by kernel_rfl)) (new_bad (place := 0) (n := 1) (L := List.replicate 401 0) (by first | (simp only [List.length_replicate]; omega) | simp) ⟨?_, ?_⟩)
  · exact trivial
  refine wk_pure (show opD sR5w1_4 2 = some (some 29, .move (.tmp 31), 29, none) from by kernel_rfl) (by kernel_rfl) (.tuple #[.pointer none, .int .i64 1]) (fun _ => y_move (by kernel_rfl)) ?_
  refine wk_pure (show opD sR5w1_4 3 = some (some 32, .extract (.tmp 29) 0, 27, none) from by kernel_rfl) (by kernel_rfl) (.pointer none) (fun _ => x_extract (vs := #[.pointer none, .int .i64 1]) (by kernel_rfl) (by kernel_rfl)) ?_
  refine wk_pure (show opD sR5w1_4 4 = some (some 33, .extract (.tmp 29) 1, 28, none) from by kernel_rfl) (by kernel_rfl) (.int .i64 1) (fun _ => x_extract (vs := #[.pointer none, .int .i64 1]) (by kernel_rfl) (by kernel_rfl)) ?_
  refine wk_pure (show opD sR5w1_4 5 = some (some 3, .assign (.tmp 32), 27, none) from by kernel_rfl) (by kernel_rfl) (.pointer none) (fun _ => y_assign (by kernel_rfl)) ?_
  refine wk_pure (show opD sR5w1_4 6 = some (some 4, .assign (.tmp 33), 28, none) from by kernel_rfl) (by kernel_rfl) (.int .i64 1) (fun _ => y_assign (by kernel_rfl)) ?_
  refine wk_nil ?_
  refine thn_n ?_
  refine g_seq (x := sN5w1_13) (y := sN5w1_14) (by kernel_rfl) ?_
  refine g_region (ops := sR5w1_5) (id := 5) (by kernel_rfl) [(0, .loud), (1, .loud), (2, .pure), (3, .pure), (4, .pure), (5, .pure), (6, .pure)] (by kernel_rfl) (by kernel_rfl) ?_
  refine wk_call (show opD sR5w1_5 0 = some (some 35, .call ⟨.value (.func 14), #[.const (.int .i64 7)], #[2]⟩, 25, none) from by kernel_rfl) (by kernel_rfl) 14 #[.int .i64 7] (x_call Try.func14 (by kernel_rfl) (c := (Try.f14.body).getD .skip) (by kernel_rfl) (by kernel_rfl) (by kernel_rfl)) (one_c (n := 7) (by omega) (fun w_10 g_11 e_12 hO_13 lo_14 hi_15 => ⟨?_, ?_⟩))
  · exact trivial
  have hsz_16 : w_4.heap.size ≤ w_10.heap.size := e_12.size
  refine wk_call (show opD sR5w1_5 1 = some (some 36, .call ⟨.value (.func 7), #[.const (.int .i64 0), .const (.int .i64 1), .tmp 35], #[3, 3, 25]⟩, 29, none) from by kernel_rfl) (by kernel_rfl) 7 #[.int .i64 0, .int .i64 1, .slice (some ⟨g_11, 0, none⟩) ([7].length) 1] (x_call Try.func7 (by kernel_rfl) (c := (Try.f7.body).getD .skip) (by kernel_rfl) (by kernel_rfl) (by kernel_rfl)) (new_ok (place := 0) (n := 1) (L := ([7])) hO_13.sl (by first | (simp only [List.length_replicate]; omega) | simp) (by omega) (by omega) (by omega) (by first | exact inW_rep _ | exact inW_one (by unfold InW; omega)) (fun w_17 r_18 g_19 ck_20 la_21 lc_22 kc_23 rest_24 crest_25 e_26 hR_27 lo_28 hi_29 lg_30 lk_31 => ⟨?_, ?_⟩))
  · exact trivial
  have hsz_35 : w_10.heap.size ≤ w_17.heap.size := e_26.size
  obtain ⟨u_32, u_33, u_34⟩ := hR_27.rl
  refine wk_pure (show opD sR5w1_5 2 = some (some 34, .move (.tmp 36), 29, none) from by kernel_rfl) (by kernel_rfl) (.tuple #[.pointer (some ⟨r_18, 0, none⟩), .int .i64 0]) (fun _ => y_move (by kernel_rfl)) ?_
  refine wk_pure (show opD sR5w1_5 3 = some (some 37, .extract (.tmp 34) 0, 27, none) from by kernel_rfl) (by kernel_rfl) (.pointer (some ⟨r_18, 0, none⟩)) (fun _ => x_extract (vs := #[.pointer (some ⟨r_18, 0, none⟩), .int .i64 0]) (by kernel_rfl) (by kernel_rfl)) ?_
  refine wk_pure (show opD sR5w1_5 4 = some (some 38, .extract (.tmp 34) 1, 28, none) from by kernel_rfl) (by kernel_rfl) (.int .i64 0) (fun _ => x_extract (vs := #[.pointer (some ⟨r_18, 0, none⟩), .int .i64 0]) (by kernel_rfl) (by kernel_rfl)) ?_
  refine wk_pure (show opD sR5w1_5 5 = some (some 5, .assign (.tmp 37), 27, none) from by kernel_rfl) (by kernel_rfl) (.pointer (some ⟨r_18, 0, none⟩)) (fun _ => y_assign (by kernel_rfl)) ?_
  refine wk_pure (show opD sR5w1_5 6 = some (some 6, .assign (.tmp 38), 28, none) from by kernel_rfl) (by kernel_rfl) (.int .i64 0) (fun _ => y_assign (by kernel_rfl)) ?_
  refine wk_nil ?_
  refine thn_n ?_
  refine g_seq (x := sN5w1_15) (y := sN5w1_16) (by kernel_rfl) ?_
  refine g_region (ops := sR5w1_6) (id := 6) (by kernel_rfl) [(0, .pure), (1, .loud), (2, .pure), (3, .pure), (4, .pure), (5, .pure), (6, .pure)] (by kernel_rfl) (by kernel_rfl) ?_
  refine wk_pure (show opD sR5w1_6 0 = some (some 40, .move (.tmp 5), 27, none) from by kernel_rfl) (by kernel_rfl) (.pointer (some ⟨r_18, 0, none⟩)) (fun _ => y_move (by kernel_rfl)) ?_
  refine wk_call (show opD sR5w1_6 1 = some (some 41, .call ⟨.value (.func 11), #[.tmp 40], #[27]⟩, 42, none) from by kernel_rfl) (by kernel_rfl) 11 #[.pointer (some ⟨r_18, 0, none⟩)] (x_call Try.func11 (by kernel_rfl) (c := (Try.f11.body).getD .skip) (by kernel_rfl) (by kernel_rfl) (by kernel_rfl)) (sum_yes hR_27 (by omega) (fun w_36 a_37 g_38 c_39 rest_40 e_41 hO_42 hg_43 sz_44 => ⟨?_, ?_⟩))
  · exact trivial
  have hsz_45 : w_17.heap.size ≤ w_36.heap.size := e_41.size
  refine wk_pure (show opD sR5w1_6 2 = some (some 39, .move (.tmp 41), 42, none) from by kernel_rfl) (by kernel_rfl) (.tuple #[.slice a_37 (([7]).length) c_39, .bool true]) (fun _ => y_move (by kernel_rfl)) ?_
  refine wk_pure (show opD sR5w1_6 3 = some (some 42, .extract (.tmp 39) 0, 25, none) from by kernel_rfl) (by kernel_rfl) (.slice a_37 (([7]).length) c_39) (fun _ => x_extract (vs := #[.slice a_37 (([7]).length) c_39, .bool true]) (by kernel_rfl) (by kernel_rfl)) ?_
  refine wk_pure (show opD sR5w1_6 4 = some (some 43, .extract (.tmp 39) 1, 4, none) from by kernel_rfl) (by kernel_rfl) (.bool true) (fun _ => x_extract (vs := #[.slice a_37 (([7]).length) c_39, .bool true]) (by kernel_rfl) (by kernel_rfl)) ?_
  refine wk_pure (show opD sR5w1_6 5 = some (some 7, .assign (.tmp 42), 25, none) from by kernel_rfl) (by kernel_rfl) (.slice a_37 (([7]).length) c_39) (fun _ => y_assign (by kernel_rfl)) ?_
  refine wk_pure (show opD sR5w1_6 6 = some (some 8, .assign (.tmp 43), 4, none) from by kernel_rfl) (by kernel_rfl) (.bool true) (fun _ => y_assign (by kernel_rfl)) ?_
  refine wk_nil ?_
  refine thn_n ?_
  refine g_seq (x := sN5w1_17) (y := sN5w1_18) (by kernel_rfl) ?_
  refine g_region (ops := sR5w1_7) (id := 7) (by kernel_rfl) [(0, .pure), (1, .loud), (2, .pure), (3, .pure), (4, .pure), (5, .loud), (6, .loud), (7, .pure)] (by kernel_rfl) (by kernel_rfl) ?_
  refine wk_pure (show opD sR5w1_7 0 = some (some 45, .move (.tmp 5), 27, none) from by kernel_rfl) (by kernel_rfl) (.pointer (some ⟨r_18, 0, none⟩)) (fun _ => y_move (by kernel_rfl)) ?_
  have hb_49 : RingAt w_36 r_18 g_19 ck_20 0 1 ([7]) 0 false false la_21 lc_22 kc_23 rest_24 crest_25 := (keepRingE e_41 hR_27 List.not_mem_nil (.inr List.not_mem_nil) List.not_mem_nil)
  refine wk_call (show opD sR5w1_7 1 = some (some 46, .call ⟨.value (.func 9), #[.tmp 45], #[27]⟩, 38, none) from by kernel_rfl) (by kernel_rfl) 9 #[.pointer (some ⟨r_18, 0, none⟩)] (x_call Try.func9 (by kernel_rfl) (c := (Try.f9.body).getD .skip) (by kernel_rfl) (by kernel_rfl) (by kernel_rfl)) (out_done hb_49 (by omega) (fun w_46 e_47 sz_48 => ⟨?_, ?_⟩))
  · exact trivial
  have hsz_50 : w_36.heap.size ≤ w_46.heap.size := e_47.size
  refine wk_pure (show opD sR5w1_7 2 = some (some 44, .move (.tmp 46), 38, none) from by kernel_rfl) (by kernel_rfl) (.tuple #[.agg #[.int .i64 0, .int .i64 0, .slice none 0 0], .bool false]) (fun _ => y_move (by kernel_rfl)) ?_
  refine wk_pure (show opD sR5w1_7 3 = some (some 47, .extract (.tmp 44) 0, 37, none) from by kernel_rfl) (by kernel_rfl) (.agg #[.int .i64 0, .int .i64 0, .slice none 0 0]) (fun _ => x_extract (vs := #[.agg #[.int .i64 0, .int .i64 0, .slice none 0 0], .bool false]) (by kernel_rfl) (by kernel_rfl)) ?_
  refine wk_pure (show opD sR5w1_7 4 = some (some 48, .extract (.tmp 44) 1, 4, none) from by kernel_rfl) (by kernel_rfl) (.bool false) (fun _ => x_extract (vs := #[.agg #[.int .i64 0, .int .i64 0, .slice none 0 0], .bool false]) (by kernel_rfl) (by kernel_rfl)) ?_
  refine wk_alloc (z := #[.int .i64 0, .int .i64 0, .slice none 0 0]) (show opD sR5w1_7 5 = some (some 9, .alloc 37, 0, none) from by kernel_rfl) (by kernel_rfl) (by kernel_rfl) (fun w_52 b_51 eq_54 e_53 sz_55 hb_56 => ⟨?_, ?_⟩)
  · exact trivial
  refine wk_store (b := b_51) (off := 0) (cs' := #[.int .i64 0, .int .i64 0, .slice none 0 0]) (vs := #[.int .i64 0, .int .i64 0, .slice none 0 0]) (show opD sR5w1_7 6 = some (none, .store 37 (.tmp 9) (.tmp 47), 0, none) from by kernel_rfl) (by kernel_rfl) (by kernel_rfl) (by kernel_rfl) (by kernel_rfl) (by kernel_rfl) hb_56 (Nat.le_of_ble_eq_true rfl) (by kernel_rfl) (by kernel_rfl) (fun w_57 e_58 sz_59 hb_60 => ⟨?_, ?_⟩)
  · exact trivial
  refine wk_pure (show opD sR5w1_7 7 = some (some 10, .assign (.tmp 48), 4, none) from by kernel_rfl) (by kernel_rfl) (.bool false) (fun _ => y_assign (by kernel_rfl)) ?_
  refine wk_nil ?_
  refine thn_n ?_
  refine g_seq (x := sN5w1_19) (y := sN5w1_20) (by kernel_rfl) ?_
  refine g_region (ops := sR5w1_8) (id := 8) (by kernel_rfl) [(0, .loud), (1, .loud), (2, .pure), (3, .pure), (4, .pure), (5, .pure), (6, .pure)] (by kernel_rfl) (by kernel_rfl) ?_
  refine wk_makeR (enc := encW) (n := 3) (a := 3) (b := 3) (k := .i64) (q := .i64) (e := 33) (sz := 2) (by_ := 16) 0 (show opD sR5w1_8 0 = some (some 50, .makeSlice 25 (.const (.int .i64 3)) (.const (.int .i64 3)), 25, none) from by kernel_rfl) (by kernel_rfl) (by kernel_rfl) (by kernel_rfl) (by kernel_rfl) (by omega) (by omega) (by constructor <;> omega) encW_len (by kernel_rfl) (fun w_61 b_62 eq_63 e_64 sz_65 ho_66 => ⟨?_, ?_⟩)
  · exact trivial
  refine wk_call (show opD sR5w1_8 1 = some (some 51, .call ⟨.value (.func 7), #[.const (.int .i64 0), .const (.int .i64 3), .tmp 50], #[3, 3, 25]⟩, 29, none) from by kernel_rfl) (by kernel_rfl) 7 #[.int .i64 0, .int .i64 3, .slice (some ⟨b_62, 0, none⟩) ((List.replicate 3 0).length) 3] (x_call Try.func7 (by kernel_rfl) (c := (Try.f7.body).getD .skip) (by kernel_rfl) (by kernel_rfl) (by kernel_rfl)) (new_ok (place := 0) (n := 3) (L := (List.replicate 3 0)) ho_66.sl (by first | (simp only [List.length_replicate]; omega) | simp) (by omega) (by omega) (by omega) (by first | exact inW_rep _ | exact inW_one (by unfold InW; omega)) (fun w_67 r_68 g_69 ck_70 la_71 lc_72 kc_73 rest_74 crest_75 e_76 hR_77 lo_78 hi_79 lg_80 lk_81 => ⟨?_, ?_⟩))
  · exact trivial
  have hsz_85 : w_61.heap.size ≤ w_67.heap.size := e_76.size
  obtain ⟨u_82, u_83, u_84⟩ := hR_77.rl
  refine wk_pure (show opD sR5w1_8 2 = some (some 49, .move (.tmp 51), 29, none) from by kernel_rfl) (by kernel_rfl) (.tuple #[.pointer (some ⟨r_68, 0, none⟩), .int .i64 0]) (fun _ => y_move (by kernel_rfl)) ?_
  refine wk_pure (show opD sR5w1_8 3 = some (some 52, .extract (.tmp 49) 0, 27, none) from by kernel_rfl) (by kernel_rfl) (.pointer (some ⟨r_68, 0, none⟩)) (fun _ => x_extract (vs := #[.pointer (some ⟨r_68, 0, none⟩), .int .i64 0]) (by kernel_rfl) (by kernel_rfl)) ?_
  refine wk_pure (show opD sR5w1_8 4 = some (some 53, .extract (.tmp 49) 1, 28, none) from by kernel_rfl) (by kernel_rfl) (.int .i64 0) (fun _ => x_extract (vs := #[.pointer (some ⟨r_68, 0, none⟩), .int .i64 0]) (by kernel_rfl) (by kernel_rfl)) ?_
  refine wk_pure (show opD sR5w1_8 5 = some (some 11, .assign (.tmp 52), 27, none) from by kernel_rfl) (by kernel_rfl) (.pointer (some ⟨r_68, 0, none⟩)) (fun _ => y_assign (by kernel_rfl)) ?_
  refine wk_pure (show opD sR5w1_8 6 = some (some 12, .assign (.tmp 53), 28, none) from by kernel_rfl) (by kernel_rfl) (.int .i64 0) (fun _ => y_assign (by kernel_rfl)) ?_
  refine wk_nil ?_
  refine thn_n ?_
  refine g_seq (x := sN5w1_21) (y := sN5w1_22) (by kernel_rfl) ?_
  refine g_region (ops := sR5w1_9) (id := 9) (by kernel_rfl) [(0, .pure), (1, .pure), (2, .loud), (3, .pure)] (by kernel_rfl) (by kernel_rfl) ?_
  refine wk_pure (show opD sR5w1_9 0 = some (some 54, .move (.tmp 11), 27, none) from by kernel_rfl) (by kernel_rfl) (.pointer (some ⟨r_68, 0, none⟩)) (fun _ => y_move (by kernel_rfl)) ?_
  refine wk_pure (show opD sR5w1_9 1 = some (some 55, .build 37 #[(0, .const (.int .i64 1))], 37, none) from by kernel_rfl) (by kernel_rfl) (.agg #[.int .i64 1, .int .i64 0, .slice none 0 0]) (fun _ => x_build (by kernel_rfl)) ?_
  refine wk_call (show opD sR5w1_9 2 = some (some 56, .call ⟨.value (.func 10), #[.tmp 54, .tmp 55], #[27, 37]⟩, 28, none) from by kernel_rfl) (by kernel_rfl) 10 #[.pointer (some ⟨r_68, 0, none⟩), .agg #[.int .i64 1, .int .i64 0, .slice none 0 0]] (x_call Try.func10 (by kernel_rfl) (c := (Try.f10.body).getD .skip) (by kernel_rfl) (by kernel_rfl) (by kernel_rfl)) (get_wait (pr := 1) (pc := 0) (W := []) hR_77 (by omega) (by omega) (by omega) (fun w_86 e_87 sz_88 => ⟨?_, ?_⟩))
  · exact trivial
  have hsz_89 : w_67.heap.size ≤ w_86.heap.size := e_87.size
  refine wk_pure (show opD sR5w1_9 3 = some (some 13, .assign (.tmp 56), 28, none) from by kernel_rfl) (by kernel_rfl) (.int .i64 10) (fun _ => y_assign (by kernel_rfl)) ?_
  refine wk_nil ?_
  refine thn_n ?_
  refine g_seq (x := sN5w1_23) (y := sN5w1_24) (by kernel_rfl) ?_
  refine g_region (ops := sR5w1_10) (id := 10) (by kernel_rfl) [(0, .pure), (1, .loud), (2, .pure), (3, .loud), (4, .pure)] (by kernel_rfl) (by kernel_rfl) ?_
  refine wk_pure (show opD sR5w1_10 0 = some (some 57, .move (.tmp 11), 27, none) from by kernel_rfl) (by kernel_rfl) (.pointer (some ⟨r_68, 0, none⟩)) (fun _ => y_move (by kernel_rfl)) ?_
  refine wk_call (show opD sR5w1_10 1 = some (some 58, .call ⟨.value (.func 14), #[.const (.int .i64 1)], #[2]⟩, 25, none) from by kernel_rfl) (by kernel_rfl) 14 #[.int .i64 1] (x_call Try.func14 (by kernel_rfl) (c := (Try.f14.body).getD .skip) (by kernel_rfl) (by kernel_rfl) (by kernel_rfl)) (one_c (n := 1) (by omega) (fun w_90 g_91 e_92 hO_93 lo_94 hi_95 => ⟨?_, ?_⟩))
  · exact trivial
  have hsz_96 : w_86.heap.size ≤ w_90.heap.size := e_92.size
  refine wk_pure (show opD sR5w1_10 2 = some (some 59, .build 37 #[(0, .const (.int .i64 0)), (1, .const (.int .i64 0)), (2, .tmp 58)], 37, none) from by kernel_rfl) (by kernel_rfl) (.agg #[.int .i64 0, .int .i64 0, .slice (some ⟨g_91, 0, none⟩) ([1].length) 1]) (fun _ => x_build (by kernel_rfl)) ?_
  have hb_97 : RingAt w_90 r_68 g_69 ck_70 0 3 (List.replicate 3 0) 0 false false la_71 lc_72 kc_73 rest_74 crest_75 := (keepRingE e_92 (keepRingE e_87 hR_77 List.not_mem_nil (.inr List.not_mem_nil) List.not_mem_nil) List.not_mem_nil (.inr List.not_mem_nil) List.not_mem_nil)
  refine wk_call (show opD sR5w1_10 3 = some (some 60, .call ⟨.value (.func 10), #[.tmp 57, .tmp 59], #[27, 37]⟩, 28, none) from by kernel_rfl) (by kernel_rfl) 10 #[.pointer (some ⟨r_68, 0, none⟩), .agg #[.int .i64 0, .int .i64 0, .slice (some ⟨g_91, 0, none⟩) ([1].length) 1]] (x_call Try.func10 (by kernel_rfl) (c := (Try.f10.body).getD .skip) (by kernel_rfl) (by kernel_rfl) (by kernel_rfl)) (get_chunk (pr := 0) (pc := 0) (W := [1]) hb_97 (by omega) (by omega) (by omega) (by decide) (fun w_98 e_99 sz_100 => ⟨?_, ?_⟩))
  · exact trivial
  have hsz_101 : w_90.heap.size ≤ w_98.heap.size := e_99.size
  refine wk_pure (show opD sR5w1_10 4 = some (some 14, .assign (.tmp 60), 28, none) from by kernel_rfl) (by kernel_rfl) (.int .i64 3) (fun _ => y_assign (by kernel_rfl)) ?_
  refine wk_nil ?_
  refine thn_n ?_
  refine g_seq (x := sN5w1_25) (y := sN5w1_26) (by kernel_rfl) ?_
  refine g_region (ops := sR5w1_11) (id := 11) (by kernel_rfl) [(0, .pure), (1, .pure), (2, .loud), (3, .pure)] (by kernel_rfl) (by kernel_rfl) ?_
  refine wk_pure (show opD sR5w1_11 0 = some (some 61, .move (.tmp 11), 27, none) from by kernel_rfl) (by kernel_rfl) (.pointer (some ⟨r_68, 0, none⟩)) (fun _ => y_move (by kernel_rfl)) ?_
  refine wk_pure (show opD sR5w1_11 1 = some (some 62, .build 37 #[(0, .const (.int .i64 0)), (1, .const (.int .i64 2)), (2, .const (.slice none 0 0))], 37, none) from by kernel_rfl) (by kernel_rfl) (.agg #[.int .i64 0, .int .i64 2, .slice none 0 0]) (fun _ => x_build (by kernel_rfl)) ?_
  have hb_102 : RingAt w_98 r_68 g_69 ck_70 0 3 (List.replicate 3 0) 0 false false la_71 lc_72 kc_73 rest_74 crest_75 := (keepRingE e_99 hb_97 List.not_mem_nil (.inr List.not_mem_nil) List.not_mem_nil)
  refine wk_call (show opD sR5w1_11 2 = some (some 63, .call ⟨.value (.func 10), #[.tmp 61, .tmp 62], #[27, 37]⟩, 28, none) from by kernel_rfl) (by kernel_rfl) 10 #[.pointer (some ⟨r_68, 0, none⟩), .agg #[.int .i64 0, .int .i64 2, .slice none 0 0]] (x_call Try.func10 (by kernel_rfl) (c := (Try.f10.body).getD .skip) (by kernel_rfl) (by kernel_rfl) (by kernel_rfl)) (get_len (pr := 0) (pc := 2) (W := []) hb_102 (by omega) (by omega) (by omega) (by decide) (by decide) (fun w_103 e_104 sz_105 => ⟨?_, ?_⟩))
  · exact trivial
  have hsz_106 : w_98.heap.size ≤ w_103.heap.size := e_104.size
  refine wk_pure (show opD sR5w1_11 3 = some (some 15, .assign (.tmp 63), 28, none) from by kernel_rfl) (by kernel_rfl) (.int .i64 3) (fun _ => y_assign (by kernel_rfl)) ?_
  refine wk_nil ?_
  refine thn_n ?_
  refine g_seq (x := sN5w1_27) (y := sN5w1_28) (by kernel_rfl) ?_
  refine g_region (ops := sR5w1_12) (id := 12) (by kernel_rfl) [(0, .pure), (1, .loud), (2, .pure), (3, .loud), (4, .pure)] (by kernel_rfl) (by kernel_rfl) ?_
  refine wk_pure (show opD sR5w1_12 0 = some (some 64, .move (.tmp 11), 27, none) from by kernel_rfl) (by kernel_rfl) (.pointer (some ⟨r_68, 0, none⟩)) (fun _ => y_move (by kernel_rfl)) ?_
  refine wk_call (show opD sR5w1_12 1 = some (some 65, .call ⟨.value (.func 14), #[.const (.int .i64 1)], #[2]⟩, 25, none) from by kernel_rfl) (by kernel_rfl) 14 #[.int .i64 1] (x_call Try.func14 (by kernel_rfl) (c := (Try.f14.body).getD .skip) (by kernel_rfl) (by kernel_rfl) (by kernel_rfl)) (one_c (n := 1) (by omega) (fun w_107 g_108 e_109 hO_110 lo_111 hi_112 => ⟨?_, ?_⟩))
  · exact trivial
  have hsz_113 : w_103.heap.size ≤ w_107.heap.size := e_109.size
  refine wk_pure (show opD sR5w1_12 2 = some (some 66, .build 37 #[(0, .const (.int .i64 0)), (1, .const (.int .i64 2)), (2, .tmp 65)], 37, none) from by kernel_rfl) (by kernel_rfl) (.agg #[.int .i64 0, .int .i64 2, .slice (some ⟨g_108, 0, none⟩) ([1].length) 1]) (fun _ => x_build (by kernel_rfl)) ?_
  have hb_114 : RingAt w_107 r_68 g_69 ck_70 0 3 (List.replicate 3 0) 0 false false la_71 lc_72 kc_73 rest_74 crest_75 := (keepRingE e_109 (keepRingE e_104 hb_102 List.not_mem_nil (.inr List.not_mem_nil) List.not_mem_nil) List.not_mem_nil (.inr List.not_mem_nil) List.not_mem_nil)
  refine wk_call (show opD sR5w1_12 3 = some (some 67, .call ⟨.value (.func 10), #[.tmp 64, .tmp 66], #[27, 37]⟩, 28, none) from by kernel_rfl) (by kernel_rfl) 10 #[.pointer (some ⟨r_68, 0, none⟩), .agg #[.int .i64 ((0 : Nat) : Int), .int .i64 ((2 : Nat) : Int), .slice (some ⟨g_108, 0, none⟩) ([1].length) 1]] (x_call Try.func10 (by kernel_rfl) (c := (Try.f10.body).getD .skip) (by kernel_rfl) (by kernel_rfl) (by kernel_rfl)) (get_c (L' := ([0, 0, 1])) (pr := 0) (pc := 2) (W := ([1])) hb_114 (by omega) (by omega) (by decide) (by decide) (by decide) hO_110.sl (by right; omega) (by exact inW_one (by unfold InW; omega)) (by decide) (fun w_115 e_116 hR_117 sz_118 => ⟨?_, ?_⟩))
  · exact trivial
  have hsz_120 : w_107.heap.size ≤ w_115.heap.size := e_116.size
  have hR_119 : RingAt w_115 r_68 g_69 ck_70 0 3 ([0, 0, 1]) 0 false true la_71 lc_72 kc_73 rest_74 crest_75 := hR_117
  refine wk_pure (show opD sR5w1_12 4 = some (some 16, .assign (.tmp 67), 28, none) from by kernel_rfl) (by kernel_rfl) (.int .i64 0) (fun _ => y_assign (by kernel_rfl)) ?_
  refine wk_nil ?_
  refine thn_n ?_
  refine g_seq (x := sN5w1_29) (y := sN5w1_30) (by kernel_rfl) ?_
  refine g_region (ops := sR5w1_13) (id := 13) (by kernel_rfl) [(0, .pure), (1, .loud), (2, .pure), (3, .loud), (4, .pure)] (by kernel_rfl) (by kernel_rfl) ?_
  refine wk_pure (show opD sR5w1_13 0 = some (some 68, .move (.tmp 11), 27, none) from by kernel_rfl) (by kernel_rfl) (.pointer (some ⟨r_68, 0, none⟩)) (fun _ => y_move (by kernel_rfl)) ?_
  refine wk_call (show opD sR5w1_13 1 = some (some 69, .call ⟨.value (.func 14), #[.const (.int .i64 1)], #[2]⟩, 25, none) from by kernel_rfl) (by kernel_rfl) 14 #[.int .i64 1] (x_call Try.func14 (by kernel_rfl) (c := (Try.f14.body).getD .skip) (by kernel_rfl) (by kernel_rfl) (by kernel_rfl)) (one_c (n := 1) (by omega) (fun w_121 g_122 e_123 hO_124 lo_125 hi_126 => ⟨?_, ?_⟩))
  · exact trivial
  have hsz_127 : w_115.heap.size ≤ w_121.heap.size := e_123.size
  refine wk_pure (show opD sR5w1_13 2 = some (some 70, .build 37 #[(0, .const (.int .i64 0)), (1, .const (.int .i64 2)), (2, .tmp 69)], 37, none) from by kernel_rfl) (by kernel_rfl) (.agg #[.int .i64 0, .int .i64 2, .slice (some ⟨g_122, 0, none⟩) ([1].length) 1]) (fun _ => x_build (by kernel_rfl)) ?_
  have hb_128 : RingAt w_121 r_68 g_69 ck_70 0 3 ([0, 0, 1]) 0 false true la_71 lc_72 kc_73 rest_74 crest_75 := (keepRingE e_123 hR_119 List.not_mem_nil (.inr List.not_mem_nil) List.not_mem_nil)
  refine wk_call (show opD sR5w1_13 3 = some (some 71, .call ⟨.value (.func 10), #[.tmp 68, .tmp 70], #[27, 37]⟩, 28, none) from by kernel_rfl) (by kernel_rfl) 10 #[.pointer (some ⟨r_68, 0, none⟩), .agg #[.int .i64 0, .int .i64 2, .slice (some ⟨g_122, 0, none⟩) ([1].length) 1]] (x_call Try.func10 (by kernel_rfl) (c := (Try.f10.body).getD .skip) (by kernel_rfl) (by kernel_rfl) (by kernel_rfl)) (get_again (pr := 0) (pc := 2) (W := [1]) hb_128 (by omega) (by omega) (by omega) (fun w_129 e_130 sz_131 => ⟨?_, ?_⟩))
  · exact trivial
  have hsz_132 : w_121.heap.size ≤ w_129.heap.size := e_130.size
  refine wk_pure (show opD sR5w1_13 4 = some (some 17, .assign (.tmp 71), 28, none) from by kernel_rfl) (by kernel_rfl) (.int .i64 8) (fun _ => y_assign (by kernel_rfl)) ?_
  refine wk_nil ?_
  refine thn_n ?_
  refine g_seq (x := sN5w1_31) (y := sN5w1_32) (by kernel_rfl) ?_
  refine g_region (ops := sR5w1_14) (id := 14) (by kernel_rfl) [(0, .pure), (1, .loud), (2, .pure), (3, .pure), (4, .pure), (5, .pure), (6, .pure)] (by kernel_rfl) (by kernel_rfl) ?_
  refine wk_pure (show opD sR5w1_14 0 = some (some 73, .move (.tmp 11), 27, none) from by kernel_rfl) (by kernel_rfl) (.pointer (some ⟨r_68, 0, none⟩)) (fun _ => y_move (by kernel_rfl)) ?_
  have hb_135 : RingAt w_129 r_68 g_69 ck_70 0 3 ([0, 0, 1]) 0 false true la_71 lc_72 kc_73 rest_74 crest_75 := (keepRingE e_130 hb_128 List.not_mem_nil (.inr List.not_mem_nil) List.not_mem_nil)
  refine wk_call (show opD sR5w1_14 1 = some (some 74, .call ⟨.value (.func 11), #[.tmp 73], #[27]⟩, 42, none) from by kernel_rfl) (by kernel_rfl) 11 #[.pointer (some ⟨r_68, 0, none⟩)] (x_call Try.func11 (by kernel_rfl) (c := (Try.f11.body).getD .skip) (by kernel_rfl) (by kernel_rfl) (by kernel_rfl)) (sum_no hb_135 (by omega) (by omega) (fun w_133 sm_134 => ⟨?_, ?_⟩))
  · exact trivial
  have hsz_136 : w_133.heap.size = w_129.heap.size := by rw [sm_134.heap]
  refine wk_pure (show opD sR5w1_14 2 = some (some 72, .move (.tmp 74), 42, none) from by kernel_rfl) (by kernel_rfl) (.tuple #[.slice none 0 0, .bool false]) (fun _ => y_move (by kernel_rfl)) ?_
  refine wk_pure (show opD sR5w1_14 3 = some (some 75, .extract (.tmp 72) 0, 25, none) from by kernel_rfl) (by kernel_rfl) (.slice none 0 0) (fun _ => x_extract (vs := #[.slice none 0 0, .bool false]) (by kernel_rfl) (by kernel_rfl)) ?_
  refine wk_pure (show opD sR5w1_14 4 = some (some 76, .extract (.tmp 72) 1, 4, none) from by kernel_rfl) (by kernel_rfl) (.bool false) (fun _ => x_extract (vs := #[.slice none 0 0, .bool false]) (by kernel_rfl) (by kernel_rfl)) ?_
  refine wk_pure (show opD sR5w1_14 5 = some (some 18, .assign (.tmp 75), 25, none) from by kernel_rfl) (by kernel_rfl) (.slice none 0 0) (fun _ => y_assign (by kernel_rfl)) ?_
  refine wk_pure (show opD sR5w1_14 6 = some (some 19, .assign (.tmp 76), 4, none) from by kernel_rfl) (by kernel_rfl) (.bool false) (fun _ => y_assign (by kernel_rfl)) ?_
  refine wk_nil ?_
  refine thn_n ?_
  refine g_seq (x := sN5w1_33) (y := sN5w1_34) (by kernel_rfl) ?_
  refine g_region (ops := sR5w1_15) (id := 15) (by kernel_rfl) [(0, .pure), (1, .loud), (2, .pure)] (by kernel_rfl) (by kernel_rfl) ?_
  refine wk_pure (show opD sR5w1_15 0 = some (some 77, .move (.tmp 11), 27, none) from by kernel_rfl) (by kernel_rfl) (.pointer (some ⟨r_68, 0, none⟩)) (fun _ => y_move (by kernel_rfl)) ?_
  have hb_137 : RingAt w_133 r_68 g_69 ck_70 0 3 ([0, 0, 1]) 0 false true la_71 lc_72 kc_73 rest_74 crest_75 := (keepRingS sm_134 hb_135)
  refine wk_call (show opD sR5w1_15 1 = some (some 78, .call ⟨.value (.func 15), #[.tmp 77], #[27]⟩, 3, none) from by kernel_rfl) (by kernel_rfl) 15 #[.pointer (some ⟨r_68, 0, none⟩)] (x_call Try.func15 (by kernel_rfl) (c := (Try.f15.body).getD .skip) (by kernel_rfl) (by kernel_rfl) (by kernel_rfl)) (round_c hb_137.hr ⟨?_, ?_⟩)
  · exact trivial
  refine wk_pure (show opD sR5w1_15 2 = some (some 20, .assign (.tmp 78), 3, none) from by kernel_rfl) (by kernel_rfl) (.int .i64 0) (fun _ => y_assign (by kernel_rfl)) ?_
  refine wk_nil ?_
  refine thn_n ?_
  refine g_seq (x := sN5w1_35) (y := sN5w1_36) (by kernel_rfl) ?_
  refine g_region (ops := sR5w1_16) (id := 16) (by kernel_rfl) [(0, .pure), (1, .loud), (2, .pure), (3, .pure), (4, .pure), (5, .loud), (6, .loud), (7, .pure)] (by kernel_rfl) (by kernel_rfl) ?_
  refine wk_pure (show opD sR5w1_16 0 = some (some 80, .move (.tmp 11), 27, none) from by kernel_rfl) (by kernel_rfl) (.pointer (some ⟨r_68, 0, none⟩)) (fun _ => y_move (by kernel_rfl)) ?_
  refine wk_call (show opD sR5w1_16 1 = some (some 81, .call ⟨.value (.func 9), #[.tmp 80], #[27]⟩, 38, none) from by kernel_rfl) (by kernel_rfl) 9 #[.pointer (some ⟨r_68, 0, none⟩)] (x_call Try.func9 (by kernel_rfl) (c := (Try.f9.body).getD .skip) (by kernel_rfl) (by kernel_rfl) (by kernel_rfl)) (out_c hb_137 (by omega) (by omega) (fun w_138 a_139 g_140 c_141 rest_142 e_143 hR_144 hO_145 hg_146 sz_147 => ⟨?_, ?_⟩))
  · exact trivial
  have hsz_149 : w_133.heap.size ≤ w_138.heap.size := e_143.size
  have hR_148 : RingAt w_138 r_68 g_69 ck_70 0 3 ([0, 0, 1]) 1 false false la_71 lc_72 kc_73 rest_74 crest_75 := hR_144
  refine wk_pure (show opD sR5w1_16 2 = some (some 79, .move (.tmp 81), 38, none) from by kernel_rfl) (by kernel_rfl) (.tuple #[.agg #[.int .i64 ((0 : Nat) : Int), .int .i64 ((sendsN 0 3 0 : Nat) : Int), .slice a_139 ((M ([0, 0, 1]) 0 3 0).length) c_141], .bool true]) (fun _ => y_move (by kernel_rfl)) ?_
  refine wk_pure (show opD sR5w1_16 3 = some (some 82, .extract (.tmp 79) 0, 37, none) from by kernel_rfl) (by kernel_rfl) (.agg #[.int .i64 ((0 : Nat) : Int), .int .i64 ((sendsN 0 3 0 : Nat) : Int), .slice a_139 ((M ([0, 0, 1]) 0 3 0).length) c_141]) (fun _ => x_extract (vs := #[.agg #[.int .i64 ((0 : Nat) : Int), .int .i64 ((sendsN 0 3 0 : Nat) : Int), .slice a_139 ((M ([0, 0, 1]) 0 3 0).length) c_141], .bool true]) (by kernel_rfl) (by kernel_rfl)) ?_
  refine wk_pure (show opD sR5w1_16 4 = some (some 83, .extract (.tmp 79) 1, 4, none) from by kernel_rfl) (by kernel_rfl) (.bool true) (fun _ => x_extract (vs := #[.agg #[.int .i64 ((0 : Nat) : Int), .int .i64 ((sendsN 0 3 0 : Nat) : Int), .slice a_139 ((M ([0, 0, 1]) 0 3 0).length) c_141], .bool true]) (by kernel_rfl) (by kernel_rfl)) ?_
  refine wk_alloc (z := #[.int .i64 0, .int .i64 0, .slice none 0 0]) (show opD sR5w1_16 5 = some (some 21, .alloc 37, 0, none) from by kernel_rfl) (by kernel_rfl) (by kernel_rfl) (fun w_151 b_150 eq_153 e_152 sz_154 hb_155 => ⟨?_, ?_⟩)
  · exact trivial
  refine wk_store (b := b_150) (off := 0) (cs' := #[.int .i64 ((0 : Nat) : Int), .int .i64 ((sendsN 0 3 0 : Nat) : Int), .slice a_139 ((M ([0, 0, 1]) 0 3 0).length) c_141]) (vs := #[.int .i64 ((0 : Nat) : Int), .int .i64 ((sendsN 0 3 0 : Nat) : Int), .slice a_139 ((M ([0, 0, 1]) 0 3 0).length) c_141]) (show opD sR5w1_16 6 = some (none, .store 37 (.tmp 21) (.tmp 82), 0, none) from by kernel_rfl) (by kernel_rfl) (by kernel_rfl) (by kernel_rfl) (by kernel_rfl) (by kernel_rfl) hb_155 (Nat.le_of_ble_eq_true rfl) (by kernel_rfl) (by kernel_rfl) (fun w_156 e_157 sz_158 hb_159 => ⟨?_, ?_⟩)
  · exact trivial
  refine wk_pure (show opD sR5w1_16 7 = some (some 22, .assign (.tmp 83), 4, none) from by kernel_rfl) (by kernel_rfl) (.bool true) (fun _ => y_assign (by kernel_rfl)) ?_
  refine wk_nil ?_
  refine thn_n ?_
  refine g_seq (x := sN5w1_37) (y := sN5w1_38) (by kernel_rfl) ?_
  refine g_region (ops := sR5w1_17) (id := 17) (by kernel_rfl) [(0, .pure), (1, .pure), (2, .pure), (3, .pure), (4, .pure), (5, .pure), (6, .pure), (7, .pure), (8, .pure), (9, .pure), (10, .pure), (11, .loud), (12, .loud), (13, .pure), (14, .pure), (15, .pure), (16, .pure), (17, .pure), (18, .pure), (19, .pure), (20, .loud), (21, .pure), (22, .pure), (23, .pure), (24, .pure), (25, .pure), (26, .pure), (27, .pure), (28, .pure), (29, .pure), (30, .pure), (31, .pure), (32, .pure), (33, .pure), (34, .pure), (35, .pure), (36, .pure), (37, .pure), (38, .pure), (39, .pure), (40, .pure), (41, .pure), (42, .pure), (43, .pure), (44, .pure), (45, .pure), (46, .pure), (47, .pure), (48, .pure), (49, .pure), (50, .pure), (51, .pure), (52, .pure), (53, .pure), (54, .pure), (55, .loud), (56, .pure), (57, .pure), (58, .pure), (59, .pure), (60, .pure), (61, .loud), (62, .pure), (63, .pure), (64, .pure)] (by kernel_rfl) (by kernel_rfl) ?_
  refine wk_pure (show opD sR5w1_17 0 = some (some 84, .move (.tmp 2), 28, none) from by kernel_rfl) (by kernel_rfl) (.int .i64 1) (fun _ => y_move (by kernel_rfl)) ?_
  refine wk_pure (show opD sR5w1_17 1 = some (some 85, .binOp .eql 28 (.tmp 84) (.const (.int .i64 1)) 28, 4, none) from by kernel_rfl) (by kernel_rfl) (.bool true) (fun _ => y_eql (k := .i64) (a := 1) (b := 1) (by kernel_rfl) (by kernel_rfl) (by decide)) ?_
  refine wk_pure (show opD sR5w1_17 2 = some (some 86, .move (.tmp 85), 4, none) from by kernel_rfl) (by kernel_rfl) (.bool true) (fun _ => y_move (by kernel_rfl)) ?_
  refine wk_pure (show opD sR5w1_17 3 = some (some 87, .move (.tmp 4), 28, some (2, true)) from by kernel_rfl) (by kernel_rfl) (.int .i64 1) (fun _ => y_move (by kernel_rfl)) ?_
  refine wk_pure (show opD sR5w1_17 4 = some (some 88, .binOp .eql 28 (.tmp 87) (.const (.int .i64 1)) 28, 4, some (2, true)) from by kernel_rfl) (by kernel_rfl) (.bool true) (fun _ => y_eql (k := .i64) (a := 1) (b := 1) (by kernel_rfl) (by kernel_rfl) (by decide)) ?_
  refine wk_pure (show opD sR5w1_17 5 = some (some 89, .pick (.tmp 86) (.tmp 88) (.const (.bool false)), 4, none) from by kernel_rfl) (by kernel_rfl) (.bool true) (fun _ => y_pick_t (by kernel_rfl) (by kernel_rfl)) ?_
  refine wk_pure (show opD sR5w1_17 6 = some (some 90, .move (.tmp 89), 4, none) from by kernel_rfl) (by kernel_rfl) (.bool true) (fun _ => y_move (by kernel_rfl)) ?_
  refine wk_pure (show opD sR5w1_17 7 = some (some 91, .move (.tmp 8), 4, some (6, true)) from by kernel_rfl) (by kernel_rfl) (.bool true) (fun _ => y_move (by kernel_rfl)) ?_
  refine wk_pure (show opD sR5w1_17 8 = some (some 92, .pick (.tmp 90) (.tmp 91) (.const (.bool false)), 4, none) from by kernel_rfl) (by kernel_rfl) (.bool true) (fun _ => y_pick_t (by kernel_rfl) (by kernel_rfl)) ?_
  refine wk_pure (show opD sR5w1_17 9 = some (some 93, .move (.tmp 92), 4, none) from by kernel_rfl) (by kernel_rfl) (.bool true) (fun _ => y_move (by kernel_rfl)) ?_
  refine wk_pure (show opD sR5w1_17 10 = some (some 94, .move (.tmp 7), 25, some (9, true)) from by kernel_rfl) (by kernel_rfl) (.slice a_37 (([7]).length) c_39) (fun _ => y_move (by kernel_rfl)) ?_
  refine wk_call (show opD sR5w1_17 11 = some (some 95, .call ⟨.value (.func 14), #[.const (.int .i64 7)], #[2]⟩, 25, some (9, true)) from by kernel_rfl) (by kernel_rfl) 14 #[.int .i64 7] (x_call Try.func14 (by kernel_rfl) (c := (Try.f14.body).getD .skip) (by kernel_rfl) (by kernel_rfl) (by kernel_rfl)) (one_c (n := 7) (by omega) (fun w_160 g_161 e_162 hO_163 lo_164 hi_165 => ⟨?_, ?_⟩))
  · exact trivial
  have hsz_166 : w_156.heap.size ≤ w_160.heap.size := e_162.size
  have hb_167 : OwO w_160 33 2 a_37 g_38 c_39 encW ([7]) rest_40 := (e_162.keepOwP (e_157.keepOwP (e_152.keepOwP (e_143.keepOwP (sm_134.keepOwO (e_130.keepOwP (e_123.keepOwP (e_116.keepOwP (e_109.keepOwP (e_104.keepOwP (e_99.keepOwP (e_92.keepOwP (e_87.keepOwP (e_76.keepOwP (e_64.keepOwP (e_58.keepOwP (e_53.keepOwP (e_47.keepOwP hO_42 (hg_43.imp id (fun h_ => List.not_mem_nil))) (hg_43.imp id (fun h_ => List.not_mem_nil))) (hg_43.imp id (fun h_ => (by simp only [List.mem_cons, List.not_mem_nil, or_false]; omega)))) (hg_43.imp id (fun h_ => List.not_mem_nil))) (hg_43.imp id (fun h_ => List.not_mem_nil))) (hg_43.imp id (fun h_ => List.not_mem_nil))) (hg_43.imp id (fun h_ => List.not_mem_nil))) (hg_43.imp id (fun h_ => List.not_mem_nil))) (hg_43.imp id (fun h_ => List.not_mem_nil))) (hg_43.imp id (fun h_ => List.not_mem_nil))) (hg_43.imp id (fun h_ => (by simp only [List.mem_cons, List.not_mem_nil, or_false]; omega)))) (hg_43.imp id (fun h_ => List.not_mem_nil))) (hg_43.imp id (fun h_ => List.not_mem_nil)))) (hg_43.imp id (fun h_ => (by simp only [List.mem_cons, List.not_mem_nil, or_false]; omega)))) (hg_43.imp id (fun h_ => List.not_mem_nil))) (hg_43.imp id (fun h_ => (by simp only [List.mem_cons, List.not_mem_nil, or_false]; omega)))) (hg_43.imp id (fun h_ => List.not_mem_nil)))
  refine wk_call (show opD sR5w1_17 12 = some (some 96, .call ⟨.value (.func 12), #[.tmp 94, .tmp 95], #[25, 25]⟩, 4, some (9, true)) from by kernel_rfl) (by kernel_rfl) 12 #[.slice a_37 (([7]).length) c_39, .slice (some ⟨g_161, 0, none⟩) ([7].length) 1] (x_call Try.func12 (by kernel_rfl) (c := (Try.f12.body).getD .skip) (by kernel_rfl) (by kernel_rfl) (by kernel_rfl)) (wides_c (L := ([7])) (M := ([7])) hb_167.sl hO_163.sl (by decide) (fun w_168 t_169 sm_170 ht_171 => ⟨?_, ?_⟩))
  · exact trivial
  have hsz_172 : w_168.heap.size = w_160.heap.size := by rw [sm_170.heap]
  obtain rfl : t_169 = true := ht_171.trans (by decide)
  refine wk_pure (show opD sR5w1_17 13 = some (some 97, .pick (.tmp 93) (.tmp 96) (.const (.bool false)), 4, none) from by kernel_rfl) (by kernel_rfl) (.bool true) (fun _ => y_pick_t (by kernel_rfl) (by kernel_rfl)) ?_
  refine wk_pure (show opD sR5w1_17 14 = some (some 98, .move (.tmp 97), 4, none) from by kernel_rfl) (by kernel_rfl) (.bool true) (fun _ => y_move (by kernel_rfl)) ?_
  refine wk_pure (show opD sR5w1_17 15 = some (some 99, .move (.tmp 10), 4, some (14, true)) from by kernel_rfl) (by kernel_rfl) (.bool false) (fun _ => y_move (by kernel_rfl)) ?_
  refine wk_pure (show opD sR5w1_17 16 = some (some 100, .unOp .not 4 (.tmp 99), 4, some (14, true)) from by kernel_rfl) (by kernel_rfl) (.bool true) (fun _ => y_not (p := false) (by kernel_rfl) rfl) ?_
  refine wk_pure (show opD sR5w1_17 17 = some (some 101, .pick (.tmp 98) (.tmp 100) (.const (.bool false)), 4, none) from by kernel_rfl) (by kernel_rfl) (.bool true) (fun _ => y_pick_t (by kernel_rfl) (by kernel_rfl)) ?_
  refine wk_pure (show opD sR5w1_17 18 = some (some 102, .move (.tmp 101), 4, none) from by kernel_rfl) (by kernel_rfl) (.bool true) (fun _ => y_move (by kernel_rfl)) ?_
  refine wk_pure (show opD sR5w1_17 19 = some (some 103, .move (.tmp 5), 27, some (18, true)) from by kernel_rfl) (by kernel_rfl) (.pointer (some ⟨r_18, 0, none⟩)) (fun _ => y_move (by kernel_rfl)) ?_
  have hb_175 : RingAt w_168 r_18 g_19 ck_20 0 1 ([7]) 0 false false la_21 lc_22 kc_23 rest_24 crest_25 := (keepRingS sm_170 (keepRingE e_162 (keepRingE e_157 (keepRingE e_152 (keepRingE e_143 (keepRingS sm_134 (keepRingE e_130 (keepRingE e_123 (keepRingE e_116 (keepRingE e_109 (keepRingE e_104 (keepRingE e_99 (keepRingE e_92 (keepRingE e_87 (keepRingE e_76 (keepRingE e_64 (keepRingE e_58 (keepRingE e_53 (keepRingE e_47 hb_49 List.not_mem_nil (.inr List.not_mem_nil) List.not_mem_nil) List.not_mem_nil (.inr List.not_mem_nil) List.not_mem_nil) (by simp only [List.mem_cons, List.not_mem_nil, or_false]; omega) (.inr (by simp only [List.mem_cons, List.not_mem_nil, or_false]; omega)) (by simp only [List.mem_cons, List.not_mem_nil, or_false]; omega)) List.not_mem_nil (.inr List.not_mem_nil) List.not_mem_nil) List.not_mem_nil (.inr List.not_mem_nil) List.not_mem_nil) List.not_mem_nil (.inr List.not_mem_nil) List.not_mem_nil) List.not_mem_nil (.inr List.not_mem_nil) List.not_mem_nil) List.not_mem_nil (.inr List.not_mem_nil) List.not_mem_nil) List.not_mem_nil (.inr List.not_mem_nil) List.not_mem_nil) List.not_mem_nil (.inr List.not_mem_nil) List.not_mem_nil) (by simp only [List.mem_cons, List.not_mem_nil, or_false]; omega) (.inr (by simp only [List.mem_cons, List.not_mem_nil, or_false]; omega)) (by simp only [List.mem_cons, List.not_mem_nil, or_false]; omega)) List.not_mem_nil (.inr List.not_mem_nil) List.not_mem_nil) List.not_mem_nil (.inr List.not_mem_nil) List.not_mem_nil)) (by simp only [List.mem_cons, List.not_mem_nil, or_false]; omega) (.inr (by simp only [List.mem_cons, List.not_mem_nil, or_false]; omega)) (by simp only [List.mem_cons, List.not_mem_nil, or_false]; omega)) List.not_mem_nil (.inr List.not_mem_nil) List.not_mem_nil) (by simp only [List.mem_cons, List.not_mem_nil, or_false]; omega) (.inr (by simp only [List.mem_cons, List.not_mem_nil, or_false]; omega)) (by simp only [List.mem_cons, List.not_mem_nil, or_false]; omega)) List.not_mem_nil (.inr List.not_mem_nil) List.not_mem_nil))
  refine wk_call (show opD sR5w1_17 20 = some (some 104, .call ⟨.value (.func 13), #[.tmp 103], #[27]⟩, 4, some (18, true)) from by kernel_rfl) (by kernel_rfl) 13 #[.pointer (some ⟨r_18, 0, none⟩)] (x_call Try.func13 (by kernel_rfl) (c := (Try.f13.body).getD .skip) (by kernel_rfl) (by kernel_rfl) (by kernel_rfl)) (done_d hb_175.hr (by omega) (by decide : _ = true) (fun w_173 sm_174 => ⟨?_, ?_⟩))
  · exact trivial
  have hsz_176 : w_173.heap.size = w_168.heap.size := by rw [sm_174.heap]
  refine wk_pure (show opD sR5w1_17 21 = some (some 105, .pick (.tmp 102) (.tmp 104) (.const (.bool false)), 4, none) from by kernel_rfl) (by kernel_rfl) (.bool true) (fun _ => y_pick_t (by kernel_rfl) (by kernel_rfl)) ?_
  refine wk_pure (show opD sR5w1_17 22 = some (some 106, .move (.tmp 105), 4, none) from by kernel_rfl) (by kernel_rfl) (.bool true) (fun _ => y_move (by kernel_rfl)) ?_
  refine wk_pure (show opD sR5w1_17 23 = some (some 107, .move (.tmp 13), 28, some (22, true)) from by kernel_rfl) (by kernel_rfl) (.int .i64 10) (fun _ => y_move (by kernel_rfl)) ?_
  refine wk_pure (show opD sR5w1_17 24 = some (some 108, .binOp .eql 28 (.tmp 107) (.const (.int .i64 10)) 28, 4, some (22, true)) from by kernel_rfl) (by kernel_rfl) (.bool true) (fun _ => y_eql (k := .i64) (a := 10) (b := 10) (by kernel_rfl) (by kernel_rfl) (by decide)) ?_
  refine wk_pure (show opD sR5w1_17 25 = some (some 109, .pick (.tmp 106) (.tmp 108) (.const (.bool false)), 4, none) from by kernel_rfl) (by kernel_rfl) (.bool true) (fun _ => y_pick_t (by kernel_rfl) (by kernel_rfl)) ?_
  refine wk_pure (show opD sR5w1_17 26 = some (some 110, .move (.tmp 109), 4, none) from by kernel_rfl) (by kernel_rfl) (.bool true) (fun _ => y_move (by kernel_rfl)) ?_
  refine wk_pure (show opD sR5w1_17 27 = some (some 111, .move (.tmp 14), 28, some (26, true)) from by kernel_rfl) (by kernel_rfl) (.int .i64 3) (fun _ => y_move (by kernel_rfl)) ?_
  refine wk_pure (show opD sR5w1_17 28 = some (some 112, .binOp .eql 28 (.tmp 111) (.const (.int .i64 3)) 28, 4, some (26, true)) from by kernel_rfl) (by kernel_rfl) (.bool true) (fun _ => y_eql (k := .i64) (a := 3) (b := 3) (by kernel_rfl) (by kernel_rfl) (by decide)) ?_
  refine wk_pure (show opD sR5w1_17 29 = some (some 113, .pick (.tmp 110) (.tmp 112) (.const (.bool false)), 4, none) from by kernel_rfl) (by kernel_rfl) (.bool true) (fun _ => y_pick_t (by kernel_rfl) (by kernel_rfl)) ?_
  refine wk_pure (show opD sR5w1_17 30 = some (some 114, .move (.tmp 113), 4, none) from by kernel_rfl) (by kernel_rfl) (.bool true) (fun _ => y_move (by kernel_rfl)) ?_
  refine wk_pure (show opD sR5w1_17 31 = some (some 115, .move (.tmp 15), 28, some (30, true)) from by kernel_rfl) (by kernel_rfl) (.int .i64 3) (fun _ => y_move (by kernel_rfl)) ?_
  refine wk_pure (show opD sR5w1_17 32 = some (some 116, .binOp .eql 28 (.tmp 115) (.const (.int .i64 3)) 28, 4, some (30, true)) from by kernel_rfl) (by kernel_rfl) (.bool true) (fun _ => y_eql (k := .i64) (a := 3) (b := 3) (by kernel_rfl) (by kernel_rfl) (by decide)) ?_
  refine wk_pure (show opD sR5w1_17 33 = some (some 117, .pick (.tmp 114) (.tmp 116) (.const (.bool false)), 4, none) from by kernel_rfl) (by kernel_rfl) (.bool true) (fun _ => y_pick_t (by kernel_rfl) (by kernel_rfl)) ?_
  refine wk_pure (show opD sR5w1_17 34 = some (some 118, .move (.tmp 117), 4, none) from by kernel_rfl) (by kernel_rfl) (.bool true) (fun _ => y_move (by kernel_rfl)) ?_
  refine wk_pure (show opD sR5w1_17 35 = some (some 119, .move (.tmp 16), 28, some (34, true)) from by kernel_rfl) (by kernel_rfl) (.int .i64 0) (fun _ => y_move (by kernel_rfl)) ?_
  refine wk_pure (show opD sR5w1_17 36 = some (some 120, .binOp .eql 28 (.tmp 119) (.const (.int .i64 0)) 28, 4, some (34, true)) from by kernel_rfl) (by kernel_rfl) (.bool true) (fun _ => y_eql (k := .i64) (a := 0) (b := 0) (by kernel_rfl) (by kernel_rfl) (by decide)) ?_
  refine wk_pure (show opD sR5w1_17 37 = some (some 121, .pick (.tmp 118) (.tmp 120) (.const (.bool false)), 4, none) from by kernel_rfl) (by kernel_rfl) (.bool true) (fun _ => y_pick_t (by kernel_rfl) (by kernel_rfl)) ?_
  refine wk_pure (show opD sR5w1_17 38 = some (some 122, .move (.tmp 121), 4, none) from by kernel_rfl) (by kernel_rfl) (.bool true) (fun _ => y_move (by kernel_rfl)) ?_
  refine wk_pure (show opD sR5w1_17 39 = some (some 123, .move (.tmp 17), 28, some (38, true)) from by kernel_rfl) (by kernel_rfl) (.int .i64 8) (fun _ => y_move (by kernel_rfl)) ?_
  refine wk_pure (show opD sR5w1_17 40 = some (some 124, .binOp .eql 28 (.tmp 123) (.const (.int .i64 8)) 28, 4, some (38, true)) from by kernel_rfl) (by kernel_rfl) (.bool true) (fun _ => y_eql (k := .i64) (a := 8) (b := 8) (by kernel_rfl) (by kernel_rfl) (by decide)) ?_
  refine wk_pure (show opD sR5w1_17 41 = some (some 125, .pick (.tmp 122) (.tmp 124) (.const (.bool false)), 4, none) from by kernel_rfl) (by kernel_rfl) (.bool true) (fun _ => y_pick_t (by kernel_rfl) (by kernel_rfl)) ?_
  refine wk_pure (show opD sR5w1_17 42 = some (some 126, .move (.tmp 125), 4, none) from by kernel_rfl) (by kernel_rfl) (.bool true) (fun _ => y_move (by kernel_rfl)) ?_
  refine wk_pure (show opD sR5w1_17 43 = some (some 127, .move (.tmp 19), 4, some (42, true)) from by kernel_rfl) (by kernel_rfl) (.bool false) (fun _ => y_move (by kernel_rfl)) ?_
  refine wk_pure (show opD sR5w1_17 44 = some (some 128, .unOp .not 4 (.tmp 127), 4, some (42, true)) from by kernel_rfl) (by kernel_rfl) (.bool true) (fun _ => y_not (p := false) (by kernel_rfl) rfl) ?_
  refine wk_pure (show opD sR5w1_17 45 = some (some 129, .pick (.tmp 126) (.tmp 128) (.const (.bool false)), 4, none) from by kernel_rfl) (by kernel_rfl) (.bool true) (fun _ => y_pick_t (by kernel_rfl) (by kernel_rfl)) ?_
  refine wk_pure (show opD sR5w1_17 46 = some (some 130, .move (.tmp 129), 4, none) from by kernel_rfl) (by kernel_rfl) (.bool true) (fun _ => y_move (by kernel_rfl)) ?_
  refine wk_pure (show opD sR5w1_17 47 = some (some 131, .move (.tmp 20), 3, some (46, true)) from by kernel_rfl) (by kernel_rfl) (.int .i64 0) (fun _ => y_move (by kernel_rfl)) ?_
  refine wk_pure (show opD sR5w1_17 48 = some (some 132, .binOp .eql 3 (.tmp 131) (.const (.int .i64 0)) 3, 4, some (46, true)) from by kernel_rfl) (by kernel_rfl) (.bool true) (fun _ => y_eql (k := .i64) (a := 0) (b := 0) (by kernel_rfl) (by kernel_rfl) (by decide)) ?_
  refine wk_pure (show opD sR5w1_17 49 = some (some 133, .pick (.tmp 130) (.tmp 132) (.const (.bool false)), 4, none) from by kernel_rfl) (by kernel_rfl) (.bool true) (fun _ => y_pick_t (by kernel_rfl) (by kernel_rfl)) ?_
  refine wk_pure (show opD sR5w1_17 50 = some (some 134, .move (.tmp 133), 4, none) from by kernel_rfl) (by kernel_rfl) (.bool true) (fun _ => y_move (by kernel_rfl)) ?_
  refine wk_pure (show opD sR5w1_17 51 = some (some 135, .move (.tmp 22), 4, some (50, true)) from by kernel_rfl) (by kernel_rfl) (.bool true) (fun _ => y_move (by kernel_rfl)) ?_
  refine wk_pure (show opD sR5w1_17 52 = some (some 136, .pick (.tmp 134) (.tmp 135) (.const (.bool false)), 4, none) from by kernel_rfl) (by kernel_rfl) (.bool true) (fun _ => y_pick_t (by kernel_rfl) (by kernel_rfl)) ?_
  refine wk_pure (show opD sR5w1_17 53 = some (some 137, .move (.tmp 136), 4, none) from by kernel_rfl) (by kernel_rfl) (.bool true) (fun _ => y_move (by kernel_rfl)) ?_
  refine wk_pure (show opD sR5w1_17 54 = some (some 138, .move (.tmp 11), 27, some (53, true)) from by kernel_rfl) (by kernel_rfl) (.pointer (some ⟨r_68, 0, none⟩)) (fun _ => y_move (by kernel_rfl)) ?_
  have hb_177 : RingAt w_173 r_68 g_69 ck_70 0 3 ([0, 0, 1]) 1 false false la_71 lc_72 kc_73 rest_74 crest_75 := (keepRingS sm_174 (keepRingS sm_170 (keepRingE e_162 (keepRingE e_157 (keepRingE e_152 hR_148 List.not_mem_nil (.inr List.not_mem_nil) List.not_mem_nil) (by simp only [List.mem_cons, List.not_mem_nil, or_false]; omega) (.inr (by simp only [List.mem_cons, List.not_mem_nil, or_false]; omega)) (by simp only [List.mem_cons, List.not_mem_nil, or_false]; omega)) List.not_mem_nil (.inr List.not_mem_nil) List.not_mem_nil)))
  refine wk_call (show opD sR5w1_17 55 = some (some 139, .call ⟨.value (.func 15), #[.tmp 138], #[27]⟩, 3, some (53, true)) from by kernel_rfl) (by kernel_rfl) 15 #[.pointer (some ⟨r_68, 0, none⟩)] (x_call Try.func15 (by kernel_rfl) (c := (Try.f15.body).getD .skip) (by kernel_rfl) (by kernel_rfl) (by kernel_rfl)) (round_c hb_177.hr ⟨?_, ?_⟩)
  · exact trivial
  refine wk_pure (show opD sR5w1_17 56 = some (some 140, .binOp .eql 3 (.tmp 139) (.const (.int .i64 1)) 3, 4, some (53, true)) from by kernel_rfl) (by kernel_rfl) (.bool true) (fun _ => y_eql (k := .i64) (a := 1) (b := 1) (by kernel_rfl) (by kernel_rfl) (by decide)) ?_
  refine wk_pure (show opD sR5w1_17 57 = some (some 141, .pick (.tmp 137) (.tmp 140) (.const (.bool false)), 4, none) from by kernel_rfl) (by kernel_rfl) (.bool true) (fun _ => y_pick_t (by kernel_rfl) (by kernel_rfl)) ?_
  refine wk_pure (show opD sR5w1_17 58 = some (some 142, .move (.tmp 141), 4, none) from by kernel_rfl) (by kernel_rfl) (.bool true) (fun _ => y_move (by kernel_rfl)) ?_
  refine wk_pure (show opD sR5w1_17 59 = some (some 143, .move (.tmp 5), 27, some (58, true)) from by kernel_rfl) (by kernel_rfl) (.pointer (some ⟨r_18, 0, none⟩)) (fun _ => y_move (by kernel_rfl)) ?_
  refine wk_pure (show opD sR5w1_17 60 = some (some 144, .build 37 #[], 37, some (58, true)) from by kernel_rfl) (by kernel_rfl) (.agg #[.int .i64 0, .int .i64 0, .slice none 0 0]) (fun _ => x_build (by kernel_rfl)) ?_
  have hb_178 : RingAt w_173 r_18 g_19 ck_20 0 1 ([7]) 0 false false la_21 lc_22 kc_23 rest_24 crest_25 := (keepRingS sm_174 hb_175)
  refine wk_call (show opD sR5w1_17 61 = some (some 145, .call ⟨.value (.func 10), #[.tmp 143, .tmp 144], #[27, 37]⟩, 28, some (58, true)) from by kernel_rfl) (by kernel_rfl) 10 #[.pointer (some ⟨r_18, 0, none⟩), .agg #[.int .i64 0, .int .i64 0, .slice none 0 0]] (x_call Try.func10 (by kernel_rfl) (c := (Try.f10.body).getD .skip) (by kernel_rfl) (by kernel_rfl) (by kernel_rfl)) (get_done (pr := 0) (pc := 0) (W := []) hb_178 (by omega) (fun w_179 e_180 sz_181 => ⟨?_, ?_⟩))
  · exact trivial
  have hsz_182 : w_173.heap.size ≤ w_179.heap.size := e_180.size
  refine wk_pure (show opD sR5w1_17 62 = some (some 146, .binOp .eql 28 (.tmp 145) (.const (.int .i64 8)) 28, 4, some (58, true)) from by kernel_rfl) (by kernel_rfl) (.bool true) (fun _ => y_eql (k := .i64) (a := 8) (b := 8) (by kernel_rfl) (by kernel_rfl) (by decide)) ?_
  refine wk_pure (show opD sR5w1_17 63 = some (some 147, .pick (.tmp 142) (.tmp 146) (.const (.bool false)), 4, none) from by kernel_rfl) (by kernel_rfl) (.bool true) (fun _ => y_pick_t (by kernel_rfl) (by kernel_rfl)) ?_
  refine wk_pure (show opD sR5w1_17 64 = some (some 0, .assign (.tmp 147), 4, none) from by kernel_rfl) (by kernel_rfl) (.bool true) (fun _ => y_assign (by kernel_rfl)) ?_
  refine wk_nil ?_
  refine thn_n ?_
  refine g_ret (by kernel_rfl) ?_
  refine ends1_r (v := .bool true) rfl (by kernel_rfl) ?_
  exact hK _ (Ext.then (Ext.then (Ext.then (Ext.then (Ext.then (Ext.then (Ext.then (Ext.then (Ext.then (Ext.then (Ext.then (Ext.then (Ext.then (Ext.then (Ext.then (Ext.then (Ext.then (Ext.then (Ext.then (Ext.then (Ext.then (Ext.then (Ext.then (Ext.then (Ext.then (Ext.then (Ext.refl [] _) e_2 (fun _ h_ => absurd h_ List.not_mem_nil)) e_7 (fun _ h_ => absurd h_ List.not_mem_nil)) e_12 (fun _ h_ => absurd h_ List.not_mem_nil)) e_26 (fun _ h_ => absurd h_ List.not_mem_nil)) e_41 (fun _ h_ => absurd h_ List.not_mem_nil)) e_47 (fun _ h_ => absurd h_ List.not_mem_nil)) e_53 (fun _ h_ => absurd h_ List.not_mem_nil)) e_58 (by intro x_ hx_ hl_; simp only [List.mem_cons, List.not_mem_nil, or_false] at hx_ ⊢; omega)) e_64 (fun _ h_ => absurd h_ List.not_mem_nil)) e_76 (fun _ h_ => absurd h_ List.not_mem_nil)) e_87 (fun _ h_ => absurd h_ List.not_mem_nil)) e_92 (fun _ h_ => absurd h_ List.not_mem_nil)) e_99 (fun _ h_ => absurd h_ List.not_mem_nil)) e_104 (fun _ h_ => absurd h_ List.not_mem_nil)) e_109 (fun _ h_ => absurd h_ List.not_mem_nil)) e_116 (by intro x_ hx_ hl_; simp only [List.mem_cons, List.not_mem_nil, or_false] at hx_ ⊢; omega)) e_123 (fun _ h_ => absurd h_ List.not_mem_nil)) e_130 (fun _ h_ => absurd h_ List.not_mem_nil)) (sm_134.ext []) (fun _ h_ => absurd h_ List.not_mem_nil)) e_143 (by intro x_ hx_ hl_; simp only [List.mem_cons, List.not_mem_nil, or_false] at hx_ ⊢; omega)) e_152 (fun _ h_ => absurd h_ List.not_mem_nil)) e_157 (by intro x_ hx_ hl_; simp only [List.mem_cons, List.not_mem_nil, or_false] at hx_ ⊢; omega)) e_162 (fun _ h_ => absurd h_ List.not_mem_nil)) (sm_170.ext []) (fun _ h_ => absurd h_ List.not_mem_nil)) (sm_174.ext []) (fun _ h_ => absurd h_ List.not_mem_nil)) e_180 (fun _ h_ => absurd h_ List.not_mem_nil))

end Go.Proofs.Ytjdlgidacnphpaa
