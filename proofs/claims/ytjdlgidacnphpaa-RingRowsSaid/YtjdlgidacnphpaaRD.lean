/-
  A part of the proofs over the program's package ring: contracts of its functions, step by step.
-/
import Derived.Test.YtjdlgidacnphpaaRC
set_option linter.unusedSimpArgs false
set_option linter.unusedVariables false
namespace Go.Proofs.Ytjdlgidacnphpaa
open Go Go.Wk

def sendsN (place n round : Nat) : Nat := if round < n - 1 then (place + n - round) % n else (place + 1 + n - (round - (n - 1))) % n
def addsN (n round : Nat) : Bool := decide (round < n - 1)
theorem sendsN_eq {place n round : Nat} (h1 : 2 ≤ n) (h2 : place < n) (h3 : round ≤ 2 * n - 3) : sendsC place n round = (sendsN place n round : Int) := by
  unfold sendsC sendsN
  by_cases h : round < n - 1
  · rw [if_pos (by omega), if_pos h, Int.natCast_emod]; congr 1; omega
  · rw [if_neg (by omega), if_neg h, Int.natCast_emod]; congr 1; omega
theorem addsN_eq {n round : Nat} (h1 : 2 ≤ n) : sendsA n round = addsN n round := by
  unfold sendsA addsN; congr 1; simp only [eq_iff_iff]; omega
theorem sendsN_lt {place n round : Nat} (h : 0 < n) : sendsN place n round < n := by unfold sendsN; split <;> exact Nat.mod_lt _ h
theorem sends_n {place n round : Nat} {w : World} (h1 : 2 ≤ n) (h2 : n ≤ 16) (h3 : place < n) (h4 : round ≤ 2 * n - 3) {K : Value → World → Prop}
    (hK : K (.tuple #[.int .i64 (sendsN place n round : Int), .bool (addsN n round), .int .i64 0]) w) : CallsV Try.prog 21 #[.int .i64 place, .int .i64 n, .int .i64 round] w K :=
  sends_c place n round w (by omega) (by omega) (by omega) (by omega) (by omega) (by omega) (by rw [sendsN_eq h1 h3 h4, addsN_eq h1]; exact hK)

def cFrom (len n c : Nat) : Nat := ((chk len n n).getD c (0, 0)).1
def cTo (len n c : Nat) : Nat := ((chk len n n).getD c (0, 0)).2
theorem cFrom_eq {len n c : Nat} (h : c < n) : cFrom len n c = cst len n c := by unfold cFrom; rw [chk_get _ _ _ _ h]
theorem cTo_eq {len n c : Nat} (h : c < n) : cTo len n c = cst len n (c + 1) := by unfold cTo; rw [chk_get _ _ _ _ h]
theorem cst_mono {len n k : Nat} : cst len n k ≤ cst len n (k + 1) := by unfold cst; rw [Nat.add_mul, Nat.one_mul]; generalize len / n = q; generalize len % n = r; generalize k * q = s; omega
theorem cBounds {len n c : Nat} (h : c < n) : cFrom len n c ≤ cTo len n c ∧ cTo len n c ≤ len := by
  rw [cFrom_eq h, cTo_eq h]; exact ⟨cst_mono, cst_le (by omega)⟩

structure RingAt (w : World) (r g ck place n : Nat) (L : List Int) (round : Nat) (told taken : Bool) (la : Option Addr) (lc kc : Nat) (rest crest : List Value) : Prop where
  hr : w.heap[r]? = some (.cells #[.int .i64 ((place : Nat) : Int), .int .i64 ((n : Nat) : Int), .slice la L.length lc, .slice (some ⟨ck, 0, none⟩) ((chk L.length n n).length) kc, .int .i64 ((round : Nat) : Int), .bool told, .bool taken] 54 (0, 0))
  hl : OwO w 33 2 la g lc encW L rest
  hc : OwnE w 63 2 ck kc encP (chk L.length n n) crest
  nr : L.length = 0 ∨ g ≠ r
  kr : ck ≠ r
  kg : L.length = 0 ∨ ck ≠ g
  h1 : 1 ≤ n
  h2 : n ≤ 16
  h3 : place < n
  h4 : L.length ≤ 400
  h5 : round ≤ 2 * n - 2
  hi : ∀ i, InW (L.getD i 0)
  gl : g < w.heap.size

theorem done_d {r ck : Nat} {place n round : Int} {la : Option Addr} {len lc nn kc : Nat} {told taken : Bool} {w : World} (hr : w.heap[r]? = some (.cells #[.int .i64 place, .int .i64 n, .slice la len lc, .slice (some ⟨ck, 0, none⟩) nn kc, .int .i64 round, .bool told, .bool taken] 54 (0, 0)))
    (h1 : 0 ≤ n ∧ n ≤ 16) {K : Value → World → Prop} {t : Bool} (ht : decide (2 * n - 3 < round) = t) (hK : ∀ w', SameMem w w' → K (.bool t) w') : CallsV Try.prog 13 #[.pointer (some ⟨r, 0, none⟩)] w K := by
  subst ht; exact done_c hr h1 hK

theorem clone_c {a : Option Addr} {b off c : Nat} {L : List Int} {w : World} (hs : SlE w 2 a b off encW L) (hl : L.length ≤ 1000) {K : Value → World → Prop}
    (hK : ∀ w' a' g c' rest, Ext [] w w' → OwO w' 33 2 a' g c' encW L rest → (L.length = 0 ∨ (w.heap.size ≤ g ∧ g < w'.heap.size)) → w'.heap.size ≤ w.heap.size + 2 → K (.slice a' L.length c') w') : CallsV Try.prog 17 #[.slice a L.length c] w K := by
  cases a with
  | none =>
    have h0 : L.length = 0 := by
      by_cases h : 0 < L.length
      · have := hs.addr h; simp at this
      · omega
    have : L = [] := List.eq_nil_of_length_eq_zero h0
    subst this
    exact clone_nil (hK w none 0 0 [] (.refl _ _) (.empty _ _ _ _ _ _ _ _) (.inl rfl) (by omega))
  | some x => exact clone_some hs rfl hl fun w' g c' rest h1 h2 h3 h4 h5 => hK w' _ g c' rest h1 h2.owO (.inr ⟨h3, h4⟩) h5

noncomputable def mN7w1_0 : Code := (Try.f7.body).getD .skip
noncomputable def mN7w1_1 : Code := s1 mN7w1_0
noncomputable def mN7w1_2 : Code := s2 mN7w1_0
noncomputable def mR7w1_0 : Array Oper := rops mN7w1_1
noncomputable def mN7w1_3 : Code := s1 mN7w1_2
noncomputable def mN7w1_4 : Code := s2 mN7w1_2
noncomputable def mN7w1_5 : Code := s1 mN7w1_3
noncomputable def mN7w1_6 : Code := s2 mN7w1_3
noncomputable def mR7w1_1 : Array Oper := rops mN7w1_5
noncomputable def mN7w1_7 : Code := s1 mN7w1_6
noncomputable def mN7w1_8 : Code := s2 mN7w1_6
noncomputable def mN7w1_9 : Code := s1 mN7w1_7
noncomputable def mN7w1_10 : Code := s2 mN7w1_7
noncomputable def mR7w1_2 : Array Oper := rops mN7w1_9
noncomputable def mN7w1_11 : Code := s1 mN7w1_4
noncomputable def mN7w1_12 : Code := s2 mN7w1_4
noncomputable def mR7w1_3 : Array Oper := rops mN7w1_11
theorem new_bad {a : Option Addr} {c : Nat} {L : List Int} {w : World} {place n : Int} (hbad : ¬ (1 ≤ n ∧ n ≤ 16 ∧ 0 ≤ place ∧ place < n ∧ L.length ≤ 400)) {K : Value → World → Prop} (hK : K (.tuple #[.pointer none, .int .i64 1]) w) : CallsV Try.prog 7 #[.int .i64 place, .int .i64 n, .slice a L.length c] w K := by
  refine callsV_of (c := mN7w1_0) Try.func7 (by kernel_rfl) (n := 44) (by kernel_rfl) ?_
  refine g_seq (x := mN7w1_1) (y := mN7w1_2) (by kernel_rfl) ?_
  refine g_region (ops := mR7w1_0) (id := 0) (by kernel_rfl) [(0, .pure), (1, .pure)] (by kernel_rfl) (by kernel_rfl) ?_
  refine wk_pure (show opD mR7w1_0 0 = some (some 6, .assign (.const (.pointer none)), 27, none) from by kernel_rfl) (by kernel_rfl) (.pointer none) (fun _ => y_assign (by kernel_rfl)) ?_
  refine wk_pure (show opD mR7w1_0 1 = some (some 7, .assign (.const (.int .i64 0)), 28, none) from by kernel_rfl) (by kernel_rfl) (.int .i64 0) (fun _ => y_assign (by kernel_rfl)) ?_
  refine wk_nil ?_
  refine thn_n ?_
  refine g_seq (x := mN7w1_3) (y := mN7w1_4) (by kernel_rfl) ?_
  refine g_seq (x := mN7w1_5) (y := mN7w1_6) (by kernel_rfl) ?_
  refine g_region (ops := mR7w1_1) (id := 1) (by kernel_rfl) [(0, .pure), (1, .pure), (2, .pure), (3, .pure), (4, .pure), (5, .pure), (6, .pure), (7, .pure), (8, .pure), (9, .pure), (10, .pure), (11, .pure), (12, .pure), (13, .pure), (14, .pure), (15, .pure), (16, .pure), (17, .pure), (18, .pure), (19, .pure)] (by kernel_rfl) (by kernel_rfl) ?_
  refine wk_pure (show opD mR7w1_1 0 = some (some 10, .move (.tmp 1), 3, none) from by kernel_rfl) (by kernel_rfl) (.int .i64 n) (fun _ => y_move (by kernel_rfl)) ?_
  by_cases h_1 : (n : Int) < 1
  · refine wk_pure (show opD mR7w1_1 1 = some (some 11, .binOp .lss 3 (.tmp 10) (.const (.int .i64 1)) 3, 4, none) from by kernel_rfl) (by kernel_rfl) (.bool true) (fun _ => y_lss (k := .i64) (a := n) (b := 1) (by kernel_rfl) (by kernel_rfl) (decide_eq_true h_1)) ?_
    refine wk_pure (show opD mR7w1_1 2 = some (some 12, .move (.tmp 11), 4, none) from by kernel_rfl) (by kernel_rfl) (.bool true) (fun _ => y_move (by kernel_rfl)) ?_
    refine wk_skip (show opD mR7w1_1 3 = some (some 13, .move (.tmp 1), 3, some (2, false)) from by kernel_rfl) (by kernel_rfl) ?_
    refine wk_skip (show opD mR7w1_1 4 = some (some 14, .binOp .gtr 3 (.tmp 13) (.const (.int .i64 16)) 3, 4, some (2, false)) from by kernel_rfl) (by kernel_rfl) ?_
    refine wk_pure (show opD mR7w1_1 5 = some (some 15, .pick (.tmp 12) (.const (.bool true)) (.tmp 14), 4, none) from by kernel_rfl) (by kernel_rfl) (.bool true) (fun _ => y_pick_t (by kernel_rfl) (by kernel_rfl)) ?_
    refine wk_pure (show opD mR7w1_1 6 = some (some 16, .move (.tmp 15), 4, none) from by kernel_rfl) (by kernel_rfl) (.bool true) (fun _ => y_move (by kernel_rfl)) ?_
    refine wk_skip (show opD mR7w1_1 7 = some (some 17, .move (.tmp 0), 3, some (6, false)) from by kernel_rfl) (by kernel_rfl) ?_
    refine wk_skip (show opD mR7w1_1 8 = some (some 18, .binOp .lss 3 (.tmp 17) (.const (.int .i64 0)) 3, 4, some (6, false)) from by kernel_rfl) (by kernel_rfl) ?_
    refine wk_pure (show opD mR7w1_1 9 = some (some 19, .pick (.tmp 16) (.const (.bool true)) (.tmp 18), 4, none) from by kernel_rfl) (by kernel_rfl) (.bool true) (fun _ => y_pick_t (by kernel_rfl) (by kernel_rfl)) ?_
    refine wk_pure (show opD mR7w1_1 10 = some (some 20, .move (.tmp 19), 4, none) from by kernel_rfl) (by kernel_rfl) (.bool true) (fun _ => y_move (by kernel_rfl)) ?_
    refine wk_skip (show opD mR7w1_1 11 = some (some 21, .move (.tmp 0), 3, some (10, false)) from by kernel_rfl) (by kernel_rfl) ?_
    refine wk_skip (show opD mR7w1_1 12 = some (some 22, .move (.tmp 1), 3, some (10, false)) from by kernel_rfl) (by kernel_rfl) ?_
    refine wk_skip (show opD mR7w1_1 13 = some (some 23, .binOp .geq 3 (.tmp 21) (.tmp 22) 3, 4, some (10, false)) from by kernel_rfl) (by kernel_rfl) ?_
    refine wk_pure (show opD mR7w1_1 14 = some (some 24, .pick (.tmp 20) (.const (.bool true)) (.tmp 23), 4, none) from by kernel_rfl) (by kernel_rfl) (.bool true) (fun _ => y_pick_t (by kernel_rfl) (by kernel_rfl)) ?_
    refine wk_pure (show opD mR7w1_1 15 = some (some 25, .move (.tmp 24), 4, none) from by kernel_rfl) (by kernel_rfl) (.bool true) (fun _ => y_move (by kernel_rfl)) ?_
    refine wk_skip (show opD mR7w1_1 16 = some (some 26, .move (.tmp 2), 25, some (15, false)) from by kernel_rfl) (by kernel_rfl) ?_
    refine wk_skip (show opD mR7w1_1 17 = some (some 27, .call ⟨.builtin .len, #[.tmp 26], #[25]⟩, 3, some (15, false)) from by kernel_rfl) (by kernel_rfl) ?_
    refine wk_skip (show opD mR7w1_1 18 = some (some 28, .binOp .gtr 3 (.tmp 27) (.const (.int .i64 400)) 3, 4, some (15, false)) from by kernel_rfl) (by kernel_rfl) ?_
    refine wk_pure (show opD mR7w1_1 19 = some (some 29, .pick (.tmp 25) (.const (.bool true)) (.tmp 28), 4, none) from by kernel_rfl) (by kernel_rfl) (.bool true) (fun _ => y_pick_t (by kernel_rfl) (by kernel_rfl)) ?_
    refine wk_nil ?_
    refine thn_n ?_
    refine g_cond_t (o := .tmp 29) (x := mN7w1_7) (y := mN7w1_8) (by kernel_rfl) (by kernel_rfl) ?_
    refine g_seq (x := mN7w1_9) (y := mN7w1_10) (by kernel_rfl) ?_
    refine g_region (ops := mR7w1_2) (id := 2) (by kernel_rfl) [(0, .pure), (1, .pure)] (by kernel_rfl) (by kernel_rfl) ?_
    refine wk_pure (show opD mR7w1_2 0 = some (some 6, .assign (.const (.pointer none)), 27, none) from by kernel_rfl) (by kernel_rfl) (.pointer none) (fun _ => y_assign (by kernel_rfl)) ?_
    refine wk_pure (show opD mR7w1_2 1 = some (some 7, .assign (.const (.int .i64 1)), 28, none) from by kernel_rfl) (by kernel_rfl) (.int .i64 1) (fun _ => y_assign (by kernel_rfl)) ?_
    refine wk_nil ?_
    refine thn_n ?_
    refine g_ret (by kernel_rfl) ?_
    refine thn_r ?_
    refine ends2_r (v := .pointer none) (v' := .int .i64 1) rfl (by kernel_rfl) (by kernel_rfl) ?_
    exact hK
  · refine wk_pure (show opD mR7w1_1 1 = some (some 11, .binOp .lss 3 (.tmp 10) (.const (.int .i64 1)) 3, 4, none) from by kernel_rfl) (by kernel_rfl) (.bool false) (fun _ => y_lss (k := .i64) (a := n) (b := 1) (by kernel_rfl) (by kernel_rfl) (decide_eq_false h_1)) ?_
    refine wk_pure (show opD mR7w1_1 2 = some (some 12, .move (.tmp 11), 4, none) from by kernel_rfl) (by kernel_rfl) (.bool false) (fun _ => y_move (by kernel_rfl)) ?_
    refine wk_pure (show opD mR7w1_1 3 = some (some 13, .move (.tmp 1), 3, some (2, false)) from by kernel_rfl) (by kernel_rfl) (.int .i64 n) (fun _ => y_move (by kernel_rfl)) ?_
    by_cases h_2 : (16 : Int) < n
    · refine wk_pure (show opD mR7w1_1 4 = some (some 14, .binOp .gtr 3 (.tmp 13) (.const (.int .i64 16)) 3, 4, some (2, false)) from by kernel_rfl) (by kernel_rfl) (.bool true) (fun _ => y_gtr (k := .i64) (a := n) (b := 16) (by kernel_rfl) (by kernel_rfl) (decide_eq_true h_2)) ?_
      refine wk_pure (show opD mR7w1_1 5 = some (some 15, .pick (.tmp 12) (.const (.bool true)) (.tmp 14), 4, none) from by kernel_rfl) (by kernel_rfl) (.bool true) (fun _ => y_pick_f (by kernel_rfl) (by kernel_rfl)) ?_
      refine wk_pure (show opD mR7w1_1 6 = some (some 16, .move (.tmp 15), 4, none) from by kernel_rfl) (by kernel_rfl) (.bool true) (fun _ => y_move (by kernel_rfl)) ?_
      refine wk_skip (show opD mR7w1_1 7 = some (some 17, .move (.tmp 0), 3, some (6, false)) from by kernel_rfl) (by kernel_rfl) ?_
      refine wk_skip (show opD mR7w1_1 8 = some (some 18, .binOp .lss 3 (.tmp 17) (.const (.int .i64 0)) 3, 4, some (6, false)) from by kernel_rfl) (by kernel_rfl) ?_
      refine wk_pure (show opD mR7w1_1 9 = some (some 19, .pick (.tmp 16) (.const (.bool true)) (.tmp 18), 4, none) from by kernel_rfl) (by kernel_rfl) (.bool true) (fun _ => y_pick_t (by kernel_rfl) (by kernel_rfl)) ?_
      refine wk_pure (show opD mR7w1_1 10 = some (some 20, .move (.tmp 19), 4, none) from by kernel_rfl) (by kernel_rfl) (.bool true) (fun _ => y_move (by kernel_rfl)) ?_
      refine wk_skip (show opD mR7w1_1 11 = some (some 21, .move (.tmp 0), 3, some (10, false)) from by kernel_rfl) (by kernel_rfl) ?_
      refine wk_skip (show opD mR7w1_1 12 = some (some 22, .move (.tmp 1), 3, some (10, false)) from by kernel_rfl) (by kernel_rfl) ?_
      refine wk_skip (show opD mR7w1_1 13 = some (some 23, .binOp .geq 3 (.tmp 21) (.tmp 22) 3, 4, some (10, false)) from by kernel_rfl) (by kernel_rfl) ?_
      refine wk_pure (show opD mR7w1_1 14 = some (some 24, .pick (.tmp 20) (.const (.bool true)) (.tmp 23), 4, none) from by kernel_rfl) (by kernel_rfl) (.bool true) (fun _ => y_pick_t (by kernel_rfl) (by kernel_rfl)) ?_
      refine wk_pure (show opD mR7w1_1 15 = some (some 25, .move (.tmp 24), 4, none) from by kernel_rfl) (by kernel_rfl) (.bool true) (fun _ => y_move (by kernel_rfl)) ?_
      refine wk_skip (show opD mR7w1_1 16 = some (some 26, .move (.tmp 2), 25, some (15, false)) from by kernel_rfl) (by kernel_rfl) ?_
      refine wk_skip (show opD mR7w1_1 17 = some (some 27, .call ⟨.builtin .len, #[.tmp 26], #[25]⟩, 3, some (15, false)) from by kernel_rfl) (by kernel_rfl) ?_
      refine wk_skip (show opD mR7w1_1 18 = some (some 28, .binOp .gtr 3 (.tmp 27) (.const (.int .i64 400)) 3, 4, some (15, false)) from by kernel_rfl) (by kernel_rfl) ?_
      refine wk_pure (show opD mR7w1_1 19 = some (some 29, .pick (.tmp 25) (.const (.bool true)) (.tmp 28), 4, none) from by kernel_rfl) (by kernel_rfl) (.bool true) (fun _ => y_pick_t (by kernel_rfl) (by kernel_rfl)) ?_
      refine wk_nil ?_
      refine thn_n ?_
      refine g_cond_t (o := .tmp 29) (x := mN7w1_7) (y := mN7w1_8) (by kernel_rfl) (by kernel_rfl) ?_
      refine g_seq (x := mN7w1_9) (y := mN7w1_10) (by kernel_rfl) ?_
      refine g_region (ops := mR7w1_2) (id := 2) (by kernel_rfl) [(0, .pure), (1, .pure)] (by kernel_rfl) (by kernel_rfl) ?_
      refine wk_pure (show opD mR7w1_2 0 = some (some 6, .assign (.const (.pointer none)), 27, none) from by kernel_rfl) (by kernel_rfl) (.pointer none) (fun _ => y_assign (by kernel_rfl)) ?_
      refine wk_pure (show opD mR7w1_2 1 = some (some 7, .assign (.const (.int .i64 1)), 28, none) from by kernel_rfl) (by kernel_rfl) (.int .i64 1) (fun _ => y_assign (by kernel_rfl)) ?_
      refine wk_nil ?_
      refine thn_n ?_
      refine g_ret (by kernel_rfl) ?_
      refine thn_r ?_
      refine ends2_r (v := .pointer none) (v' := .int .i64 1) rfl (by kernel_rfl) (by kernel_rfl) ?_
      exact hK
    · refine wk_pure (show opD mR7w1_1 4 = some (some 14, .binOp .gtr 3 (.tmp 13) (.const (.int .i64 16)) 3, 4, some (2, false)) from by kernel_rfl) (by kernel_rfl) (.bool false) (fun _ => y_gtr (k := .i64) (a := n) (b := 16) (by kernel_rfl) (by kernel_rfl) (decide_eq_false h_2)) ?_
      refine wk_pure (show opD mR7w1_1 5 = some (some 15, .pick (.tmp 12) (.const (.bool true)) (.tmp 14), 4, none) from by kernel_rfl) (by kernel_rfl) (.bool false) (fun _ => y_pick_f (by kernel_rfl) (by kernel_rfl)) ?_
      refine wk_pure (show opD mR7w1_1 6 = some (some 16, .move (.tmp 15), 4, none) from by kernel_rfl) (by kernel_rfl) (.bool false) (fun _ => y_move (by kernel_rfl)) ?_
      refine wk_pure (show opD mR7w1_1 7 = some (some 17, .move (.tmp 0), 3, some (6, false)) from by kernel_rfl) (by kernel_rfl) (.int .i64 place) (fun _ => y_move (by kernel_rfl)) ?_
      by_cases h_3 : (place : Int) < 0
      · refine wk_pure (show opD mR7w1_1 8 = some (some 18, .binOp .lss 3 (.tmp 17) (.const (.int .i64 0)) 3, 4, some (6, false)) from by kernel_rfl) (by kernel_rfl) (.bool true) (fun _ => y_lss (k := .i64) (a := place) (b := 0) (by kernel_rfl) (by kernel_rfl) (decide_eq_true h_3)) ?_
        refine wk_pure (show opD mR7w1_1 9 = some (some 19, .pick (.tmp 16) (.const (.bool true)) (.tmp 18), 4, none) from by kernel_rfl) (by kernel_rfl) (.bool true) (fun _ => y_pick_f (by kernel_rfl) (by kernel_rfl)) ?_
        refine wk_pure (show opD mR7w1_1 10 = some (some 20, .move (.tmp 19), 4, none) from by kernel_rfl) (by kernel_rfl) (.bool true) (fun _ => y_move (by kernel_rfl)) ?_
        refine wk_skip (show opD mR7w1_1 11 = some (some 21, .move (.tmp 0), 3, some (10, false)) from by kernel_rfl) (by kernel_rfl) ?_
        refine wk_skip (show opD mR7w1_1 12 = some (some 22, .move (.tmp 1), 3, some (10, false)) from by kernel_rfl) (by kernel_rfl) ?_
        refine wk_skip (show opD mR7w1_1 13 = some (some 23, .binOp .geq 3 (.tmp 21) (.tmp 22) 3, 4, some (10, false)) from by kernel_rfl) (by kernel_rfl) ?_
        refine wk_pure (show opD mR7w1_1 14 = some (some 24, .pick (.tmp 20) (.const (.bool true)) (.tmp 23), 4, none) from by kernel_rfl) (by kernel_rfl) (.bool true) (fun _ => y_pick_t (by kernel_rfl) (by kernel_rfl)) ?_
        refine wk_pure (show opD mR7w1_1 15 = some (some 25, .move (.tmp 24), 4, none) from by kernel_rfl) (by kernel_rfl) (.bool true) (fun _ => y_move (by kernel_rfl)) ?_
        refine wk_skip (show opD mR7w1_1 16 = some (some 26, .move (.tmp 2), 25, some (15, false)) from by kernel_rfl) (by kernel_rfl) ?_
        refine wk_skip (show opD mR7w1_1 17 = some (some 27, .call ⟨.builtin .len, #[.tmp 26], #[25]⟩, 3, some (15, false)) from by kernel_rfl) (by kernel_rfl) ?_
        refine wk_skip (show opD mR7w1_1 18 = some (some 28, .binOp .gtr 3 (.tmp 27) (.const (.int .i64 400)) 3, 4, some (15, false)) from by kernel_rfl) (by kernel_rfl) ?_
        refine wk_pure (show opD mR7w1_1 19 = some (some 29, .pick (.tmp 25) (.const (.bool true)) (.tmp 28), 4, none) from by kernel_rfl) (by kernel_rfl) (.bool true) (fun _ => y_pick_t (by kernel_rfl) (by kernel_rfl)) ?_
        refine wk_nil ?_
        refine thn_n ?_
        refine g_cond_t (o := .tmp 29) (x := mN7w1_7) (y := mN7w1_8) (by kernel_rfl) (by kernel_rfl) ?_
        refine g_seq (x := mN7w1_9) (y := mN7w1_10) (by kernel_rfl) ?_
        refine g_region (ops := mR7w1_2) (id := 2) (by kernel_rfl) [(0, .pure), (1, .pure)] (by kernel_rfl) (by kernel_rfl) ?_
        refine wk_pure (show opD mR7w1_2 0 = some (some 6, .assign (.const (.pointer none)), 27, none) from by kernel_rfl) (by kernel_rfl) (.pointer none) (fun _ => y_assign (by kernel_rfl)) ?_
        refine wk_pure (show opD mR7w1_2 1 = some (some 7, .assign (.const (.int .i64 1)), 28, none) from by kernel_rfl) (by kernel_rfl) (.int .i64 1) (fun _ => y_assign (by kernel_rfl)) ?_
        refine wk_nil ?_
        refine thn_n ?_
        refine g_ret (by kernel_rfl) ?_
        refine thn_r ?_
        refine ends2_r (v := .pointer none) (v' := .int .i64 1) rfl (by kernel_rfl) (by kernel_rfl) ?_
        exact hK
      · refine wk_pure (show opD mR7w1_1 8 = some (some 18, .binOp .lss 3 (.tmp 17) (.const (.int .i64 0)) 3, 4, some (6, false)) from by kernel_rfl) (by kernel_rfl) (.bool false) (fun _ => y_lss (k := .i64) (a := place) (b := 0) (by kernel_rfl) (by kernel_rfl) (decide_eq_false h_3)) ?_
        refine wk_pure (show opD mR7w1_1 9 = some (some 19, .pick (.tmp 16) (.const (.bool true)) (.tmp 18), 4, none) from by kernel_rfl) (by kernel_rfl) (.bool false) (fun _ => y_pick_f (by kernel_rfl) (by kernel_rfl)) ?_
        refine wk_pure (show opD mR7w1_1 10 = some (some 20, .move (.tmp 19), 4, none) from by kernel_rfl) (by kernel_rfl) (.bool false) (fun _ => y_move (by kernel_rfl)) ?_
        refine wk_pure (show opD mR7w1_1 11 = some (some 21, .move (.tmp 0), 3, some (10, false)) from by kernel_rfl) (by kernel_rfl) (.int .i64 place) (fun _ => y_move (by kernel_rfl)) ?_
        refine wk_pure (show opD mR7w1_1 12 = some (some 22, .move (.tmp 1), 3, some (10, false)) from by kernel_rfl) (by kernel_rfl) (.int .i64 n) (fun _ => y_move (by kernel_rfl)) ?_
        by_cases h_4 : (n : Int) ≤ place
        · refine wk_pure (show opD mR7w1_1 13 = some (some 23, .binOp .geq 3 (.tmp 21) (.tmp 22) 3, 4, some (10, false)) from by kernel_rfl) (by kernel_rfl) (.bool true) (fun _ => y_geq (k := .i64) (a := place) (b := n) (by kernel_rfl) (by kernel_rfl) (decide_eq_true h_4)) ?_
          refine wk_pure (show opD mR7w1_1 14 = some (some 24, .pick (.tmp 20) (.const (.bool true)) (.tmp 23), 4, none) from by kernel_rfl) (by kernel_rfl) (.bool true) (fun _ => y_pick_f (by kernel_rfl) (by kernel_rfl)) ?_
          refine wk_pure (show opD mR7w1_1 15 = some (some 25, .move (.tmp 24), 4, none) from by kernel_rfl) (by kernel_rfl) (.bool true) (fun _ => y_move (by kernel_rfl)) ?_
          refine wk_skip (show opD mR7w1_1 16 = some (some 26, .move (.tmp 2), 25, some (15, false)) from by kernel_rfl) (by kernel_rfl) ?_
          refine wk_skip (show opD mR7w1_1 17 = some (some 27, .call ⟨.builtin .len, #[.tmp 26], #[25]⟩, 3, some (15, false)) from by kernel_rfl) (by kernel_rfl) ?_
          refine wk_skip (show opD mR7w1_1 18 = some (some 28, .binOp .gtr 3 (.tmp 27) (.const (.int .i64 400)) 3, 4, some (15, false)) from by kernel_rfl) (by kernel_rfl) ?_
          refine wk_pure (show opD mR7w1_1 19 = some (some 29, .pick (.tmp 25) (.const (.bool true)) (.tmp 28), 4, none) from by kernel_rfl) (by kernel_rfl) (.bool true) (fun _ => y_pick_t (by kernel_rfl) (by kernel_rfl)) ?_
          refine wk_nil ?_
          refine thn_n ?_
          refine g_cond_t (o := .tmp 29) (x := mN7w1_7) (y := mN7w1_8) (by kernel_rfl) (by kernel_rfl) ?_
          refine g_seq (x := mN7w1_9) (y := mN7w1_10) (by kernel_rfl) ?_
          refine g_region (ops := mR7w1_2) (id := 2) (by kernel_rfl) [(0, .pure), (1, .pure)] (by kernel_rfl) (by kernel_rfl) ?_
          refine wk_pure (show opD mR7w1_2 0 = some (some 6, .assign (.const (.pointer none)), 27, none) from by kernel_rfl) (by kernel_rfl) (.pointer none) (fun _ => y_assign (by kernel_rfl)) ?_
          refine wk_pure (show opD mR7w1_2 1 = some (some 7, .assign (.const (.int .i64 1)), 28, none) from by kernel_rfl) (by kernel_rfl) (.int .i64 1) (fun _ => y_assign (by kernel_rfl)) ?_
          refine wk_nil ?_
          refine thn_n ?_
          refine g_ret (by kernel_rfl) ?_
          refine thn_r ?_
          refine ends2_r (v := .pointer none) (v' := .int .i64 1) rfl (by kernel_rfl) (by kernel_rfl) ?_
          exact hK
        · refine wk_pure (show opD mR7w1_1 13 = some (some 23, .binOp .geq 3 (.tmp 21) (.tmp 22) 3, 4, some (10, false)) from by kernel_rfl) (by kernel_rfl) (.bool false) (fun _ => y_geq (k := .i64) (a := place) (b := n) (by kernel_rfl) (by kernel_rfl) (decide_eq_false h_4)) ?_
          refine wk_pure (show opD mR7w1_1 14 = some (some 24, .pick (.tmp 20) (.const (.bool true)) (.tmp 23), 4, none) from by kernel_rfl) (by kernel_rfl) (.bool false) (fun _ => y_pick_f (by kernel_rfl) (by kernel_rfl)) ?_
          refine wk_pure (show opD mR7w1_1 15 = some (some 25, .move (.tmp 24), 4, none) from by kernel_rfl) (by kernel_rfl) (.bool false) (fun _ => y_move (by kernel_rfl)) ?_
          refine wk_pure (show opD mR7w1_1 16 = some (some 26, .move (.tmp 2), 25, some (15, false)) from by kernel_rfl) (by kernel_rfl) (.slice a L.length c) (fun _ => y_move (by kernel_rfl)) ?_
          refine wk_pure (show opD mR7w1_1 17 = some (some 27, .call ⟨.builtin .len, #[.tmp 26], #[25]⟩, 3, some (15, false)) from by kernel_rfl) (by kernel_rfl) (.int .i64 ((L.length : Nat) : Int)) (fun _ => x_len (a := a) (n := L.length) (c := c) (by kernel_rfl) (by kernel_rfl)) ?_
          by_cases h_5 : (400 : Int) < ((L.length : Nat) : Int)
          · refine wk_pure (show opD mR7w1_1 18 = some (some 28, .binOp .gtr 3 (.tmp 27) (.const (.int .i64 400)) 3, 4, some (15, false)) from by kernel_rfl) (by kernel_rfl) (.bool true) (fun _ => y_gtr (k := .i64) (a := ((L.length : Nat) : Int)) (b := 400) (by kernel_rfl) (by kernel_rfl) (decide_eq_true h_5)) ?_
            refine wk_pure (show opD mR7w1_1 19 = some (some 29, .pick (.tmp 25) (.const (.bool true)) (.tmp 28), 4, none) from by kernel_rfl) (by kernel_rfl) (.bool true) (fun _ => y_pick_f (by kernel_rfl) (by kernel_rfl)) ?_
            refine wk_nil ?_
            refine thn_n ?_
            refine g_cond_t (o := .tmp 29) (x := mN7w1_7) (y := mN7w1_8) (by kernel_rfl) (by kernel_rfl) ?_
            refine g_seq (x := mN7w1_9) (y := mN7w1_10) (by kernel_rfl) ?_
            refine g_region (ops := mR7w1_2) (id := 2) (by kernel_rfl) [(0, .pure), (1, .pure)] (by kernel_rfl) (by kernel_rfl) ?_
            refine wk_pure (show opD mR7w1_2 0 = some (some 6, .assign (.const (.pointer none)), 27, none) from by kernel_rfl) (by kernel_rfl) (.pointer none) (fun _ => y_assign (by kernel_rfl)) ?_
            refine wk_pure (show opD mR7w1_2 1 = some (some 7, .assign (.const (.int .i64 1)), 28, none) from by kernel_rfl) (by kernel_rfl) (.int .i64 1) (fun _ => y_assign (by kernel_rfl)) ?_
            refine wk_nil ?_
            refine thn_n ?_
            refine g_ret (by kernel_rfl) ?_
            refine thn_r ?_
            refine ends2_r (v := .pointer none) (v' := .int .i64 1) rfl (by kernel_rfl) (by kernel_rfl) ?_
            exact hK
          · refine wk_pure (show opD mR7w1_1 18 = some (some 28, .binOp .gtr 3 (.tmp 27) (.const (.int .i64 400)) 3, 4, some (15, false)) from by kernel_rfl) (by kernel_rfl) (.bool false) (fun _ => y_gtr (k := .i64) (a := ((L.length : Nat) : Int)) (b := 400) (by kernel_rfl) (by kernel_rfl) (decide_eq_false h_5)) ?_
            refine wk_pure (show opD mR7w1_1 19 = some (some 29, .pick (.tmp 25) (.const (.bool true)) (.tmp 28), 4, none) from by kernel_rfl) (by kernel_rfl) (.bool false) (fun _ => y_pick_f (by kernel_rfl) (by kernel_rfl)) ?_
            refine wk_nil ?_
            refine thn_n ?_
            refine g_cond_f (o := .tmp 29) (x := mN7w1_7) (y := mN7w1_8) (by kernel_rfl) (by kernel_rfl) ?_
            refine g_skip (by kernel_rfl) ?_
            refine thn_n ?_
            refine g_seq (x := mN7w1_11) (y := mN7w1_12) (by kernel_rfl) ?_
            refine g_region (ops := mR7w1_3) (id := 3) (by kernel_rfl) [(0, .pure), (1, .pure), (2, .pure), (3, .loud), (4, .pure), (5, .pure), (6, .pure), (7, .pure), (8, .pure)] (by kernel_rfl) (by kernel_rfl) ?_
            refine wk_pure (show opD mR7w1_3 0 = some (some 31, .move (.tmp 2), 25, none) from by kernel_rfl) (by kernel_rfl) (.slice a L.length c) (fun _ => y_move (by kernel_rfl)) ?_
            refine wk_pure (show opD mR7w1_3 1 = some (some 32, .call ⟨.builtin .len, #[.tmp 31], #[25]⟩, 3, none) from by kernel_rfl) (by kernel_rfl) (.int .i64 ((L.length : Nat) : Int)) (fun _ => x_len (a := a) (n := L.length) (c := c) (by kernel_rfl) (by kernel_rfl)) ?_
            refine wk_pure (show opD mR7w1_3 2 = some (some 33, .move (.tmp 1), 3, none) from by kernel_rfl) (by kernel_rfl) (.int .i64 n) (fun _ => y_move (by kernel_rfl)) ?_
            exfalso; omega

noncomputable def mN7w2_0 : Code := (Try.f7.body).getD .skip
noncomputable def mN7w2_1 : Code := s1 mN7w2_0
noncomputable def mN7w2_2 : Code := s2 mN7w2_0
noncomputable def mR7w2_0 : Array Oper := rops mN7w2_1
noncomputable def mN7w2_3 : Code := s1 mN7w2_2
noncomputable def mN7w2_4 : Code := s2 mN7w2_2
noncomputable def mN7w2_5 : Code := s1 mN7w2_3
noncomputable def mN7w2_6 : Code := s2 mN7w2_3
noncomputable def mR7w2_1 : Array Oper := rops mN7w2_5
noncomputable def mN7w2_7 : Code := s1 mN7w2_6
noncomputable def mN7w2_8 : Code := s2 mN7w2_6
noncomputable def mN7w2_9 : Code := s1 mN7w2_4
noncomputable def mN7w2_10 : Code := s2 mN7w2_4
noncomputable def mR7w2_3 : Array Oper := rops mN7w2_9
noncomputable def mN7w2_11 : Code := s1 mN7w2_10
noncomputable def mN7w2_12 : Code := s2 mN7w2_10
noncomputable def mR7w2_4 : Array Oper := rops mN7w2_11
theorem new_ok {a : Option Addr} {b off c : Nat} {L : List Int} {w : World} {place n : Nat} (hs : SlE w 2 a b off encW L) (h1 : L.length ≤ 400) (h2 : 1 ≤ n) (h3 : n ≤ 16) (h4 : place < n) (hi : ∀ i, InW (L.getD i 0)) {K : Value → World → Prop} (hK : ∀ w' r g ck la lc kc rest crest, Ext [] w w' → RingAt w' r g ck place n L 0 false false la lc kc rest crest → w.heap.size ≤ r → r < w'.heap.size → w.heap.size ≤ g → w.heap.size ≤ ck → K (.tuple #[.pointer (some ⟨r, 0, none⟩), .int .i64 0]) w') : CallsV Try.prog 7 #[.int .i64 ((place : Nat) : Int), .int .i64 ((n : Nat) : Int), .slice a L.length c] w K := by
  refine callsV_of (c := mN7w2_0) Try.func7 (by kernel_rfl) (n := 44) (by kernel_rfl) ?_
  refine g_seq (x := mN7w2_1) (y := mN7w2_2) (by kernel_rfl) ?_
  refine g_region (ops := mR7w2_0) (id := 0) (by kernel_rfl) [(0, .pure), (1, .pure)] (by kernel_rfl) (by kernel_rfl) ?_
  refine wk_pure (show opD mR7w2_0 0 = some (some 6, .assign (.const (.pointer none)), 27, none) from by kernel_rfl) (by kernel_rfl) (.pointer none) (fun _ => y_assign (by kernel_rfl)) ?_
  refine wk_pure (show opD mR7w2_0 1 = some (some 7, .assign (.const (.int .i64 0)), 28, none) from by kernel_rfl) (by kernel_rfl) (.int .i64 0) (fun _ => y_assign (by kernel_rfl)) ?_
  refine wk_nil ?_
  refine thn_n ?_
  refine g_seq (x := mN7w2_3) (y := mN7w2_4) (by kernel_rfl) ?_
  refine g_seq (x := mN7w2_5) (y := mN7w2_6) (by kernel_rfl) ?_
  refine g_region (ops := mR7w2_1) (id := 1) (by kernel_rfl) [(0, .pure), (1, .pure), (2, .pure), (3, .pure), (4, .pure), (5, .pure), (6, .pure), (7, .pure), (8, .pure), (9, .pure), (10, .pure), (11, .pure), (12, .pure), (13, .pure), (14, .pure), (15, .pure), (16, .pure), (17, .pure), (18, .pure), (19, .pure)] (by kernel_rfl) (by kernel_rfl) ?_
  refine wk_pure (show opD mR7w2_1 0 = some (some 10, .move (.tmp 1), 3, none) from by kernel_rfl) (by kernel_rfl) (.int .i64 ((n : Nat) : Int)) (fun _ => y_move (by kernel_rfl)) ?_
  refine wk_pure (show opD mR7w2_1 1 = some (some 11, .binOp .lss 3 (.tmp 10) (.const (.int .i64 1)) 3, 4, none) from by kernel_rfl) (by kernel_rfl) (.bool false) (fun _ => y_lss (k := .i64) (a := ((n : Nat) : Int)) (b := 1) (by kernel_rfl) (by kernel_rfl) (decide_eq_false (by omega))) ?_
  refine wk_pure (show opD mR7w2_1 2 = some (some 12, .move (.tmp 11), 4, none) from by kernel_rfl) (by kernel_rfl) (.bool false) (fun _ => y_move (by kernel_rfl)) ?_
  refine wk_pure (show opD mR7w2_1 3 = some (some 13, .move (.tmp 1), 3, some (2, false)) from by kernel_rfl) (by kernel_rfl) (.int .i64 ((n : Nat) : Int)) (fun _ => y_move (by kernel_rfl)) ?_
  refine wk_pure (show opD mR7w2_1 4 = some (some 14, .binOp .gtr 3 (.tmp 13) (.const (.int .i64 16)) 3, 4, some (2, false)) from by kernel_rfl) (by kernel_rfl) (.bool false) (fun _ => y_gtr (k := .i64) (a := ((n : Nat) : Int)) (b := 16) (by kernel_rfl) (by kernel_rfl) (decide_eq_false (by omega))) ?_
  refine wk_pure (show opD mR7w2_1 5 = some (some 15, .pick (.tmp 12) (.const (.bool true)) (.tmp 14), 4, none) from by kernel_rfl) (by kernel_rfl) (.bool false) (fun _ => y_pick_f (by kernel_rfl) (by kernel_rfl)) ?_
  refine wk_pure (show opD mR7w2_1 6 = some (some 16, .move (.tmp 15), 4, none) from by kernel_rfl) (by kernel_rfl) (.bool false) (fun _ => y_move (by kernel_rfl)) ?_
  refine wk_pure (show opD mR7w2_1 7 = some (some 17, .move (.tmp 0), 3, some (6, false)) from by kernel_rfl) (by kernel_rfl) (.int .i64 ((place : Nat) : Int)) (fun _ => y_move (by kernel_rfl)) ?_
  refine wk_pure (show opD mR7w2_1 8 = some (some 18, .binOp .lss 3 (.tmp 17) (.const (.int .i64 0)) 3, 4, some (6, false)) from by kernel_rfl) (by kernel_rfl) (.bool false) (fun _ => y_lss (k := .i64) (a := ((place : Nat) : Int)) (b := 0) (by kernel_rfl) (by kernel_rfl) (decide_eq_false (by omega))) ?_
  refine wk_pure (show opD mR7w2_1 9 = some (some 19, .pick (.tmp 16) (.const (.bool true)) (.tmp 18), 4, none) from by kernel_rfl) (by kernel_rfl) (.bool false) (fun _ => y_pick_f (by kernel_rfl) (by kernel_rfl)) ?_
  refine wk_pure (show opD mR7w2_1 10 = some (some 20, .move (.tmp 19), 4, none) from by kernel_rfl) (by kernel_rfl) (.bool false) (fun _ => y_move (by kernel_rfl)) ?_
  refine wk_pure (show opD mR7w2_1 11 = some (some 21, .move (.tmp 0), 3, some (10, false)) from by kernel_rfl) (by kernel_rfl) (.int .i64 ((place : Nat) : Int)) (fun _ => y_move (by kernel_rfl)) ?_
  refine wk_pure (show opD mR7w2_1 12 = some (some 22, .move (.tmp 1), 3, some (10, false)) from by kernel_rfl) (by kernel_rfl) (.int .i64 ((n : Nat) : Int)) (fun _ => y_move (by kernel_rfl)) ?_
  refine wk_pure (show opD mR7w2_1 13 = some (some 23, .binOp .geq 3 (.tmp 21) (.tmp 22) 3, 4, some (10, false)) from by kernel_rfl) (by kernel_rfl) (.bool false) (fun _ => y_geq (k := .i64) (a := ((place : Nat) : Int)) (b := ((n : Nat) : Int)) (by kernel_rfl) (by kernel_rfl) (decide_eq_false (by omega))) ?_
  refine wk_pure (show opD mR7w2_1 14 = some (some 24, .pick (.tmp 20) (.const (.bool true)) (.tmp 23), 4, none) from by kernel_rfl) (by kernel_rfl) (.bool false) (fun _ => y_pick_f (by kernel_rfl) (by kernel_rfl)) ?_
  refine wk_pure (show opD mR7w2_1 15 = some (some 25, .move (.tmp 24), 4, none) from by kernel_rfl) (by kernel_rfl) (.bool false) (fun _ => y_move (by kernel_rfl)) ?_
  refine wk_pure (show opD mR7w2_1 16 = some (some 26, .move (.tmp 2), 25, some (15, false)) from by kernel_rfl) (by kernel_rfl) (.slice a L.length c) (fun _ => y_move (by kernel_rfl)) ?_
  refine wk_pure (show opD mR7w2_1 17 = some (some 27, .call ⟨.builtin .len, #[.tmp 26], #[25]⟩, 3, some (15, false)) from by kernel_rfl) (by kernel_rfl) (.int .i64 ((L.length : Nat) : Int)) (fun _ => x_len (a := a) (n := L.length) (c := c) (by kernel_rfl) (by kernel_rfl)) ?_
  refine wk_pure (show opD mR7w2_1 18 = some (some 28, .binOp .gtr 3 (.tmp 27) (.const (.int .i64 400)) 3, 4, some (15, false)) from by kernel_rfl) (by kernel_rfl) (.bool false) (fun _ => y_gtr (k := .i64) (a := ((L.length : Nat) : Int)) (b := 400) (by kernel_rfl) (by kernel_rfl) (decide_eq_false (by omega))) ?_
  refine wk_pure (show opD mR7w2_1 19 = some (some 29, .pick (.tmp 25) (.const (.bool true)) (.tmp 28), 4, none) from by kernel_rfl) (by kernel_rfl) (.bool false) (fun _ => y_pick_f (by kernel_rfl) (by kernel_rfl)) ?_
  refine wk_nil ?_
  refine thn_n ?_
  refine g_cond_f (o := .tmp 29) (x := mN7w2_7) (y := mN7w2_8) (by kernel_rfl) (by kernel_rfl) ?_
  refine g_skip (by kernel_rfl) ?_
  refine thn_n ?_
  refine g_seq (x := mN7w2_9) (y := mN7w2_10) (by kernel_rfl) ?_
  refine g_region (ops := mR7w2_3) (id := 3) (by kernel_rfl) [(0, .pure), (1, .pure), (2, .pure), (3, .loud), (4, .pure), (5, .pure), (6, .pure), (7, .pure), (8, .pure)] (by kernel_rfl) (by kernel_rfl) ?_
  refine wk_pure (show opD mR7w2_3 0 = some (some 31, .move (.tmp 2), 25, none) from by kernel_rfl) (by kernel_rfl) (.slice a L.length c) (fun _ => y_move (by kernel_rfl)) ?_
  refine wk_pure (show opD mR7w2_3 1 = some (some 32, .call ⟨.builtin .len, #[.tmp 31], #[25]⟩, 3, none) from by kernel_rfl) (by kernel_rfl) (.int .i64 ((L.length : Nat) : Int)) (fun _ => x_len (a := a) (n := L.length) (c := c) (by kernel_rfl) (by kernel_rfl)) ?_
  refine wk_pure (show opD mR7w2_3 2 = some (some 33, .move (.tmp 1), 3, none) from by kernel_rfl) (by kernel_rfl) (.int .i64 ((n : Nat) : Int)) (fun _ => y_move (by kernel_rfl)) ?_
  refine wk_call (show opD mR7w2_3 3 = some (some 34, .call ⟨.value (.func 16), #[.tmp 32, .tmp 33], #[3, 3]⟩, 50, none) from by kernel_rfl) (by kernel_rfl) 16 #[.int .i64 ((L.length : Nat) : Int), .int .i64 ((n : Nat) : Int)] (x_call Try.func16 (by kernel_rfl) (c := (Try.f16.body).getD .skip) (by kernel_rfl) (by kernel_rfl) (by kernel_rfl)) (chunks_c (by omega) (by omega) (by omega) (fun w_1 g_2 c_3 rest_4 e_5 hO_6 lo_7 hi_8 cap_9 => ⟨?_, ?_⟩))
  · exact trivial
  have hsz_10 : w.heap.size ≤ w_1.heap.size := e_5.size
  refine wk_pure (show opD mR7w2_3 4 = some (some 30, .move (.tmp 34), 50, none) from by kernel_rfl) (by kernel_rfl) (.tuple #[.slice (some ⟨g_2, 0, none⟩) ((chk L.length n n).length) c_3, .int .i64 0]) (fun _ => y_move (by kernel_rfl)) ?_
  refine wk_pure (show opD mR7w2_3 5 = some (some 35, .extract (.tmp 30) 0, 49, none) from by kernel_rfl) (by kernel_rfl) (.slice (some ⟨g_2, 0, none⟩) ((chk L.length n n).length) c_3) (fun _ => x_extract (vs := #[.slice (some ⟨g_2, 0, none⟩) ((chk L.length n n).length) c_3, .int .i64 0]) (by kernel_rfl) (by kernel_rfl)) ?_
  refine wk_pure (show opD mR7w2_3 6 = some (some 36, .extract (.tmp 30) 1, 28, none) from by kernel_rfl) (by kernel_rfl) (.int .i64 0) (fun _ => x_extract (vs := #[.slice (some ⟨g_2, 0, none⟩) ((chk L.length n n).length) c_3, .int .i64 0]) (by kernel_rfl) (by kernel_rfl)) ?_
  refine wk_pure (show opD mR7w2_3 7 = some (some 8, .assign (.tmp 35), 49, none) from by kernel_rfl) (by kernel_rfl) (.slice (some ⟨g_2, 0, none⟩) ((chk L.length n n).length) c_3) (fun _ => y_assign (by kernel_rfl)) ?_
  refine wk_pure (show opD mR7w2_3 8 = some (some 9, .assign (.tmp 36), 28, none) from by kernel_rfl) (by kernel_rfl) (.int .i64 0) (fun _ => y_assign (by kernel_rfl)) ?_
  refine wk_nil ?_
  refine thn_n ?_
  refine g_seq (x := mN7w2_11) (y := mN7w2_12) (by kernel_rfl) ?_
  refine g_region (ops := mR7w2_4) (id := 4) (by kernel_rfl) [(0, .pure), (1, .pure), (2, .pure), (3, .loud), (4, .pure), (5, .pure), (6, .loud), (7, .pure), (8, .pure)] (by kernel_rfl) (by kernel_rfl) ?_
  refine wk_pure (show opD mR7w2_4 0 = some (some 37, .move (.tmp 0), 3, none) from by kernel_rfl) (by kernel_rfl) (.int .i64 ((place : Nat) : Int)) (fun _ => y_move (by kernel_rfl)) ?_
  refine wk_pure (show opD mR7w2_4 1 = some (some 38, .move (.tmp 1), 3, none) from by kernel_rfl) (by kernel_rfl) (.int .i64 ((n : Nat) : Int)) (fun _ => y_move (by kernel_rfl)) ?_
  refine wk_pure (show opD mR7w2_4 2 = some (some 39, .move (.tmp 2), 25, none) from by kernel_rfl) (by kernel_rfl) (.slice a L.length c) (fun _ => y_move (by kernel_rfl)) ?_
  have hb_11 : SlE w_1 2 a b off encW L := (e_5.keepSl hs List.not_mem_nil)
  refine wk_call (show opD mR7w2_4 3 = some (some 40, .call ⟨.value (.func 17), #[.tmp 39], #[25]⟩, 25, none) from by kernel_rfl) (by kernel_rfl) 17 #[.slice a L.length c] (x_call Try.func17 (by kernel_rfl) (c := (Try.f17.body).getD .skip) (by kernel_rfl) (by kernel_rfl) (by kernel_rfl)) (clone_c (L := L) hb_11 (by omega) (fun w_12 a_13 g_14 c_15 rest_16 e_17 hO_18 hg_19 sz_20 => ⟨?_, ?_⟩))
  · exact trivial
  have hsz_21 : w_1.heap.size ≤ w_12.heap.size := e_17.size
  refine wk_pure (show opD mR7w2_4 4 = some (some 41, .move (.tmp 8), 49, none) from by kernel_rfl) (by kernel_rfl) (.slice (some ⟨g_2, 0, none⟩) ((chk L.length n n).length) c_3) (fun _ => y_move (by kernel_rfl)) ?_
  refine wk_pure (show opD mR7w2_4 5 = some (some 42, .build 54 #[(0, .tmp 37), (1, .tmp 38), (2, .tmp 40), (3, .tmp 41)], 54, none) from by kernel_rfl) (by kernel_rfl) (.agg #[.int .i64 ((place : Nat) : Int), .int .i64 ((n : Nat) : Int), .slice a_13 L.length c_15, .slice (some ⟨g_2, 0, none⟩) ((chk L.length n n).length) c_3, .int .i64 0, .bool false, .bool false]) (fun _ => x_build (by kernel_rfl)) ?_
  refine wk_box (cs := #[.int .i64 ((place : Nat) : Int), .int .i64 ((n : Nat) : Int), .slice a_13 L.length c_15, .slice (some ⟨g_2, 0, none⟩) ((chk L.length n n).length) c_3, .int .i64 0, .bool false, .bool false]) (show opD mR7w2_4 6 = some (some 43, .box 54 (.tmp 42), 27, none) from by kernel_rfl) (by kernel_rfl) (by kernel_rfl) (fun w_23 b_22 eq_25 e_24 sz_26 hb_27 => ⟨?_, ?_⟩)
  · exact trivial
  refine wk_pure (show opD mR7w2_4 7 = some (some 6, .assign (.tmp 43), 27, none) from by kernel_rfl) (by kernel_rfl) (.pointer (some ⟨b_22, 0, none⟩)) (fun _ => y_assign (by kernel_rfl)) ?_
  refine wk_pure (show opD mR7w2_4 8 = some (some 7, .assign (.const (.int .i64 0)), 28, none) from by kernel_rfl) (by kernel_rfl) (.int .i64 0) (fun _ => y_assign (by kernel_rfl)) ?_
  refine wk_nil ?_
  refine thn_n ?_
  refine g_ret (by kernel_rfl) ?_
  refine ends2_r (v := .pointer (some ⟨b_22, 0, none⟩)) (v' := .int .i64 0) rfl (by kernel_rfl) (by kernel_rfl) ?_
  have hb_28 : OwO w_23 33 2 a_13 g_14 c_15 encW L rest_16 := (e_24.keepOwP hO_18 (hg_19.imp id (fun h_ => List.not_mem_nil)))
  have hb_29 : OwnE w_23 63 2 g_2 c_3 encP (chk L.length n n) rest_4 := (e_24.keepOwn (e_17.keepOwn hO_6 List.not_mem_nil) List.not_mem_nil)
  have hlt_r := lt_of_block hb_27
  have hlt_c := hb_29.lt
  by_cases h0 : L.length = 0
  · have h00 : L = [] := List.eq_nil_of_length_eq_zero h0
    exact hK _ b_22 b_22 g_2 _ _ _ [] _ (Ext.then (Ext.then (Ext.then (Ext.refl [] _) e_5 (fun _ h_ => absurd h_ List.not_mem_nil)) e_17 (fun _ h_ => absurd h_ List.not_mem_nil)) e_24 (fun _ h_ => absurd h_ List.not_mem_nil)) ⟨hb_27, by subst h00; exact .empty _ _ _ _ _ _ _ _, hb_29, .inl h0, by omega, .inl h0, h2, h3, h4, h1, by omega, hi, by omega⟩ (by omega) (by omega) (by omega) (by omega)
  have hgg := hg_19.resolve_left h0
  exact hK _ b_22 g_14 g_2 _ _ _ _ _ (Ext.then (Ext.then (Ext.then (Ext.refl [] _) e_5 (fun _ h_ => absurd h_ List.not_mem_nil)) e_17 (fun _ h_ => absurd h_ List.not_mem_nil)) e_24 (fun _ h_ => absurd h_ List.not_mem_nil)) ⟨hb_27, hb_28, hb_29, .inr (by omega), by omega, .inr (by omega), h2, h3, h4, h1, by omega, hi, by omega⟩ (by omega) (by omega) (by omega) (by omega)

noncomputable def mN11w3_0 : Code := (Try.f11.body).getD .skip
noncomputable def mN11w3_1 : Code := s1 mN11w3_0
noncomputable def mN11w3_2 : Code := s2 mN11w3_0
noncomputable def mR11w3_0 : Array Oper := rops mN11w3_1
noncomputable def mN11w3_3 : Code := s1 mN11w3_2
noncomputable def mN11w3_4 : Code := s2 mN11w3_2
noncomputable def mN11w3_5 : Code := s1 mN11w3_3
noncomputable def mN11w3_6 : Code := s2 mN11w3_3
noncomputable def mR11w3_1 : Array Oper := rops mN11w3_5
noncomputable def mN11w3_7 : Code := s1 mN11w3_6
noncomputable def mN11w3_8 : Code := s2 mN11w3_6
noncomputable def mN11w3_9 : Code := s1 mN11w3_7
noncomputable def mN11w3_10 : Code := s2 mN11w3_7
noncomputable def mR11w3_2 : Array Oper := rops mN11w3_9
theorem sum_no {r g ck place n : Nat} {L : List Int} {round : Nat} {told taken : Bool} {la : Option Addr} {lc kc : Nat} {rest crest : List Value} {w : World} (hR : RingAt w r g ck place n L round told taken la lc kc rest crest) (hd : round ≤ 2 * n - 3) (hn : 2 ≤ n) {K : Value → World → Prop} (hK : ∀ w', SameMem w w' → K (.tuple #[.slice none 0 0, .bool false]) w') : CallsV Try.prog 11 #[.pointer (some ⟨r, 0, none⟩)] w K := by
  refine callsV_of (c := mN11w3_0) Try.func11 (by kernel_rfl) (n := 12) (by kernel_rfl) ?_
  have hr := hR.hr
  have hl := hR.hl
  have hcc := hR.hc
  have hgr := hR.nr
  have hkr := hR.kr
  have hkg := hR.kg
  have h1 := hR.h1
  have h2 := hR.h2
  have h3 := hR.h3
  have h4 := hR.h4
  have h5 := hR.h5
  have hi := hR.hi
  have hgl := hR.gl
  have hcl := chk_len L.length n n
  have hll := hl.le
  have hrl := lt_of_block hr
  have hkl := hcc.lt
  refine g_seq (x := mN11w3_1) (y := mN11w3_2) (by kernel_rfl) ?_
  refine g_region (ops := mR11w3_0) (id := 0) (by kernel_rfl) [(0, .pure), (1, .pure)] (by kernel_rfl) (by kernel_rfl) ?_
  refine wk_pure (show opD mR11w3_0 0 = some (some 2, .assign (.const (.slice none 0 0)), 25, none) from by kernel_rfl) (by kernel_rfl) (.slice none 0 0) (fun _ => y_assign (by kernel_rfl)) ?_
  refine wk_pure (show opD mR11w3_0 1 = some (some 3, .assign (.const (.bool false)), 4, none) from by kernel_rfl) (by kernel_rfl) (.bool false) (fun _ => y_assign (by kernel_rfl)) ?_
  refine wk_nil ?_
  refine thn_n ?_
  refine g_seq (x := mN11w3_3) (y := mN11w3_4) (by kernel_rfl) ?_
  refine g_seq (x := mN11w3_5) (y := mN11w3_6) (by kernel_rfl) ?_
  refine g_region (ops := mR11w3_1) (id := 1) (by kernel_rfl) [(0, .pure), (1, .loud), (2, .pure)] (by kernel_rfl) (by kernel_rfl) ?_
  refine wk_pure (show opD mR11w3_1 0 = some (some 4, .move (.tmp 0), 27, none) from by kernel_rfl) (by kernel_rfl) (.pointer (some ⟨r, 0, none⟩)) (fun _ => y_move (by kernel_rfl)) ?_
  refine wk_call (show opD mR11w3_1 1 = some (some 5, .call ⟨.value (.func 13), #[.tmp 4], #[27]⟩, 4, none) from by kernel_rfl) (by kernel_rfl) 13 #[.pointer (some ⟨r, 0, none⟩)] (x_call Try.func13 (by kernel_rfl) (c := (Try.f13.body).getD .skip) (by kernel_rfl) (by kernel_rfl) (by kernel_rfl)) (done_d hr (by omega) (decide_eq_false (by omega)) (fun w_1 s_2 => ⟨?_, ?_⟩))
  · exact trivial
  have hsz_3 : w_1.heap.size = w.heap.size := by rw [s_2.heap]
  refine wk_pure (show opD mR11w3_1 2 = some (some 6, .unOp .not 4 (.tmp 5), 4, none) from by kernel_rfl) (by kernel_rfl) (.bool true) (fun _ => y_not (p := false) (by kernel_rfl) rfl) ?_
  refine wk_nil ?_
  refine thn_n ?_
  refine g_cond_t (o := .tmp 6) (x := mN11w3_7) (y := mN11w3_8) (by kernel_rfl) (by kernel_rfl) ?_
  refine g_seq (x := mN11w3_9) (y := mN11w3_10) (by kernel_rfl) ?_
  refine g_region (ops := mR11w3_2) (id := 2) (by kernel_rfl) [(0, .pure), (1, .pure)] (by kernel_rfl) (by kernel_rfl) ?_
  refine wk_pure (show opD mR11w3_2 0 = some (some 2, .assign (.const (.slice none 0 0)), 25, none) from by kernel_rfl) (by kernel_rfl) (.slice none 0 0) (fun _ => y_assign (by kernel_rfl)) ?_
  refine wk_pure (show opD mR11w3_2 1 = some (some 3, .assign (.const (.bool false)), 4, none) from by kernel_rfl) (by kernel_rfl) (.bool false) (fun _ => y_assign (by kernel_rfl)) ?_
  refine wk_nil ?_
  refine thn_n ?_
  refine g_ret (by kernel_rfl) ?_
  refine thn_r ?_
  refine ends2_r (v := .slice none 0 0) (v' := .bool false) rfl (by kernel_rfl) (by kernel_rfl) ?_
  exact hK _ (SameMem.trans (SameMem.refl _) s_2)

noncomputable def mN11w4_0 : Code := (Try.f11.body).getD .skip
noncomputable def mN11w4_1 : Code := s1 mN11w4_0
noncomputable def mN11w4_2 : Code := s2 mN11w4_0
noncomputable def mR11w4_0 : Array Oper := rops mN11w4_1
noncomputable def mN11w4_3 : Code := s1 mN11w4_2
noncomputable def mN11w4_4 : Code := s2 mN11w4_2
noncomputable def mN11w4_5 : Code := s1 mN11w4_3
noncomputable def mN11w4_6 : Code := s2 mN11w4_3
noncomputable def mR11w4_1 : Array Oper := rops mN11w4_5
noncomputable def mN11w4_7 : Code := s1 mN11w4_6
noncomputable def mN11w4_8 : Code := s2 mN11w4_6
noncomputable def mN11w4_9 : Code := s1 mN11w4_4
noncomputable def mN11w4_10 : Code := s2 mN11w4_4
noncomputable def mR11w4_3 : Array Oper := rops mN11w4_9
theorem sum_yes {r g ck place n : Nat} {L : List Int} {round : Nat} {told taken : Bool} {la : Option Addr} {lc kc : Nat} {rest crest : List Value} {w : World} (hR : RingAt w r g ck place n L round told taken la lc kc rest crest) (hd : round = 2 * n - 2) {K : Value → World → Prop} (hK : ∀ w' a' g' c' rest', Ext [] w w' → OwO w' 33 2 a' g' c' encW L rest' → (L.length = 0 ∨ (w.heap.size ≤ g' ∧ g' < w'.heap.size)) → w'.heap.size ≤ w.heap.size + 2 → K (.tuple #[.slice a' L.length c', .bool true]) w') : CallsV Try.prog 11 #[.pointer (some ⟨r, 0, none⟩)] w K := by
  refine callsV_of (c := mN11w4_0) Try.func11 (by kernel_rfl) (n := 12) (by kernel_rfl) ?_
  have hr := hR.hr
  have hl := hR.hl
  have hcc := hR.hc
  have hgr := hR.nr
  have hkr := hR.kr
  have hkg := hR.kg
  have h1 := hR.h1
  have h2 := hR.h2
  have h3 := hR.h3
  have h4 := hR.h4
  have h5 := hR.h5
  have hi := hR.hi
  have hgl := hR.gl
  have hcl := chk_len L.length n n
  have hll := hl.le
  have hrl := lt_of_block hr
  have hkl := hcc.lt
  refine g_seq (x := mN11w4_1) (y := mN11w4_2) (by kernel_rfl) ?_
  refine g_region (ops := mR11w4_0) (id := 0) (by kernel_rfl) [(0, .pure), (1, .pure)] (by kernel_rfl) (by kernel_rfl) ?_
  refine wk_pure (show opD mR11w4_0 0 = some (some 2, .assign (.const (.slice none 0 0)), 25, none) from by kernel_rfl) (by kernel_rfl) (.slice none 0 0) (fun _ => y_assign (by kernel_rfl)) ?_
  refine wk_pure (show opD mR11w4_0 1 = some (some 3, .assign (.const (.bool false)), 4, none) from by kernel_rfl) (by kernel_rfl) (.bool false) (fun _ => y_assign (by kernel_rfl)) ?_
  refine wk_nil ?_
  refine thn_n ?_
  refine g_seq (x := mN11w4_3) (y := mN11w4_4) (by kernel_rfl) ?_
  refine g_seq (x := mN11w4_5) (y := mN11w4_6) (by kernel_rfl) ?_
  refine g_region (ops := mR11w4_1) (id := 1) (by kernel_rfl) [(0, .pure), (1, .loud), (2, .pure)] (by kernel_rfl) (by kernel_rfl) ?_
  refine wk_pure (show opD mR11w4_1 0 = some (some 4, .move (.tmp 0), 27, none) from by kernel_rfl) (by kernel_rfl) (.pointer (some ⟨r, 0, none⟩)) (fun _ => y_move (by kernel_rfl)) ?_
  refine wk_call (show opD mR11w4_1 1 = some (some 5, .call ⟨.value (.func 13), #[.tmp 4], #[27]⟩, 4, none) from by kernel_rfl) (by kernel_rfl) 13 #[.pointer (some ⟨r, 0, none⟩)] (x_call Try.func13 (by kernel_rfl) (c := (Try.f13.body).getD .skip) (by kernel_rfl) (by kernel_rfl) (by kernel_rfl)) (done_d hr (by omega) (decide_eq_true (by omega)) (fun w_1 s_2 => ⟨?_, ?_⟩))
  · exact trivial
  have hsz_3 : w_1.heap.size = w.heap.size := by rw [s_2.heap]
  refine wk_pure (show opD mR11w4_1 2 = some (some 6, .unOp .not 4 (.tmp 5), 4, none) from by kernel_rfl) (by kernel_rfl) (.bool false) (fun _ => y_not (p := true) (by kernel_rfl) rfl) ?_
  refine wk_nil ?_
  refine thn_n ?_
  refine g_cond_f (o := .tmp 6) (x := mN11w4_7) (y := mN11w4_8) (by kernel_rfl) (by kernel_rfl) ?_
  refine g_skip (by kernel_rfl) ?_
  refine thn_n ?_
  refine g_seq (x := mN11w4_9) (y := mN11w4_10) (by kernel_rfl) ?_
  refine g_region (ops := mR11w4_3) (id := 3) (by kernel_rfl) [(0, .pure), (1, .pure), (2, .pure), (3, .loud), (4, .loud), (5, .pure), (6, .pure)] (by kernel_rfl) (by kernel_rfl) ?_
  refine wk_pure (show opD mR11w4_3 0 = some (some 7, .move (.tmp 0), 27, none) from by kernel_rfl) (by kernel_rfl) (.pointer (some ⟨r, 0, none⟩)) (fun _ => y_move (by kernel_rfl)) ?_
  refine wk_pure (show opD mR11w4_3 1 = some (some 8, .nilCheck (.tmp 7), 0, none) from by kernel_rfl) (by kernel_rfl) (.pointer (some ⟨r, 0, none⟩)) (fun _ => x_nilCheck (by kernel_rfl)) ?_
  refine wk_pure (show opD mR11w4_3 2 = some (some 9, .fieldAddr 54 (.tmp 8) 2, 0, none) from by kernel_rfl) (by kernel_rfl) (.pointer (some ⟨r, 2, none⟩)) (fun _ => x_fieldAddr (b := r) (off := 0) (o := 2) (by kernel_rfl) (by kernel_rfl)) ?_
  have hb_4 : w_1.heap[r]? = some (.cells #[.int .i64 ((place : Nat) : Int), .int .i64 ((n : Nat) : Int), .slice la L.length lc, .slice (some ⟨ck, 0, none⟩) ((chk L.length n n).length) kc, .int .i64 ((round : Nat) : Int), .bool told, .bool taken] 54 (0, 0)) := (s_2.keep hr)
  refine wk_val (show opD mR11w4_3 3 = some (some 10, .load 25 (.tmp 9), 25, none) from by kernel_rfl) (by kernel_rfl) (.slice la L.length lc) (x_load (b := r) (off := 2) (by kernel_rfl) (by kernel_rfl) hb_4 (by kernel_rfl)) trivial ?_
  have hb_5 : OwO w_1 33 2 la g lc encW L rest := (s_2.keepOwO hl)
  refine wk_call (show opD mR11w4_3 4 = some (some 11, .call ⟨.value (.func 17), #[.tmp 10], #[25]⟩, 25, none) from by kernel_rfl) (by kernel_rfl) 17 #[.slice la L.length lc] (x_call Try.func17 (by kernel_rfl) (c := (Try.f17.body).getD .skip) (by kernel_rfl) (by kernel_rfl) (by kernel_rfl)) (clone_c (L := L) hb_5.sl (by omega) (fun w_6 a_7 g_8 c_9 rest_10 e_11 hO_12 hg_13 sz_14 => ⟨?_, ?_⟩))
  · exact trivial
  have hsz_15 : w_1.heap.size ≤ w_6.heap.size := e_11.size
  refine wk_pure (show opD mR11w4_3 5 = some (some 2, .assign (.tmp 11), 25, none) from by kernel_rfl) (by kernel_rfl) (.slice a_7 L.length c_9) (fun _ => y_assign (by kernel_rfl)) ?_
  refine wk_pure (show opD mR11w4_3 6 = some (some 3, .assign (.const (.bool true)), 4, none) from by kernel_rfl) (by kernel_rfl) (.bool true) (fun _ => y_assign (by kernel_rfl)) ?_
  refine wk_nil ?_
  refine thn_n ?_
  refine g_ret (by kernel_rfl) ?_
  refine ends2_r (v := .slice a_7 L.length c_9) (v' := .bool true) rfl (by kernel_rfl) (by kernel_rfl) ?_
  exact hK _ _ _ _ _ (Ext.then (Ext.then (Ext.refl [] _) (s_2.ext []) (fun _ h_ => absurd h_ List.not_mem_nil)) e_11 (fun _ h_ => absurd h_ List.not_mem_nil)) hO_12 (by have := (hg_13); omega) (by omega)

end Go.Proofs.Ytjdlgidacnphpaa
