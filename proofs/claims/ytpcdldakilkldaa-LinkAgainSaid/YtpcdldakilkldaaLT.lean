/-
  What is not acknowledged is sent again each eighth tick: as plain data.
-/
import Derived.Test.YtpcdldakilkldaaLQ
import Derived.Test.YtpcdldakilkldaaK24
set_option linter.unusedVariables false
namespace Go.Proofs.Ytpcdldakilkldaa
open Go Go.Wk

def agM (j : Nat) : Msg := ⟨5, 0, 1, 7, (j : Int) + 1, [(j : Int)], []⟩
/-- i words pushed, each sent (or not) at a time. -/
def agOut (i : Nat) (s : Bool) (t : Int) : List PSnd := (List.range i).map fun j => ⟨agM j, s, t⟩
def againA (i : Nat) : Lk := ⟨0, 1, 7, 0, agOut i false 0, i, 0, 1, []⟩
theorem agOut_len (i : Nat) (s : Bool) (t : Int) : (agOut i s t).length = i := by simp [agOut]
theorem againA_zero : newL 0 1 7 = againA 0 := rfl
theorem againA_push {i : Nat} (h : i < 32) : pushP (againA i) ⟨5, 0, 0, 0, 0, [(i : Int)], []⟩ = (againA (i + 1), 0) := by
  unfold pushP
  rw [if_neg, if_neg]
  · simp only [againA, agOut, List.range_succ, List.map_append, List.map_cons, List.map_nil, agM]
    rfl
  · show ¬ (1024 ≤ (agOut i false 0).length ∨ ((i : Nat) : Int) = 4294967295)
    rw [agOut_len]; omega
  · show ¬ (goodM 5 0 1 [(i : Int)] [] = false ∨ (5 : Int) = 1)
    unfold goodM
    simp
/-- Ahead of the tick t. -/
def againS (n at_ t : Nat) : Lk :=
  if t = 0 then againA n
  else if t ≤ at_ then ⟨0, 1, 7, ((t - 1 : Nat) : Int), agOut n true ((8 * ((t - 1) / 8) : Nat) : Int), n, n, 1, []⟩
  else ⟨0, 1, 7, ((t - 1 : Nat) : Int), [], n, n, 1, []⟩
/-- Behind the tick t. -/
def againT (n at_ t : Nat) : Lk := if t ≤ at_ then ⟨0, 1, 7, (t : Int), agOut n true ((8 * (t / 8) : Nat) : Int), n, n, 1, []⟩ else ⟨0, 1, 7, (t : Int), [], n, n, 1, []⟩
def againO (n at_ t : Nat) : List Msg := if t % 8 = 0 ∧ t ≤ at_ then (List.range n).map agM else []
theorem fold_told (L : List PSnd) (m x0 : Int) (h0 : x0 ≤ m) (h : ∀ x ∈ L, x.m.seq ≤ m) (h1 : x0 = m ∨ ∃ x ∈ L, x.m.seq = m) : L.foldl (fun t x => max t x.m.seq) x0 = m := by
  induction L generalizing x0 with
  | nil =>
    rcases h1 with h1 | ⟨x, hx, _⟩
    · exact h1
    · exact absurd hx List.not_mem_nil
  | cons y L ih =>
    rw [List.foldl_cons]
    have hy := h y (List.mem_cons.2 (.inl rfl))
    refine ih _ (by omega) (fun x hx => h x (List.mem_cons.2 (.inr hx))) ?_
    rcases h1 with h1 | ⟨x, hx, hm⟩
    · left; omega
    · rcases List.mem_cons.1 hx with rfl | hx
      · left; omega
      · exact .inr ⟨x, hx, hm⟩
theorem tick_due {n : Nat} {s : Bool} {a t : Int} {l : Lk} (hn : 1 ≤ n ∧ n ≤ 32) (ho : l.out = agOut n s a) (ht : max l.now t = t) (hd : s = false ∨ 8 ≤ t - a) (htl : l.told ≤ n) :
    tickP l t = ({ l with now := t, out := agOut n true t, told := n }, (List.range n).map agM) := by
  unfold tickP
  have hl : l.out.length = n := by rw [ho, agOut_len]
  have hm : min l.out.length 32 = l.out.length := by omega
  have hdue : ∀ x ∈ agOut n s a, dueP t x = true := by
    intro x hx
    unfold agOut at hx
    obtain ⟨j, _, rfl⟩ := List.mem_map.1 hx
    unfold dueP
    rcases hd with rfl | hd
    · rfl
    · have : ¬ (t - a < 8) := by omega
      simp [this]
  simp only [ht, hm, List.take_length, List.drop_length, List.append_nil]
  rw [ho, List.filter_eq_self.2 hdue]
  refine Prod.ext ?_ ?_
  · simp only [Lk.mk.injEq, true_and]
    refine ⟨?_, ?_, trivial⟩
    · unfold agOut
      rw [List.map_map]
      refine List.map_congr_left fun j hj => ?_
      have : dueP t ⟨agM j, s, a⟩ = true := hdue _ (List.mem_map.2 ⟨j, hj, rfl⟩)
      simp [fireP, this]
    · refine fold_told _ _ _ htl ?_ (.inr ⟨⟨agM (n - 1), s, a⟩, List.mem_map.2 ⟨n - 1, List.mem_range.2 (by omega), rfl⟩, ?_⟩)
      · intro x hx
        obtain ⟨j, hj, rfl⟩ := List.mem_map.1 hx
        have := List.mem_range.1 hj
        show (j : Int) + 1 ≤ n
        omega
      · show ((n - 1 : Nat) : Int) + 1 = n
        omega
  · show List.map (fun x => x.m) (agOut n s a) = (List.range n).map agM
    unfold agOut; rw [List.map_map]; rfl
theorem tick_still {n : Nat} {a t : Int} {l : Lk} (hn : n ≤ 32) (ho : l.out = agOut n true a) (ht : max l.now t = t) (hd : t - a < 8) :
    tickP l t = ({ l with now := t }, []) := by
  unfold tickP
  have hl : l.out.length = n := by rw [ho, agOut_len]
  have hm : min l.out.length 32 = l.out.length := by omega
  have hdue : ∀ x ∈ agOut n true a, dueP t x = false := by
    intro x hx
    obtain ⟨j, _, rfl⟩ := List.mem_map.1 hx
    unfold dueP
    simp [hd]
  simp only [ht, hm, List.take_length, List.drop_length, List.append_nil]
  rw [ho, List.filter_eq_nil_iff.2 (fun x hx => by rw [hdue x hx]; decide)]
  refine Prod.ext ?_ rfl
  have h2 : (agOut n true a).map (fireP t) = agOut n true a := by
    refine (List.map_congr_left (g := id) ?_).trans (List.map_id _)
    intro x hx
    unfold fireP
    rw [hdue x hx]; rfl
  show ({ l with now := t, out := (agOut n true a).map (fireP t), told := l.told } : Lk) = { l with now := t, out := agOut n true a }
  rw [h2]
theorem again_tick {n at_ t : Nat} (hn : 1 ≤ n ∧ n ≤ 32) : tickP (againS n at_ t) (t : Int) = (againT n at_ t, againO n at_ t) := by
  unfold againS againT againO
  by_cases h0 : t = 0
  · subst h0
    rw [if_pos rfl, if_pos (Nat.zero_le _), if_pos ⟨rfl, Nat.zero_le _⟩]
    rw [tick_due (n := n) (s := false) (a := 0) hn rfl (by simp [againA]) (.inl rfl) (by simp [againA])]
    rfl
  · rw [if_neg h0]
    by_cases h1 : t ≤ at_
    · rw [if_pos h1, if_pos h1]
      by_cases h8 : t % 8 = 0
      · rw [if_pos ⟨h8, h1⟩, tick_due (n := n) (s := true) (a := ((8 * ((t - 1) / 8) : Nat) : Int)) hn rfl (by show max ((t - 1 : Nat) : Int) (t : Int) = t; omega) (.inr (by omega)) (Int.le_refl _)]
        rw [show 8 * (t / 8) = t by omega]
      · rw [if_neg (fun q => h8 q.1), tick_still (n := n) (a := ((8 * ((t - 1) / 8) : Nat) : Int)) hn.2 rfl (by show max ((t - 1 : Nat) : Int) (t : Int) = t; omega) (by omega)]
        rw [show t / 8 = (t - 1) / 8 by omega]
    · rw [if_neg h1, if_neg h1, if_neg (fun q => h1 q.2)]
      rw [tick_still (n := 0) (a := (t : Int)) (by omega) rfl (by show max ((t - 1 : Nat) : Int) (t : Int) = t; omega) (by omega)]
theorem again_len (n at_ t : Nat) : (againO n at_ t).length = if t % 8 = 0 ∧ t ≤ at_ then n else 0 := by
  unfold againO; split <;> simp
theorem again_next {n at_ t : Nat} (h : t ≠ at_) : againT n at_ t = againS n at_ (t + 1) := by
  unfold againT againS
  rw [if_neg (show ¬ t + 1 = 0 by omega), show t + 1 - 1 = t by omega]
  by_cases h1 : t ≤ at_
  · rw [if_pos h1, if_pos (by omega)]
  · rw [if_neg h1, if_neg (by omega)]
theorem again_get {n at_ t : Nat} (h : t = at_) : getP (againT n at_ t) ⟨1, 1, 0, 7, 0, [(n : Int)], []⟩ = (againS n at_ (t + 1), ([] : List Msg), ([] : List Msg), 0) := by
  subst h
  unfold againT againS
  rw [if_pos (Nat.le_refl _), if_neg (show ¬ t + 1 = 0 by omega), if_neg (show ¬ t + 1 ≤ t by omega), show t + 1 - 1 = t by omega]
  unfold getP
  rw [if_neg (by simp), if_neg (by simp), if_pos rfl, if_neg]
  · refine Prod.ext ?_ rfl
    simp only [Lk.mk.injEq, true_and, and_true]
    refine List.filter_eq_nil_iff.2 ?_
    intro x hx
    obtain ⟨j, hj, rfl⟩ := List.mem_map.1 hx
    have := List.mem_range.1 hj
    have h2 : agM j = ⟨5, 0, 1, 7, (j : Int) + 1, [(j : Int)], []⟩ := rfl
    simp only [keepP, h2, List.getD_cons_zero]
    have : (j : Int) + 1 ≤ n := by omega
    simp [this]
  · simp
theorem again_end {n at_ t : Nat} : (againS n at_ t).out.length = if t ≤ at_ then n else 0 := by
  unfold againS
  by_cases h0 : t = 0
  · subst h0; rw [if_pos rfl, if_pos (Nat.zero_le _)]; exact agOut_len _ _ _
  · rw [if_neg h0]; split
    · exact agOut_len _ _ _
    · rfl
theorem again_at {n at_ t : Nat} {outs : List MsgR} (h : outs.map MsgR.abs = againO n at_ t) {j : Nat} (hj : j < outs.length) : (outs.getD j M0).seq = (j : Int) + 1 ∧ (outs.getD j M0).N = [(j : Int)] := by
  have h2 : (outs.getD j M0).abs = agM j := by
    have hl := congrArg List.length h
    rw [List.length_map, again_len] at hl
    unfold againO at h
    split at h
    · rename_i hc
      rw [if_pos hc] at hl
      rw [← abs_getD, h, List.getD_eq_getElem?_getD, List.getElem?_map, List.getElem?_range (by omega)]; rfl
    · rename_i hc
      rw [if_neg hc] at hl
      omega
  exact ⟨congrArg Msg.seq h2, congrArg Msg.N h2⟩
end Go.Proofs.Ytpcdldakilkldaa
