/-
  Acts; what the calls of a link keep.
-/
import Derived.Test.YtpcdldakilkldaaLI
import Derived.Test.YtpcdldakilkldaaK23
set_option linter.unusedVariables false
namespace Go.Proofs.Ytpcdldakilkldaa
open Go Go.Wk

/-- An act of a law. -/
structure ActR where
  op : Int
  fit : Bool
  m : MsgR
  now : Int
def A0 : ActR := ⟨0, false, M0, 0⟩
def encA (a : ActR) : List Value := [.int .i64 a.op, .bool a.fit] ++ encM a.m ++ [.int .i64 a.now]
theorem encA_len (a : ActR) : (encA a).length = 10 := rfl
theorem encA_one (a : ActR) : (encA a).all Value.oneCell' = true := rfl
/-- A message as it comes in: its lists may be long. -/
structure MIn (γ : Nat → Nat) (w : World) (m : MsgR) : Prop where
  n : SlG γ w 0 1 m.na m.nb m.noff encI m.N
  w : SlG γ w 0 2 m.wa m.wb m.woff encW m.W
  v0 : 0 ≤ m.view ∧ m.view < 4294967296
  s0 : 0 ≤ m.seq ∧ m.seq < 4294967296
  nr : ∀ i, -9223372036854775808 ≤ m.N.getD i 0 ∧ m.N.getD i 0 ≤ 9223372036854775807
theorem MIn.keep {C : List Nat} {w w1 : World} {γ γ1 : Nat → Nat} {m : MsgR} (h : MIn γ w m) (g : GX C w γ w1 γ1) (hc : 0 ∉ C) : MIn γ1 w1 m := ⟨h.n.keep g hc, h.w.keep g hc, h.v0, h.s0, h.nr⟩
theorem MIn.ok {γ : Nat → Nat} {w : World} {m : MsgR} (h : MIn γ w m) (h1 : m.N.length ≤ 10) (h2 : m.W.length ≤ 10) : MOk γ w m := ⟨h.n, h.w, h.v0, h.s0, h.nr, by omega, by omega⟩
def AllA (γ : Nat → Nat) (w : World) (L : List ActR) : Prop := ∀ a ∈ L, MIn γ w a.m ∧ -9223372036854775808 ≤ a.now ∧ a.now ≤ 9223372036854775807
theorem AllA.keep {C : List Nat} {w w1 : World} {γ γ1 : Nat → Nat} {L : List ActR} (h : AllA γ w L) (g : GX C w γ w1 γ1) (hc : 0 ∉ C) : AllA γ1 w1 L := fun a ha => ⟨(h a ha).1.keep g hc, (h a ha).2⟩
theorem AllA.get {γ : Nat → Nat} {w : World} {L : List ActR} (h : AllA γ w L) {i : Nat} (hi : i < L.length) : MIn γ w (L.getD i A0).m ∧ -9223372036854775808 ≤ (L.getD i A0).now ∧ (L.getD i A0).now ≤ 9223372036854775807 := by
  rw [List.getD_eq_getElem?_getD, List.getElem?_eq_getElem hi]
  exact h _ (List.getElem_mem hi)

theorem readyG_len : ∀ (f : Nat) (acc h : List Msg) (n : Int), (readyG f acc h n).2.1.length ≤ h.length
  | 0, _, _, _ => Nat.le_refl _
  | f + 1, acc, h, n => by
    unfold readyG
    split
    · exact Nat.le_refl _
    · refine Nat.le_trans (readyG_len f _ _ _) ?_
      rw [List.length_eraseIdx]; split <;> omega
theorem readyG_next : ∀ (f : Nat) (acc h : List Msg) (n : Int), 0 ≤ n ∧ n < 4294967296 → 0 ≤ (readyG f acc h n).2.2 ∧ (readyG f acc h n).2.2 < 4294967296
  | 0, _, _, _, hn => hn
  | f + 1, acc, h, n, hn => by
    unfold readyG
    split
    · exact hn
    · exact readyG_next f _ _ _ (by omega)
theorem push_keeps {l l' : Lk} {m : Msg} {e : Int} (h : pushP l m = (l', e)) : l'.own = l.own ∧ l'.peer = l.peer ∧ l'.view = l.view ∧ l'.held.length = l.held.length := by
  unfold pushP at h
  split at h
  · cases h; exact ⟨rfl, rfl, rfl, rfl⟩
  · split at h <;> cases h <;> exact ⟨rfl, rfl, rfl, rfl⟩
theorem tick_keeps {l l' : Lk} {now : Int} {o : List Msg} (h : tickP l now = (l', o)) : l'.own = l.own ∧ l'.peer = l.peer ∧ l'.view = l.view ∧ l'.held.length = l.held.length := by
  unfold tickP at h; cases h; exact ⟨rfl, rfl, rfl, rfl⟩
theorem get_keeps {l l' : Lk} {m : Msg} {o a : List Msg} {e : Int} (h : getP l m = (l', o, a, e)) : l'.own = l.own ∧ l'.peer = l.peer ∧ l'.view = l.view ∧ l'.held.length ≤ l.held.length + 1 := by
  unfold getP at h
  split at h
  · cases h; exact ⟨rfl, rfl, rfl, by omega⟩
  split at h
  · cases h; exact ⟨rfl, rfl, rfl, by omega⟩
  split at h
  · split at h <;> cases h <;> exact ⟨rfl, rfl, rfl, Nat.le_succ _⟩
  split at h
  · cases h; exact ⟨rfl, rfl, rfl, by omega⟩
  split at h
  · cases h; exact ⟨rfl, rfl, rfl, by omega⟩
  split at h
  · cases h; exact ⟨rfl, rfl, rfl, by omega⟩
  · cases h
    exact ⟨rfl, rfl, rfl, by have := readyG_len (l.held.length + 2) [] (l.held ++ [m]) l.next; simpa using this⟩
theorem get_elder {l : Lk} {m : Msg} (h : ¬ (m.frm = l.peer ∧ m.to = l.own ∧ m.view = l.view)) : ∃ e, (e = 1 ∨ e = 8) ∧ getP l m = (l, [], [], e) := by
  unfold getP
  by_cases h1 : m.frm ≠ l.peer ∨ m.to ≠ l.own
  · exact ⟨1, .inl rfl, if_pos h1⟩
  · rw [if_neg h1]
    by_cases h2 : m.view ≠ l.view
    · exact ⟨8, .inr rfl, if_pos h2⟩
    · exfalso; exact h ⟨Decidable.not_not.1 (fun q => h1 (.inl q)), Decidable.not_not.1 (fun q => h1 (.inr q)), Decidable.not_not.1 h2⟩

section
variable {k p : Nat} {w : World} {γ : Nat → Nat} {l l' : Lk} {m : MsgR} {K : Value → World → Prop}
theorem push_q {M : Msg} {e : Int} (hg : pushP l M = (l', e)) (hM : m.abs = M) (h : LkAt γ w k p l) (hk : 10 ≤ k ∧ k ≤ 900) (hm : MOk γ w m) (hK : ∀ w' γ', GX [k, k + 1] w γ w' γ' → LkAt γ' w' k p l' → K (.int .i64 e) w') :
    CallsV Try.prog 9 #[.pointer (some ⟨p, 0, none⟩), .agg (encM m).toArray] w K := by
  subst hM; exact push_p h hk hm fun w' γ' g hL => by rw [hg] at hL ⊢; exact hK w' γ' g hL
theorem tick_q {now : Int} {o : List Msg} (hg : tickP l now = (l', o)) (h : LkAt γ w k p l) (hk : 10 ≤ k ∧ k ≤ 900) (hnow : -9223372036854775808 ≤ now ∧ now ≤ 9223372036854775807)
    (hK : ∀ w' γ' v (outs : List MsgR), GX [k, k + 1] w γ w' γ' → MsgsAt γ' w' v outs → LkAt γ' w' k p l' → outs.map MsgR.abs = o → K v w') : CallsV Try.prog 10 #[.pointer (some ⟨p, 0, none⟩), .int .i64 now] w K :=
  tick_p h hk hnow fun w' γ' v outs g hM hL ho => by rw [hg] at hL ho; exact hK w' γ' v outs g hM hL ho
theorem get_q {M : Msg} {o a : List Msg} {e : Int} (hg : getP l M = (l', o, a, e)) (hM : m.abs = M) (h : LkAt γ w k p l) (hk : 10 ≤ k ∧ k ≤ 900) (hm : MOk γ w m) (hh : l.held.length < 1000000)
    (hK : ∀ w' γ' v1 v2 (o' a' : List MsgR), GX [k, k + 1, k + 2] w γ w' γ' → MsgsAt γ' w' v1 o' → MsgsAt γ' w' v2 a' → LkAt γ' w' k p l' → o'.map MsgR.abs = o → a'.map MsgR.abs = a → K (.tuple #[v1, v2, .int .i64 e]) w') :
    CallsV Try.prog 11 #[.pointer (some ⟨p, 0, none⟩), .agg (encM m).toArray] w K := by
  subst hM; exact get_p h hk hm hh fun w' γ' v1 v2 o' a' g h1 h2 hL e1 e2 => by rw [hg] at hL e1 e2 ⊢; exact hK w' γ' v1 v2 o' a' g h1 h2 hL e1 e2
end
end Go.Proofs.Ytpcdldakilkldaa
