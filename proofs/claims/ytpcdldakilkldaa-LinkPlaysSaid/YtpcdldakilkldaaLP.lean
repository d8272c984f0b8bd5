/-
  A link as plain data: what its calls answer, what they leave.
-/
import Derived.Test.YtpcdldakilkldaaLH
set_option linter.unusedVariables false
namespace Go.Proofs.Ytpcdldakilkldaa
open Go Go.Wk

structure PSnd where
  m : Msg
  sent : Bool
  at_ : Int
  deriving DecidableEq
structure Lk where
  own : Int
  peer : Int
  view : Int
  now : Int
  out : List PSnd
  pushed : Int
  told : Int
  next : Int
  held : List Msg
  deriving DecidableEq
def SndR.abs (x : SndR) : PSnd := ⟨x.m.abs, x.sent, x.at_⟩
def LkR.abs (s : LkR) : Lk := ⟨s.own, s.peer, s.view, s.now, s.out.map SndR.abs, s.pushed, s.told, s.next, s.held.map MsgR.abs⟩
def newL (own peer view : Int) : Lk := ⟨own, peer, view, 0, [], 0, 0, 1, []⟩
def goodM (kind frm to : Int) (N W : List Int) : Bool := decide (1 ≤ kind ∧ kind ≤ 20 ∧ 0 ≤ frm ∧ frm < 16 ∧ 0 ≤ to ∧ to < 16 ∧ N.length ≤ 500 ∧ W.length ≤ 500)
def pushP (l : Lk) (m : Msg) : Lk × Int :=
  if goodM m.kind l.own l.peer m.N m.W = false ∨ m.kind = 1 then (l, 1)
  else if 1024 ≤ l.out.length ∨ l.pushed = 4294967295 then (l, 6)
  else ({ l with pushed := l.pushed + 1, out := l.out ++ [⟨⟨m.kind, l.own, l.peer, l.view, l.pushed + 1, m.N, m.W⟩, false, 0⟩] }, 0)
def dueP (now : Int) (x : PSnd) : Bool := !(x.sent && decide (now - x.at_ < 8))
def fireP (now : Int) (x : PSnd) : PSnd := if dueP now x then ⟨x.m, true, now⟩ else x
def tickP (l : Lk) (now : Int) : Lk × List Msg :=
  let nw := max l.now now
  let d := (l.out.take (min l.out.length 32)).filter (dueP nw)
  ({ l with now := nw, out := (l.out.take (min l.out.length 32)).map (fireP nw) ++ l.out.drop (min l.out.length 32), told := d.foldl (fun t x => max t x.m.seq) l.told }, d.map (·.m))
def keepP (n0 : Int) (x : PSnd) : Bool := !decide (x.m.seq ≤ n0)
def getP (l : Lk) (m : Msg) : Lk × List Msg × List Msg × Int :=
  if m.frm ≠ l.peer ∨ m.to ≠ l.own then (l, [], [], 1)
  else if m.view ≠ l.view then (l, [], [], 8)
  else if m.kind = 1 then
    if m.seq ≠ 0 ∨ 0 < m.W.length ∨ m.N.length ≠ 1 ∨ m.N.getD 0 0 < 0 ∨ l.told < m.N.getD 0 0 then (l, [], [], 3)
    else ({ l with out := l.out.filter (keepP (m.N.getD 0 0)) }, [], [], 0)
  else if m.seq = 0 then (l, [], [], 3)
  else if m.seq < l.next ∨ (idxOf l.held m.seq).isSome then (l, [], [⟨1, l.own, l.peer, l.view, 0, [l.next - 1], []⟩], 8)
  else if 32 ≤ m.seq - l.next then (l, [], [], 6)
  else
    let r := readyG (l.held.length + 2) [] (l.held ++ [m]) l.next
    ({ l with next := r.2.2, held := r.2.1 }, r.1, [⟨1, l.own, l.peer, l.view, 0, [r.2.2 - 1], []⟩], 0)

def LkAt (γ : Nat → Nat) (w : World) (k p : Nat) (l : Lk) : Prop := ∃ s, LinkAt γ w k p s ∧ s.abs = l
theorem LkAt.keep {C : List Nat} {w w1 : World} {γ γ1 : Nat → Nat} {k p : Nat} {l : Lk} (h : LkAt γ w k p l) (g : GX C w γ w1 γ1) (h0 : 0 ∉ C) (h1 : k ∉ C) (h2 : k + 1 ∉ C) (h3 : k + 2 ∉ C) : LkAt γ1 w1 k p l := by
  obtain ⟨s, hs, he⟩ := h
  exact ⟨s, hs.keep g h0 h1 h2 h3, he⟩
theorem MsgsAt.nil (γ : Nat → Nat) (w : World) : MsgsAt γ w (.slice none 0 0) [] := ⟨none, 0, 0, 0, rfl, SlG.nil _ _ _ _ _ _ _ _, AllOk.nil⟩

section
variable {k p : Nat} {w : World} {γ : Nat → Nat} {l : Lk} {m : MsgR} {K : Value → World → Prop}

theorem newL_p {own peer view : Int} (k : Nat) (h1 : 0 ≤ own ∧ own < 16) (h2 : 0 ≤ peer ∧ peer < 16) (h3 : own ≠ peer) (hv : 0 ≤ view ∧ view < 4294967296)
    (hK : ∀ w' γ' p, GX [] w γ w' γ' → LkAt γ' w' k p (newL own peer view) → w.heap.size ≤ p → K (.tuple #[.pointer (some ⟨p, 0, none⟩), .int .i64 0]) w') :
    CallsV Try.prog 8 #[.int .i64 own, .int .i64 peer, .int .u32 view] w K := new_ok k h1 h2 h3 hv fun w' γ' p g hL hp => hK w' γ' p g ⟨_, hL, rfl⟩ hp

theorem good_iff (a b : Int) : (1 ≤ m.kind ∧ m.kind ≤ 20 ∧ 0 ≤ a ∧ a < 16 ∧ 0 ≤ b ∧ b < 16 ∧ m.N.length ≤ 500 ∧ m.W.length ≤ 500) ↔ goodM m.kind a b m.N m.W = true := by
  unfold goodM; rw [decide_eq_true_eq]

theorem push_p (h : LkAt γ w k p l) (hk : 10 ≤ k ∧ k ≤ 900) (hm : MOk γ w m)
    (hK : ∀ w' γ', GX [k, k + 1] w γ w' γ' → LkAt γ' w' k p (pushP l m.abs).1 → K (.int .i64 (pushP l m.abs).2) w') : CallsV Try.prog 9 #[.pointer (some ⟨p, 0, none⟩), .agg (encM m).toArray] w K := by
  obtain ⟨s, hs, rfl⟩ := h
  have mono : ∀ {w' γ'}, GX [] w γ w' γ' → GX [k, k + 1] w γ w' γ' := fun g => g.mono (fun c hc => absurd hc List.not_mem_nil)
  have stay : ∀ {w' γ'}, GX [] w γ w' γ' → LkAt γ' w' k p s.abs := fun g => ⟨s, hs.keep g List.not_mem_nil List.not_mem_nil List.not_mem_nil List.not_mem_nil, rfl⟩
  refine push_c hs hk hm (fun h1 w' γ' g => ?_) (fun h1 h2 w' γ' g => ?_) (fun h1 h2 h3 h4 w' γ' m' oa og oc orest g hL ha => ?_)
  · have e : pushP s.abs m.abs = (s.abs, 1) := by
      unfold pushP
      rw [if_pos]
      rcases h1 with h1 | h1
      · exact .inl (by rw [← Bool.not_eq_true]; exact fun hh => h1 ((good_iff _ _).2 hh))
      · exact .inr h1
    rw [e] at hK
    exact hK w' γ' (mono g) (stay g)
  · have e : pushP s.abs m.abs = (s.abs, 6) := by
      unfold pushP
      rw [if_neg, if_pos]
      · rcases h2 with h2 | h2
        · exact .inl (by simpa [LkR.abs] using h2)
        · exact .inr h2
      · rintro (hh | hh)
        · have := (good_iff (m := m) s.own s.peer).1 h1.1
          have hh' : goodM m.kind s.own s.peer m.N m.W = false := hh
          rw [this] at hh'; cases hh'
        · exact h1.2 hh
    rw [e] at hK
    exact hK w' γ' (mono g) (stay g)
  · have e : pushP s.abs m.abs = (({ s with pushed := s.pushed + 1, oa := oa, og := og, oc := oc, out := s.out ++ [⟨m', false, 0⟩], orest := orest } : LkR).abs, 0) := by
      unfold pushP
      rw [if_neg, if_neg]
      · simp only [LkR.abs, List.map_append, List.map_cons, List.map_nil, SndR.abs, ha]; rfl
      · rintro (hh | hh)
        · have : 1024 ≤ s.out.length := by simpa [LkR.abs] using hh
          omega
        · exact h4 hh
      · rintro (hh | hh)
        · have := (good_iff (m := m) s.own s.peer).1 h1
          have hh' : goodM m.kind s.own s.peer m.N m.W = false := hh
          rw [this] at hh'; cases hh'
        · exact h2 hh
    rw [e] at hK
    exact hK w' γ' g ⟨_, hL, rfl⟩

theorem due_abs (nw : Int) (x : SndR) : dueP nw x.abs = due nw x := rfl
theorem fire_abs (nw : Int) (x : SndR) : fireP nw x.abs = (fire nw x).abs := by
  unfold fireP fire; rw [due_abs]; split <;> rfl
theorem filter_abs (nw : Int) (L : List SndR) : (L.map SndR.abs).filter (dueP nw) = (L.filter (due nw)).map SndR.abs := by
  rw [List.filter_map]; rfl
theorem tick_p {now : Int} (h : LkAt γ w k p l) (hk : 10 ≤ k ∧ k ≤ 900) (hnow : -9223372036854775808 ≤ now ∧ now ≤ 9223372036854775807)
    (hK : ∀ w' γ' v (outs : List MsgR), GX [k, k + 1] w γ w' γ' → MsgsAt γ' w' v outs → LkAt γ' w' k p (tickP l now).1 → outs.map MsgR.abs = (tickP l now).2 → K v w') : CallsV Try.prog 10 #[.pointer (some ⟨p, 0, none⟩), .int .i64 now] w K := by
  obtain ⟨s, hs, rfl⟩ := h
  refine tick_c hs hk hnow rfl fun w' γ' v outs O nw tl g hM hL hnw hO ho ht => hK w' γ' v outs g hM ⟨_, hL, ?_⟩ ?_
  · subst hnw hO ht
    simp only [tickP, LkR.abs, Lk.mk.injEq, true_and, List.length_map]
    refine ⟨?_, ?_⟩
    · unfold tickO
      rw [List.map_append, List.map_map, ← List.map_take, ← List.map_drop, List.map_map]
      congr 1
      exact List.map_congr_left fun x _ => (fire_abs _ x).symm
    · unfold tickT tickD
      rw [← List.map_take, filter_abs, List.foldl_map]
      exact ⟨rfl, trivial⟩
  · subst hnw
    rw [ho]
    simp only [tickP, LkR.abs, List.length_map]
    unfold tickD
    rw [← List.map_take, filter_abs, List.map_map]; rfl

theorem get_p (h : LkAt γ w k p l) (hk : 10 ≤ k ∧ k ≤ 900) (hm : MOk γ w m) (hh : l.held.length < 1000000)
    (hK : ∀ w' γ' v1 v2 (o a : List MsgR), GX [k, k + 1, k + 2] w γ w' γ' → MsgsAt γ' w' v1 o → MsgsAt γ' w' v2 a → LkAt γ' w' k p (getP l m.abs).1 → o.map MsgR.abs = (getP l m.abs).2.1 → a.map MsgR.abs = (getP l m.abs).2.2.1 →
      K (.tuple #[v1, v2, .int .i64 (getP l m.abs).2.2.2]) w') : CallsV Try.prog 11 #[.pointer (some ⟨p, 0, none⟩), .agg (encM m).toArray] w K := by
  obtain ⟨s, hs, rfl⟩ := h
  have hh' : s.held.length < 1000000 := by simpa [LkR.abs] using hh
  have plain : ∀ {e : Int} {w' γ'}, getP s.abs m.abs = (s.abs, [], [], e) → GX [] w γ w' γ' → K (.tuple #[.slice none 0 0, .slice none 0 0, .int .i64 e]) w' := fun he g => by
    have := hK _ _ (.slice none 0 0) (.slice none 0 0) [] [] (g.mono (fun c hc => absurd hc List.not_mem_nil)) (MsgsAt.nil _ _) (MsgsAt.nil _ _)
    rw [he] at this
    exact this ⟨s, hs.keep g List.not_mem_nil List.not_mem_nil List.not_mem_nil List.not_mem_nil, rfl⟩ rfl rfl
  refine get_c hs hk hm hh' (fun h1 w' γ' g => plain ?_ g) (fun h1 h2 w' γ' g => plain ?_ g) (fun h1 h2 h3 h4 w' γ' g => plain ?_ g) (fun h1 h2 h3 h4 w' γ' or g hL => ?_) (fun h1 h2 h3 h4 w' γ' g => plain ?_ g)
    (fun h1 h2 h3 h4 h5 w' γ' v r g hM ha => ?_) (fun h1 h2 h3 h4 h5 h6 h7 w' γ' g => plain ?_ g) (fun h1 h2 h3 h4 h5 h6 h7 w' γ' v v2 outs r L la lg lc lrest nx g hM hM2 hL hR ha => ?_)
  all_goals
    have n1 : ∀ (q : m.frm = s.peer ∧ m.to = s.own), ¬ (m.abs.frm ≠ s.abs.peer ∨ m.abs.to ≠ s.abs.own) := fun q hh => hh.elim (fun x => x q.1) (fun x => x q.2)
  · unfold getP; rw [if_pos (show m.abs.frm ≠ s.abs.peer ∨ m.abs.to ≠ s.abs.own from h1)]
  · unfold getP; rw [if_neg (n1 h1), if_pos (show m.abs.view ≠ s.abs.view from h2)]
  · unfold getP; rw [if_neg (n1 h1), if_neg (show ¬ m.abs.view ≠ s.abs.view from fun x => x h2), if_pos (show m.abs.kind = 1 from h3), if_pos (show m.abs.seq ≠ 0 ∨ 0 < m.abs.W.length ∨ m.abs.N.length ≠ 1 ∨ m.abs.N.getD 0 0 < 0 ∨ s.abs.told < m.abs.N.getD 0 0 from h4)]
  · have e : getP s.abs m.abs = (({ s with out := s.out.filter (keepS (m.N.getD 0 0)), orest := or } : LkR).abs, [], [], 0) := by
      unfold getP; rw [if_neg (n1 h1), if_neg (show ¬ m.abs.view ≠ s.abs.view from fun x => x h2), if_pos (show m.abs.kind = 1 from h3), if_neg (show ¬ (m.abs.seq ≠ 0 ∨ 0 < m.abs.W.length ∨ m.abs.N.length ≠ 1 ∨ m.abs.N.getD 0 0 < 0 ∨ s.abs.told < m.abs.N.getD 0 0) from h4)]
      simp only [LkR.abs]
      rw [List.filter_map]; rfl
    rw [e] at hK
    exact hK w' γ' (.slice none 0 0) (.slice none 0 0) [] [] (g.mono (by simp)) (MsgsAt.nil _ _) (MsgsAt.nil _ _) ⟨_, hL, rfl⟩ rfl rfl
  · unfold getP; rw [if_neg (n1 h1), if_neg (show ¬ m.abs.view ≠ s.abs.view from fun x => x h2), if_neg (show ¬ m.abs.kind = 1 from h3), if_pos (show m.abs.seq = 0 from h4)]
  · have e : getP s.abs m.abs = (s.abs, [], [⟨1, s.own, s.peer, s.view, 0, [s.next - 1], []⟩], 8) := by
      unfold getP; rw [if_neg (n1 h1), if_neg (show ¬ m.abs.view ≠ s.abs.view from fun x => x h2), if_neg (show ¬ m.abs.kind = 1 from h3), if_neg (show ¬ m.abs.seq = 0 from h4), if_pos]; try rfl
      rcases h5 with h5 | ⟨j, hj⟩
      · exact .inl h5
      · right
        have hj' : idxOf s.abs.held m.abs.seq = some j := hj
        rw [hj']; rfl
    rw [e] at hK
    exact hK w' γ' (.slice none 0 0) v [] [r] (g.mono (fun c hc => absurd hc List.not_mem_nil)) (MsgsAt.nil _ _) hM ⟨s, hs.keep g List.not_mem_nil List.not_mem_nil List.not_mem_nil List.not_mem_nil, rfl⟩ rfl (by rw [List.map_singleton, ha])
  · unfold getP; rw [if_neg (n1 h1), if_neg (show ¬ m.abs.view ≠ s.abs.view from fun x => x h2), if_neg (show ¬ m.abs.kind = 1 from h3), if_neg (show ¬ m.abs.seq = 0 from h4), if_neg, if_pos (show 32 ≤ m.abs.seq - s.abs.next from h7)]
    rintro (q | q)
    · have : m.seq < s.next := q
      omega
    · have h6' : idxOf s.abs.held m.abs.seq = none := h6
      rw [h6'] at q; cases q
  · have e : getP s.abs m.abs = (({ s with next := nx, ha := la, hg := lg, hc := lc, held := L, hrest := lrest } : LkR).abs, outs.map MsgR.abs, [⟨1, s.own, s.peer, s.view, 0, [nx - 1], []⟩], 0) := by
      unfold getP; rw [if_neg (n1 h1), if_neg (show ¬ m.abs.view ≠ s.abs.view from fun x => x h2), if_neg (show ¬ m.abs.kind = 1 from h3), if_neg (show ¬ m.abs.seq = 0 from h4), if_neg, if_neg (fun q => by have : 32 ≤ m.seq - s.next := q; omega)]
      · have hl : s.abs.held.length = s.held.length := by simp [LkR.abs]
        have hR' : readyG (s.abs.held.length + 2) [] (s.abs.held ++ [m.abs]) s.abs.next = (outs.map MsgR.abs, L.map MsgR.abs, nx) := by rw [hl]; exact hR.symm
        simp only [hR']
        rfl
      · rintro (q | q)
        · have : m.seq < s.next := q
          omega
        · have h6' : idxOf s.abs.held m.abs.seq = none := h6
          rw [h6'] at q; cases q
    rw [e] at hK
    exact hK w' γ' v v2 outs [r] (g.mono (by simp)) hM hM2 ⟨_, hL, rfl⟩ rfl (by rw [List.map_singleton, ha])
theorem waiting_p (h : LkAt γ w k p l) (hk : 10 ≤ k ∧ k ≤ 900) (hK : ∀ w', SameMem w w' → K (.int .i64 ((l.out.length : Nat) : Int)) w') : CallsV Try.prog 12 #[.pointer (some ⟨p, 0, none⟩)] w K := by
  obtain ⟨s, hs, rfl⟩ := h
  exact waiting_c (k := k) hs hk (by simpa [LkR.abs] using hK)
theorem ahead_p (h : LkAt γ w k p l) (hk : 10 ≤ k ∧ k ≤ 900) (hK : ∀ w', SameMem w w' → K (.int .i64 ((l.held.length : Nat) : Int)) w') : CallsV Try.prog 13 #[.pointer (some ⟨p, 0, none⟩)] w K := by
  obtain ⟨s, hs, rfl⟩ := h
  exact ahead_c (k := k) hs hk (by simpa [LkR.abs] using hK)
theorem next_p (h : LkAt γ w k p l) (hk : 10 ≤ k ∧ k ≤ 900) (hK : ∀ w', SameMem w w' → K (.int .u32 l.next) w') : CallsV Try.prog 14 #[.pointer (some ⟨p, 0, none⟩)] w K := by
  obtain ⟨s, hs, rfl⟩ := h
  exact next_c (k := k) hs hk hK
end
end Go.Proofs.Ytpcdldakilkldaa
