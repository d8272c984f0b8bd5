/-
  The document's links as the same plain data as the program's.
-/
import Derived.Test.YtpcdldakilkldaaX1
import Derived.Test.YtpcdldakilkldaaX2
import Derived.Test.YtpcdldakilkldaaX3
import Derived.Test.YtpcdldakilkldaaLQ
set_option linter.unusedVariables false
namespace Go.Proofs.Ytpcdldakilkldaa
open Go Go.Wk

def RfR.abs (s : RfR) : Lk := ⟨s.own, s.peer, s.view, s.now, s.out.map SndR.abs, s.last, s.told, s.come + 1, s.held.map MsgR.abs⟩
def RkAt (γ : Nat → Nat) (w : World) (k p : Nat) (l : Lk) : Prop := ∃ s, RefAt γ w k p s ∧ s.abs = l
theorem RkAt.keep {C : List Nat} {w w1 : World} {γ γ1 : Nat → Nat} {k p : Nat} {l : Lk} (h : RkAt γ w k p l) (g : GX C w γ w1 γ1) (h0 : 0 ∉ C) (h1 : k ∉ C) (h2 : k + 1 ∉ C) (h3 : k + 2 ∉ C) : RkAt γ1 w1 k p l := by
  obtain ⟨s, hs, he⟩ := h
  exact ⟨s, hs.keep g h0 h1 h2 h3, he⟩
/-- What waits is numbered upwards; what is ahead lies in the window, each once. -/
structure Good (l : Lk) (i : Nat) : Prop where
  pu : 0 ≤ l.pushed ∧ l.pushed ≤ i
  nx : 1 ≤ l.next ∧ l.next + l.held.length ≤ i + 1
  srt : l.out.Pairwise (fun x y => x.m.seq < y.m.seq)
  top : ∀ x ∈ l.out, x.m.seq ≤ l.pushed
  win : ∀ x ∈ l.held, l.next ≤ x.seq ∧ x.seq < l.next + 32
  dup : l.held.Pairwise (fun x y => x.seq ≠ y.seq)
theorem drop_filter {n0 : Int} : ∀ {L : List SndR} {d : Nat}, L.Pairwise (fun x y => x.m.seq < y.m.seq) → d ≤ L.length → (∀ j, j < d → (L.getD j S0).m.seq ≤ n0) → (d < L.length → n0 < (L.getD d S0).m.seq) → L.filter (keepS n0) = L.drop d
  | [], 0, _, _, _, _ => rfl
  | [], d + 1, _, h, _, _ => by simp at h
  | x :: L, 0, hp, _, _, h2 => by
    have hx := h2 (by simp)
    simp only [List.getD_cons_zero] at hx
    rw [List.drop_zero, List.filter_eq_self]
    intro y hy
    have : n0 < y.m.seq := by
      rcases List.mem_cons.1 hy with rfl | hy
      · exact hx
      · have := (List.pairwise_cons.1 hp).1 y hy
        omega
    simp only [keepS, Bool.not_eq_true', decide_eq_false_iff_not]; omega
  | x :: L, d + 1, hp, hd, h1, h2 => by
    have hx := h1 0 (by omega)
    simp only [List.getD_cons_zero] at hx
    have hk : keepS n0 x = false := by simp only [keepS, Bool.not_eq_false', decide_eq_true_eq]; exact hx
    rw [List.filter_cons_of_neg (by rw [hk]; simp), List.drop_succ_cons]
    exact drop_filter (List.pairwise_cons.1 hp).2 (by simpa using hd) (fun j hj => by simpa using h1 (j + 1) (by omega)) (fun h => by simpa using h2 (by simpa using h))

section
variable {k p : Nat} {w : World} {γ : Nat → Nat} {l l' : Lk} {m : MsgR} {i : Nat} {K : Value → World → Prop}
theorem goodR_iff (a b : Int) : (1 ≤ m.kind ∧ m.kind ≤ 20 ∧ 0 ≤ a ∧ a < 16 ∧ 0 ≤ b ∧ b < 16 ∧ m.N.length ≤ 500 ∧ m.W.length ≤ 500) ↔ goodM m.kind a b m.N m.W = true := good_iff a b
theorem push_r {M : Msg} {e : Int} (hg : pushP l M = (l', e)) (hM : m.abs = M) (h : RkAt γ w k p l) (hk : 10 ≤ k ∧ k ≤ 900) (hm : MOk γ w m) (hi : Good l i) (hi2 : i ≤ 1000) (hK : ∀ w' γ', GX [k, k + 1] w γ w' γ' → RkAt γ' w' k p l' → K (.int .i64 e) w') :
    CallsV Try.prog 16 #[.pointer (some ⟨p, 0, none⟩), .agg (encM m).toArray] w K := by
  obtain ⟨s, hs, rfl⟩ := h
  subst hM
  have hpu : s.last ≤ i := hi.pu.2
  have mono : ∀ {w' γ'}, GX [] w γ w' γ' → GX [k, k + 1] w γ w' γ' := fun g => g.mono (fun c hc => absurd hc List.not_mem_nil)
  have stay : ∀ {w' γ'}, GX [] w γ w' γ' → RkAt γ' w' k p s.abs := fun g => ⟨s, hs.keep g List.not_mem_nil List.not_mem_nil List.not_mem_nil List.not_mem_nil, rfl⟩
  refine pushR_c hs hk hm (by omega) (fun h1 w' γ' g => ?_) (fun h1 h2 w' γ' g => ?_) (fun h1 h2 h3 w' γ' m' oa og oo oc g hL ha => ?_)
  · have e : pushP s.abs m.abs = (s.abs, 1) := by
      unfold pushP
      rw [if_pos]
      rcases h1 with h1 | h1
      · exact .inl (by rw [← Bool.not_eq_true]; exact fun hh => h1 ((good_iff _ _).2 hh))
      · exact .inr h1
    rw [e] at hg; cases hg
    exact hK w' γ' (mono g) (stay g)
  · have e : pushP s.abs m.abs = (s.abs, 6) := by
      unfold pushP
      rw [if_neg, if_pos]
      · exact .inl (by simpa [RfR.abs] using h2)
      · rintro (hh | hh)
        · have := (good_iff (m := m) s.own s.peer).1 h1.1
          have hh' : goodM m.kind s.own s.peer m.N m.W = false := hh
          rw [this] at hh'; cases hh'
        · exact h1.2 hh
    rw [e] at hg; cases hg
    exact hK w' γ' (mono g) (stay g)
  · have e : pushP s.abs m.abs = (({ s with last := s.last + 1, oa := oa, og := og, oo := oo, oc := oc, out := s.out ++ [⟨m', false, 0⟩] } : RfR).abs, 0) := by
      unfold pushP
      rw [if_neg, if_neg]
      · simp only [RfR.abs, List.map_append, List.map_cons, List.map_nil, SndR.abs, ha]; rfl
      · rintro (hh | hh)
        · have : 1024 ≤ s.out.length := by simpa [RfR.abs] using hh
          omega
        · have : s.last = 4294967295 := hh
          omega
      · rintro (hh | hh)
        · have := (good_iff (m := m) s.own s.peer).1 h1
          have hh' : goodM m.kind s.own s.peer m.N m.W = false := hh
          rw [this] at hh'; cases hh'
        · exact h2 hh
    rw [e] at hg; cases hg
    exact hK w' γ' g ⟨_, hL, rfl⟩
theorem tick_r {now : Int} {o : List Msg} (hg : tickP l now = (l', o)) (h : RkAt γ w k p l) (hk : 10 ≤ k ∧ k ≤ 900) (hnow : -9223372036854775808 ≤ now ∧ now ≤ 9223372036854775807)
    (hK : ∀ w' γ' v (outs : List MsgR), GX [k, k + 1] w γ w' γ' → MsgsAt γ' w' v outs → RkAt γ' w' k p l' → outs.map MsgR.abs = o → K v w') : CallsV Try.prog 19 #[.pointer (some ⟨p, 0, none⟩), .int .i64 now] w K := by
  obtain ⟨s, hs, rfl⟩ := h
  have hg1 := congrArg Prod.fst hg
  have hg2 := congrArg Prod.snd hg
  refine tickR_c hs hk hnow rfl fun w' γ' v outs O nw tl g hM hL hnw hO ho ht => hK w' γ' v outs g hM ⟨_, hL, ?_⟩ ?_
  · refine Eq.trans ?_ hg1
    subst hnw hO ht
    simp only [tickP, RfR.abs, Lk.mk.injEq, true_and, List.length_map]
    refine ⟨?_, ?_⟩
    · unfold tickO
      rw [List.map_append, List.map_map, ← List.map_take, ← List.map_drop, List.map_map]
      congr 1
      exact List.map_congr_left fun x _ => (fire_abs _ x).symm
    · unfold tickT tickD
      rw [← List.map_take, filter_abs, List.foldl_map]
      exact ⟨rfl, trivial⟩
  · refine Eq.trans ?_ hg2
    subst hnw
    rw [ho]
    simp only [tickP, RfR.abs, List.length_map]
    unfold tickD
    rw [← List.map_take, filter_abs, List.map_map]; rfl
theorem get_r {M : Msg} {o a : List Msg} {e : Int} (hg : getP l M = (l', o, a, e)) (hM : m.abs = M) (h : RkAt γ w k p l) (hk : 10 ≤ k ∧ k ≤ 900) (hm : MOk γ w m) (hi : Good l i) (hi2 : i ≤ 1000)
    (hK : ∀ w' γ' v1 v2 (o' a' : List MsgR), GX [k, k + 1, k + 2] w γ w' γ' → MsgsAt γ' w' v1 o' → MsgsAt γ' w' v2 a' → RkAt γ' w' k p l' → o'.map MsgR.abs = o → a'.map MsgR.abs = a → K (.tuple #[v1, v2, .int .i64 e]) w') :
    CallsV Try.prog 20 #[.pointer (some ⟨p, 0, none⟩), .agg (encM m).toArray] w K := by
  obtain ⟨s, hs, rfl⟩ := h
  subst hM
  have hnx : s.come + 1 + (s.held.map MsgR.abs).length ≤ i + 1 := hi.nx.2
  rw [List.length_map] at hnx
  have hc0 := hs.b4
  have plain : ∀ {e' : Int} {w' γ'}, getP s.abs m.abs = (s.abs, [], [], e') → GX [] w γ w' γ' → K (.tuple #[.slice none 0 0, .slice none 0 0, .int .i64 e']) w' := fun he g => by
    rw [hg] at he
    cases he
    exact hK _ _ (.slice none 0 0) (.slice none 0 0) [] [] (g.mono (fun c hc => absurd hc List.not_mem_nil)) (MsgsAt.nil _ _) (MsgsAt.nil _ _) ⟨s, hs.keep g List.not_mem_nil List.not_mem_nil List.not_mem_nil List.not_mem_nil, rfl⟩ rfl rfl
  refine getR_c hs hk hm (by omega) (by omega) (fun h1 w' γ' g => plain ?_ g) (fun h1 h2 w' γ' g => plain ?_ g) (fun h1 h2 h3 h4 w' γ' g => plain ?_ g) (fun h1 h2 h3 h4 w' γ' d oa oo oc g hd hle hlt hL => ?_) (fun h1 h2 h3 h4 w' γ' g => plain ?_ g)
    (fun h1 h2 h3 h4 h5 w' γ' v r g hM ha => ?_) (fun h1 h2 h3 h4 h5 h6 h7 w' γ' g => plain ?_ g) (fun h1 h2 h3 h4 h5 h6 h7 w' γ' v v2 outs r L la lg lc lrest nx g hM hM2 hL hR ha => ?_)
  all_goals
    have n1 : ∀ (q : m.frm = s.peer ∧ m.to = s.own), ¬ (m.abs.frm ≠ s.abs.peer ∨ m.abs.to ≠ s.abs.own) := fun q hh => hh.elim (fun x => x q.1) (fun x => x q.2)
  · unfold getP; rw [if_pos (show m.abs.frm ≠ s.abs.peer ∨ m.abs.to ≠ s.abs.own from h1)]
  · unfold getP; rw [if_neg (n1 h1), if_pos (show m.abs.view ≠ s.abs.view from h2)]
  · unfold getP; rw [if_neg (n1 h1), if_neg (show ¬ m.abs.view ≠ s.abs.view from fun x => x h2), if_pos (show m.abs.kind = 1 from h3), if_pos (show m.abs.seq ≠ 0 ∨ 0 < m.abs.W.length ∨ m.abs.N.length ≠ 1 ∨ m.abs.N.getD 0 0 < 0 ∨ s.abs.told < m.abs.N.getD 0 0 from h4)]
  · have hsrt : s.out.Pairwise (fun x y => x.m.seq < y.m.seq) := by have := hi.srt; simp only [RfR.abs, List.pairwise_map] at this; exact this
    have e : getP s.abs m.abs = (({ s with oa := oa, oo := oo, oc := oc, out := s.out.drop d } : RfR).abs, [], [], 0) := by
      unfold getP; rw [if_neg (n1 h1), if_neg (show ¬ m.abs.view ≠ s.abs.view from fun x => x h2), if_pos (show m.abs.kind = 1 from h3), if_neg (show ¬ (m.abs.seq ≠ 0 ∨ 0 < m.abs.W.length ∨ m.abs.N.length ≠ 1 ∨ m.abs.N.getD 0 0 < 0 ∨ s.abs.told < m.abs.N.getD 0 0) from h4)]
      simp only [RfR.abs]
      rw [List.filter_map, ← drop_filter hsrt hd hle hlt]; rfl
    rw [hg] at e; cases e
    exact hK w' γ' (.slice none 0 0) (.slice none 0 0) [] [] g (MsgsAt.nil _ _) (MsgsAt.nil _ _) ⟨_, hL, rfl⟩ rfl rfl
  · unfold getP; rw [if_neg (n1 h1), if_neg (show ¬ m.abs.view ≠ s.abs.view from fun x => x h2), if_neg (show ¬ m.abs.kind = 1 from h3), if_pos (show m.abs.seq = 0 from h4)]
  · have e : getP s.abs m.abs = (s.abs, [], [⟨1, s.own, s.peer, s.view, 0, [s.come], []⟩], 8) := by
      unfold getP; rw [if_neg (n1 h1), if_neg (show ¬ m.abs.view ≠ s.abs.view from fun x => x h2), if_neg (show ¬ m.abs.kind = 1 from h3), if_neg (show ¬ m.abs.seq = 0 from h4), if_pos]
      · have : s.abs.next - 1 = s.come := by show s.come + 1 - 1 = s.come; omega
        rw [this]; rfl
      rcases h5 with h5 | ⟨j, hj⟩
      · exact .inl (show m.seq < s.come + 1 by omega)
      · right
        have hj' : idxOf s.abs.held m.abs.seq = some j := hj
        rw [hj']; rfl
    rw [hg] at e; cases e
    exact hK w' γ' (.slice none 0 0) v [] [r] (g.mono (fun c hc => absurd hc List.not_mem_nil)) (MsgsAt.nil _ _) hM ⟨s, hs.keep g List.not_mem_nil List.not_mem_nil List.not_mem_nil List.not_mem_nil, rfl⟩ rfl (by rw [List.map_singleton, ha])
  · unfold getP; rw [if_neg (n1 h1), if_neg (show ¬ m.abs.view ≠ s.abs.view from fun x => x h2), if_neg (show ¬ m.abs.kind = 1 from h3), if_neg (show ¬ m.abs.seq = 0 from h4), if_neg, if_pos (show 32 ≤ m.abs.seq - s.abs.next from by show 32 ≤ m.seq - (s.come + 1); omega)]
    rintro (q | q)
    · have : m.seq < s.come + 1 := q
      omega
    · have h6' : idxOf s.abs.held m.abs.seq = none := h6
      rw [h6'] at q; cases q
  · have e : getP s.abs m.abs = (({ s with come := nx, ha := la, hg := lg, hc := lc, held := L, hrest := lrest } : RfR).abs, outs.map MsgR.abs, [⟨1, s.own, s.peer, s.view, 0, [nx], []⟩], 0) := by
      unfold getP; rw [if_neg (n1 h1), if_neg (show ¬ m.abs.view ≠ s.abs.view from fun x => x h2), if_neg (show ¬ m.abs.kind = 1 from h3), if_neg (show ¬ m.abs.seq = 0 from h4), if_neg, if_neg (fun q => by have : 32 ≤ m.seq - (s.come + 1) := q; omega)]
      · have hl : s.abs.held.length = s.held.length := by simp [RfR.abs]
        have hR' : readyG (s.abs.held.length + 2) [] (s.abs.held ++ [m.abs]) s.abs.next = (outs.map MsgR.abs, L.map MsgR.abs, nx + 1) := by rw [hl]; exact hR.symm
        simp only [hR']
        rw [show nx + 1 - 1 = nx by omega]
        rfl
      · rintro (q | q)
        · have : m.seq < s.come + 1 := q
          omega
        · have h6' : idxOf s.abs.held m.abs.seq = none := h6
          rw [h6'] at q; cases q
    rw [hg] at e; cases e
    exact hK w' γ' v v2 outs [r] g hM hM2 ⟨_, hL, rfl⟩ rfl (by rw [List.map_singleton, ha])
theorem waiting_r (h : RkAt γ w k p l) (hk : 10 ≤ k ∧ k ≤ 900) (hK : ∀ w', SameMem w w' → K (.int .i64 ((l.out.length : Nat) : Int)) w') : CallsV Try.prog 21 #[.pointer (some ⟨p, 0, none⟩)] w K := by
  obtain ⟨s, hs, rfl⟩ := h
  exact waitingR_c (k := k) hs hk (by simpa [RfR.abs] using hK)
theorem ahead_r (h : RkAt γ w k p l) (hk : 10 ≤ k ∧ k ≤ 900) (hK : ∀ w', SameMem w w' → K (.int .i64 ((l.held.length : Nat) : Int)) w') : CallsV Try.prog 22 #[.pointer (some ⟨p, 0, none⟩)] w K := by
  obtain ⟨s, hs, rfl⟩ := h
  exact aheadR_c (k := k) hs hk (by simpa [RfR.abs] using hK)
theorem next_r (h : RkAt γ w k p l) (hk : 10 ≤ k ∧ k ≤ 900) (hK : ∀ w', SameMem w w' → K (.int .u32 l.next) w') : CallsV Try.prog 23 #[.pointer (some ⟨p, 0, none⟩)] w K := by
  obtain ⟨s, hs, rfl⟩ := h
  exact nextR_c (k := k) hs hk hK
end

/-! ### What is kept -/
theorem Good.push {l l' : Lk} {m : Msg} {e : Int} {i : Nat} (h : Good l i) (hg : pushP l m = (l', e)) : Good l' (i + 1) := by
  have up : Good l (i + 1) := ⟨⟨h.pu.1, by have := h.pu.2; omega⟩, ⟨h.nx.1, by have := h.nx.2; omega⟩, h.srt, h.top, h.win, h.dup⟩
  unfold pushP at hg
  split at hg
  · cases hg; exact up
  split at hg
  · cases hg; exact up
  · cases hg
    refine ⟨⟨by have := h.pu.1; show 0 ≤ l.pushed + 1; omega, by have := h.pu.2; show l.pushed + 1 ≤ _; omega⟩, up.nx, ?_, ?_, h.win, h.dup⟩
    · refine List.pairwise_append.2 ⟨h.srt, List.pairwise_singleton _ _, fun x hx y hy => ?_⟩
      rw [List.mem_singleton.1 hy]
      have := h.top x hx
      show x.m.seq < l.pushed + 1
      omega
    · intro x hx
      rcases List.mem_append.1 hx with hx | hx
      · have := h.top x hx
        show x.m.seq ≤ l.pushed + 1
        omega
      · rw [List.mem_singleton.1 hx]; exact Int.le_refl _
theorem fire_m (now : Int) (x : PSnd) : (fireP now x).m = x.m := by unfold fireP; split <;> rfl
theorem Good.tick {l l' : Lk} {now : Int} {o : List Msg} {i : Nat} (h : Good l i) (hg : tickP l now = (l', o)) : Good l' (i + 1) := by
  unfold tickP at hg
  cases hg
  have hm : ∀ (nw : Int) (j : Nat), ((l.out.take j).map (fireP nw) ++ l.out.drop j).map (·.m) = l.out.map (·.m) := fun nw j => by
    conv => rhs; rw [← List.take_append_drop j l.out]
    rw [List.map_append, List.map_append, List.map_map]
    congr 1
    exact List.map_congr_left fun x _ => fire_m nw x
  refine ⟨⟨h.pu.1, by have := h.pu.2; show l.pushed ≤ _; omega⟩, ⟨h.nx.1, by have := h.nx.2; show l.next + l.held.length ≤ _; omega⟩, ?_, ?_, h.win, h.dup⟩
  · have h1 : (l.out.map (·.m)).Pairwise (fun x y => x.seq < y.seq) := by rw [List.pairwise_map]; exact h.srt
    rw [← hm (max l.now now) (min l.out.length 32), List.pairwise_map] at h1
    exact h1
  · intro x hx
    have h1 : x.m ∈ l.out.map (·.m) := by rw [← hm (max l.now now) (min l.out.length 32)]; exact List.mem_map.2 ⟨x, hx, rfl⟩
    obtain ⟨y, hy, he⟩ := List.mem_map.1 h1
    rw [← he]; exact h.top y hy
theorem idxOf_some {L : List Msg} {n : Int} {j : Nat} (h : idxOf L n = some j) : ∃ hj : j < L.length, L[j].seq = n := by
  unfold idxOf at h
  rw [List.findIdx?_eq_some_iff_getElem] at h
  obtain ⟨hj, he, _⟩ := h
  exact ⟨hj, by simpa using he⟩
theorem idxOf_none {L : List Msg} {n : Int} (h : idxOf L n = none) : ∀ x ∈ L, x.seq ≠ n := by
  unfold idxOf at h
  rw [List.findIdx?_eq_none_iff] at h
  intro x hx
  simpa using h x hx
/-- Each that comes up goes; the others stay in the window. -/
theorem ready_good {i : Nat} (hi : i ≤ 1000) : ∀ (f : Nat) (acc L : List Msg) (n : Int), L.length < f → 1 ≤ n → n + L.length ≤ i + 2 → (∀ x ∈ L, n ≤ x.seq ∧ x.seq < n + 32) → L.Pairwise (fun x y => x.seq ≠ y.seq) →
    let r := readyG f acc L n; 1 ≤ r.2.2 ∧ r.2.2 + r.2.1.length ≤ i + 2 ∧ (∀ x ∈ r.2.1, r.2.2 ≤ x.seq ∧ x.seq < r.2.2 + 32) ∧ r.2.1.Pairwise (fun x y => x.seq ≠ y.seq)
  | 0, _, _, _, hf, _, _, _, _ => by omega
  | f + 1, acc, L, n, hf, h1, h2, h3, h4 => by
    intro r
    have hr : r = readyG (f + 1) acc L n := rfl
    unfold readyG at hr
    cases hx : idxOf L n with
    | none =>
      rw [hx] at hr
      simp only at hr
      rw [hr]
      exact ⟨h1, h2, h3, h4⟩
    | some j =>
      rw [hx] at hr
      simp only at hr
      obtain ⟨hj, he⟩ := idxOf_some hx
      have hlen : (L.eraseIdx j).length = L.length - 1 := List.length_eraseIdx_of_lt hj
      have hnw : (n + 1) % 4294967296 = n + 1 := Int.emod_eq_of_lt (by omega) (by omega)
      rw [hnw] at hr
      rw [hr]
      refine ready_good hi f _ _ _ (by omega) (by omega) (by omega) (fun x hxm => ?_) (h4.sublist (List.eraseIdx_sublist _ _))
      have hxL := List.mem_of_mem_eraseIdx hxm
      have := h3 x hxL
      have hne : x.seq ≠ n := by
        obtain ⟨q, hq, hxq⟩ := List.mem_eraseIdx_iff_getElem.1 hxm
        rw [← hxq.2, ← he]
        have hpw := List.pairwise_iff_getElem.1 h4
        rcases Nat.lt_or_gt_of_ne hxq.1 with hlt | hlt
        · exact hpw q j _ _ hlt
        · exact fun e => hpw j q _ _ hlt e.symm
      omega
theorem Good.get {l l' : Lk} {m : Msg} {o a : List Msg} {e : Int} {i : Nat} (hi : i ≤ 1000) (h : Good l i) (hg : getP l m = (l', o, a, e)) : Good l' (i + 1) := by
  have up : Good l (i + 1) := ⟨⟨h.pu.1, by have := h.pu.2; omega⟩, ⟨h.nx.1, by have := h.nx.2; omega⟩, h.srt, h.top, h.win, h.dup⟩
  unfold getP at hg
  split at hg
  · cases hg; exact up
  split at hg
  · cases hg; exact up
  split at hg
  · split at hg
    · cases hg; exact up
    · cases hg
      refine ⟨up.pu, up.nx, h.srt.filter _, fun x hx => h.top x (List.mem_filter.1 hx).1, h.win, h.dup⟩
  split at hg
  · cases hg; exact up
  split at hg
  · cases hg; exact up
  split at hg
  · cases hg; exact up
  · rename_i h5 h6
    have hold : idxOf l.held m.seq = none := by
      cases hx : idxOf l.held m.seq with
      | none => rfl
      | some j => exact absurd (.inr (by rw [hx]; rfl)) h5
    have hlo : l.next ≤ m.seq := by
      rcases Int.lt_or_le m.seq l.next with hh | hh
      · exact absurd (.inl hh) h5
      · exact hh
    have hhi : m.seq < l.next + 32 := by omega
    have hr := ready_good hi (l.held.length + 2) [] (l.held ++ [m]) l.next (by rw [List.length_append, List.length_singleton]; omega) h.nx.1 (by have := h.nx.2; rw [List.length_append, List.length_singleton]; omega)
      (fun x hx => by
        rcases List.mem_append.1 hx with hx | hx
        · exact h.win x hx
        · rw [List.mem_singleton.1 hx]; exact ⟨hlo, hhi⟩)
      (List.pairwise_append.2 ⟨h.dup, List.pairwise_singleton _ _, fun x hx y hy => by rw [List.mem_singleton.1 hy]; exact idxOf_none hold x hx⟩)
    cases hg
    obtain ⟨r1, r2, r3, r4⟩ := hr
    exact ⟨up.pu, ⟨r1, Int.le_trans r2 (by omega)⟩, h.srt, h.top, r3, r4⟩
/-- At most 32 lie in the window. -/
theorem window {n : Int} : ∀ (k : Nat) (L : List Msg), (∀ x ∈ L, n ≤ x.seq ∧ x.seq < n + k) → L.Pairwise (fun x y => x.seq ≠ y.seq) → L.length ≤ k
  | 0, [], _, _ => Nat.le_refl _
  | 0, x :: L, h, _ => by have := h x (List.mem_cons.2 (.inl rfl)); omega
  | k + 1, L, h, hd => by
    cases hx : idxOf L (n + k) with
    | none =>
      have h0 := idxOf_none hx
      have := window k L (fun x hxm => ⟨(h x hxm).1, by have h1 := (h x hxm).2; have h2 := h0 x hxm; omega⟩) hd
      omega
    | some j =>
      obtain ⟨hj, he⟩ := idxOf_some hx
      have hlen : (L.eraseIdx j).length = L.length - 1 := List.length_eraseIdx_of_lt hj
      have := window k (L.eraseIdx j) (fun x hxm => by
        have hxL := List.mem_of_mem_eraseIdx hxm
        have h1 := h x hxL
        have hne : x.seq ≠ n + k := by
          obtain ⟨q, hq, hxq⟩ := List.mem_eraseIdx_iff_getElem.1 hxm
          rw [← hxq.2, ← he]
          have hpw := List.pairwise_iff_getElem.1 hd
          rcases Nat.lt_or_gt_of_ne hxq.1 with hlt | hlt
          · exact hpw q j _ _ hlt
          · exact fun e => hpw j q _ _ hlt e.symm
        exact ⟨h1.1, by omega⟩) (hd.sublist (List.eraseIdx_sublist _ _))
      omega
theorem Good.ahead {l : Lk} {i : Nat} (h : Good l i) : l.held.length ≤ 32 := window 32 l.held h.win h.dup
theorem Good.new {own peer view : Int} : Good (newL own peer view) 0 := ⟨⟨Int.le_refl _, Int.le_refl _⟩, ⟨Int.le_refl _, Int.le_refl _⟩, List.Pairwise.nil, fun x hx => absurd hx List.not_mem_nil, fun x hx => absurd hx List.not_mem_nil, List.Pairwise.nil⟩
end Go.Proofs.Ytpcdldakilkldaa
