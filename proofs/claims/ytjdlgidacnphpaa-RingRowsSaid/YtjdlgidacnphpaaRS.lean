/-
  A ring's end by how many parts it has sent and taken.
-/
import Derived.Test.YtjdlgidacnphpaaRMath
import Derived.Test.YtjdlgidacnphpaaRG
set_option linter.unusedVariables false
namespace Go.Proofs.Ytjdlgidacnphpaa
open Go Go.Wk

structure RM where
  r : Nat
  g : Nat
  ck : Nat
  lc : Nat
  kc : Nat
  la : Option Addr
  rest : List Value
  crest : List Value
def RM0 : RM := ⟨0, 0, 0, 0, 0, none, [], []⟩
def encR (m : RM) : List Value := [.pointer (some ⟨m.r, 0, none⟩)]
theorem encR_len (m : RM) : (encR m).length = 1 := rfl
theorem encR_one (m : RM) : (encR m).all Value.oneCell' = true := rfl

def St (own : Nat → Nat → Int) (len n p o g : Nat) (w : World) (m : RM) : Prop :=
  ∃ L, RingAt w m.r m.g m.ck p n L (min o g) (decide (g < o)) (decide (o < g)) m.la m.lc m.kc m.rest m.crest ∧ IsVal own len n p g L ∧ o ≤ g + 1 ∧ g ≤ o + 1 ∧ o ≤ 2 * n - 2 ∧ g ≤ 2 * n - 2

theorem St.keep {own : Nat → Nat → Int} {len n p o g : Nat} {w w' : World} {m : RM} {S : List Nat} (h : St own len n p o g w m) (hE : Ext S w w') (h1 : m.r ∉ S) (h2 : m.g ∉ S) (h3 : m.ck ∉ S) : St own len n p o g w' m := by
  obtain ⟨L, hR, r⟩ := h
  exact ⟨L, keepRingE hE hR h1 (.inr h2) h3, r⟩
theorem St.lt {own : Nat → Nat → Int} {len n p o g : Nat} {w : World} {m : RM} (h : St own len n p o g w m) : m.r < w.heap.size ∧ m.g < w.heap.size ∧ m.ck < w.heap.size := by
  obtain ⟨L, hR, _⟩ := h
  exact hR.rl

section
variable {own : Nat → Nat → Int} {len n p o g : Nat} {w : World} {m : RM} {K : Value → World → Prop}

theorem out_s (h : St own len n p o g w m) (hn : 2 ≤ n) (ho : o ≤ g) (hd : o ≤ 2 * n - 3)
    (hK : ∀ w' a' g' c' rest' W, Ext [m.r] w w' → St own len n p (o + 1) g w' m → OwO w' 33 2 a' g' c' encW W rest' → (W.length = 0 ∨ (w.heap.size ≤ g' ∧ g' < w'.heap.size)) →
      W.length + cFrom len n (sendsN p n o) = cTo len n (sendsN p n o) → (∀ j, j < W.length → W.getD j 0 = partC own n o (sendsN p n o) (cFrom len n (sendsN p n o) + j)) → (∀ i, InW (W.getD i 0)) → W.length ≤ 400 →
      K (.tuple #[.agg #[.int .i64 ((o : Nat) : Int), .int .i64 ((sendsN p n o : Nat) : Int), .slice a' W.length c'], .bool true]) w') :
    CallsV Try.prog 9 #[.pointer (some ⟨m.r, 0, none⟩)] w K := by
  obtain ⟨L, hR, hv, h1, h2, h3, h4⟩ := h
  have hmin : min o g = o := by omega
  have hfa : decide (g < o) = false := decide_eq_false (by omega)
  have hl := hv.1
  rw [hmin, hfa] at hR
  have hpn := hR.h3
  have hcn : sendsN p n o < n := sendsN_lt (by omega)
  have hcb := cBounds (len := len) hcn
  have hML : (M L p n o).length + cFrom len n (sendsN p n o) = cTo len n (sendsN p n o) := by
    unfold M
    rw [hl, List.length_take, List.length_drop]
    omega
  have h400 := hR.h4
  refine out_c hR hn (by omega) fun w' a' g' c' rest' e1 e2 e3 e4 e5 => ?_
  refine hK w' a' g' c' rest' (M L p n o) e1 ⟨L, ?_, hv, by omega, by omega, by omega, h4⟩ e3 e4 hML (fun j hj => ?_) (inW_M hR.hi _ _ _) (by omega)
  · by_cases hg : o < g
    · have q1 : decide (o < g) = true := decide_eq_true hg
      rw [q1] at e2
      have q2 : min (o + 1) g = o + 1 := by omega
      have q3 : decide (g < o + 1) = false := decide_eq_false (by omega)
      have q4 : decide (o + 1 < g) = false := decide_eq_false (by omega)
      rw [q2, q3, q4]
      exact e2
    · have q1 : decide (o < g) = false := decide_eq_false hg
      rw [q1] at e2
      have q2 : min (o + 1) g = o := by omega
      have q3 : decide (g < o + 1) = true := decide_eq_true (by omega)
      have q4 : decide (o + 1 < g) = false := decide_eq_false (by omega)
      rw [q2, q3, q4]
      exact e2
  · unfold M at hj ⊢
    rw [hl] at hj ⊢
    rw [List.length_take, List.length_drop] at hj
    rw [cut_getD (by omega)]
    exact hv.send hn hpn hd (by omega) j (by omega)

theorem get_s {pc wc pb offp : Nat} {wa : Option Addr} {W : List Int} (h : St own len n p o g w m) (hn : 2 ≤ n) (hg : g ≤ o) (hd : g ≤ 2 * n - 3) (hc : pc = sendsN ((p + n - 1) % n) n g)
    (hw : W.length + cFrom len n pc = cTo len n pc) (hs : SlE w 2 wa pb offp encW W) (hpg : W.length = 0 ∨ pb ≠ m.g) (hwi : ∀ i, InW (W.getD i 0))
    (hpart : ∀ j, j < W.length → W.getD j 0 = partC own n g pc (cFrom len n pc + j))
    (hK : ∀ w', Ext [m.r, m.g] w w' → St own len n p o (g + 1) w' m → K (.int .i64 0) w') :
    CallsV Try.prog 10 #[.pointer (some ⟨m.r, 0, none⟩), .agg #[.int .i64 ((g : Nat) : Int), .int .i64 ((pc : Nat) : Int), .slice wa W.length wc]] w K := by
  obtain ⟨L, hR, hv, h1, h2, h3, h4⟩ := h
  have hmin : min o g = g := by omega
  have hfa : decide (o < g) = false := decide_eq_false (by omega)
  have hl := hv.1
  rw [hmin, hfa] at hR
  have hpn := hR.h3
  subst hc
  refine get_c hR hn (by omega) rfl rfl (by rw [hl]; exact hw) hs hpg hwi rfl fun w' e1 e2 e3 => ?_
  rw [hl] at e2
  refine hK w' e1 ⟨_, ?_, hv.take hn hpn hd hw hpart, by omega, by omega, h3, by omega⟩
  by_cases hgo : g < o
  · have q1 : decide (g < o) = true := decide_eq_true hgo
    rw [q1] at e2
    have q2 : min o (g + 1) = g + 1 := by omega
    have q3 : decide (g + 1 < o) = false := decide_eq_false (by omega)
    have q4 : decide (o < g + 1) = false := decide_eq_false (by omega)
    rw [q2, q3, q4]
    exact e2
  · have q1 : decide (g < o) = false := decide_eq_false hgo
    rw [q1] at e2
    have q2 : min o (g + 1) = g := by omega
    have q3 : decide (g + 1 < o) = false := decide_eq_false (by omega)
    have q4 : decide (o < g + 1) = true := decide_eq_true (by omega)
    rw [q2, q3, q4]
    exact e2

theorem sum_s (h : St own len n p (2 * n - 2) (2 * n - 2) w m)
    (hK : ∀ w' a' g' c' rest' L, Ext [] w w' → OwO w' 33 2 a' g' c' encW L rest' → (L.length = 0 ∨ (w.heap.size ≤ g' ∧ g' < w'.heap.size)) → L.length ≤ 400 → IsVal own len n p (2 * n - 2) L → K (.tuple #[.slice a' L.length c', .bool true]) w') :
    CallsV Try.prog 11 #[.pointer (some ⟨m.r, 0, none⟩)] w K := by
  obtain ⟨L, hR, hv, h1, h2, h3, h4⟩ := h
  have hmin : min (2 * n - 2) (2 * n - 2) = 2 * n - 2 := by omega
  rw [hmin] at hR
  exact sum_yes hR rfl fun w' a' g' c' rest' e1 e2 e3 e4 => hK w' a' g' c' rest' L e1 e2 e3 hR.h4 hv

theorem done_s (h : St own len n p (2 * n - 2) (2 * n - 2) w m) (hK : ∀ w', SameMem w w' → K (.bool true) w') : CallsV Try.prog 13 #[.pointer (some ⟨m.r, 0, none⟩)] w K := by
  obtain ⟨L, hR, hv, h1, h2, h3, h4⟩ := h
  have hmin : min (2 * n - 2) (2 * n - 2) = 2 * n - 2 := by omega
  rw [hmin] at hR
  have hn := hR.h1
  have hn2 := hR.h2
  exact done_d hR.hr (by omega) (decide_eq_true (by omega)) hK

/-- Nothing is to be sent: it is sent, or all is over. -/
theorem outno_s (h : St own len n p o g w m) (ho : g < o ∨ (o = 2 * n - 2 ∧ g = 2 * n - 2))
    (hK : ∀ w', Ext [] w w' → K (.tuple #[.agg #[.int .i64 0, .int .i64 0, .slice none 0 0], .bool false]) w') : CallsV Try.prog 9 #[.pointer (some ⟨m.r, 0, none⟩)] w K := by
  obtain ⟨L, hR, hv, h1, h2, h3, h4⟩ := h
  rcases ho with ho | ⟨rfl, rfl⟩
  · rw [show decide (g < o) = true from decide_eq_true ho] at hR
    exact out_told hR fun w' e1 _ => hK w' e1
  · rw [show decide (2 * n - 2 < 2 * n - 2) = false from decide_eq_false (by omega)] at hR
    exact out_done hR (by omega) fun w' e1 _ => hK w' e1

/-- What was sent is taken already: not yet. -/
theorem getwait_s {pr pc wc : Nat} {wa : Option Addr} {W : List Int} (h : St own len n p o g w m) (hn : 2 ≤ n) (hp : min o g < pr) (hd : min o g ≤ 2 * n - 3)
    (hK : ∀ w', Ext [] w w' → K (.int .i64 10) w') :
    CallsV Try.prog 10 #[.pointer (some ⟨m.r, 0, none⟩), .agg #[.int .i64 ((pr : Nat) : Int), .int .i64 ((pc : Nat) : Int), .slice wa W.length wc]] w K := by
  obtain ⟨L, hR, hv, h1, h2, h3, h4⟩ := h
  exact get_wait hR (by omega) hn hp fun w' e1 _ => hK w' e1

theorem new_s {a : Option Addr} {b off c : Nat} {L : List Int} (hs : SlE w 2 a b off encW L) (h1 : L.length ≤ 400) (h2 : 1 ≤ n) (h3 : n ≤ 16) (h4 : p < n) (hi : ∀ i, InW (L.getD i 0)) (ho : ∀ i, i < L.length → L.getD i 0 = own p i) (hl : L.length = len)
    (hK : ∀ w' m, Ext [] w w' → St own len n p 0 0 w' m → w.heap.size ≤ m.r → w.heap.size ≤ m.g → w.heap.size ≤ m.ck → K (.tuple #[.pointer (some ⟨m.r, 0, none⟩), .int .i64 0]) w') :
    CallsV Try.prog 7 #[.int .i64 ((p : Nat) : Int), .int .i64 ((n : Nat) : Int), .slice a L.length c] w K := by
  subst hl
  exact new_ok hs h1 h2 h3 h4 hi fun w' r g ck la lc kc rest crest e1 hR e2 e3 e4 e5 =>
    hK w' ⟨r, g, ck, lc, kc, la, rest, crest⟩ e1 ⟨L, hR, IsVal.init h2 h4 ho, by omega, by omega, by omega, by omega⟩ e2 e4 e5
end
end Go.Proofs.Ytjdlgidacnphpaa
