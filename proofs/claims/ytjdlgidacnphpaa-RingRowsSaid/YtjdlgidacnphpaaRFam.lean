/-
  Many rings' ends in one memory, and the parts on their way.
-/
import Derived.Test.YtjdlgidacnphpaaRS
import Derived.Test.YtjdlgidacnphpaaK17
set_option linter.unusedVariables false
namespace Go.Proofs.Ytjdlgidacnphpaa
open Go Go.Wk

/-- A block that is no ring's. -/
def Apart (ms : List RM) (y : Nat) : Prop := ∀ i, i < ms.length → y ≠ (ms.getD i RM0).r ∧ y ≠ (ms.getD i RM0).g ∧ y ≠ (ms.getD i RM0).ck

def setAt (f : Nat → Nat) (i v : Nat) : Nat → Nat := fun k => if k = i then v else f k
theorem setAt_same (f : Nat → Nat) (i v : Nat) : setAt f i v i = v := if_pos rfl
theorem setAt_other {f : Nat → Nat} {i v k : Nat} (h : k ≠ i) : setAt f i v k = f k := if_neg h

structure Rings (own : Nat → Nat → Int) (len n : Nat) (w : World) (B : Nat) (ms : List RM) (o g : Nat → Nat) : Prop where
  st : ∀ i, i < ms.length → St own len n i (o i) (g i) w (ms.getD i RM0)
  lo : ∀ i, i < ms.length → B ≤ (ms.getD i RM0).r ∧ B ≤ (ms.getD i RM0).g ∧ B ≤ (ms.getD i RM0).ck
  dj : ∀ i j, i < ms.length → j < ms.length → i ≠ j → (ms.getD i RM0).r ≠ (ms.getD j RM0).r ∧ (ms.getD i RM0).r ≠ (ms.getD j RM0).g ∧ (ms.getD i RM0).r ≠ (ms.getD j RM0).ck ∧ (ms.getD i RM0).g ≠ (ms.getD j RM0).r ∧ (ms.getD i RM0).g ≠ (ms.getD j RM0).g ∧ (ms.getD i RM0).g ≠ (ms.getD j RM0).ck

section
variable {own : Nat → Nat → Int} {len n B : Nat} {w w' : World} {ms : List RM} {o g : Nat → Nat}

theorem Rings.nil : Rings own len n w B [] o g := ⟨fun i h => absurd h (Nat.not_lt_zero _), fun i h => absurd h (Nat.not_lt_zero _), fun i j h => absurd h (Nat.not_lt_zero _)⟩
theorem Rings.keep (h : Rings own len n w B ms o g) {S : List Nat} (hE : Ext S w w') (hS : ∀ x, x ∈ S → Apart ms x) : Rings own len n w' B ms o g :=
  ⟨fun i hi => (h.st i hi).keep hE (fun hm => (hS _ hm i hi).1 rfl) (fun hm => (hS _ hm i hi).2.1 rfl) (fun hm => (hS _ hm i hi).2.2 rfl), h.lo, h.dj⟩
theorem Rings.lt (h : Rings own len n w B ms o g) (i : Nat) (hi : i < ms.length) : (ms.getD i RM0).r < w.heap.size ∧ (ms.getD i RM0).g < w.heap.size ∧ (ms.getD i RM0).ck < w.heap.size := (h.st i hi).lt
theorem Rings.apart_new (h : Rings own len n w B ms o g) {y : Nat} (hy : w.heap.size ≤ y) : Apart ms y := fun i hi => by
  have := h.lt i hi
  omega
theorem Rings.apart_old (h : Rings own len n w B ms o g) {y : Nat} (hy : y < B) : Apart ms y := fun i hi => by
  have := h.lo i hi
  omega
theorem Rings.step (h : Rings own len n w B ms o g) {i o' g' : Nat} (hi : i < ms.length) {S : List Nat} (hE : Ext S w w') (hS : ∀ x, x ∈ S → x = (ms.getD i RM0).r ∨ x = (ms.getD i RM0).g)
    (hs : St own len n i o' g' w' (ms.getD i RM0)) : Rings own len n w' B ms (setAt o i o') (setAt g i g') :=
  ⟨fun j hj => by
    by_cases hji : j = i
    · subst hji
      rw [setAt_same, setAt_same]
      exact hs
    · rw [setAt_other hji, setAt_other hji]
      have hd := h.dj i j hi hj (Ne.symm hji)
      refine (h.st j hj).keep hE (fun hm => ?_) (fun hm => ?_) (fun hm => ?_) <;> rcases hS _ hm with e | e <;> rw [e] at hd <;> omega, h.lo, h.dj⟩
theorem Rings.congr (h : Rings own len n w B ms o g) {o' g' : Nat → Nat} (he : ∀ i, i < ms.length → o i = o' i ∧ g i = g' i) : Rings own len n w B ms o' g' :=
  ⟨fun i hi => by rw [← (he i hi).1, ← (he i hi).2]; exact h.st i hi, h.lo, h.dj⟩
theorem getD_append_left' {L M : List RM} {i : Nat} (h : i < L.length) : (L ++ M).getD i RM0 = L.getD i RM0 := by simp [List.getD, List.getElem?_append, h]
theorem getD_append_at {L : List RM} {m : RM} : (L ++ [m]).getD L.length RM0 = m := by simp [List.getD]
theorem Rings.add (h : Rings own len n w B ms o g) (hE : Ext [] w w') {m : RM} (hB : B ≤ w.heap.size) (h1 : w.heap.size ≤ m.r) (h2 : w.heap.size ≤ m.g) (h3 : w.heap.size ≤ m.ck) (hs : St own len n ms.length (o ms.length) (g ms.length) w' m) :
    Rings own len n w' B (ms ++ [m]) o g := by
  have hk := h.keep hE (fun x hx => absurd hx List.not_mem_nil)
  refine ⟨fun i hi => ?_, fun i hi => ?_, fun i j hi hj hij => ?_⟩
  · rw [List.length_append, List.length_singleton] at hi
    by_cases hl : i < ms.length
    · rw [getD_append_left' hl]; exact hk.st i hl
    · have : i = ms.length := by omega
      subst this
      rw [getD_append_at]; exact hs
  · rw [List.length_append, List.length_singleton] at hi
    by_cases hl : i < ms.length
    · rw [getD_append_left' hl]; exact h.lo i hl
    · have : i = ms.length := by omega
      subst this
      rw [getD_append_at]; omega
  · rw [List.length_append, List.length_singleton] at hi hj
    by_cases hl : i < ms.length <;> by_cases hl' : j < ms.length
    · rw [getD_append_left' hl, getD_append_left' hl']; exact h.dj i j hl hl' hij
    · have : j = ms.length := by omega
      subst this
      rw [getD_append_left' hl, getD_append_at]
      have := h.lt i hl
      omega
    · have : i = ms.length := by omega
      subst this
      rw [getD_append_left' hl', getD_append_at]
      have := h.lt j hl'
      omega
    · omega
theorem Apart.add {m : RM} {y : Nat} (h : Apart ms y) (hy : y ≠ m.r ∧ y ≠ m.g ∧ y ≠ m.ck) : Apart (ms ++ [m]) y := fun i hi => by
  rw [List.length_append, List.length_singleton] at hi
  by_cases hl : i < ms.length
  · rw [getD_append_left' hl]; exact h i hl
  · have : i = ms.length := by omega
    subst this
    rw [getD_append_at]; exact hy
end

/-! ### Parts on their way -/
structure PM where
  k : Nat
  c : Nat
  a : Option Addr
  b : Nat
  cap : Nat
  W : List Int
def PM0 : PM := ⟨0, 0, none, 0, 0, []⟩
def encPM (m : PM) : List Value := [.int .i64 (m.k : Int), .int .i64 (m.c : Int), .slice m.a m.W.length m.cap]
theorem encPM_len (m : PM) : (encPM m).length = 3 := rfl
theorem encPM_one (m : PM) : (encPM m).all Value.oneCell' = true := rfl

/-- A part that place p sent in round k. -/
structure PartOk (own : Nat → Nat → Int) (len n p k : Nat) (ms : List RM) (w : World) (m : PM) : Prop where
  hk : m.k = k
  hc : m.c = sendsN p n k
  hs : SlE w 2 m.a m.b 0 encW m.W
  ap : m.W.length = 0 ∨ (Apart ms m.b ∧ m.b < w.heap.size)
  hw : m.W.length + cFrom len n m.c = cTo len n m.c
  hp : ∀ j, j < m.W.length → m.W.getD j 0 = partC own n k m.c (cFrom len n m.c + j)
  hi : ∀ i, InW (m.W.getD i 0)

theorem PartOk.of {own : Nat → Nat → Int} {len n p t : Nat} {ms : List RM} {w : World} {a : Option Addr} {b cap : Nat} {W : List Int} (hs : SlE w 2 a b 0 encW W) (hb : W.length = 0 ∨ (Apart ms b ∧ b < w.heap.size))
    (hw : W.length + cFrom len n (sendsN p n t) = cTo len n (sendsN p n t)) (hp : ∀ j, j < W.length → W.getD j 0 = partC own n t (sendsN p n t) (cFrom len n (sendsN p n t) + j)) (hi : ∀ i, InW (W.getD i 0)) :
    PartOk own len n p t ms w ⟨t, sendsN p n t, a, b, cap, W⟩ := ⟨rfl, rfl, hs, hb, hw, hp, hi⟩
/-- A part that is all right is taken. -/
theorem get_p {own : Nat → Nat → Int} {len n p o g : Nat} {w : World} {m : RM} {K : Value → World → Prop} {ms : List RM} {pm : PM} (h : St own len n p o g w m) (hn : 2 ≤ n) (hg : g ≤ o) (hd : g ≤ 2 * n - 3) {q : Nat} (hq : (p + n - 1) % n = q) (hp : PartOk own len n q g ms w pm)
    (hpg : pm.W.length = 0 ∨ pm.b ≠ m.g) (hK : ∀ w', Ext [m.r, m.g] w w' → St own len n p o (g + 1) w' m → K (.int .i64 0) w') :
    CallsV Try.prog 10 #[.pointer (some ⟨m.r, 0, none⟩), .agg #[.int .i64 ((pm.k : Nat) : Int), .int .i64 ((pm.c : Nat) : Int), .slice pm.a pm.W.length pm.cap]] w K := by
  rw [hp.hk]
  exact get_s h hn hg hd (by rw [hq]; exact hp.hc) hp.hw hp.hs hpg hp.hi hp.hp hK
theorem PartOk.keep {own : Nat → Nat → Int} {len n p k : Nat} {ms : List RM} {w w' : World} {m : PM} (h : PartOk own len n p k ms w m) {S : List Nat} (hE : Ext S w w') (hS : m.W.length = 0 ∨ m.b ∉ S) : PartOk own len n p k ms w' m := by
  refine ⟨h.hk, h.hc, ?_, h.ap.imp id fun q => ⟨q.1, Nat.lt_of_lt_of_le q.2 hE.size⟩, h.hw, h.hp, h.hi⟩
  rcases hS with hS | hS
  · have : m.W = [] := List.eq_nil_of_length_eq_zero hS
    have hh := h.hs
    rw [this] at hh ⊢
    exact Sl.nil _ _ _ _ _
  · exact hE.keepSl h.hs hS

theorem getD_left {α : Type} {L M : List α} {d : α} {i : Nat} (h : i < L.length) : (L ++ M).getD i d = L.getD i d := by simp [List.getD, List.getElem?_append, h]
theorem getD_at {α : Type} {L : List α} {m d : α} : (L ++ [m]).getD L.length d = m := by simp [List.getD]

/-- The parts of one round, place by place; gp: the block that lists them. -/
def Parts (own : Nat → Nat → Int) (len n t : Nat) (ms : List RM) (w : World) (ps : List PM) (pa : Option Addr) (gp : Nat) : Prop :=
  ∀ j, j < ps.length → PartOk own len n j t ms w (ps.getD j PM0) ∧ ((ps.getD j PM0).W.length = 0 ∨ pa = none ∨ (ps.getD j PM0).b ≠ gp)

section
variable {own : Nat → Nat → Int} {len n t : Nat} {ms : List RM} {w w' : World} {ps : List PM} {pa : Option Addr} {gp : Nat}
theorem Parts.nil {pa : Option Addr} : Parts own len n t ms w [] pa gp := fun j hj => absurd hj (Nat.not_lt_zero _)
theorem Parts.keep (h : Parts own len n t ms w ps pa gp) {S : List Nat} (hE : Ext S w w') (hS : ∀ b, b < w.heap.size → Apart ms b → (pa = none ∨ b ≠ gp) → b ∉ S) : Parts own len n t ms w' ps pa gp := fun j hj => by
  obtain ⟨h1, h2⟩ := h j hj
  refine ⟨h1.keep hE ?_, h2⟩
  rcases h1.ap with h3 | h3
  · exact .inl h3
  · rcases h2 with h2 | h2
    · exact .inl h2
    · exact .inr (hS _ h3.2 h3.1 h2)
theorem Parts.add (h : Parts own len n t ms w ps pa gp) {m : PM} {gp' : Nat} {pa' : Option Addr} (hm : PartOk own len n ps.length t ms w' m) {S : List Nat} (hE : Ext S w w') (hS : ∀ b, b < w.heap.size → Apart ms b → (pa = none ∨ b ≠ gp) → b ∉ S)
    (hg : ∀ b, b < w.heap.size → (pa = none ∨ b ≠ gp) → b ≠ gp') (hmg : m.W.length = 0 ∨ m.b ≠ gp') : Parts own len n t ms w' (ps ++ [m]) pa' gp' := fun j hj => by
  rw [List.length_append, List.length_singleton] at hj
  by_cases hl : j < ps.length
  · rw [getD_left hl]
    obtain ⟨h1, h2⟩ := h j hl
    obtain ⟨h3, _⟩ := h.keep hE hS j hl
    refine ⟨h3, ?_⟩
    rcases h1.ap with h4 | h4
    · exact .inl h4
    · rcases h2 with h2 | h2
      · exact .inl h2
      · exact .inr (.inr (hg _ h4.2 h2))
  · have : j = ps.length := by omega
    subst this
    rw [getD_at]
    exact ⟨hm, hmg.imp id .inr⟩
end
end Go.Proofs.Ytjdlgidacnphpaa
