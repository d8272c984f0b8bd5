/-
  Memory by classes: each block has a class; what may be written is told by classes.
-/
import Derived.Test.YtpcdldakilkldaaK18
namespace Go.Wk
open Go

structure GX (C : List Nat) (w : World) (γ : Nat → Nat) (w' : World) (γ' : Nat → Nat) : Prop where
  os : w'.os = w.os
  tape : w'.tape = w.tape
  output : w'.output = w.output
  size : w.heap.size ≤ w'.heap.size
  cls : ∀ b, b < w.heap.size → γ b ∉ C → γ' b = γ b
  block : ∀ b, b < w.heap.size → γ b ∉ C → w'.heap[b]? = w.heap[b]?
  fz : ∀ a, w'.frozen? a = w.frozen? a

section
variable {C D : List Nat} {w w1 w2 : World} {γ γ1 γ2 : Nat → Nat} {x c N : Nat}

theorem GX.refl (C : List Nat) (w : World) (γ : Nat → Nat) : GX C w γ w γ := ⟨rfl, rfl, rfl, Nat.le_refl _, fun _ _ _ => rfl, fun _ _ _ => rfl, fun _ => rfl⟩
theorem GX.trans (h : GX C w γ w1 γ1) (k : GX D w1 γ1 w2 γ2) (hD : ∀ c ∈ D, c ∈ C) : GX C w γ w2 γ2 :=
  ⟨k.os.trans h.os, k.tape.trans h.tape, k.output.trans h.output, Nat.le_trans h.size k.size, fun b hb hc => (k.cls b (Nat.lt_of_lt_of_le hb h.size) (fun hd => hc (hD _ (h.cls b hb hc ▸ hd)))).trans (h.cls b hb hc),
    fun b hb hc => (k.block b (Nat.lt_of_lt_of_le hb h.size) (fun hd => hc (hD _ (h.cls b hb hc ▸ hd)))).trans (h.block b hb hc), fun a => (k.fz a).trans (h.fz a)⟩
theorem GX.same (C : List Nat) (γ : Nat → Nat) (h : SameMem w w1) : GX C w γ w1 γ :=
  ⟨h.os, h.tape, h.output, by rw [h.heap]; exact Nat.le_refl _, fun _ _ _ => rfl, fun _ _ _ => by rw [h.heap], (h.ext []).fz⟩
theorem GX.ext0 (C : List Nat) (h : Ext [] w w1) (hγ : ∀ b, b < w.heap.size → γ1 b = γ b) : GX C w γ w1 γ1 :=
  ⟨h.os, h.tape, h.output, h.size, fun b hb _ => hγ b hb, fun b hb _ => h.block b hb List.not_mem_nil, h.fz⟩
theorem GX.ext1 (h : Ext [x] w w1) (hx : γ x = c) (hγ : ∀ b, b < w.heap.size → γ1 b = γ b) : GX [c] w γ w1 γ1 :=
  ⟨h.os, h.tape, h.output, h.size, fun b hb _ => hγ b hb, fun b hb hc => h.block b hb (fun hm => hc (by rw [List.mem_singleton] at hm; subst hm; rw [hx]; exact List.mem_singleton.2 rfl)), h.fz⟩
theorem GX.extS {S : List Nat} (h : Ext S w w1) (hx : ∀ y ∈ S, y < w.heap.size → γ y ∈ C) (hγ : ∀ b, b < w.heap.size → γ1 b = γ b) : GX C w γ w1 γ1 :=
  ⟨h.os, h.tape, h.output, h.size, fun b hb _ => hγ b hb, fun b hb hc => h.block b hb (fun hm => hc (hx b hm hb)), h.fz⟩
theorem GX.then_same (h : GX C w γ w1 γ1) (k : SameMem w1 w2) : GX C w γ w2 γ1 := h.trans (GX.same C γ1 k) (fun _ hc => hc)
theorem GX.then0 (h : GX C w γ w1 γ1) (k : Ext [] w1 w2) (hγ : ∀ b, b < w1.heap.size → γ2 b = γ1 b) : GX C w γ w2 γ2 := h.trans (GX.ext0 C k hγ) (fun _ hc => hc)
/-- A write to a block that is newer than the beginning. -/
theorem GX.thenNew {S : List Nat} (h : GX C w γ w1 γ1) (k : Ext S w1 w2) (hx : ∀ y ∈ S, w.heap.size ≤ y) (hγ : ∀ b, b < w1.heap.size → γ2 b = γ1 b) : GX C w γ w2 γ2 :=
  ⟨k.os.trans h.os, k.tape.trans h.tape, k.output.trans h.output, Nat.le_trans h.size k.size, fun b hb hc => (hγ b (Nat.lt_of_lt_of_le hb h.size)).trans (h.cls b hb hc),
    fun b hb hc => (k.block b (Nat.lt_of_lt_of_le hb h.size) (fun hm => by have := hx b hm; omega)).trans (h.block b hb hc), fun a => (k.fz a).trans (h.fz a)⟩
theorem GX.thenCls {S : List Nat} (h : GX C w γ w1 γ1) (k : Ext S w1 w2) (hx : ∀ y ∈ S, γ1 y ∈ C) (hγ : ∀ b, b < w1.heap.size → γ2 b = γ1 b) : GX C w γ w2 γ2 :=
  h.trans (GX.extS k (fun y hy _ => hx y hy) hγ) (fun _ hc => hc)
theorem GX.mono (h : GX C w γ w1 γ1) (hC : ∀ c ∈ C, c ∈ D) : GX D w γ w1 γ1 := ⟨h.os, h.tape, h.output, h.size, fun b hb hd => h.cls b hb (fun hc => hd (hC _ hc)), fun b hb hd => h.block b hb (fun hc => hd (hC _ hc)), h.fz⟩
theorem GX.ext (h : GX C w γ w1 γ1) (hC : ∀ b, b < w.heap.size → γ b ∉ C) : Ext [] w w1 := ⟨⟨h.os, h.tape, h.output, h.size, fun b hb _ => h.block b hb (hC b hb)⟩, h.fz⟩
theorem GX.grown (h : GX [] w γ w1 γ1) : Grown w w1 := (h.ext (fun _ _ => List.not_mem_nil)).grown
theorem GX.thenRe (h : GX C w γ w1 γ1) (hγ : ∀ b, b < w.heap.size → γ2 b = γ1 b) : GX C w γ w1 γ2 := ⟨h.os, h.tape, h.output, h.size, fun b hb hc => (hγ b hb).trans (h.cls b hb hc), h.block, h.fz⟩
/-- New blocks of class c become of class d. -/
theorem recls (γ : Nat → Nat) (N c d : Nat) : ∃ γ' : Nat → Nat, (∀ b, b < N → γ' b = γ b) ∧ (∀ b, γ b ≠ c → γ' b = γ b) ∧ ∀ b, N ≤ b → γ b = c → γ' b = d :=
  ⟨fun b => if N ≤ b ∧ γ b = c then d else γ b, fun b hb => if_neg (by omega), fun b hb => if_neg (fun h => hb h.2), fun b hb hc => if_pos ⟨hb, hc⟩⟩
theorem GX.re (w : World) (h : ∀ b, γ b ≠ c → γ1 b = γ b) : GX [c] w γ w γ1 := ⟨rfl, rfl, rfl, Nat.le_refl _, fun b _ hc => h b (fun e => hc (by rw [e]; exact List.mem_singleton.2 rfl)), fun _ _ _ => rfl, fun _ => rfl⟩

/-- New blocks get a class. -/
theorem cls_new (γ : Nat → Nat) (N c : Nat) : ∃ γ' : Nat → Nat, (∀ b, b < N → γ' b = γ b) ∧ ∀ b, N ≤ b → γ' b = c :=
  ⟨fun b => if b < N then γ b else c, fun b hb => if_pos hb, fun b hb => if_neg (by omega)⟩

/-! ### Facts -/
/-- Block b, of class c, is o. -/
def Bk (γ : Nat → Nat) (w : World) (b c : Nat) (o : Obj) : Prop := w.heap[b]? = some o ∧ γ b = c
theorem Bk.lt {b : Nat} {o : Obj} (h : Bk γ w b c o) : b < w.heap.size := lt_of_block h.1
theorem Bk.keep {b : Nat} {o : Obj} (h : Bk γ w b c o) (g : GX C w γ w1 γ1) (hc : c ∉ C) : Bk γ1 w1 b c o :=
  ⟨(g.block b h.lt (by rw [h.2]; exact hc)).trans h.1, (g.cls b h.lt (by rw [h.2]; exact hc)).trans h.2⟩

section
variable {α : Type} {enc : α → List Value} {sz b off g cap e : Nat} {a : Option Addr} {L : List α} {rest : List Value}
def SlG (γ : Nat → Nat) (w : World) (c sz : Nat) (a : Option Addr) (b off : Nat) (enc : α → List Value) (L : List α) : Prop := SlE w sz a b off enc L ∧ (L.length = 0 ∨ (b < w.heap.size ∧ γ b = c))
theorem Sl.keepB {n : Nat} {xs : List Value} (h : Sl w sz a n b off xs) (hb : w1.heap[b]? = w.heap[b]?) : Sl w1 sz a n b off xs :=
  ⟨h.addr, h.len, fun j hj => by have := h.cell j hj; rw [← this]; simp only [World.cell?, hb]⟩
theorem SlG.keep (h : SlG γ w c sz a b off enc L) (g : GX C w γ w1 γ1) (hc : c ∉ C) : SlG γ1 w1 c sz a b off enc L := by
  obtain ⟨h1, h2⟩ := h
  rcases h2 with h2 | ⟨h2, h3⟩
  · have : L = [] := List.eq_nil_of_length_eq_zero h2
    subst this
    exact ⟨Sl.nil _ _ _ _ _, .inl rfl⟩
  · exact ⟨h1.keepB (g.block b h2 (by rw [h3]; exact hc)), .inr ⟨Nat.lt_of_lt_of_le h2 g.size, (g.cls b h2 (by rw [h3]; exact hc)).trans h3⟩⟩
theorem SlG.nil (γ : Nat → Nat) (w : World) (c sz : Nat) (a : Option Addr) (b off : Nat) (enc : α → List Value) : SlG γ w c sz a b off enc [] := ⟨Sl.nil _ _ _ _ _, .inl rfl⟩

def OwnG (γ : Nat → Nat) (w : World) (c e sz g cap : Nat) (enc : α → List Value) (L : List α) (rest : List Value) : Prop := OwnE w e sz g cap enc L rest ∧ γ g = c
theorem Own.keepB {n : Nat} {xs : List Value} (h : Own w e sz g n cap xs rest) (hb : w1.heap[g]? = w.heap[g]?) : Own w1 e sz g n cap xs rest := { h with block := hb.trans h.block }
theorem OwnG.lt (h : OwnG γ w c e sz g cap enc L rest) : g < w.heap.size := Own.lt h.1
theorem OwnG.keep (h : OwnG γ w c e sz g cap enc L rest) (k : GX C w γ w1 γ1) (hc : c ∉ C) : OwnG γ1 w1 c e sz g cap enc L rest :=
  ⟨Own.keepB h.1 (k.block g h.lt (by rw [h.2]; exact hc)), (k.cls g h.lt (by rw [h.2]; exact hc)).trans h.2⟩
theorem OwnG.slg (h : OwnG γ w c e sz g cap enc L rest) : SlG γ w c sz (some ⟨g, 0, none⟩) g 0 enc L := ⟨Own.sl h.1, .inr ⟨h.lt, h.2⟩⟩

def OwOG (γ : Nat → Nat) (w : World) (c e sz : Nat) (a : Option Addr) (g cap : Nat) (enc : α → List Value) (L : List α) (rest : List Value) : Prop :=
  OwO w e sz a g cap enc L rest ∧ (L.length = 0 ∨ γ g = c)
theorem OwOG.keep (h : OwOG γ w c e sz a g cap enc L rest) (k : GX C w γ w1 γ1) (hc : c ∉ C) : OwOG γ1 w1 c e sz a g cap enc L rest := by
  obtain ⟨h1, h2⟩ := h
  by_cases hl : L.length = 0
  · have : L = [] := List.eq_nil_of_length_eq_zero hl
    subst this
    exact ⟨⟨fun h => absurd h (by simp), h1.le⟩, .inl rfl⟩
  · have hg := h2.resolve_left hl
    obtain ⟨ha, ho⟩ := h1.own (by omega)
    have hlt : g < w.heap.size := Own.lt ho
    have hk := Own.keepB ho (w1 := w1) (k.block g hlt (by rw [hg]; exact hc))
    exact ⟨⟨fun _ => ⟨ha, hk⟩, h1.le⟩, .inr ((k.cls g hlt (by rw [hg]; exact hc)).trans hg)⟩
theorem OwOG.slg (h : OwOG γ w c e sz a g cap enc L rest) : SlG γ w c sz a g 0 enc L := by
  obtain ⟨h1, h2⟩ := h
  refine ⟨h1.sl, ?_⟩
  by_cases hl : L.length = 0
  · exact .inl hl
  · exact .inr ⟨Own.lt (h1.own (by omega)).2, h2.resolve_left hl⟩

def OwNG (γ : Nat → Nat) (w : World) (c e sz : Nat) (a : Option Addr) (g cap : Nat) (enc : α → List Value) (L : List α) (rest : List Value) : Prop :=
  OwN w e sz a g cap enc L rest ∧ (a = none ∨ γ g = c)
theorem OwNG.nil (γ : Nat → Nat) (w : World) (c e sz g : Nat) (enc : α → List Value) (rest : List Value) : OwNG γ w c e sz none g 0 enc [] rest := ⟨OwN.nil _ _ _ _ _ _, .inl rfl⟩
theorem OwNG.of (h : OwnG γ w c e sz g cap enc L rest) : OwNG γ w c e sz (some ⟨g, 0, none⟩) g cap enc L rest := ⟨.inr ⟨rfl, h.1⟩, .inr h.2⟩
theorem OwNG.keep (h : OwNG γ w c e sz a g cap enc L rest) (k : GX C w γ w1 γ1) (hc : c ∉ C) : OwNG γ1 w1 c e sz a g cap enc L rest := by
  obtain ⟨h1 | ⟨h1, h3⟩, h2⟩ := h
  · exact ⟨.inl h1, .inl h1.1⟩
  · have hg := h2.resolve_left (by rw [h1]; simp)
    have hlt : g < w.heap.size := Own.lt h3
    exact ⟨.inr ⟨h1, Own.keepB h3 (k.block g hlt (by rw [hg]; exact hc))⟩, .inr ((k.cls g hlt (by rw [hg]; exact hc)).trans hg)⟩
theorem OwNG.slg (h : OwNG γ w c e sz a g cap enc L rest) : SlG γ w c sz a g 0 enc L := by
  obtain ⟨h1 | ⟨h1, h3⟩, h2⟩ := h
  · obtain ⟨_, _, rfl⟩ := h1
    exact SlG.nil _ _ _ _ _ _ _ _
  · subst h1
    exact (OwnG.slg ⟨h3, h2.resolve_left (by simp)⟩)
end
end
end Go.Wk
