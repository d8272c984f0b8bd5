/-
  Memory by classes: append, cuts.
-/
import Derived.Test.YtpcdldakilkldaaK20
namespace Go.Wk
open Go
theorem if_max (a b : Int) : (if b > a then b else a) = max a b := by omega
theorem if_min (a b : Int) : (if b < a then b else a) = min a b := by omega
section
variable {C : List Nat} {w w1 : World} {γ γ1 : Nat → Nat} {c N : Nat}
variable {α : Type} {enc : α → List Value} {sz b off g cap e : Nat} {a : Option Addr} {L : List α} {rest : List Value}
theorem OwNG.gx (h : OwNG γ w c e sz a g cap enc L rest) (hE : Ext (ownL a) w w1) (hγ : ∀ b, b < w.heap.size → γ1 b = γ b) : GX [c] w γ w1 γ1 := by
  refine GX.extS hE (fun y hy _ => ?_) hγ
  obtain ⟨h1 | ⟨h1, h3⟩, h2⟩ := h
  · rw [h1.1] at hy; exact absurd hy List.not_mem_nil
  · have hg := h2.resolve_left (by rw [h1]; simp)
    have : y = g := by simpa [ownL, h1] using hy
    rw [this, hg]; exact List.mem_singleton.2 rfl
theorem OwNG.appc (h : OwNG γ w c e sz a g cap enc L rest) {bb : Nat} (hb : a = none ∧ bb = w.heap.size ∨ a ≠ none ∧ (bb = g ∨ bb = w.heap.size)) (hγ : ∀ b, b < w.heap.size → γ1 b = γ b) (hn : ∀ b, w.heap.size ≤ b → γ1 b = c) : γ1 bb = c := by
  obtain ⟨h1 | ⟨h1, h3⟩, h2⟩ := h
  · rcases hb with ⟨_, rfl⟩ | ⟨hb, _⟩
    · exact hn _ (Nat.le_refl _)
    · exact absurd h1.1 hb
  · have hg := h2.resolve_left (by rw [h1]; simp)
    rcases hb with ⟨hb, _⟩ | ⟨_, rfl | rfl⟩
    · rw [h1] at hb; cases hb
    · rw [hγ _ (Own.lt h3), hg]
    · exact hn _ (Nat.le_refl _)
theorem OwNG.newS (h : OwNG γ w c e sz a g cap enc L rest) (hN : a = none ∨ N ≤ g) : ∀ y ∈ ownL a, N ≤ y := by
  intro y hy
  obtain ⟨h1 | ⟨h1, h3⟩, h2⟩ := h
  · rw [h1.1] at hy; exact absurd hy List.not_mem_nil
  · have : y = g := by simpa [ownL, h1] using hy
    have := hN.resolve_left (by rw [h1]; simp)
    omega
section
variable {P : Program} {ops : Array Oper} {C : World → Prop} {Q : Fr → World → Prop} {r : List (Nat × Md)} {ρ : Fr} {i : Nat} {d : Option Tmp} {ty : TypeId} {gd : Option (Nat × Bool)}
theorem wk_store_owN {t : TypeId} {x p : Operand} {b cap k f : Nat} {a : Option Addr} {vs : List Value} {e : TypeId} {L : List α} {rest : List Value} (y dflt : α) (ho : opD ops i = some (d, .store t p x, ty, gd)) (hw : wantedG ops ρ gd = true)
    (ha : ρ.ev p = .pointer (some ⟨b, 0 + (k * sz + f), none⟩)) (hx : (ρ.ev x).cells = vs.toArray) (hs : P.cellsOf t = vs.length) (hi : (P.info? t).isSome = true) (hown : OwN w e sz a b cap enc L rest)
    (hz : ∀ x, (enc x).length = sz) (hk : k < L.length) (h1 : vs.all Value.oneCell' = true) (hf : f + vs.length ≤ sz) (hy : (enc (L.getD k dflt)).take f ++ vs ++ (enc (L.getD k dflt)).drop (f + vs.length) = enc y)
    (h : ∀ w', Ext [b] w w' → w'.heap.size = w.heap.size → OwN w' e sz a b cap enc (L.set k y) rest → C w' ∧ wk P ops C Q r (updO ρ d undef) w') :
    wk P ops C Q ((i, .loud) :: r) ρ w :=
  wk_store_own y dflt ho hw ha hx hs hi (hown.own (by omega)).2 hz hk h1 hf hy fun w' hE hsz hO => h w' hE hsz (.inr ⟨(hown.own (by omega)).1, hO⟩)
/-- append to an array of one's own, whatever is appended. -/
theorem wk_append_some {t : TypeId} {by_ cx bx offx : Nat} {s x : Operand} {ax : Option Addr} {M : List α} (ho : opD ops i = some (d, .call ⟨.builtin .append, #[s, x], #[t, t]⟩, ty, gd)) (hw : wantedG ops ρ gd = true)
    (ht : appT P t = some (e, sz, by_)) (hz : zeroFits P e = true) (_hlen : ∀ x, (enc x).length = sz) (hs : ρ.ev s = .slice (some ⟨g, 0, none⟩) L.length cap) (hown : OwN w e sz (some ⟨g, 0, none⟩) g cap enc L rest) (hx : ρ.ev x = .slice ax M.length cx) (hsl : SlE w sz ax bx offx enc M)
    (h1 : ∀ x, (enc x).all Value.oneCell' = true) (hb : (L.length + M.length) * by_ ≤ 140737488355328 ∧ L.length + M.length ≤ 9223372036854775807)
    (h : ∀ w' b cap' rest', ((some ⟨g, 0, none⟩ : Option Addr) = none ∧ b = w.heap.size ∨ (some ⟨g, 0, none⟩ : Option Addr) ≠ none ∧ (b = g ∨ b = w.heap.size)) → Ext (ownL (some ⟨g, 0, none⟩)) w w' → w'.heap.size ≤ w.heap.size + 1 → b < w'.heap.size → OwnE w' e sz b cap' enc (L ++ M) rest' →
      C w' ∧ wk P ops C Q r (updO ρ d (.slice (some ⟨b, 0, none⟩) (L ++ M).length cap')) w') :
    wk P ops C Q ((i, .loud) :: r) ρ w := by
  rcases hown with ⟨h0, _⟩ | ⟨_, hown⟩
  · cases h0
  · have hall : (flat enc M).all Value.oneCell' = true := by
      simp only [flat, List.all_flatMap, List.all_eq_true]
      exact fun x _ => List.all_eq_true.1 (h1 x)
    refine wk_append_own ho hw ht hz hs hown hx hsl hall hb fun w' b cap' rest' hb' hE hsz hlt hO => ?_
    have := h w' b cap' rest' (.inr ⟨by simp, hb'⟩) hE hsz hlt (by simpa only [OwnE, flat_append, List.length_append] using hO)
    simpa only [List.length_append] using this
end
theorem OwNG.own (h : OwNG γ w c e sz a g cap enc L rest) (hp : 0 < L.length) : a = some ⟨g, 0, none⟩ ∧ OwnG γ w c e sz g cap enc L rest := by
  obtain ⟨h1, h2⟩ := h
  obtain ⟨ha, ho⟩ := OwN.own h1 hp
  exact ⟨ha, ho, h2.resolve_left (by rw [ha]; simp)⟩
theorem u32_wrap (a : Int) : IntKind.u32.wrap a = a % 4294967296 := rfl
theorem u32_to {n m : Int} (h : 0 ≤ n ∧ n < 4294967296) (e : n = m) : IntKind.u32.wrap n = m := by rw [u32_wrap, ← e]; omega
/-! ### New classes -/
theorem OwnG.re {d : Nat} (h : OwnG γ w c e sz g cap enc L rest) (hr : ∀ b, N ≤ b → γ b = c → γ1 b = d) (hN : N ≤ g) : OwnG γ1 w d e sz g cap enc L rest := ⟨h.1, hr g hN h.2⟩
theorem OwNG.re {d : Nat} (h : OwNG γ w c e sz a g cap enc L rest) (hr : ∀ b, N ≤ b → γ b = c → γ1 b = d) (hN : a = none ∨ N ≤ g) : OwNG γ1 w d e sz a g cap enc L rest :=
  ⟨h.1, by rcases h.2 with h2 | h2; exact .inl h2; rcases hN with h3 | h3; exact .inl h3; exact .inr (hr g h3 h2)⟩
theorem SlG.re {d : Nat} (h : SlG γ w c sz a b off enc L) (hr : ∀ b, N ≤ b → γ b = c → γ1 b = d) (hN : L.length = 0 ∨ N ≤ b) : SlG γ1 w d sz a b off enc L :=
  ⟨h.1, by rcases h.2 with h2 | h2; exact .inl h2; rcases hN with h3 | h3; exact .inl h3; exact .inr ⟨h2.1, hr b h3 h2.2⟩⟩
theorem Bk.re {d : Nat} {o : Obj} (h : Bk γ w b c o) (hr : ∀ b, N ≤ b → γ b = c → γ1 b = d) (hN : N ≤ b) : Bk γ1 w b d o := ⟨h.1, hr b hN h.2⟩
/-- Where an array lies behind an append. -/
theorem appNew {bb M : Nat} (hb : a = none ∧ bb = M ∨ a ≠ none ∧ (bb = g ∨ bb = M)) (hN : a = none ∨ N ≤ g) (hM : N ≤ M) : N ≤ bb := by
  rcases hb with ⟨_, rfl⟩ | ⟨h0, rfl | rfl⟩
  · exact hM
  · exact hN.resolve_left h0
  · exact hM
theorem SlG.of_cut {β : Type} {en : β → List Value} {M : List β} {a' : Option Addr} {off' : Nat} (hs : SlE w sz a' b off' en M) (h : SlG γ w c sz a b off enc L) (hl : M.length ≤ L.length := by first | omega | (simp; omega)) : SlG γ w c sz a' b off' en M :=
  ⟨hs, by rcases h.2 with h2 | h2; exact .inl (by omega); exact .inr h2⟩
end
end Go.Wk
