/-
  Queues: slices of one's own that begin inside their array.
-/
import Derived.Test.YtpcdldakilkldaaK25
namespace Go.Wk
open Go
section
variable {C : List Nat} {w w1 : World} {γ γ1 : Nat → Nat} {c : Nat}
variable {α : Type} {enc : α → List Value} {sz g off cap e : Nat} {a : Option Addr} {L : List α}
structure QuE (w : World) (e sz g off cap : Nat) (enc : α → List Value) (L : List α) (pre rest : List Value) : Prop where
  block : w.heap[g]? = some (.cells (pre ++ flat enc L ++ rest).toArray e (0, 0))
  pre : pre.length = off
  len : (flat enc L).length = L.length * sz
  fit : (flat enc L).length + rest.length = cap * sz
  le : L.length ≤ cap
  max : cap ≤ maxLen
def QuG (γ : Nat → Nat) (w : World) (c e sz : Nat) (a : Option Addr) (g off cap : Nat) (enc : α → List Value) (L : List α) : Prop :=
  (cap = 0 ∧ L = []) ∨ (a = some ⟨g, off, none⟩ ∧ γ g = c ∧ ∃ pre rest, QuE w e sz g off cap enc L pre rest)
theorem QuE.lt {pre rest : List Value} (h : QuE w e sz g off cap enc L pre rest) : g < w.heap.size := lt_of_block h.block
theorem QuG.nil (γ : Nat → Nat) (w : World) (c e sz : Nat) (a : Option Addr) (g off : Nat) (enc : α → List Value) : QuG γ w c e sz a g off 0 enc [] := .inl ⟨rfl, rfl⟩
theorem QuG.keep (h : QuG γ w c e sz a g off cap enc L) (k : GX C w γ w1 γ1) (hc : c ∉ C) : QuG γ1 w1 c e sz a g off cap enc L := by
  rcases h with h | ⟨ha, hg, pre, rest, h⟩
  · exact .inl h
  · exact .inr ⟨ha, (k.cls g h.lt (by rw [hg]; exact hc)).trans hg, pre, rest, { h with block := (k.block g h.lt (by rw [hg]; exact hc)).trans h.block }⟩
theorem Grown.keepQu (k : Grown w w1) (h : QuG γ w c e sz a g off cap enc L) : QuG γ w1 c e sz a g off cap enc L := by
  rcases h with h | ⟨ha, hg, pre, rest, h⟩
  · exact .inl h
  · exact .inr ⟨ha, hg, pre, rest, { h with block := k.keep h.block }⟩
theorem GC.qu (k : GC C γ w w1) (h : QuG γ w c e sz a g off cap enc L) (hc : c ∉ C) : QuG γ w1 c e sz a g off cap enc L := by
  rcases h with h | ⟨ha, hg, pre, rest, h⟩
  · exact .inl h
  · exact .inr ⟨ha, hg, pre, rest, { h with block := (k.block g h.lt (by rw [hg]; exact hc)).trans h.block }⟩
theorem QuE.sl {pre rest : List Value} (h : QuE w e sz g off cap enc L pre rest) : SlE w sz (some ⟨g, off, none⟩) g off enc L := by
  refine Sl.of_block (xs := flat enc L) h.block h.len fun j hj => ?_
  have h1 := h.pre
  simp only [List.getElem?_toArray, List.append_assoc]
  rw [List.getElem?_append_right (by omega), List.getElem?_append_left (by omega), h1, Nat.add_sub_cancel_left]
  exact List.getElem?_eq_getElem hj
theorem QuG.slg (h : QuG γ w c e sz a g off cap enc L) : SlG γ w c sz a g off enc L := by
  rcases h with ⟨_, rfl⟩ | ⟨rfl, hg, pre, rest, h⟩
  · exact SlG.nil _ _ _ _ _ _ _ _
  · exact ⟨h.sl, .inr ⟨h.lt, hg⟩⟩
theorem QuG.own (h : QuG γ w c e sz a g off cap enc L) (hp : 0 < L.length) : a = some ⟨g, off, none⟩ ∧ γ g = c ∧ ∃ pre rest, QuE w e sz g off cap enc L pre rest := by
  rcases h with ⟨_, rfl⟩ | h
  · simp at hp
  · exact h
theorem QuG.le (h : QuG γ w c e sz a g off cap enc L) : L.length ≤ cap := by
  rcases h with ⟨rfl, rfl⟩ | ⟨_, _, _, _, h⟩
  · exact Nat.le_refl _
  · exact h.le
theorem QuG.cut (h : QuG γ w c e sz a g off cap enc L) (hz : ∀ x, (enc x).length = sz) (l : Nat) (hl : l ≤ L.length) : QuG γ w c e sz (cutA a cap l sz) g (off + l * sz) (cap - l) enc (L.drop l) := by
  rcases h with ⟨rfl, rfl⟩ | ⟨rfl, hg, pre, rest, h⟩
  · have : l = 0 := by simpa using hl
    subst this
    exact .inl ⟨rfl, rfl⟩
  · by_cases hc : cap = l
    · refine .inl ⟨by omega, List.eq_nil_of_length_eq_zero ?_⟩
      have := h.le
      rw [List.length_drop]; omega
    · refine .inr ⟨?_, hg, pre ++ flat enc (L.take l), rest, ?_, ?_, flat_len hz _, ?_, ?_, ?_⟩
      · unfold cutA
        rw [if_neg hc, Option.map_some, Addr.add_off]
      · rw [h.block]
        congr 3
        rw [List.append_assoc, List.append_assoc, List.append_assoc, ← List.append_assoc (flat enc (L.take l)), ← flat_append, List.take_append_drop]
      · rw [List.length_append, h.pre, flat_len hz, List.length_take, Nat.min_eq_left hl]
      · have h1 := h.fit
        rw [flat_len hz] at h1
        rw [flat_len hz, List.length_drop, Nat.sub_mul, Nat.sub_mul]
        have : l * sz ≤ L.length * sz := Nat.mul_le_mul_right _ hl
        omega
      · have := h.le
        rw [List.length_drop]; omega
      · have := h.max; omega
theorem QuG.re {N d : Nat} (h : QuG γ w c e sz a g off cap enc L) (hr : ∀ b, N ≤ b → γ b = c → γ1 b = d) (hN : cap = 0 ∨ N ≤ g) : QuG γ1 w d e sz a g off cap enc L := by
  rcases h with h | ⟨ha, hg, pre, rest, h⟩
  · exact .inl h
  · rcases hN with hN | hN
    · have h1 := h.le
      exact .inl ⟨hN, List.eq_nil_of_length_eq_zero (by omega)⟩
    · exact .inr ⟨ha, hr g hN hg, pre, rest, h⟩
section
variable {P : Program} {ops : Array Oper} {Cc : World → Prop} {Q : Fr → World → Prop} {r : List (Nat × Md)} {ρ : Fr} {i : Nat} {d : Option Tmp} {ty : TypeId} {gd : Option (Nat × Bool)}
/-- append to a queue. -/
theorem wk_append_qu {t : TypeId} {by_ cx bx offx : Nat} {s x : Operand} {ax : Option Addr} {M : List α} (ho : opD ops i = some (d, .call ⟨.builtin .append, #[s, x], #[t, t]⟩, ty, gd)) (hw : wantedG ops ρ gd = true)
    (ht : appT P t = some (e, sz, by_)) (hz : zeroFits P e = true) (hlen : ∀ x, (enc x).length = sz) (hs : ρ.ev s = .slice a L.length cap) (ha : a = none → cap = 0) (hown : QuG γ w c e sz a g off cap enc L) (hx : ρ.ev x = .slice ax M.length cx) (hsl : SlE w sz ax bx offx enc M)
    (hm : 0 < M.length) (h1 : ∀ x, (enc x).all Value.oneCell' = true) (hb : (L.length + M.length) * by_ ≤ 140737488355328 ∧ L.length + M.length ≤ 9223372036854775807)
    (h : ∀ w' γ' a' g' off' cap', GX [c] w γ w' γ' → a' ≠ none → QuG γ' w' c e sz a' g' off' cap' enc (L ++ M) → (∀ N, (cap = 0 ∨ N ≤ g) → N ≤ w.heap.size → N ≤ g') → Cc w' ∧ wk P ops Cc Q r (updO ρ d (.slice a' (L ++ M).length cap')) w') :
    wk P ops Cc Q ((i, .loud) :: r) ρ w := by
  have hall : (flat enc M).all Value.oneCell' = true := by
    simp only [flat, List.all_flatMap, List.all_eq_true]
    exact fun x _ => List.all_eq_true.1 (h1 x)
  by_cases hroom : L.length + M.length ≤ cap
  · obtain ⟨rfl, hg, pre, rest, hQ⟩ : a = some ⟨g, off, none⟩ ∧ γ g = c ∧ ∃ pre rest, QuE w e sz g off cap enc L pre rest := by
      rcases hown with ⟨hc, hL⟩ | h
      · omega
      · exact h
    have hfl := hQ.len
    have hfm := flat_len hlen M
    have hfit := hQ.fit
    have hpl := hQ.pre
    have hms : (L.length + M.length) * sz ≤ cap * sz := Nat.mul_le_mul_right _ hroom
    rw [Nat.add_mul] at hms
    refine wk_append_fit (xs := pre ++ flat enc L ++ rest) ho hw ht hs hQ.block hx hsl hroom (by simp only [List.length_append]; omega) hall fun w' hE hsz hB => ?_
    have hk := h w' γ (some ⟨g, off, none⟩) g off cap (GX.ext1 hE hg (fun _ _ => rfl)) (by simp) (.inr ⟨rfl, hg, pre, rest.drop (flat enc M).length, ?_, hpl, flat_len hlen _, ?_, by rw [List.length_append]; exact hroom, hQ.max⟩) (fun N hN hNs => by rcases hN with hN | hN; omega; exact hN)
    · rw [List.length_append] at hk; exact hk
    · rw [hB]
      congr 3
      rw [flat_append]
      have e1 : (pre ++ flat enc L ++ rest).take (off + L.length * sz) = pre ++ flat enc L := by
        rw [← hpl, ← hfl, ← List.length_append, List.take_left']; rfl
      have e2 : (pre ++ flat enc L ++ rest).drop (off + L.length * sz + (flat enc M).length) = rest.drop (flat enc M).length := by
        rw [← hpl, ← hfl, ← List.length_append, List.drop_append]
        rw [List.drop_eq_nil_of_le (by omega), List.nil_append]
        congr 1; omega
      rw [e1, e2]; simp only [List.append_assoc]
    · rw [flat_len hlen, List.length_append, List.length_drop, Nat.add_mul]
      omega
  · have key : ∀ w' b cap' rest', b = w.heap.size → Ext [] w w' → OwnE w' e sz b cap' enc (L ++ M) rest' → Cc w' ∧ wk P ops Cc Q r (updO ρ d (.slice (some ⟨b, 0, none⟩) (L ++ M).length cap')) w' := by
      intro w' b cap' rest' hb' hE hO
      obtain ⟨γ', hg1, hg2⟩ := cls_new γ w.heap.size c
      refine h w' γ' (some ⟨b, 0, none⟩) b 0 cap' (GX.ext0 _ hE hg1) (by simp) (.inr ⟨rfl, hg2 b (by omega), [], rest', by simpa using hO.block, rfl, hO.len, hO.fit, hO.le, hO.max⟩) (fun N _ hN => by omega)
    cases a with
    | none =>
      have hc := ha rfl
      subst hc
      have hL : L = [] := List.eq_nil_of_length_eq_zero (by have := hown.le; omega)
      subst hL
      refine wk_append_nil ho hw ht hz hs hx hsl hm (by simpa using hb) fun w' b cap' rest' hb' hE hsz hO => ?_
      have := key w' b cap' rest' hb' hE (by simpa [OwnE] using hO)
      simpa using this
    | some a0 =>
      obtain ⟨hu, inf, z, hi, hzv, rfl, rfl⟩ := appT_spec ht
      have hzs : z.cells.size = inf.size := by simpa [zeroFits, hi, hzv] using hz
      have hsm := hsl.addr hm
      subst hsm
      have hnews : ∀ j v, (flat enc M)[j]? = some v → w.cell? ((⟨bx, offx, none⟩ : Addr).add j) = some v := fun j v hv => by
        rw [Addr.add_off]
        obtain ⟨hj, rfl⟩ := List.getElem?_eq_some_iff.1 hv
        exact hsl.cell j hj
      have holds : ∀ j u, (flat enc L)[j]? = some u → w.cell? (a0.add j) = some u := fun j u hj => by
        obtain ⟨hj', rfl⟩ := List.getElem?_eq_some_iff.1 hj
        have hp : 0 < L.length := by
          rcases Nat.eq_zero_or_pos L.length with h0 | h0
          · have : L = [] := List.eq_nil_of_length_eq_zero h0
            subst this; simp [flat] at hj'
          · exact h0
        obtain ⟨ha0, _, pre, rest, hQ⟩ := hown.own hp
        cases ha0
        rw [Addr.add_off]
        exact hQ.sl.cell j hj'
      have hr := run_append_grow (P := P) w t ty e inf z hu hi hzv a0 L.length cap (flat enc L) (flat_len hlen L) holds ⟨bx, offx, none⟩ M.length cx (flat enc M) hsl.len hnews (by omega) (by omega) (growslice_fits (by omega) hb.1)
      have hg := grow_bound (w := w) (need := L.length + M.length) (old := cap) (e := e) (by simp only [maxLen]; omega)
      have hk := key (w.drew.alloc (.cells ((flat enc L).toArray ++ (flat enc M).toArray ++ Builtin.zeroCells z.cells (grownCap w (L.length + M.length) cap e - (L.length + M.length))) e)) w.heap.size (grownCap w (L.length + M.length) cap e)
        (Builtin.zeroCells z.cells (grownCap w (L.length + M.length) cap e - (L.length + M.length))).toList rfl (Ext.drewAlloc _ w _) ⟨by
          have := heap_alloc_new w.drew (.cells ((flat enc L).toArray ++ (flat enc M).toArray ++ Builtin.zeroCells z.cells (grownCap w (L.length + M.length) cap e - (L.length + M.length))) e)
          rw [show w.heap.size = w.drew.heap.size from rfl, this]
          congr 2
          apply Array.ext'
          simp [flat_append], flat_len hlen _, by
          have e9 : ∀ n, (Builtin.zeroCells z.cells n).toList.length = n * inf.size := fun n => by rw [Array.length_toList, size_zeroCells, hzs]
          rw [flat_len hlen, e9, List.length_append, ← Nat.add_mul]
          congr 1
          omega, by rw [List.length_append]; exact hg.1, hg.2⟩
      rw [List.length_append] at hk
      exact wk_val ho hw _ (x_builtin_append hs hx hr) hk.1 hk.2
/-- A store into an element of a queue. -/
theorem wk_store_qu {t : TypeId} {x p : Operand} {k f : Nat} {vs : List Value} (y dflt : α) (ho : opD ops i = some (d, .store t p x, ty, gd)) (hw : wantedG ops ρ gd = true)
    (hp : ρ.ev p = .pointer (some ⟨g, off + (k * sz + f), none⟩)) (hx : (ρ.ev x).cells = vs.toArray) (hs : P.cellsOf t = vs.length) (hi : (P.info? t).isSome = true) (hown : QuG γ w c e sz a g off cap enc L)
    (hz : ∀ x, (enc x).length = sz) (hk : k < L.length) (h1 : vs.all Value.oneCell' = true) (hf : f + vs.length ≤ sz) (hy : (enc (L.getD k dflt)).take f ++ vs ++ (enc (L.getD k dflt)).drop (f + vs.length) = enc y)
    (h : ∀ w', GX [c] w γ w' γ → w'.heap.size = w.heap.size → QuG γ w' c e sz a g off cap enc (L.set k y) → Cc w' ∧ wk P ops Cc Q r (updO ρ d undef) w') :
    wk P ops Cc Q ((i, .loud) :: r) ρ w := by
  obtain ⟨ha, hg, pre, rest, hQ⟩ := hown.own (by omega)
  have hlen := flat_len hz L
  have hpl := hQ.pre
  have hb : k * sz + f + vs.length ≤ L.length * sz := by
    have : (k + 1) * sz ≤ L.length * sz := Nat.mul_le_mul_right _ hk
    rw [Nat.add_mul] at this
    omega
  obtain ⟨w', h2, h3, h4, h5⟩ := run_storeCells_put (P := P) g e vs (off + (k * sz + f)) 0 _ w hQ.block (by simp [hlen]; omega) (fun v hv => List.all_eq_true.1 h1 v hv)
  have hQ' : QuE w' e sz g off cap enc (L.set k y) pre rest := by
    refine ⟨?_, hpl, flat_len hz _, ?_, by rw [List.length_set]; exact hQ.le, hQ.max⟩
    · rw [h5, Nat.add_zero, putCells_list _ _ _ (by simp [hlen]; omega)]
      congr 3
      rw [← flat_put hz dflt L k f vs y hk hf hy]
      have e1 : (pre ++ flat enc L ++ rest).take (off + (k * sz + f)) = pre ++ (flat enc L).take (k * sz + f) := by
        rw [List.append_assoc, List.take_append, List.take_of_length_le (by omega), ← hpl, Nat.add_sub_cancel_left, List.take_append_of_le_length (by omega)]
      have e2 : (pre ++ flat enc L ++ rest).drop (off + (k * sz + f) + vs.length) = (flat enc L).drop (k * sz + f + vs.length) ++ rest := by
        rw [List.append_assoc, List.drop_append, List.drop_eq_nil_of_le (by omega), List.nil_append, ← hpl, show pre.length + (k * sz + f) + vs.length - pre.length = k * sz + f + vs.length by omega, List.drop_append_of_le_length (by omega)]
      rw [e1, e2]
      simp only [List.append_assoc]
    · rw [flat_len hz, List.length_set, ← hlen]; exact hQ.fit
  obtain ⟨hC, hkk⟩ := h w' (GX.ext1 h3 hg (fun _ _ => rfl)) h4 (.inr ⟨ha, hg, pre, rest, hQ'⟩)
  obtain ⟨inf, hinf⟩ := Option.isSome_iff_exists.1 hi
  have hsz : inf.size = vs.length := by simpa [Program.cellsOf, hinf] using hs
  refine wk_do ho hw ?_ hC hkk
  simp [exOp, execOp, hp, Instr.storeAt, Instr.sureAddr, storeVar, sizeOf, typeInfo, hinf, hsz, hx, h2]
end
end
end Go.Wk
