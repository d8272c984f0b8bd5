/-
  Slices: read, made, appended to.
-/
import Derived.Test.YtpcdldakilkldaaK7
namespace Go.Wk
open Go

/-- What a slice holds, for who only reads it: n elements of sz cells each, the cells xs from place off of block b on; nothing is said of where an empty one lies. -/
structure Sl (w : World) (sz : Nat) (a : Option Addr) (n b off : Nat) (xs : List Value) : Prop where
  addr : 0 < n → a = some ⟨b, off, none⟩
  len : xs.length = n * sz
  cell : ∀ j (h : j < xs.length), w.cell? ⟨b, off + j, none⟩ = some xs[j]

theorem cell_lt {w : World} {b o : Nat} {v : Value} (h : w.cell? ⟨b, o, none⟩ = some v) : b < w.heap.size := World.block_lt_of_cell? w _ h

theorem ExtW.cell {S : List Nat} {w w' : World} (h : ExtW S w w') {b o : Nat} {v : Value} (hc : w.cell? ⟨b, o, none⟩ = some v) (hS : b ∉ S) : w'.cell? ⟨b, o, none⟩ = some v := by
  have := h.block b (cell_lt hc) hS
  rw [← hc]
  simp [World.cell?, this]
theorem ExtW.keepSl {S : List Nat} {w w' : World} (h : ExtW S w w') {sz n b off : Nat} {a : Option Addr} {xs : List Value} (hs : Sl w sz a n b off xs) (hS : b ∉ S) : Sl w' sz a n b off xs :=
  ⟨hs.addr, hs.len, fun j hj => h.cell (hs.cell j hj) hS⟩
theorem SameMem.keepSl {w w' : World} (h : SameMem w w') {sz n b off : Nat} {a : Option Addr} {xs : List Value} (hs : Sl w sz a n b off xs) : Sl w' sz a n b off xs := (h.ext []).keepSl hs List.not_mem_nil
theorem Grown.keepSl {w w' : World} (h : Grown w w') {sz n b off : Nat} {a : Option Addr} {xs : List Value} (hs : Sl w sz a n b off xs) : Sl w' sz a n b off xs := (h.ext []).keepSl hs List.not_mem_nil

theorem Sl.nil (w : World) (sz b off : Nat) (a : Option Addr) : Sl w sz a 0 b off [] := ⟨fun h => by omega, by simp, fun j hj => by simp at hj⟩
/-- A slice of a block whose cells are known. -/
theorem Sl.of_block {w : World} {sz n b off : Nat} {cs : Array Value} {e : TypeId} {fz : Nat × Nat} {xs : List Value} (h : w.heap[b]? = some (.cells cs e fz)) (hl : xs.length = n * sz)
    (hc : ∀ j (h : j < xs.length), cs[off + j]? = some xs[j]) : Sl w sz (some ⟨b, off, none⟩) n b off xs :=
  ⟨fun _ => rfl, hl, fun j hj => by rw [cell_of h]; exact hc j hj⟩

section
variable {P : Program} {ρ : Operand → Value} {ty : TypeId} {w : World}

theorem x_indexS {t e : TypeId} {x ix : Operand} {a : Option Addr} {b off n c sz sz' : Nat} {xs : List Value} {k : IntKind} {i : Int} (ht : elemT P t = some (e, sz)) (hs : Sl w sz' a n b off xs) (hx : ρ x = .slice a n c) (hi : ρ ix = .int k i)
    (h : 0 ≤ i ∧ i < n) : ∀ w' : World, (exOp ρ (.indexAddr t x ix) ty).run P w' = .ok (.value (.pointer (some ⟨b, off + i.toNat * sz, none⟩))) w' := fun w' =>
  x_indexSl (c := c) ht (by rw [hx, hs.addr (by omega)]) hi h

theorem x_load_c {t : TypeId} {x : Operand} {b off : Nat} {v : Value} (ht : oneT P t = true) (hx : ρ x = .pointer (some ⟨b, off, none⟩)) (hc : w.cell? ⟨b, off, none⟩ = some v) :
    (exOp ρ (.load t x) ty).run P w = .ok (.value v) w := by
  simp [exOp, execOp, hx, Instr.loadAt, Instr.sureAddr, loadVar, run_isAgg_one ht, hc]
theorem x_load_cs {t : TypeId} {x : Operand} {b off n : Nat} {vs : List Value} (ht : aggT P t n = true) (hx : ρ x = .pointer (some ⟨b, off, none⟩)) (hn : vs.length = n)
    (hc : ∀ j (h : j < vs.length), w.cell? ⟨b, off + j, none⟩ = some vs[j]) : (exOp ρ (.load t x) ty).run P w = .ok (.value (.agg vs.toArray)) w := by
  subst hn
  have h1 : (loadCells ⟨b, off, none⟩ vs.length).run P w = .ok vs.toArray w := run_loadCells_list (P := P) w ⟨b, off, none⟩ vs fun j v hv => by
    rw [Addr.add_off]
    obtain ⟨hj, rfl⟩ := List.getElem?_eq_some_iff.1 hv
    exact hc j hj
  simp [exOp, execOp, hx, Instr.loadAt, Instr.sureAddr, loadVar, run_isAgg_agg ht, run_sizeOf_agg ht, h1]

/-- x[lo:hi] of a slice that is no more than its length is asked of. -/
theorem x_sliceLH {t e : TypeId} {x lo hi : Operand} {b off n c sz : Nat} {k q : IntKind} {l h : Int} (ht : elemT P t = some (e, sz)) (hx : ρ x = .slice (some ⟨b, off, none⟩) n c) (hl : ρ lo = .int k l) (hh : ρ hi = .int q h)
    (h0 : 0 ≤ l ∧ l ≤ h ∧ h ≤ c) : (exOp ρ (.slice t x (some lo) (some hi) none) ty).run P w =
      .ok (.value (.slice (some (if c = l.toNat then ⟨b, off, none⟩ else ⟨b, off + l.toNat * sz, none⟩)) (h.toNat - l.toNat) (c - l.toNat))) w := by
  obtain ⟨hu, inf, hinf, rfl⟩ := elemT_spec ht
  have e1 : (h.toNat : Int) = h := Int.toNat_of_nonneg (by omega)
  have a1 : 0 ≤ h ∧ h ≤ (c : Int) := by omega
  have a2 : 0 ≤ l ∧ l ≤ (h.toNat : Int) := by omega
  simp [exOp, execOp, hx, hl, hh, Instr.sliceAt, run_underlying hu, Instr.slice, Instr.sliceBounds, Instr.sliceBound, asIntOf, a1, a2, sizeOf, typeInfo, hinf, Addr.add_off]
  have a3 : ¬ max h 0 < l := by omega
  by_cases hc : c = l.toNat <;> simp [hc, a3]

theorem x_cap {t : TypeId} {x : Operand} {a : Option Addr} {n c : Nat} (ht : sliceT P t = true) (hx : ρ x = .slice a n c) :
    (exOp ρ (.call { callee := .builtin .cap, args := #[x], argTypes := #[t] }) ty).run P w = .ok (.value (.int .i64 c)) w := by
  obtain ⟨e, hu⟩ := sliceT_spec ht
  simp [exOp, execOp, resolve, invoke, builtin, hx, Builtin.cap_, run_underlying hu, goInt]
end

/-! ### Memory of one's own -/

/-- A slice's array, its own: the elements' cells, then the spare ones. -/
structure Own (w : World) (e : TypeId) (sz : Nat) (g n cap : Nat) (xs rest : List Value) : Prop where
  block : w.heap[g]? = some (.cells (xs ++ rest).toArray e (0, 0))
  len : xs.length = n * sz
  fit : xs.length + rest.length = cap * sz
  le : n ≤ cap
  max : cap ≤ maxLen

theorem Own.lt {w : World} {e : TypeId} {sz g n cap : Nat} {xs rest : List Value} (h : Own w e sz g n cap xs rest) : g < w.heap.size := lt_of_block h.block
theorem ExtW.keepOwn {S : List Nat} {w w' : World} (h : ExtW S w w') {e : TypeId} {sz g n cap : Nat} {xs rest : List Value} (ho : Own w e sz g n cap xs rest) (hS : g ∉ S) : Own w' e sz g n cap xs rest :=
  ⟨h.keep ho.block hS, ho.len, ho.fit, ho.le, ho.max⟩
theorem SameMem.keepOwn {w w' : World} (h : SameMem w w') {e : TypeId} {sz g n cap : Nat} {xs rest : List Value} (ho : Own w e sz g n cap xs rest) : Own w' e sz g n cap xs rest := (h.ext []).keepOwn ho List.not_mem_nil
theorem Grown.keepOwn {w w' : World} (h : Grown w w') {e : TypeId} {sz g n cap : Nat} {xs rest : List Value} (ho : Own w e sz g n cap xs rest) : Own w' e sz g n cap xs rest := (h.ext []).keepOwn ho List.not_mem_nil
theorem Own.sl {w : World} {e : TypeId} {sz g n cap : Nat} {xs rest : List Value} (h : Own w e sz g n cap xs rest) : Sl w sz (some ⟨g, 0, none⟩) n g 0 xs :=
  .of_block h.block h.len fun j hj => by simp [List.getElem?_append_left hj]

/-- What append asks of a slice type: its element, that one's cells and bytes. -/
def appT (P : Program) (t : TypeId) : Option (TypeId × Nat × Nat) :=
  match P.underlying t with
  | some (.slice e) => match P.info? e with
    | some i => if i.zero.isSome then some (e, i.size, i.bytes) else none
    | none => none
  | _ => none
theorem appT_spec {P : Program} {t e : TypeId} {sz by_ : Nat} (h : appT P t = some (e, sz, by_)) : P.underlying t = some (.slice e) ∧ ∃ i z, P.info? e = some i ∧ i.zero = some z ∧ i.size = sz ∧ i.bytes = by_ := by
  unfold appT at h
  split at h
  · rename_i e' hu
    split at h
    · rename_i i hi
      split at h
      · rename_i hz
        simp only [Option.some.injEq, Prod.mk.injEq] at h
        obtain ⟨rfl, rfl, rfl⟩ := h
        obtain ⟨z, hz⟩ := Option.isSome_iff_exists.1 hz
        exact ⟨hu, i, z, hi, hz, rfl, rfl⟩
      · cases h
    · cases h
  · cases h

/-- The zero value of an element has as many cells as the element. -/
def zeroFits (P : Program) (e : TypeId) : Bool :=
  match P.info? e with
  | some i => match i.zero with | some z => z.cells.size == i.size | none => false
  | none => false

theorem grow_bound {w : World} {need old : Nat} {e : TypeId} (h : need ≤ maxLen) : need ≤ grownCap w need old e ∧ grownCap w need old e ≤ maxLen := ⟨grownCap_ge w need old e, grownCap_le_maxLen w need old e h⟩

section
variable {P : Program} {ops : Array Oper} {C : World → Prop} {Q : Fr → World → Prop} {r : List (Nat × Md)} {ρ : Fr} {w : World} {i : Nat}
  {d : Option Tmp} {ty : TypeId} {g : Option (Nat × Bool)}

theorem x_builtin_append {t : TypeId} {s x : Operand} {vs vx : Value} {v : Value} {w' : World} {ρ : Operand → Value} (hs : ρ s = vs) (hx : ρ x = vx) (h : (Builtin.append_ #[t, t] ty #[vs, vx]).run P w = .ok v w') :
    (exOp ρ (.call { callee := .builtin .append, args := #[s, x], argTypes := #[t, t] }) ty).run P w = .ok (.value v) w' := by
  simp [exOp, execOp, resolve, invoke, builtin, hs, hx, h]

/-- append to nothing: a new array. -/
theorem wk_append_nil {t e : TypeId} {sz by_ m cx bx offx : Nat} {s x : Operand} {ax : Option Addr} {news : List Value} (ho : opD ops i = some (d, .call ⟨.builtin .append, #[s, x], #[t, t]⟩, ty, g)) (hw : wantedG ops ρ g = true)
    (ht : appT P t = some (e, sz, by_)) (hz : zeroFits P e = true) (hs : ρ.ev s = .slice none 0 0) (hx : ρ.ev x = .slice ax m cx) (hsl : Sl w sz ax m bx offx news) (hm : 0 < m) (hb : m * by_ ≤ 140737488355328 ∧ m ≤ 9223372036854775807)
    (h : ∀ w' b cap rest, b = w.heap.size → Ext [] w w' → w'.heap.size = b + 1 → Own w' e sz b m cap news rest → C w' ∧ wk P ops C Q r (updO ρ d (.slice (some ⟨b, 0, none⟩) m cap)) w') :
    wk P ops C Q ((i, .loud) :: r) ρ w := by
  obtain ⟨hu, inf, z, hi, hzv, rfl, rfl⟩ := appT_spec ht
  have hzs : z.cells.size = inf.size := by simpa [zeroFits, hi, hzv] using hz
  have hsm := hsl.addr hm
  subst hsm
  have hnews : ∀ j v, news[j]? = some v → w.cell? ((⟨bx, offx, none⟩ : Addr).add j) = some v := fun j v hv => by
    rw [Addr.add_off]
    obtain ⟨hj, rfl⟩ := List.getElem?_eq_some_iff.1 hv
    exact hsl.cell j hj
  have hr := run_append_nil (P := P) w t ty e inf z hu hi hzv ⟨bx, offx, none⟩ m cx news hsl.len hnews hm (by omega) (by omega)
  have hg := grow_bound (w := w) (need := m) (old := 0) (e := e) (by simp only [maxLen]; omega)
  have hk := h (w.drew.alloc (.cells (news.toArray ++ Builtin.zeroCells z.cells (grownCap w m 0 e - m)) e)) w.heap.size (grownCap w m 0 e) (Builtin.zeroCells z.cells (grownCap w m 0 e - m)).toList rfl
    (Ext.drewAlloc _ w _) (by simp)
    ⟨by
      have := heap_alloc_new w.drew (.cells (news.toArray ++ Builtin.zeroCells z.cells (grownCap w m 0 e - m)) e)
      rw [show w.heap.size = w.drew.heap.size from rfl, this]
      congr 2
      apply Array.ext'
      simp, hsl.len, by
      rw [hsl.len, Array.length_toList, size_zeroCells, hzs, ← Nat.add_mul]
      congr 1
      omega, hg.1, hg.2⟩
  exact wk_val ho hw _ (x_builtin_append hs hx hr) hk.1 hk.2

/-- append to an array of one's own: there, or in a new one. -/
theorem wk_append_own {t e : TypeId} {sz by_ n m cap cx bx offx gb : Nat} {s x : Operand} {ax : Option Addr} {xs rest news : List Value} (ho : opD ops i = some (d, .call ⟨.builtin .append, #[s, x], #[t, t]⟩, ty, g)) (hw : wantedG ops ρ g = true)
    (ht : appT P t = some (e, sz, by_)) (hz : zeroFits P e = true) (hs : ρ.ev s = .slice (some ⟨gb, 0, none⟩) n cap) (hown : Own w e sz gb n cap xs rest) (hx : ρ.ev x = .slice ax m cx) (hsl : Sl w sz ax m bx offx news)
    (h1 : news.all Value.oneCell' = true) (hb : (n + m) * by_ ≤ 140737488355328 ∧ n + m ≤ 9223372036854775807)
    (h : ∀ w' b cap' rest', (b = gb ∨ b = w.heap.size) → Ext [gb] w w' → w'.heap.size ≤ w.heap.size + 1 → b < w'.heap.size → Own w' e sz b (n + m) cap' (xs ++ news) rest' → C w' ∧ wk P ops C Q r (updO ρ d (.slice (some ⟨b, 0, none⟩) (n + m) cap')) w') :
    wk P ops C Q ((i, .loud) :: r) ρ w := by
  obtain ⟨hu, inf, z, hi, hzv, rfl, rfl⟩ := appT_spec ht
  have hzs : z.cells.size = inf.size := by simpa [zeroFits, hi, hzv] using hz
  by_cases hm : m = 0
  · -- nothing is appended
    subst hm
    have hn : news = [] := List.eq_nil_of_length_eq_zero (by simpa using hsl.len)
    subst hn
    have hr : (Builtin.append_ #[t, t] ty #[.slice (some ⟨gb, 0, none⟩) n cap, .slice ax 0 cx]).run P w = .ok (.slice (some ⟨gb, 0, none⟩) n cap) w := by
      have hle := hown.le
      cases ax with
      | none => simp [Builtin.append_, run_underlying hu, sizeOf, typeInfo, hi, Builtin.lenOf, hle, Builtin.firstCells, storeCells]
      | some a => simp [Builtin.append_, run_underlying hu, sizeOf, typeInfo, hi, Builtin.lenOf, hle, Builtin.firstCells, loadCells, loadCellsFrom, storeCells]
    have hk := h w gb cap rest (.inl rfl) (.refl _ _) (by omega) hown.lt (by simpa using hown)
    simp only [Nat.add_zero] at hk
    exact wk_val ho hw _ (x_builtin_append hs hx hr) hk.1 hk.2
  have hsm := hsl.addr (by omega)
  subst hsm
  have hnews : ∀ j v, news[j]? = some v → w.cell? ((⟨bx, offx, none⟩ : Addr).add j) = some v := fun j v hv => by
    rw [Addr.add_off]
    obtain ⟨hj, rfl⟩ := List.getElem?_eq_some_iff.1 hv
    exact hsl.cell j hj
  by_cases hroom : n + m ≤ cap
  · have hfit : n * inf.size + news.length ≤ (xs ++ rest).toArray.size := by
      have h1 := hown.fit
      rw [hsl.len, ← Nat.add_mul, List.size_toArray, List.length_append, h1]
      exact Nat.mul_le_mul_right _ hroom
    have hr := run_append_room (P := P) w t ty e inf hu hi gb n cap _ hown.block ⟨bx, offx, none⟩ m cx news hsl.len hnews (fun u hu => List.all_eq_true.1 h1 u hu) hroom hfit
    have hlen := hown.len
    have hdrop : (xs ++ rest).toArray.toList.take (n * inf.size) ++ news ++ (xs ++ rest).toArray.toList.drop (n * inf.size + news.length) = xs ++ news ++ rest.drop news.length := by
      simp only [← hlen, List.take_left', List.drop_append, List.drop_eq_nil_of_le (show xs.length ≤ xs.length + news.length by omega), List.nil_append]
      congr 2
      omega
    rw [hdrop] at hr
    have hk := h _ gb cap (rest.drop news.length) (.inl rfl) (Ext.setRow w gb _) (by simp) (by simpa using hown.lt)
      ⟨by rw [setRow_heap w gb _ _ e _ hown.block], by rw [List.length_append, hown.len, hsl.len, Nat.add_mul], by
        have h2 := hown.fit
        have h3 : news.length ≤ rest.length := by
          have := hsl.len
          have h4 : (n + m) * inf.size ≤ cap * inf.size := Nat.mul_le_mul_right _ hroom
          rw [Nat.add_mul] at h4
          omega
        rw [List.length_append, List.length_drop]
        omega, hroom, hown.max⟩
    exact wk_val ho hw _ (x_builtin_append hs hx hr) hk.1 hk.2
  · have holds : ∀ j u, xs[j]? = some u → w.cell? ((⟨gb, 0, none⟩ : Addr).add j) = some u := fun j u hj => by
      rw [Addr.add_off]
      obtain ⟨hj', rfl⟩ := List.getElem?_eq_some_iff.1 hj
      exact hown.sl.cell j hj'
    have hr := run_append_grow (P := P) w t ty e inf z hu hi hzv ⟨gb, 0, none⟩ n cap xs hown.len holds ⟨bx, offx, none⟩ m cx news hsl.len hnews (by omega) (by omega) (growslice_fits (by omega) hb.1)
    have hg := grow_bound (w := w) (need := n + m) (old := cap) (e := e) (by simp only [maxLen]; omega)
    have hk := h (w.drew.alloc (.cells (xs.toArray ++ news.toArray ++ Builtin.zeroCells z.cells (grownCap w (n + m) cap e - (n + m))) e)) w.heap.size (grownCap w (n + m) cap e)
      (Builtin.zeroCells z.cells (grownCap w (n + m) cap e - (n + m))).toList (.inr rfl) (Ext.drewAlloc _ w _) (by simp) (by simp)
      ⟨by
        have := heap_alloc_new w.drew (.cells (xs.toArray ++ news.toArray ++ Builtin.zeroCells z.cells (grownCap w (n + m) cap e - (n + m))) e)
        rw [show w.heap.size = w.drew.heap.size from rfl, this]
        congr 2
        apply Array.ext'
        simp, by rw [List.length_append, hown.len, hsl.len, Nat.add_mul], by
        rw [List.length_append, hown.len, hsl.len, Array.length_toList, size_zeroCells, hzs, ← Nat.add_mul, ← Nat.add_mul]
        congr 1
        omega, hg.1, hg.2⟩
    exact wk_val ho hw _ (x_builtin_append hs hx hr) hk.1 hk.2
end
end Go.Wk
