/-
  Slices of one's own that may be nil; cuts of slices; make.
-/
import Derived.Test.YtpcdldakilkldaaK9
namespace Go.Wk
open Go

/-- A slice of one's own, nil or not: where it has elements its array is its own. -/
structure OwO {α : Type} (w : World) (e : TypeId) (sz : Nat) (a : Option Addr) (g c : Nat) (enc : α → List Value) (L : List α) (rest : List Value) : Prop where
  own : 0 < L.length → a = some ⟨g, 0, none⟩ ∧ OwnE w e sz g c enc L rest
  le : L.length ≤ c

section
variable {α : Type} {enc : α → List Value} {sz : Nat} {w w' : World}

theorem ExtW.keepOwO {S : List Nat} (h : ExtW S w w') {e : TypeId} {a : Option Addr} {g c : Nat} {L : List α} {rest : List Value} (ho : OwO w e sz a g c enc L rest) (hS : g ∉ S) : OwO w' e sz a g c enc L rest :=
  ⟨fun hp => ⟨(ho.own hp).1, h.keepOwn (ho.own hp).2 hS⟩, ho.le⟩
theorem SameMem.keepOwO (h : SameMem w w') {e : TypeId} {a : Option Addr} {g c : Nat} {L : List α} {rest : List Value} (ho : OwO w e sz a g c enc L rest) : OwO w' e sz a g c enc L rest := (h.ext []).keepOwO ho List.not_mem_nil
theorem Grown.keepOwO (h : Grown w w') {e : TypeId} {a : Option Addr} {g c : Nat} {L : List α} {rest : List Value} (ho : OwO w e sz a g c enc L rest) : OwO w' e sz a g c enc L rest := (h.ext []).keepOwO ho List.not_mem_nil
theorem OwnE.owO {e : TypeId} {g c : Nat} {L : List α} {rest : List Value} (h : OwnE w e sz g c enc L rest) : OwO w e sz (some ⟨g, 0, none⟩) g c enc L rest := ⟨fun _ => ⟨rfl, h⟩, h.le⟩
theorem OwO.empty (w : World) (e : TypeId) (sz : Nat) (a : Option Addr) (g c : Nat) (enc : α → List Value) (rest : List Value) : OwO w e sz a g c enc [] rest := ⟨fun h => by simp at h, Nat.zero_le _⟩
theorem OwO.sl {e : TypeId} {a : Option Addr} {g c : Nat} {L : List α} {rest : List Value} (h : OwO w e sz a g c enc L rest) : SlE w sz a g 0 enc L := by
  by_cases hp : 0 < L.length
  · obtain ⟨rfl, ho⟩ := h.own hp
    exact ho.sl
  · have : L = [] := List.eq_nil_of_length_eq_zero (by omega)
    subst this
    exact Sl.nil _ _ _ _ _

/-- The address of x[l:]. -/
def cutA (a : Option Addr) (c l sz : Nat) : Option Addr := if c = l then a else a.map (·.add (l * sz))

theorem flat_drop (hz : ∀ x, (enc x).length = sz) : ∀ (L : List α) (k : Nat), (flat enc L).drop (k * sz) = flat enc (L.drop k)
  | L, 0 => by simp
  | [], k + 1 => by simp [flat]
  | x :: L, k + 1 => by
    have e : flat enc (x :: L) = enc x ++ flat enc L := rfl
    rw [e, List.drop_succ_cons, ← flat_drop hz L k, Nat.add_mul, Nat.one_mul, Nat.add_comm, ← hz x, List.drop_length_add_append]
theorem flat_take (hz : ∀ x, (enc x).length = sz) : ∀ (L : List α) (k : Nat), (flat enc L).take (k * sz) = flat enc (L.take k)
  | L, 0 => by simp [flat]
  | [], k + 1 => by simp [flat]
  | x :: L, k + 1 => by
    have e : flat enc (x :: L) = enc x ++ flat enc L := rfl
    have e' : flat enc ((x :: L).take (k + 1)) = enc x ++ flat enc (L.take k) := rfl
    rw [e, e', ← flat_take hz L k, Nat.add_mul, Nat.one_mul, Nat.add_comm, ← hz x, List.take_length_add_append]

theorem SlE.cut {a : Option Addr} {b off : Nat} {L : List α} (h : SlE w sz a b off enc L) (hz : ∀ x, (enc x).length = sz) (c l m : Nat) (hm : l + m ≤ L.length) (hc : L.length ≤ c) :
    SlE w sz (cutA a c l sz) b (off + l * sz) enc ((L.drop l).take m) := by
  have hlen : ((L.drop l).take m).length = m := by simp; omega
  refine ⟨fun hp => ?_, flat_len hz _, fun j hj => ?_⟩
  · rw [hlen] at hp
    have ha := h.addr (by omega)
    simp only [cutA, ha, Option.map_some, Addr.add_off]
    rw [if_neg (by omega)]
  · rw [flat_len hz, hlen] at hj
    have hb : (l + m) * sz ≤ L.length * sz := Nat.mul_le_mul_right _ hm
    rw [Nat.add_mul] at hb
    have hjl : l * sz + j < (flat enc L).length := by rw [flat_len hz]; omega
    rw [show off + l * sz + j = off + (l * sz + j) by omega, h.cell _ hjl]
    congr 1
    have e : flat enc ((L.drop l).take m) = ((flat enc L).drop (l * sz)).take (m * sz) := by rw [← flat_take hz, ← flat_drop hz]
    simp only [e, List.getElem_take, List.getElem_drop]
end

section
variable {P : Program} {ρ : Operand → Value} {ty : TypeId} {w : World}
theorem run_bound {k : IntKind} {l c : Nat} (code : BoundsCode) (h : l ≤ c) : (Instr.sliceBound (.int k (l : Int)) c code).run P w = .ok l w := by
  have a : (0 : Int) ≤ (l : Int) ∧ (l : Int) ≤ (c : Int) := by omega
  simp only [Instr.sliceBound, asIntOf, Sem.run_bind, Sem.run_pure, Result.andThen_ok, Sem.run_ite]
  rw [if_pos a]
  rfl
theorem x_cut {t e : TypeId} {x lo hi : Operand} {a : Option Addr} {n c sz l h : Nat} {k q : IntKind} {li hi' : Int} (ht : elemT P t = some (e, sz)) (hx : ρ x = .slice a n c) (hl : ρ lo = .int k li) (hh : ρ hi = .int q hi')
    (hli : li = l) (hhi : hi' = h) (h0 : l ≤ h ∧ h ≤ c) : (exOp ρ (.slice t x (some lo) (some hi) none) ty).run P w = .ok (.value (.slice (cutA a c l sz) (h - l) (c - l))) w := by
  obtain ⟨hu, inf, hinf, rfl⟩ := elemT_spec ht
  subst hli; subst hhi
  simp only [exOp, execOp, hx, hl, hh, Option.map_some, Option.map_none, Instr.sliceAt, Instr.slice, Instr.sliceBounds, Sem.run_bind, run_underlying hu, Result.andThen_ok, Sem.run_pure, if_true, run_bound _ h0.2, Option.isSome_none, Bool.false_eq_true, if_false,
    run_bound _ h0.1, sizeOf, typeInfo, run_program, hinf]
  rfl
theorem x_cutL {t e : TypeId} {x lo : Operand} {a : Option Addr} {n c sz l : Nat} {k : IntKind} {li : Int} (ht : elemT P t = some (e, sz)) (hx : ρ x = .slice a n c) (hl : ρ lo = .int k li)
    (hli : li = l) (h0 : l ≤ n) : (exOp ρ (.slice t x (some lo) none none) ty).run P w = .ok (.value (.slice (cutA a c l sz) (n - l) (c - l))) w := by
  obtain ⟨hu, inf, hinf, rfl⟩ := elemT_spec ht
  subst hli
  simp only [exOp, execOp, hx, hl, Option.map_some, Option.map_none, Instr.sliceAt, Instr.slice, Instr.sliceBounds, Sem.run_bind, run_underlying hu, Result.andThen_ok, Sem.run_pure, Option.isSome_none, Bool.false_eq_true, if_false,
    run_bound _ h0, sizeOf, typeInfo, run_program, hinf]
  rfl
theorem x_cutH {t e : TypeId} {x hi : Operand} {a : Option Addr} {n c sz h : Nat} {q : IntKind} {hi' : Int} (ht : elemT P t = some (e, sz)) (hx : ρ x = .slice a n c) (hh : ρ hi = .int q hi')
    (hhi : hi' = h) (h0 : h ≤ c) : (exOp ρ (.slice t x none (some hi) none) ty).run P w = .ok (.value (.slice (cutA a c 0 sz) h c)) w := by
  obtain ⟨hu, inf, hinf, rfl⟩ := elemT_spec ht
  subst hhi
  simp only [exOp, execOp, hx, hh, Option.map_some, Option.map_none, Instr.sliceAt, Instr.slice, Instr.sliceBounds, Sem.run_bind, run_underlying hu, Result.andThen_ok, Sem.run_pure, if_true, run_bound _ h0,
    sizeOf, typeInfo, run_program, hinf]
  rfl
end

section
variable {P : Program} {ops : Array Oper} {C : World → Prop} {Q : Fr → World → Prop} {r : List (Nat × Md)} {ρ : Fr} {w : World} {i : Nat}
  {d : Option Tmp} {ty : TypeId} {g : Option (Nat × Bool)} {α : Type} {enc : α → List Value} {sz : Nat}

/-- make([]T, n): so many zeros. -/
theorem wk_make {t e : TypeId} {by_ n : Nat} {x y : Operand} {k q : IntKind} {a b : Int} (z0 : α) (ho : opD ops i = some (d, .makeSlice t x y, ty, g)) (hw : wantedG ops ρ g = true) (ht : appT P t = some (e, sz, by_))
    (hx : ρ.ev x = .int k a) (hy : ρ.ev y = .int q b) (ha : a = n) (hb : b = n) (hlim : by_ * n ≤ 281474976710656 ∧ n ≤ 9223372036854775807) (hz : ∀ x, (enc x).length = sz) (hz0 : zeroOf P e = some (enc z0).toArray)
    (h : ∀ w' b, b = w.heap.size → Ext [] w w' → w'.heap.size = b + 1 → OwnE w' e sz b n enc (List.replicate n z0) [] → C w' ∧ wk P ops C Q r (updO ρ d (.slice (some ⟨b, 0, none⟩) n n)) w') :
    wk P ops C Q ((i, .loud) :: r) ρ w := by
  obtain ⟨hu, inf, z, hi, hzv, rfl, rfl⟩ := appT_spec ht
  subst ha; subst hb
  have hzc : z.cells = (enc z0).toArray := by
    have := hz0
    simp only [zeroOf, hi, hzv, Option.map_some, Option.some.injEq] at this
    exact this
  have hw1 : IntKind.i64.wrap (n : Int) = (n : Int) := i64_id ⟨by omega, by omega⟩
  have hcells : ((Array.range (n * inf.size)).map fun j => z.cells[j % z.cells.size]!) = (flat enc (List.replicate n z0)).toArray := by
    have hsz : z.cells.size = inf.size := by rw [hzc, List.size_toArray, hz]
    apply Array.ext
    · simp [flat_len hz]
    · intro j h1 h2
      simp only [Array.size_map, Array.size_range] at h1
      have hpos : 0 < inf.size := Nat.pos_of_ne_zero fun h0 => by rw [h0] at h1; simp at h1
      have hk : j / inf.size < n := by rw [Nat.div_lt_iff_lt_mul hpos]; exact h1
      have hf : j % inf.size < inf.size := Nat.mod_lt _ hpos
      have hg := flat_get hz z0 (List.replicate n z0) (j / inf.size) (j % inf.size) (by simpa using hk) hf
      have hj : j / inf.size * inf.size + j % inf.size = j := by rw [Nat.mul_comm]; exact Nat.div_add_mod j inf.size
      rw [hj] at hg
      have hgd : (List.replicate n z0).getD (j / inf.size) z0 = z0 := by simp [List.getD, hk]
      rw [hgd] at hg
      have hlen : (flat enc (List.replicate n z0)).length = n * inf.size := by rw [flat_len hz]; simp
      rw [List.getElem?_eq_getElem (by rw [hlen]; exact h1)] at hg
      simp only [Array.getElem_map, Array.getElem_range, List.getElem_toArray, hsz]
      have hzl : j % inf.size < (enc z0).length := by rw [hz]; exact hf
      rw [List.getElem?_eq_getElem hzl] at hg
      simp only [hzc]
      rw [getElem!_pos _ _ (by simpa using hzl)]
      simpa using (Option.some.inj hg).symm
  have hk := h { w with heap := w.heap.push (.cells (flat enc (List.replicate n z0)).toArray e (0, 0)) } w.heap.size rfl (Ext.alloc w _) (alloc_size w _)
    ⟨by rw [alloc_new]; simp, flat_len hz _, by simp [flat_len hz], by simp, by simp only [maxLen]; omega⟩
  refine wk_val ho hw _ ?_ hk.1 hk.2
  have h1 : ¬ (n : Int) < 0 := by omega
  have h2 : ¬ ((inf.bytes : Int) * (n : Int) > 2 ^ 48) := by
    have : ((inf.bytes * n : Nat) : Int) ≤ 281474976710656 := by omega
    rw [Int.natCast_mul] at this
    omega
  have h3 : ¬ (n : Int) > (n : Int) := by omega
  by_cases h0 : n * inf.size = 0
  · have hcells0 : ((Array.range (n * inf.size)).map fun j => (#[] : Array Value)[j % (#[] : Array Value).size]!) = (flat enc (List.replicate n z0)).toArray := by
      rw [← hcells, h0]; simp
    simp only [exOp, execOp, hx, hy, Instr.makeSlice, Sem.run_bind, run_underlying hu, asInt, asIntOf, Sem.run_pure, Result.andThen_ok, typeInfo, run_program, hi, hw1, h1, h2, h3, decide_false, Bool.or_false, Bool.false_or, Bool.or_self, Bool.false_eq_true, if_false,
      run_askRoom, sizeOf, Int.toNat_natCast, h0, if_true, newRow, run_newObj]
    rw [h0] at hcells0
    rw [hcells0]
  · simp only [exOp, execOp, hx, hy, Instr.makeSlice, Sem.run_bind, run_underlying hu, asInt, asIntOf, Sem.run_pure, Result.andThen_ok, typeInfo, run_program, hi, hw1, h1, h2, h3, decide_false, Bool.or_false, Bool.false_or, Bool.or_self, Bool.false_eq_true, if_false,
      run_askRoom, sizeOf, Int.toNat_natCast, h0, zeroValue, hzv, newRow, run_newObj]
    rw [hcells]
end
end Go.Wk
