/-
  What slices.Delete and slices.DeleteFunc leave of an array.
-/
import Derived.Test.YtpcdldakilkldaaK21
namespace Go.Wk
open Go
section
variable {α : Type} {enc : α → List Value} {sz : Nat}
theorem cutA_zero (a : Option Addr) (c sz : Nat) : cutA a c 0 sz = a := by
  unfold cutA
  split
  · rfl
  · cases a with
    | none => rfl
    | some x => simp [Addr.add]
theorem x_cutH0 {P : Program} {ρ : Operand → Value} {ty : TypeId} {w : World} {t e : TypeId} {x hi : Operand} {a : Option Addr} {n c sz h : Nat} {q : IntKind} {hi' : Int} (ht : elemT P t = some (e, sz)) (hx : ρ x = .slice a n c) (hh : ρ hi = .int q hi')
    (hhi : hi' = h) (h0 : h ≤ c) : (exOp ρ (.slice t x none (some hi) none) ty).run P w = .ok (.value (.slice a h c)) w := by
  have := x_cutH (ty := ty) (w := w) ht hx hh hhi h0
  rw [cutA_zero] at this
  exact this
theorem y_boolv {P : Program} {ρ : Operand → Value} {op : Op} {ty : TypeId} {w : World} {b t : Bool} (h : (exOp ρ op ty).run P w = .ok (.value (.bool b)) w) (e : b = t) : (exOp ρ op ty).run P w = .ok (.value (.bool t)) w := e ▸ h
theorem flat_split (hz : ∀ x, (enc x).length = sz) (L : List α) (i : Nat) (hi : i < L.length) : flat enc L = flat enc (L.take i) ++ enc L[i] ++ flat enc (L.drop (i + 1)) := by
  have e : L = L.take i ++ [L[i]] ++ L.drop (i + 1) := by
    rw [List.append_assoc, List.singleton_append, List.getElem_cons_drop, List.take_append_drop]
  conv => lhs; rw [e]
  rw [flat_append, flat_append, flat_single]
theorem del_cells (hz : ∀ x, (enc x).length = sz) (L : List α) (rest zs : List Value) (i : Nat) (hi : i < L.length) (hzs : zs.length = sz) :
    (((flat enc L ++ rest).take (0 + i * sz) ++ flat enc (L.drop (i + 1)) ++ (flat enc L ++ rest).drop (0 + i * sz + (flat enc (L.drop (i + 1))).length)).take ((L.length - 1) * sz) ++ (List.replicate 1 zs).flatten ++
      ((flat enc L ++ rest).take (0 + i * sz) ++ flat enc (L.drop (i + 1)) ++ (flat enc L ++ rest).drop (0 + i * sz + (flat enc (L.drop (i + 1))).length)).drop ((L.length - 1) * sz + 1 * sz)) = flat enc (L.eraseIdx i) ++ (zs ++ rest) := by
  have hA : (flat enc (L.take i)).length = i * sz := by rw [flat_len hz, List.length_take, Nat.min_eq_left (by omega)]
  have hB : (flat enc (L.drop (i + 1))).length = (L.length - (i + 1)) * sz := by rw [flat_len hz, List.length_drop]
  have hE : (enc L[i]).length = sz := hz _
  have hn : (L.length - 1) * sz = i * sz + (L.length - (i + 1)) * sz := by rw [← Nat.add_mul]; congr 1; omega
  rw [flat_split hz L i hi, List.eraseIdx_eq_take_drop_succ, flat_append]
  generalize flat enc (L.take i) = A at *
  generalize flat enc (L.drop (i + 1)) = B at *
  generalize enc L[i] = E at *
  have e1 : (A ++ E ++ B ++ rest).take (0 + i * sz) = A := by
    rw [Nat.zero_add, ← hA, List.append_assoc, List.append_assoc, List.take_left']
    rfl
  have e2 : (A ++ E ++ B ++ rest).drop (0 + i * sz + B.length) = (E ++ B ++ rest).drop B.length := by
    rw [Nat.zero_add, ← hA, List.append_assoc, List.append_assoc, List.drop_append]
    rw [List.drop_eq_nil_of_le (by omega), List.nil_append]
    congr 1
    · omega
    · simp [List.append_assoc]
  rw [e1, e2]
  have e3 : (A ++ B ++ (E ++ B ++ rest).drop B.length).take ((L.length - 1) * sz) = A ++ B := by
    rw [List.take_append_of_le_length (by rw [List.length_append]; omega), List.take_of_length_le (by rw [List.length_append]; omega)]
  have e4 : (A ++ B ++ (E ++ B ++ rest).drop B.length).drop ((L.length - 1) * sz + 1 * sz) = rest := by
    rw [List.drop_append, List.drop_eq_nil_of_le (by rw [List.length_append]; omega), List.nil_append, List.drop_drop, List.length_append]
    have : B.length + ((L.length - 1) * sz + 1 * sz - (A.length + B.length)) = (E ++ B).length := by rw [List.length_append]; omega
    rw [this, List.drop_left']
    rfl
  rw [e3, e4]
  simp
theorem OwnE.delete {w w1 : World} {e : TypeId} {g cap : Nat} {L : List α} {rest zs : List Value} (h : OwnE w e sz g cap enc L rest) (hz : ∀ x, (enc x).length = sz) {i : Nat} (hi : i < L.length) (hzs : zs.length = sz)
    (hb : w1.heap[g]? = some (.cells (flat enc (L.eraseIdx i) ++ (zs ++ rest)).toArray e (0, 0))) : OwnE w1 e sz g cap enc (L.eraseIdx i) (zs ++ rest) := by
  have h1 := h.fit
  have h2 := h.len
  have hl : (L.eraseIdx i).length = L.length - 1 := List.length_eraseIdx_of_lt hi
  refine ⟨hb, flat_len hz _, ?_, by have := h.le; omega, h.max⟩
  rw [flat_len hz, hl, List.length_append, hzs]
  rw [flat_len hz] at h1
  have e : L.length * sz = (L.length - 1) * sz + sz := by
    obtain ⟨n, hn⟩ : ∃ n, L.length = n + 1 := ⟨L.length - 1, by omega⟩
    rw [hn, Nat.add_sub_cancel, Nat.add_mul, Nat.one_mul]
  omega
theorem OwnE.clear {w w1 : World} {e : TypeId} {g cap i : Nat} {L : List α} {rest zs : List Value} (h : OwnE w e sz g cap enc L rest) (hz : ∀ x, (enc x).length = sz) (hi : i ≤ L.length) (hzs : zs.length = sz)
    (hb : w1.heap[g]? = some (.cells ((flat enc L ++ rest).take (i * sz) ++ (List.replicate (L.length - i) zs).flatten ++ (flat enc L ++ rest).drop (i * sz + (L.length - i) * sz)).toArray e (0, 0))) :
    OwnE w1 e sz g cap enc (L.take i) ((List.replicate (L.length - i) zs).flatten ++ rest) := by
  have h1 := h.fit
  have hl : (L.take i).length = i := by rw [List.length_take]; omega
  have hr : ((List.replicate (L.length - i) zs).flatten).length = (L.length - i) * sz := by rw [List.length_flatten, List.map_replicate, List.sum_replicate_nat, hzs]
  have hn : i * sz + (L.length - i) * sz = L.length * sz := by rw [← Nat.add_mul]; congr 1; omega
  have e1 : (flat enc L ++ rest).take (i * sz) = flat enc (L.take i) := by
    rw [List.take_append_of_le_length (by rw [flat_len hz]; exact Nat.mul_le_mul_right _ hi), flat_take hz]
  have e2 : (flat enc L ++ rest).drop (i * sz + (L.length - i) * sz) = rest := by
    rw [hn, ← flat_len hz L, List.drop_left']; rfl
  rw [e1, e2] at hb
  refine ⟨by simpa [List.append_assoc] using hb, flat_len hz _, ?_, by rw [hl]; have := h.le; omega, h.max⟩
  rw [flat_len hz, hl, List.length_append, hr]
  rw [flat_len hz] at h1
  omega
end
end Go.Wk
