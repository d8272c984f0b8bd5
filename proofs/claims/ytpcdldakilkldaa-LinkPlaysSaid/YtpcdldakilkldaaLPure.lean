/-
  Links as plain data: what waits its turn.
-/
import Derived.Test.YtpcdldakilkldaaLDefs
set_option linter.unusedVariables false
namespace Go.Proofs.Ytpcdldakilkldaa
open Go Go.Wk
instance : Inhabited Msg := ⟨M0.abs⟩
def idxOf (L : List Msg) (n : Int) : Option Nat := L.findIdx? (fun m => m.seq == n)
def readyG : Nat → List Msg → List Msg → Int → List Msg × List Msg × Int
  | 0, acc, h, n => (acc, h, n)
  | f + 1, acc, h, n => match idxOf h n with
    | none => (acc, h, n)
    | some i => readyG f (acc ++ [h.getD i default]) (h.eraseIdx i) ((n + 1) % 4294967296)
theorem abs_getD (L : List MsgR) (k : Nat) : (L.map MsgR.abs).getD k default = (L.getD k M0).abs := by
  simp only [List.getD_eq_getElem?_getD, List.getElem?_map]
  cases L[k]? <;> rfl
theorem idx_some {L : List MsgR} {n : Int} {k : Nat} (hk : k < L.length) (he : (L.getD k M0).seq = n) (hn : ∀ j, j < k → (L.getD j M0).seq ≠ n) : idxOf (L.map MsgR.abs) n = some k := by
  unfold idxOf
  rw [List.findIdx?_eq_some_iff_getElem]
  refine ⟨by simpa using hk, ?_, fun j hj => ?_⟩
  · have : (L.getD k M0) = L[k] := by simp [List.getD, hk]
    rw [this] at he
    simp [MsgR.abs, he]
  · have h1 := hn j hj
    have : (L.getD j M0) = L[j] := by simp [List.getD, show j < L.length by omega]
    rw [this] at h1
    simpa [MsgR.abs] using h1
theorem idx_none {L : List MsgR} {n : Int} (hn : ∀ j, j < L.length → (L.getD j M0).seq ≠ n) : idxOf (L.map MsgR.abs) n = none := by
  unfold idxOf
  rw [List.findIdx?_eq_none_iff]
  intro x hx
  obtain ⟨m, hm, rfl⟩ := List.mem_map.1 hx
  obtain ⟨j, hj, rfl⟩ := List.getElem_of_mem hm
  have h1 := hn j hj
  have : (L.getD j M0) = L[j] := by simp [List.getD, hj]
  rw [this] at h1
  simpa [MsgR.abs] using h1
theorem map_eraseIdx' {α β : Type} (f : α → β) (L : List α) (i : Nat) : (L.eraseIdx i).map f = (L.map f).eraseIdx i := by
  rw [List.eraseIdx_eq_take_drop_succ, List.eraseIdx_eq_take_drop_succ, List.map_append, List.map_take, List.map_drop]
theorem mem_eraseIdx' {α : Type} {L : List α} {i : Nat} {x : α} (h : x ∈ L.eraseIdx i) : x ∈ L := List.mem_of_mem_eraseIdx h
/-! ### What is due -/
def due (now : Int) (x : SndR) : Bool := !(x.sent && decide (now - x.at_ < 8))
def fire (now : Int) (x : SndR) : SndR := if due now x then ⟨x.m, true, now⟩ else x
def tickO (now : Int) (L : List SndR) (i : Nat) : List SndR := (L.take i).map (fire now) ++ L.drop i
def tickD (now : Int) (L : List SndR) (i : Nat) : List SndR := (L.take i).filter (due now)
def tickT (t : Int) (L : List SndR) : Int := L.foldl (fun t x => max t x.m.seq) t
theorem take_succ' {L : List SndR} {i : Nat} (h : i < L.length) : L.take (i + 1) = L.take i ++ [L.getD i S0] := by
  rw [List.take_succ_eq_append_getElem h]; simp [List.getD, h]
theorem drop_cons' {L : List SndR} {i : Nat} (h : i < L.length) : L.drop i = L.getD i S0 :: L.drop (i + 1) := by
  rw [List.drop_eq_getElem_cons h]; simp [List.getD, h]
theorem tickO_len (now : Int) (L : List SndR) (i : Nat) : (tickO now L i).length = L.length := by
  simp [tickO]; omega
theorem tickO_at {now : Int} {L : List SndR} {i : Nat} (h : i < L.length) : (tickO now L i).getD i S0 = L.getD i S0 := by
  unfold tickO
  have hl : ((L.take i).map (fire now)).length = i := by simp; omega
  rw [List.getD_eq_getElem?_getD, List.getElem?_append_right (by omega), hl, Nat.sub_self, drop_cons' h]
  rfl
theorem tickO_skip {now : Int} {L : List SndR} {i : Nat} (h : i < L.length) (hd : due now (L.getD i S0) = false) : tickO now L (i + 1) = tickO now L i := by
  unfold tickO
  rw [take_succ' h, drop_cons' h, List.map_append, List.append_assoc]
  congr 1
  generalize L.getD i S0 = x at *
  simp [fire, hd]
theorem tickO_fire {now : Int} {L : List SndR} {i : Nat} (h : i < L.length) (hd : due now (L.getD i S0) = true) : tickO now L (i + 1) = (tickO now L i).set i ⟨(L.getD i S0).m, true, now⟩ := by
  unfold tickO
  have hl : ((L.take i).map (fire now)).length = i := by simp; omega
  rw [take_succ' h, drop_cons' h, List.map_append, List.append_assoc, List.set_append_right _ _ (by omega), hl, Nat.sub_self]
  congr 1
  generalize L.getD i S0 = x at *
  simp [fire, hd]
theorem tickD_skip {now : Int} {L : List SndR} {i : Nat} (h : i < L.length) (hd : due now (L.getD i S0) = false) : tickD now L (i + 1) = tickD now L i := by
  unfold tickD; rw [take_succ' h, List.filter_append]; generalize L.getD i S0 = x at *; simp [hd]
theorem tickD_fire {now : Int} {L : List SndR} {i : Nat} (h : i < L.length) (hd : due now (L.getD i S0) = true) : tickD now L (i + 1) = tickD now L i ++ [L.getD i S0] := by
  unfold tickD; rw [take_succ' h, List.filter_append]; generalize L.getD i S0 = x at *; simp [hd]
theorem tickT_add (t : Int) (L : List SndR) (x : SndR) : tickT t (L ++ [x]) = max (tickT t L) x.m.seq := by simp [tickT]
theorem tickO_map (now : Int) (L : List SndR) (i : Nat) : (tickO now L i).map (·.m) = L.map (·.m) := by
  unfold tickO
  conv => rhs; rw [← List.take_append_drop i L]
  rw [List.map_append, List.map_append, List.map_map]
  congr 1
  refine List.map_congr_left fun x _ => ?_
  simp only [Function.comp, fire]
  split <;> rfl
/-! ### What is acknowledged goes -/
def keepS (n0 : Int) (x : SndR) : Bool := !decide (x.m.seq ≤ n0)
theorem filt_all {n0 : Int} {L : List SndR} (k : Nat) (hk : k ≤ L.length) (hn : ∀ j, j < k → ¬ (L.getD j S0).m.seq ≤ n0) : (L.take k).filter (keepS n0) = L.take k := by
  rw [List.filter_eq_self]
  intro x hx
  obtain ⟨j, hj, rfl⟩ := List.getElem_of_mem hx
  have hj' : j < k := by rw [List.length_take] at hj; omega
  have := hn j hj'
  have e : L.getD j S0 = (L.take k)[j] := by simp [List.getD, show j < L.length by omega]
  rw [e] at this
  simp only [keepS, Bool.not_eq_true', decide_eq_false_iff_not]
  exact this
theorem filt_init {n0 : Int} {L : List SndR} {k : Nat} (hk : k < L.length) (hp : (L.getD k S0).m.seq ≤ n0) (hn : ∀ j, j < k → ¬ (L.getD j S0).m.seq ≤ n0) : L.take k = (L.take (k + 1)).filter (keepS n0) := by
  rw [take_succ' hk, List.filter_append, filt_all k (by omega) hn]
  have : keepS n0 (L.getD k S0) = false := by simp only [keepS, Bool.not_eq_false', decide_eq_true_eq]; exact hp
  rw [List.filter_cons_of_neg (by rw [this]; simp), List.filter_nil, List.append_nil]
theorem filt_yes {n0 : Int} {L : List SndR} {j : Nat} (h : j < L.length) (hk : ¬ (L.getD j S0).m.seq ≤ n0) : (L.take (j + 1)).filter (keepS n0) = (L.take j).filter (keepS n0) ++ [L.getD j S0] := by
  rw [take_succ' h, List.filter_append, List.filter_cons_of_pos (by simp only [keepS, Bool.not_eq_true', decide_eq_false_iff_not]; exact hk), List.filter_nil]
theorem filt_no {n0 : Int} {L : List SndR} {j : Nat} (h : j < L.length) (hk : (L.getD j S0).m.seq ≤ n0) : (L.take (j + 1)).filter (keepS n0) = (L.take j).filter (keepS n0) := by
  rw [take_succ' h, List.filter_append, List.filter_cons_of_neg (by simp only [keepS, Bool.not_eq_true', decide_eq_false_iff_not]; exact fun h => h hk), List.filter_nil, List.append_nil]
theorem take_set' {L : List SndR} {i : Nat} {x : SndR} (h : i < L.length) : (L.set i x).take (i + 1) = L.take i ++ [x] := by
  rw [take_succ' (by rw [List.length_set]; exact h), getD_set h, if_pos rfl]
  congr 1
  rw [List.take_set_of_le (Nat.le_refl _)]
end Go.Proofs.Ytpcdldakilkldaa
