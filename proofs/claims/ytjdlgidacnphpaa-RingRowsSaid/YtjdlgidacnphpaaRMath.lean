/-
  What a ring's places hold after so many parts taken: plain law, no program in sight.
-/
import Derived.Test.YtjdlgidacnphpaaRE
set_option linter.unusedVariables false
namespace Go.Proofs.Ytjdlgidacnphpaa

theorem md {x n : Nat} (h : x < 3 * n) : x % n = if x < n then x else if x < 2 * n then x - n else x - 2 * n := by
  split
  · exact Nat.mod_eq_of_lt ‹_›
  · split
    · rw [Nat.mod_eq_sub_mod (by omega), Nat.mod_eq_of_lt (by omega)]
    · rw [Nat.mod_eq_sub_mod (by omega), Nat.mod_eq_sub_mod (by omega), Nat.mod_eq_of_lt (by omega)]; omega

def Ps (own : Nat → Nat → Int) (n : Nat) : Nat → Nat → Nat → Int
  | 0, c, i => own c i
  | k + 1, c, i => wrap128 (own ((c + k + 1) % n) i + Ps own n k c i)

def dist (n p c : Nat) : Nat := (p + n - c) % n
def valC (own : Nat → Nat → Int) (n p g c i : Nat) : Int :=
  if g < n - 1 ∧ g < dist n p c then own p i else if dist n p c < g - (n - 1) then Ps own n (n - 1) c i else Ps own n (dist n p c) c i
def partC (own : Nat → Nat → Int) (n k c i : Nat) : Int := if k < n - 1 then Ps own n k c i else Ps own n (n - 1) c i

def IsVal (own : Nat → Nat → Int) (len n p g : Nat) (L : List Int) : Prop :=
  L.length = len ∧ ∀ c, c < n → ∀ i, cFrom len n c ≤ i → i < cTo len n c → L.getD i 0 = valC own n p g c i

theorem dist_lt {n p c : Nat} (h : 0 < n) : dist n p c < n := Nat.mod_lt _ h
theorem dist_inj {n p c c' : Nat} (hp : p < n) (hc : c < n) (hc' : c' < n) (h : dist n p c = dist n p c') : c = c' := by
  unfold dist at h
  rw [md (by omega), md (by omega)] at h
  split at h <;> split at h <;> (try split at h) <;> (try split at h) <;> omega

theorem sends_dist1 {n p k : Nat} (h2 : 2 ≤ n) (hp : p < n) (hk : k < n - 1) : dist n p (sendsN p n k) = k := by
  unfold dist sendsN
  rw [if_pos hk, md (x := p + n - k) (by omega)]
  split <;> (try split) <;> rw [md (by omega)] <;> split <;> (try split) <;> omega
theorem sends_dist2 {n p k : Nat} (h2 : 2 ≤ n) (hp : p < n) (hk : ¬ k < n - 1) (hk2 : k ≤ 2 * n - 3) : dist n p (sendsN p n k) = if k = n - 1 then n - 1 else k - (n - 1) - 1 := by
  unfold dist sendsN
  rw [if_neg hk, md (x := p + 1 + n - (k - (n - 1))) (by omega)]
  by_cases h1 : k = n - 1
  · rw [if_pos h1]
    split <;> (try split) <;> rw [md (by omega)] <;> split <;> (try split) <;> omega
  · rw [if_neg h1]
    split <;> (try split) <;> rw [md (by omega)] <;> split <;> (try split) <;> omega
/-- What is taken by q is what the place before sends. -/
theorem pred_eq {n q : Nat} (h2 : 2 ≤ n) (hq : q < n) : (q + n - 1) % n = if q = 0 then n - 1 else q - 1 := by
  rw [md (by omega)]
  split <;> (try split) <;> (try split) <;> omega
theorem takes_dist {n q k : Nat} (h2 : 2 ≤ n) (hq : q < n) (hk : k ≤ 2 * n - 3) : dist n q (sendsN ((q + n - 1) % n) n k) = if k < n - 1 then k + 1 else k - (n - 1) := by
  rw [pred_eq h2 hq]
  generalize hp : (if q = 0 then n - 1 else q - 1) = p
  have hpn : p < n := by split at hp <;> omega
  unfold dist sendsN
  by_cases h1 : k < n - 1
  · rw [if_pos h1, if_pos h1, md (x := p + n - k) (by omega)]
    split at hp <;> split <;> (try split) <;> rw [md (by omega)] <;> split <;> (try split) <;> omega
  · rw [if_neg h1, if_neg h1, md (x := p + 1 + n - (k - (n - 1))) (by omega)]
    split at hp <;> split <;> (try split) <;> rw [md (by omega)] <;> split <;> (try split) <;> omega
theorem dist_back {n p c : Nat} (hp : p < n) (hc : c < n) : (c + dist n p c) % n = p := by
  unfold dist
  rw [md (x := p + n - c) (by omega)]
  split <;> (try split) <;> rw [md (by omega)] <;> split <;> (try split) <;> omega

theorem mixL_getD {L W : List Int} {fr : Nat} {add : Bool} : ∀ (k : Nat), fr + k ≤ L.length → ∀ i, (mixL L W fr add k).getD i 0 =
    if fr ≤ i ∧ i < fr + k then (if add then wrap128 (L.getD i 0 + W.getD (i - fr) 0) else W.getD (i - fr) 0) else L.getD i 0
  | 0, _, i => by rw [if_neg (by omega)]; rfl
  | k + 1, h, i => by
    have ih := mixL_getD (L := L) (W := W) (fr := fr) (add := add) k (by omega)
    have hl := mixL_len L W fr add k
    simp only [mixL]
    rw [List.getD_eq_getElem?_getD, List.getElem?_set]
    by_cases hi : fr + k = i
    · subst hi
      rw [if_pos rfl, if_pos (show fr + k < (mixL L W fr add k).length by omega), if_pos (show fr ≤ fr + k ∧ fr + k < fr + (k + 1) by omega), Option.getD_some, ih, if_neg (show ¬ (fr ≤ fr + k ∧ fr + k < fr + k) by omega), show fr + k - fr = k by omega]
    · rw [if_neg hi, ← List.getD_eq_getElem?_getD, ih]
      by_cases h2 : fr ≤ i ∧ i < fr + k
      · rw [if_pos h2, if_pos (show fr ≤ i ∧ i < fr + (k + 1) by omega)]
      · rw [if_neg h2, if_neg (show ¬ (fr ≤ i ∧ i < fr + (k + 1)) by omega)]

theorem chunk_apart {len n c c' i : Nat} (hc : c < n) (hc' : c' < n) (h1 : cFrom len n c ≤ i) (h2 : i < cTo len n c) (h3 : cFrom len n c' ≤ i) (h4 : i < cTo len n c') : c = c' := by
  rw [cFrom_eq hc] at h1; rw [cTo_eq hc] at h2; rw [cFrom_eq hc'] at h3; rw [cTo_eq hc'] at h4
  have mono : ∀ a b, a ≤ b → cst len n a ≤ cst len n b := fun a b hab => by
    induction hab with
    | refl => exact Nat.le_refl _
    | step _ ih => exact Nat.le_trans ih cst_mono
  rcases Nat.lt_trichotomy c c' with h | h | h
  · have := mono (c + 1) c' h; omega
  · exact h
  · have := mono (c' + 1) c h; omega

/-- A part taken. -/
theorem IsVal.take {own : Nat → Nat → Int} {len n p g : Nat} {L W : List Int} (hv : IsVal own len n p g L) (h2 : 2 ≤ n) (hp : p < n) (hg : g ≤ 2 * n - 3)
    (hW : W.length + cFrom len n (sendsN ((p + n - 1) % n) n g) = cTo len n (sendsN ((p + n - 1) % n) n g))
    (hpart : ∀ j, j < W.length → W.getD j 0 = partC own n g (sendsN ((p + n - 1) % n) n g) (cFrom len n (sendsN ((p + n - 1) % n) n g) + j)) :
    IsVal own len n p (g + 1) (mixL L W (cFrom len n (sendsN ((p + n - 1) % n) n g)) (addsN n g) W.length) := by
  obtain ⟨hl, hv⟩ := hv
  have hd := takes_dist h2 hp hg
  have hcn : sendsN ((p + n - 1) % n) n g < n := sendsN_lt (by omega)
  generalize sendsN ((p + n - 1) % n) n g = c at *
  have hcb := cBounds (len := len) hcn
  refine ⟨by rw [mixL_len, hl], fun c' hc' i h3 h4 => ?_⟩
  rw [mixL_getD _ (by omega)]
  by_cases hc : c' = c
  · subst hc
    rw [if_pos (by omega), hpart (i - cFrom len n c') (by omega), show cFrom len n c' + (i - cFrom len n c') = i by omega]
    have hold := hv c' hcn i h3 h4
    rw [hold]
    have hb := dist_back hp hcn
    unfold valC addsN partC
    rw [hd] at hb ⊢
    by_cases h1 : g < n - 1
    · rw [if_pos h1] at hb ⊢
      rw [if_pos (by simpa using h1), if_pos h1, if_pos (by omega), if_neg (by omega), if_neg (by omega)]
      show _ = wrap128 (own ((c' + g + 1) % n) i + _)
      rw [show c' + g + 1 = c' + (g + 1) by omega, hb]
    · rw [if_neg h1] at hb ⊢
      rw [if_neg (by simpa using h1), if_neg h1, if_neg (by omega), if_pos (by omega)]
  · rw [if_neg (fun hx => hc (chunk_apart hc' hcn h3 h4 (by omega) (by omega))), hv c' hc' i h3 h4]
    have hne : dist n p c' ≠ dist n p c := fun e => hc (dist_inj hp hc' hcn e)
    rw [hd] at hne
    have hlt := dist_lt (n := n) (p := p) (c := c') (by omega)
    unfold valC
    generalize dist n p c' = d at *
    by_cases h1 : g < n - 1
    · rw [if_pos h1] at hne
      by_cases h5 : g < d
      · by_cases h6 : g + 1 < n - 1
        · rw [if_pos ⟨h1, h5⟩, if_pos (by omega)]
        · omega
      · rw [if_neg (by omega), if_neg (by omega), if_neg (by omega), if_neg (by omega)]
    · rw [if_neg h1] at hne
      by_cases h5 : d < g - (n - 1)
      · rw [if_neg (by omega), if_pos h5, if_neg (by omega), if_pos (by omega)]
      · rw [if_neg (by omega), if_neg h5, if_neg (by omega), if_neg (by omega)]

theorem cut_getD {L : List Int} {a b j : Nat} (hj : j < b) : ((L.drop a).take b).getD j 0 = L.getD (a + j) 0 := by
  simp only [List.getD_eq_getElem?_getD, List.getElem?_take, List.getElem?_drop, if_pos hj]

/-- A part sent. -/
theorem IsVal.send {own : Nat → Nat → Int} {len n p g o : Nat} {L : List Int} (hv : IsVal own len n p g L) (h2 : 2 ≤ n) (hp : p < n) (ho : o ≤ 2 * n - 3) (hg : g = o ∨ g = o + 1) :
    ∀ j, j < cTo len n (sendsN p n o) - cFrom len n (sendsN p n o) → L.getD (cFrom len n (sendsN p n o) + j) 0 = partC own n o (sendsN p n o) (cFrom len n (sendsN p n o) + j) := by
  intro j hj
  have hcn : sendsN p n o < n := sendsN_lt (by omega)
  rw [hv.2 _ hcn _ (by omega) (by omega)]
  unfold valC partC
  by_cases h1 : o < n - 1
  · rw [sends_dist1 h2 hp h1, if_neg (by omega), if_neg (by omega), if_pos h1]
  · have hd := sends_dist2 h2 hp h1 ho
    rw [if_neg h1, hd]
    by_cases h3 : o = n - 1
    · rw [if_pos h3, if_neg (by omega), if_neg (by omega)]
    · rw [if_neg h3, if_neg (by omega), if_pos (by omega)]

theorem IsVal.init {own : Nat → Nat → Int} {n p : Nat} {L : List Int} (hn : 1 ≤ n) (hp : p < n) (h : ∀ i, i < L.length → L.getD i 0 = own p i) : IsVal own L.length n p 0 L := by
  refine ⟨rfl, fun c hc i h1 h2 => ?_⟩
  have hcb := cBounds (len := L.length) hc
  rw [h i (by omega)]
  unfold valC
  by_cases hd : dist n p c = 0
  · have := dist_back hp hc
    rw [hd, Nat.add_zero, Nat.mod_eq_of_lt hc] at this
    subst this
    rw [if_neg (by omega), if_neg (by omega), hd]
    rfl
  · have := dist_lt (n := n) (p := p) (c := c) (by omega)
    rw [if_pos (by omega)]

theorem IsVal.last {own : Nat → Nat → Int} {len n p : Nat} {L : List Int} (hv : IsVal own len n p (2 * n - 2) L) (h2 : 2 ≤ n) : L.length = len ∧ ∀ c, c < n → ∀ i, cFrom len n c ≤ i → i < cTo len n c → L.getD i 0 = Ps own n (n - 1) c i := by
  refine ⟨hv.1, fun c hc i h3 h4 => ?_⟩
  rw [hv.2 c hc i h3 h4]
  have hlt := dist_lt (n := n) (p := p) (c := c) (by omega)
  unfold valC
  rw [if_neg (by omega)]
  by_cases h : dist n p c < 2 * n - 2 - (n - 1)
  · rw [if_pos h]
  · rw [if_neg h, show dist n p c = n - 1 by omega]

/-! ### Sums -/
def sumTo (f : Nat → Int) : Nat → Int
  | 0 => 0
  | k + 1 => sumTo f k + f k
theorem wrap_add (a b : Int) : wrap128 (a + wrap128 b) = wrap128 (a + b) := by unfold wrap128; omega
theorem wrap_in {a : Int} (h : InW a) : wrap128 a = a := by unfold wrap128 InW at *; omega
theorem Ps_sum {own : Nat → Nat → Int} {n c i : Nat} (hc : c < n) (hin : ∀ p, InW (own p i)) : ∀ k, Ps own n k c i = wrap128 (sumTo (fun t => own ((c + t) % n) i) (k + 1))
  | 0 => by simp only [Ps, sumTo, Nat.add_zero, Nat.mod_eq_of_lt hc, Int.zero_add]; exact (wrap_in (hin c)).symm
  | k + 1 => by
    simp only [Ps]
    rw [Ps_sum hc hin k, wrap_add, Int.add_comm]
    rfl
theorem sumTo_front (f : Nat → Int) : ∀ n, sumTo f (n + 1) = f 0 + sumTo (fun t => f (t + 1)) n
  | 0 => by simp [sumTo]
  | n + 1 => by
    show sumTo f (n + 1) + f (n + 1) = f 0 + (sumTo (fun t => f (t + 1)) n + f (n + 1))
    rw [sumTo_front f n]; omega
theorem sumTo_congr {f g : Nat → Int} : ∀ {n}, (∀ t, t < n → f t = g t) → sumTo f n = sumTo g n
  | 0, _ => rfl
  | n + 1, h => by
    show sumTo f n + f n = sumTo g n + g n
    rw [sumTo_congr fun t ht => h t (by omega), h n (by omega)]
theorem sumTo_rot (f : Nat → Int) {n : Nat} (hn : 0 < n) : ∀ c, sumTo (fun t => f ((c + t) % n)) n = sumTo f n
  | 0 => sumTo_congr fun t ht => by rw [Nat.zero_add, Nat.mod_eq_of_lt ht]
  | c + 1 => by
    obtain ⟨m, rfl⟩ : ∃ m, n = m + 1 := ⟨n - 1, by omega⟩
    rw [← sumTo_rot f hn c, sumTo_front (fun t => f ((c + t) % (m + 1))) m]
    show sumTo (fun t => f ((c + 1 + t) % (m + 1))) m + f ((c + 1 + m) % (m + 1)) = _
    rw [show c + 1 + m = c + (m + 1) by omega, Nat.add_mod_right, Int.add_comm]
    congr 1
    exact sumTo_congr fun t _ => by rw [show c + 1 + t = c + (t + 1) by omega]
/-- At the end each place has the sum. -/
theorem IsVal.sum {own : Nat → Nat → Int} {len n p : Nat} {L : List Int} (hv : IsVal own len n p (2 * n - 2) L) (h2 : 2 ≤ n) (hin : ∀ p i, InW (own p i)) (i : Nat) (hi : i < len) (hcov : ∃ c, c < n ∧ cFrom len n c ≤ i ∧ i < cTo len n c) :
    L.getD i 0 = wrap128 (sumTo (fun t => own t i) n) := by
  obtain ⟨c, hc, h3, h4⟩ := hcov
  rw [(hv.last h2).2 c hc i h3 h4, Ps_sum hc (fun p => hin p i), show n - 1 + 1 = n by omega, sumTo_rot (fun t => own t i) (by omega) c]
theorem cover {len n i : Nat} (hn : 0 < n) (hi : i < len) : ∃ c, c < n ∧ cFrom len n c ≤ i ∧ i < cTo len n c := by
  have key : ∀ k, k ≤ n → i < cst len n k → ∃ c, c < k ∧ cst len n c ≤ i ∧ i < cst len n (c + 1) := by
    intro k
    induction k with
    | zero => intro _ h; rw [cst_zero] at h; omega
    | succ k ih =>
      intro hk h
      by_cases h2 : i < cst len n k
      · obtain ⟨c, h3, h4⟩ := ih (by omega) h2
        exact ⟨c, by omega, h4⟩
      · exact ⟨k, by omega, by omega, h⟩
  obtain ⟨c, h1, h2, h3⟩ := key n (Nat.le_refl _) (by rw [cst_end hn]; exact hi)
  exact ⟨c, h1, by rw [cFrom_eq h1]; exact h2, by rw [cTo_eq h1]; exact h3⟩
end Go.Proofs.Ytjdlgidacnphpaa
