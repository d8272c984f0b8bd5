/-
  Regions in which two loud operations may come in either order: the walk forks.
-/
import Derived.Test.YtpcdldakilkldaaK13
namespace Go.Wk
open Go
section
variable {P : Program} {ops : Array Oper} {md : Region.Mode} {C D : World → Prop}

inductive Pl where
  | nil
  | cons (i : Nat) (m : Md) (r : Pl)
  | two (i j : Nat) (p q : Pl)

def Pl.len : Pl → Nat
  | .nil => 0
  | .cons _ _ r => r.len + 1
  | .two _ _ p _ => p.len + 1

def wkP (P : Program) (ops : Array Oper) (C : World → Prop) (Q : Fr → World → Prop) : Pl → Fr → World → Prop
  | .nil, ρ, w => Q ρ w
  | .cons i m r, ρ, w => wk P ops C (fun ρ w => wkP P ops C Q r ρ w) [(i, m)] ρ w
  | .two i j p q, ρ, w => wk P ops C (fun ρ w => wkP P ops C Q p ρ w) [(i, .loud)] ρ w ∧ wk P ops C (fun ρ w => wkP P ops C Q q ρ w) [(j, .loud)] ρ w

def canonP (P : Program) (ops : Array Oper) : Pl → Array Bool → Bool
  | .nil, listed => (Region.ready .any ops listed).isEmpty
  | .cons i m r, listed => (match m with
      | .pure | .stab => (Region.ready .any ops listed).contains i && Region.free .any ops listed i
      | .read => (Region.ready .any ops listed).contains i && Region.free .any ops listed i && growFree P .any ops listed i
      | .loud => Region.ready .any ops listed == [i]) && canonP P ops r (listed.setIfInBounds i true)
  | .two i j p q, listed => Region.ready .any ops listed == [i, j] && p.len == q.len && canonP P ops p (listed.setIfInBounds i true) && canonP P ops q (listed.setIfInBounds j true)

theorem wk_one {Q : Fr → World → Prop} {i : Nat} {m : Md} {ρ : Fr} {w : World} (h : wk P ops C Q [(i, m)] ρ w) :
    ∃ o, ops[i]? = some o ∧ if Region.wanted o (yieldedF ops ρ) then step1 P C o m ρ w (fun v w' => Q (updO ρ o.dst v) w') else Q (updO ρ o.dst undef) w := h

theorem anyC_of_wkP {n : Nat} {Q : Fr → World → Prop} (hs : Region.noSelect ops = true) (hd : ∀ (i : Nat) (o : Oper), ops[i]? = some o → ∀ k, o.dst = some k → k < n) :
    ∀ (pl : Pl) (listed : Array Bool) (ρ : Fr) (a : Act) (w : World), canonP P ops pl listed = true → Rel n a ρ → C w → wkP P ops C Q pl ρ w →
      anyC P .any ops C (fun a w => ∃ ρ', Rel n a ρ' ∧ Q ρ' w) pl.len listed a w
  | .nil, listed, ρ, a, w, hc, ha, _, h => ⟨by simpa [canonP] using hc, ρ, ha, h⟩
  | .cons i m r, listed, ρ, a, w, hc, ha, hC, h' => by
    obtain ⟨o, hi, h⟩ := wk_one h'
    clear h'
    simp only [canonP, Bool.and_eq_true] at hc
    obtain ⟨hm, hc⟩ := hc
    have ih := fun (ρ' : Fr) (a' : Act) (w' : World) => anyC_of_wkP (Q := Q) hs hd r (listed.setIfInBounds i true) ρ' a' w' hc
    have hdi := hd i o hi
    have quiet : ∀ (D : World → Prop), D w → (Region.ready .any ops listed).contains i = true → Region.free .any ops listed i = true →
        (∀ j oj, ops[j]? = some oj → j ≠ i → listed.getD j true = false → (∀ e ∈ oj.after, Region.binds .any e = true → e.on ≠ i) → Keep P ops C D j) →
        (Region.wanted o (yieldedF ops ρ) = true → ∃ v, (∀ w', D w' → (exOp ρ.ev o.op o.type).run P w' = .ok (.value v) w') ∧ wkP P ops C Q r (updO ρ o.dst v) w) →
        anyC P .any ops C (fun a w => ∃ ρ', Rel n a ρ' ∧ Q ρ' w) (r.len + 1) listed a w := by
      intro D hD hr hf hk hv
      have fin : ∀ v, YD P ops D o v a → wkP P ops C Q r (updO ρ o.dst v) w → anyC P .any ops C (fun a w => ∃ ρ', Rel n a ρ' ∧ Q ρ' w) (r.len + 1) listed a w :=
        fun v hy hw => anyC_first hi (Region.noSelect_spec hs) _ listed a w (fun j oj hj hne hun hno => ⟨Region.free_spec hi hf j oj hj hne hun hno, hk j oj hj hne hun hno⟩)
          (by simpa using hr) hy hD hC (ih _ _ _ (ha.put hdi v) hC hw)
      cases hw : Region.wanted o (yieldedF ops ρ) with
      | true =>
        obtain ⟨v, h1, h2⟩ := hv hw
        exact fin v (.inl ⟨by rw [ha.yielded]; exact hw, fun w' hw' => by rw [ha.eval, execOp_eq]; exact h1 w' hw'⟩) h2
      | false =>
        simp only [hw] at h
        exact fin undef (.inr ⟨by rw [ha.yielded]; exact hw, rfl⟩) h
    cases m with
    | pure =>
      simp only [Bool.and_eq_true] at hm
      exact quiet (fun _ => True) trivial hm.1 hm.2 (fun j _ _ _ _ _ => .top j) fun hw => by
        simp only [hw, if_true, step1] at h
        obtain ⟨v, h1, h2⟩ := h
        exact ⟨v, fun w' _ => h1 w', h2⟩
    | stab =>
      simp only [Bool.and_eq_true] at hm
      exact quiet C hC hm.1 hm.2 (fun j _ _ _ _ _ => .same j) fun hw => by
        simp only [hw, if_true, step1] at h
        exact h
    | read =>
      simp only [Bool.and_eq_true] at hm
      exact quiet (Grown w) (.refl w) hm.1.1 hm.1.2 (fun j oj hj hne hun hno => .grown hj (growFree_spec hm.2 j oj hj hne hun hno) w) fun hw => by
        simp only [hw, if_true, step1] at h
        exact h
    | loud =>
      have hm : Region.ready .any ops listed = [i] := by simpa using hm
      refine ⟨fun h0 => (by rw [h0] at hm; cases hm), fun j hj => ?_⟩
      rw [hm] at hj
      obtain rfl : j = i := by simpa using hj
      unfold wpOp
      simp only [hi]
      rw [ha.yielded]
      split
      · rename_i hw
        simp only [hw, if_true, step1] at h
        refine .inl ?_
        unfold Oper.wp
        rw [ha.eval, execOp_eq]
        exact after_upon h fun v w' hk => ⟨hk.1, ih _ _ _ (ha.put hdi v) hk.1 hk.2⟩
      · rename_i hw
        simp only [hw] at h
        exact ⟨hC, ih _ _ _ (ha.put hdi undef) hC h⟩
  | .two i j p q, listed, ρ, a, w, hc, ha, hC, h => by
    obtain ⟨hp, hq⟩ := h
    simp only [canonP, Bool.and_eq_true, beq_iff_eq] at hc
    obtain ⟨⟨⟨hm, hl⟩, hcp⟩, hcq⟩ := hc
    have loud : ∀ (i : Nat) (r : Pl), r.len = p.len → wk P ops C (fun ρ w => wkP P ops C Q r ρ w) [(i, .loud)] ρ w → (∀ (ρ' : Fr) (a' : Act) (w' : World), Rel n a' ρ' → C w' → wkP P ops C Q r ρ' w' →
        anyC P .any ops C (fun a w => ∃ ρ', Rel n a ρ' ∧ Q ρ' w) r.len (listed.setIfInBounds i true) a' w') →
        wpOp P ops noX i (fun a w => C w ∧ anyC P .any ops C (fun a w => ∃ ρ', Rel n a ρ' ∧ Q ρ' w) p.len (listed.setIfInBounds i true) a w) a w := by
      intro i r hr hw ih
      obtain ⟨o, hi, h⟩ := wk_one hw
      have hdi := hd i o hi
      rw [← hr]
      unfold wpOp
      simp only [hi]
      rw [ha.yielded]
      split
      · rename_i hw
        simp only [hw, if_true, step1] at h
        refine .inl ?_
        unfold Oper.wp
        rw [ha.eval, execOp_eq]
        exact after_upon h fun v w' hk => ⟨hk.1, ih _ _ _ (ha.put hdi v) hk.1 hk.2⟩
      · rename_i hw
        simp only [hw] at h
        exact ⟨hC, ih _ _ _ (ha.put hdi undef) hC h⟩
    refine ⟨fun h0 => (by rw [h0] at hm; cases hm), fun k hk => ?_⟩
    rw [hm] at hk
    simp only [List.mem_cons, List.not_mem_nil, or_false] at hk
    rcases hk with rfl | rfl
    · exact loud _ p rfl hp fun ρ' a' w' h1 h2 h3 => anyC_of_wkP (Q := Q) hs hd p _ ρ' a' w' hcp h1 h2 h3
    · exact loud _ q hl.symm hq fun ρ' a' w' h1 h2 h3 => anyC_of_wkP (Q := Q) hs hd q _ ρ' a' w' hcq h1 h2 h3

/-- A list of steps, then a plan. -/
def seqP : List (Nat × Md) → Pl → Pl
  | [], p => p
  | (i, m) :: r, p => .cons i m (seqP r p)

theorem step1_mono {o : Oper} {m : Md} {ρ : Fr} {w : World} {K K' : Value → World → Prop} (hk : ∀ v w', K v w' → K' v w') (h : step1 P C o m ρ w K) : step1 P C o m ρ w K' := by
  have hm : ∀ {r : Result Next}, after P (fun v w' => C w' ∧ K v w') r → after P (fun v w' => C w' ∧ K' v w') r := by
    intro r hr
    cases r with
    | ok nx w1 =>
      cases nx <;> simp only [after] at hr ⊢
      case value v => exact ⟨hr.1, hk _ _ hr.2⟩
      case skip => exact ⟨hr.1, hk _ _ hr.2⟩
      case enter f args => exact hr.mono fun e w'' ⟨v, he, hc, hkv⟩ => ⟨v, he, hc, hk _ _ hkv⟩
    | halt x w1 => exact hr
  cases m with
  | pure => obtain ⟨v, h1, h2⟩ := h; exact ⟨v, h1, hk _ _ h2⟩
  | stab => obtain ⟨v, h1, h2⟩ := h; exact ⟨v, h1, hk _ _ h2⟩
  | read => obtain ⟨v, h1, h2⟩ := h; exact ⟨v, h1, hk _ _ h2⟩
  | loud => exact hm h

theorem wkP_seq {Q : Fr → World → Prop} {p : Pl} : ∀ {l : List (Nat × Md)} {ρ : Fr} {w : World}, wk P ops C (fun ρ w => wkP P ops C Q p ρ w) l ρ w → wkP P ops C Q (seqP l p) ρ w
  | [], _, _, h => h
  | (i, m) :: r, ρ, w, h => by
    obtain ⟨o, hi, h⟩ := h
    refine ⟨o, hi, ?_⟩
    split
    · rename_i hw
      simp only [hw, if_true] at h
      exact step1_mono (fun v w' h => wkP_seq h) h
    · rename_i hw
      simp only [hw] at h
      exact wkP_seq h

theorem wkP_nil {Q : Fr → World → Prop} {ρ : Fr} {w : World} (h : Q ρ w) : wkP P ops C Q .nil ρ w := h
theorem wkP_two {Q : Fr → World → Prop} {i j : Nat} {p q : Pl} {ρ : Fr} {w : World} (h1 : wk P ops C (fun ρ w => wkP P ops C Q p ρ w) [(i, .loud)] ρ w) (h2 : wk P ops C (fun ρ w => wkP P ops C Q q ρ w) [(j, .loud)] ρ w) :
    wkP P ops C Q (.two i j p q) ρ w := ⟨h1, h2⟩

variable {c : Code} {n : Nat} {Q : Exit → Fr → World → Prop} {ρ : Fr} {w : World}
theorem g_fork {id : Nat} (hc : c = .region id ops true) (C : World → World → Prop) (pl : Pl) (hm : P.follows .mixedOrders = true)
    (hB : (dstsB ops n && Region.noSelect ops && pl.len == ops.size && canonP P ops pl (Array.replicate ops.size false)) = true) (hC : ∀ w, C w w)
    (h : ∀ w1, SameMem w w1 → wkP P ops (C w1) (fun ρ w => Q .normal ρ w) pl ρ w1) : cw P n c Q ρ w := by
  subst hc
  simp only [Bool.and_eq_true, beq_iff_eq] at hB
  obtain ⟨⟨⟨hd, hs⟩, hl⟩, hcn⟩ := hB
  intro a ha
  exact wp_region_any hm (by
    have h1 := h { w with drawn := w.drawn + 1 } ⟨rfl, rfl, rfl, rfl⟩
    rw [← hl] at hcn ⊢
    exact wpAny_of_anyC (fun a w hq => hq) _ _ _ _ (anyC_of_wkP hs (dstsB_spec hd) pl _ ρ a _ hcn ha (hC _) h1))
end
end Go.Wk
