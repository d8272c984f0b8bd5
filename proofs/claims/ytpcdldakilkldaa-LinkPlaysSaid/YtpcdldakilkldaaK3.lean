/-
  Regions in whatever order: one canonical order serves all.
-/
import Derived.Test.YtpcdldakilkldaaK2
namespace Go.Wk
open Go

abbrev noX : Exit → Act → World → Prop := fun _ _ _ => False

section
variable {P : Program} {ops : Array Oper} {md : Region.Mode} {C D : World → Prop}

/-- Whatever order is picked; behind each operation the world is of the class C. -/
def anyC (P : Program) (md : Region.Mode) (ops : Array Oper) (C : World → Prop) (Q : Act → World → Prop) : Nat → Array Bool → Act → World → Prop
  | 0, listed, a, w => Region.ready md ops listed = [] ∧ Q a w
  | f + 1, listed, a, w => (Region.ready md ops listed = [] → Q a w) ∧
    ∀ i ∈ Region.ready md ops listed, wpOp P ops noX i (fun a' w' => C w' ∧ anyC P md ops C Q f (listed.setIfInBounds i true) a' w') a w

theorem wpOp_weaken {Q : Exit → Act → World → Prop} {i : Nat} {K : Act → World → Prop} {a : Act} {w : World} (h : wpOp P ops noX i K a w) : wpOp P ops Q i K a w := by
  unfold wpOp at *
  split
  · simpa [*] using h
  · rename_i o ho
    simp only [ho] at h
    split
    · rename_i hw
      simp only [hw, if_true] at h
      rcases h with h | ⟨_, a0, w0, hf⟩
      · refine .inl ?_
        unfold Oper.wp at *
        generalize (execOp a.eval o).run P w = r at *
        cases r with
        | ok n w' =>
          cases n <;> simp only [Oper.upon] at h ⊢ <;> first
            | exact h
            | exact h.mono fun e w'' he => by cases e <;> first | exact he | exact he.elim | (obtain ⟨_, _, hf⟩ := he; exact hf.elim)
        | halt x w' => cases x <;> simp only [Oper.upon] at h ⊢; exact h.elim
      · exact hf.elim
    · rename_i hw
      simp only [hw] at h
      exact h

theorem wpAny_of_anyC {Q : Act → World → Prop} {Q' : Exit → Act → World → Prop} (hQ : ∀ a w, Q a w → Q' .normal a w) : ∀ (f : Nat) (listed : Array Bool) (a : Act) (w : World),
    anyC P md ops C Q f listed a w → wpAny P md ops Q' f listed a w
  | 0, _, _, _, h => ⟨h.1, hQ _ _ h.2⟩
  | f + 1, _, _, _, h => ⟨fun h0 => hQ _ _ (h.1 h0), fun i hi => wpOp_mono (fun a w h' => wpAny_of_anyC hQ f _ a w h'.2) (wpOp_weaken (h.2 i hi))⟩

/-- In this state, in every world of the class, it gives v. -/
def YD (P : Program) (ops : Array Oper) (D : World → Prop) (o : Oper) (v : Value) (a : Act) : Prop :=
  (Region.wanted o (yielded ops a.tmps) = true ∧ ∀ w, D w → (execOp a.eval o).run P w = .ok (.value v) w) ∨ (Region.wanted o (yielded ops a.tmps) = false ∧ v = undef)

theorem YD.wpOp {i : Nat} {o : Oper} {v : Value} {a : Act} {w : World} {K : Act → World → Prop} (hi : ops[i]? = some o) (hy : YD P ops D o v a) (hD : D w) (h : K (a.put o.dst v) w) : wpOp P ops noX i K a w := by
  unfold Go.wpOp
  simp only [hi]
  rcases hy with ⟨hw, hv⟩ | ⟨hw, rfl⟩
  · simp only [hw, if_true, Oper.wp, hv w hD, Oper.upon]; exact .inl h
  · simp only [hw, Bool.false_eq_true, if_false]; exact h

/-- Another operation changes nothing for one that does not look at what it writes. -/
theorem wpOp_same {j : Nat} {oi oj : Oper} (hj : ops[j]? = some oj) (hsi : ∀ cs b, oi.op ≠ .select cs b) (h3 : ∀ d, oj.dst = some d → d ∉ oi.looksAt ops) {K : Act → World → Prop} {a : Act} {w : World}
    (h : wpOp P ops noX j K a w) :
    wpOp P ops noX j (fun a' w' => (execOp a'.eval oi = execOp a.eval oi ∧ Region.wanted oi (yielded ops a'.tmps) = Region.wanted oi (yielded ops a.tmps)) ∧ K a' w') a w := by
  have put : ∀ (u : Value), execOp (a.put oj.dst u).eval oi = execOp a.eval oi ∧ Region.wanted oi (yielded ops (a.put oj.dst u).tmps) = Region.wanted oi (yielded ops a.tmps) :=
    fun u => ⟨execOp_put oi hsi a oj.dst u h3, wanted_put oi a oj.dst u h3⟩
  have putD : ∀ (d : Deferred) (u : Value), execOp (({ a with defers := d :: a.defers } : Act).put oj.dst u).eval oi = execOp a.eval oi ∧
      Region.wanted oi (yielded ops (({ a with defers := d :: a.defers } : Act).put oj.dst u).tmps) = Region.wanted oi (yielded ops a.tmps) :=
    fun d u => ⟨execOp_put oi hsi { a with defers := d :: a.defers } oj.dst u h3, wanted_put oi { a with defers := d :: a.defers } oj.dst u h3⟩
  unfold wpOp at *
  simp only [hj] at *
  split
  · rename_i hw
    simp only [hw, if_true] at h
    rcases h with h | ⟨_, a0, w0, hf⟩
    · refine .inl ?_
      unfold Oper.wp at *
      generalize (execOp a.eval oj).run P w = r at *
      cases r with
      | ok n w' =>
        cases n <;> simp only [Oper.upon] at h ⊢
        case value u => exact ⟨put u, h⟩
        case skip => exact ⟨put _, h⟩
        case defer d => exact ⟨putD d _, h⟩
        case enter f args => exact h.mono fun e w'' he => by cases e <;> first | exact ⟨put _, he⟩ | exact he
        case row r args => exact h.mono fun u w'' he => ⟨put u, he⟩
      | halt x w' => cases x <;> simp only [Oper.upon] at h ⊢; exact h.elim
    · exact hf.elim
  · rename_i hw
    simp only [hw] at h
    exact ⟨put _, h⟩

/-- Operation j, from a world of D, ends in one. -/
def Keep (P : Program) (ops : Array Oper) (C D : World → Prop) (j : Nat) : Prop :=
  ∀ (a : Act) (w : World) (K : Act → World → Prop), D w → wpOp P ops noX j (fun a w => C w ∧ K a w) a w → wpOp P ops noX j (fun a w => D w ∧ C w ∧ K a w) a w

theorem apart_fake {oi oj : Oper} (v : Value) (h : oi.apart ops oj = true) : (⟨oi.dst, .move (.const v), 0, "", #[], none⟩ : Oper).apart ops oj = true := by
  simp only [Oper.apart, Bool.and_eq_true] at h ⊢
  refine ⟨h.1, ?_⟩
  cases oj.dst <;> simp [Oper.looksAt, Op.operands]

/-- An operation that may come up now, and gives the same whatever comes up ahead of it, may be taken first. -/
theorem anyC_first {Q : Act → World → Prop} {i : Nat} {oi : Oper} {v : Value} (hi : ops[i]? = some oi) (hsel : ∀ (j : Nat) (o : Oper) cs b, ops[j]? = some o → o.op ≠ .select cs b) :
    ∀ (fuel : Nat) (listed : Array Bool) (a : Act) (w : World),
      (∀ j oj, ops[j]? = some oj → j ≠ i → listed.getD j true = false → (∀ e ∈ oj.after, Region.binds md e = true → e.on ≠ i) → oi.apart ops oj = true ∧ Keep P ops C D j) →
      i ∈ Region.ready md ops listed → YD P ops D oi v a → D w → C w →
      anyC P md ops C Q fuel (listed.setIfInBounds i true) (a.put oi.dst v) w → anyC P md ops C Q (fuel + 1) listed a w := by
  intro fuel
  induction fuel with
  | zero =>
    intro listed a w _ hr hy hD hC H
    refine ⟨fun h => (by rw [h] at hr; cases hr), fun j hj => ?_⟩
    by_cases hji : j = i
    · subst hji; exact hy.wpOp hi hD ⟨hC, H⟩
    · have := ready_mono hj hji
      rw [H.1] at this
      cases this
  | succ fuel ih =>
    intro listed a w hfree hr hy hD hC H
    refine ⟨fun h => (by rw [h] at hr; cases hr), fun j hj => ?_⟩
    by_cases hji : j = i
    · subst hji; exact hy.wpOp hi hD ⟨hC, H⟩
    · have h1 := H.2 j (ready_mono hj hji)
      obtain ⟨hjun, oj, hoj, hall⟩ := mem_ready.1 hj
      have hnot : ∀ e ∈ oj.after, Region.binds md e = true → e.on ≠ i := fun e he hb heq => by
        have k1 := hall e he hb
        have k0 := (mem_ready.1 hr).1
        rw [heq] at k1
        rcases Nat.lt_or_ge i listed.size with h' | h'
        · simp [h'] at k0 k1; rw [k0] at k1; cases k1
        · simp [Array.getElem?_eq_none h'] at k1
      obtain ⟨hap, hkeep⟩ := hfree j oj hoj hji hjun hnot
      have h2 := hkeep _ _ _ hD h1
      have h3 := wpOp_put (oi := ⟨oi.dst, .move (.const v), 0, "", #[], none⟩) (v := v) hoj (apart_fake v hap) (fun cs b => by simp) (fun cs b => hsel j oj cs b hoj) (fun _ _ _ hf => hf)
        (Or.inl ⟨by simp [Region.wanted], fun w => by simp [execOp, Act.eval]⟩) h2
      have h4 := wpOp_same (oi := oi) hoj (fun cs b => hsel i oi cs b hi) (Oper.apart_spec hap).2.2 h3
      refine wpOp_mono (fun a' w' hh => ?_) h4
      obtain ⟨⟨he, hw⟩, _, hD', hC', hrest⟩ := hh
      refine ⟨hC', ih (listed.setIfInBounds j true) a' w' ?_ (ready_mono hr (Ne.symm hji)) ?_ hD' hC' ?_⟩
      · intro k ok hk hki hun hno
        refine hfree k ok hk hki ?_ hno
        by_cases hjk : j = k
        · subst hjk; exact hjun
        · rw [getD_set_ne true hjk] at hun; exact hun
      · rcases hy with ⟨y1, y2⟩ | ⟨y1, y2⟩
        · exact .inl ⟨by rw [hw]; exact y1, fun w hw' => by rw [he]; exact y2 w hw'⟩
        · exact .inr ⟨by rw [hw]; exact y1, y2⟩
      · rw [Array.setIfInBounds_comm _ _ hji]
        exact hrest

theorem Keep.top (j : Nat) : Keep P ops C (fun _ => True) j := fun _ _ _ _ h => wpOp_mono (fun _ _ hh => ⟨trivial, hh⟩) h
theorem Keep.same (j : Nat) : Keep P ops C C j := fun _ _ _ _ h => wpOp_mono (fun _ _ hh => ⟨hh.1, hh⟩) h
theorem Keep.grown {j : Nat} {oj : Oper} (hj : ops[j]? = some oj) (hk : growKind P oj.op = true) (w0 : World) : Keep P ops C (Grown w0) j := fun a w K hD h => by
  unfold wpOp at *
  simp only [hj] at *
  split
  · rename_i hw
    simp only [hw, if_true] at h
    rcases h with h | ⟨_, a0, w0, hf⟩
    · refine .inl ?_
      unfold Oper.wp at *
      have hgv := growKind_spec hk a.eval oj.type w
      rw [← execOp_eq] at hgv
      generalize (execOp a.eval oj).run P w = r at *
      cases r with
      | ok n w' =>
        obtain ⟨g, v, rfl⟩ := hgv n w' rfl
        simp only [Oper.upon] at h ⊢
        exact ⟨hD.trans g, h⟩
      | halt x w' => cases x <;> simp only [Oper.upon] at h ⊢; exact h.elim
    · exact hf.elim
  · rename_i hw
    simp only [hw] at h
    exact ⟨hD, h⟩

/-- May i, read now, be read at any time from now on till what waits for it? -/
def growFree (P : Program) (md : Region.Mode) (ops : Array Oper) (listed : Array Bool) (i : Nat) : Bool :=
  (List.range ops.size).all fun j => j == i || listed.getD j true || match ops[j]? with
    | some oj => oj.after.any (fun e => Region.binds md e && e.on == i) || growKind P oj.op
    | none => true

theorem growFree_spec {i : Nat} {listed : Array Bool} (h : growFree P md ops listed i = true) (j : Nat) (oj : Oper) (hj : ops[j]? = some oj) (hne : j ≠ i) (hun : listed.getD j true = false)
    (hno : ∀ e ∈ oj.after, Region.binds md e = true → e.on ≠ i) : growKind P oj.op = true := by
  simp only [growFree, List.all_eq_true, List.mem_range] at h
  have h1 := h j (Array.getElem?_eq_some_iff.1 hj).1
  simp only [hj, Bool.or_eq_true, beq_iff_eq, hne, false_or, hun, Bool.false_eq_true] at h1
  rcases h1 with h1 | h1
  · obtain ⟨e, he, hb⟩ := Array.any_eq_true'.1 h1
    simp only [Bool.and_eq_true, beq_iff_eq] at hb
    exact absurd hb.2 (hno e he hb.1)
  · exact h1

/-- A canonical order, with how each operation is met. -/
def canon (P : Program) (ops : Array Oper) : List (Nat × Md) → Array Bool → Bool
  | [], listed => (Region.ready .any ops listed).isEmpty
  | (i, m) :: r, listed => (match m with
      | .pure | .stab => (Region.ready .any ops listed).contains i && Region.free .any ops listed i
      | .read => (Region.ready .any ops listed).contains i && Region.free .any ops listed i && growFree P .any ops listed i
      | .loud => Region.ready .any ops listed == [i]) && canon P ops r (listed.setIfInBounds i true)

theorem after_upon {o : Oper} {a : Act} {K : Value → World → Prop} {next : Act → World → Prop} {Q : Exit → Act → World → Prop} {r : Result Next}
    (h : after P K r) (hn : ∀ v w, K v w → next (a.put o.dst v) w) : o.upon P a next Q r := by
  cases r with
  | ok n w' =>
    cases n <;> simp only [after] at h
    case value v => exact hn v w' h
    case skip => exact hn undef w' h
    case enter f args => exact h.mono fun e w'' ⟨v, he, hk⟩ => by subst he; exact hn v w'' hk
  | halt x w' => exact h.elim

/-- The canonical walk serves every order. -/
theorem anyC_of_wk {n : Nat} {Q : Fr → World → Prop} (hs : Region.noSelect ops = true) (hd : ∀ (i : Nat) (o : Oper), ops[i]? = some o → ∀ k, o.dst = some k → k < n) :
    ∀ (order : List (Nat × Md)) (listed : Array Bool) (ρ : Fr) (a : Act) (w : World), canon P ops order listed = true → Rel n a ρ → C w → wk P ops C Q order ρ w →
      anyC P .any ops C (fun a w => ∃ ρ', Rel n a ρ' ∧ Q ρ' w) order.length listed a w
  | [], listed, ρ, a, w, hc, ha, _, h => ⟨by simpa [canon] using hc, ρ, ha, h⟩
  | (i, m) :: r, listed, ρ, a, w, hc, ha, hC, h => by
    obtain ⟨o, hi, h⟩ := h
    simp only [canon, Bool.and_eq_true] at hc
    obtain ⟨hm, hc⟩ := hc
    have ih := fun (ρ' : Fr) (a' : Act) (w' : World) => anyC_of_wk (Q := Q) hs hd r (listed.setIfInBounds i true) ρ' a' w' hc
    have hdi := hd i o hi
    -- the operations that give a value in every world of a class
    have quiet : ∀ (D : World → Prop), D w → (Region.ready .any ops listed).contains i = true → Region.free .any ops listed i = true →
        (∀ j oj, ops[j]? = some oj → j ≠ i → listed.getD j true = false → (∀ e ∈ oj.after, Region.binds .any e = true → e.on ≠ i) → Keep P ops C D j) →
        (Region.wanted o (yieldedF ops ρ) = true → ∃ v, (∀ w', D w' → (exOp ρ.ev o.op o.type).run P w' = .ok (.value v) w') ∧ wk P ops C Q r (updO ρ o.dst v) w) →
        anyC P .any ops C (fun a w => ∃ ρ', Rel n a ρ' ∧ Q ρ' w) (r.length + 1) listed a w := by
      intro D hD hr hf hk hv
      have fin : ∀ v, YD P ops D o v a → wk P ops C Q r (updO ρ o.dst v) w → anyC P .any ops C (fun a w => ∃ ρ', Rel n a ρ' ∧ Q ρ' w) (r.length + 1) listed a w :=
        fun v hy hw => anyC_first hi (Region.noSelect_spec hs) _ listed a w (fun j oj hj hne hun hno => ⟨Region.free_spec hi hf j oj hj hne hun hno, hk j oj hj hne hun hno⟩)
          (by simpa using hr) hy hD hC (ih _ _ _ (ha.put hdi v) hC hw)
      cases hw : Region.wanted o (yieldedF ops ρ) with
      | true =>
        obtain ⟨v, h1, h2⟩ := hv hw
        exact fin v (.inl ⟨by rw [ha.yielded]; exact hw, fun w' hw' => by rw [ha.eval, execOp_eq]; exact h1 w' hw'⟩) h2
      | false =>
        simp only [hw] at h
        exact fin undef (.inr ⟨by rw [ha.yielded]; exact hw, rfl⟩) h
    cases m with
    | pure =>
      simp only [Bool.and_eq_true] at hm
      exact quiet (fun _ => True) trivial hm.1 hm.2 (fun j _ _ _ _ _ => .top j) fun hw => by
        simp only [hw, if_true, step1] at h
        obtain ⟨v, h1, h2⟩ := h
        exact ⟨v, fun w' _ => h1 w', h2⟩
    | stab =>
      simp only [Bool.and_eq_true] at hm
      exact quiet C hC hm.1 hm.2 (fun j _ _ _ _ _ => .same j) fun hw => by
        simp only [hw, if_true, step1] at h
        exact h
    | read =>
      simp only [Bool.and_eq_true] at hm
      exact quiet (Grown w) (.refl w) hm.1.1 hm.1.2 (fun j oj hj hne hun hno => .grown hj (growFree_spec hm.2 j oj hj hne hun hno) w) fun hw => by
        simp only [hw, if_true, step1] at h
        exact h
    | loud =>
      have hm : Region.ready .any ops listed = [i] := by simpa using hm
      refine ⟨fun h0 => (by rw [h0] at hm; cases hm), fun j hj => ?_⟩
      rw [hm] at hj
      obtain rfl : j = i := by simpa using hj
      unfold wpOp
      simp only [hi]
      rw [ha.yielded]
      split
      · rename_i hw
        simp only [hw, if_true, step1] at h
        refine .inl ?_
        unfold Oper.wp
        rw [ha.eval, execOp_eq]
        exact after_upon h fun v w' hk => ⟨hk.1, ih _ _ _ (ha.put hdi v) hk.1 hk.2⟩
      · rename_i hw
        simp only [hw] at h
        exact ⟨hC, ih _ _ _ (ha.put hdi undef) hC h⟩

/-- The operations in the order of the text. -/
theorem wpOps_of_wk {n : Nat} {Q : Fr → World → Prop} {Q' : Exit → Act → World → Prop} (hQ : ∀ ρ a w, Rel n a ρ → Q ρ w → Q' .normal a w) (hd : ∀ (i : Nat) (o : Oper), ops[i]? = some o → ∀ k, o.dst = some k → k < n) :
    ∀ (order : List (Nat × Md)) (ρ : Fr) (a : Act) (w : World), Rel n a ρ → C w → wk P ops C Q order ρ w → wpOps P ops Q' (order.map (·.1)) a w
  | [], ρ, a, w, ha, _, h => hQ ρ a w ha h
  | (i, m) :: r, ρ, a, w, ha, hC, h => by
    obtain ⟨o, hi, h⟩ := h
    have hdi := hd i o hi
    have ih := fun (ρ' : Fr) (a' : Act) (w' : World) => wpOps_of_wk (Q := Q) (Q' := Q') hQ hd r ρ' a' w'
    simp only [List.map_cons, wpOps, hi]
    rw [ha.yielded]
    split
    · rename_i hw
      simp only [hw, if_true] at h
      refine .inl ?_
      unfold Oper.wp
      rw [ha.eval, execOp_eq]
      have key : after P (fun v w' => C w' ∧ wk P ops C Q r (updO ρ o.dst v) w') ((exOp ρ.ev o.op o.type).run P w) := by
        cases m with
        | pure => obtain ⟨v, h1, h2⟩ := h; rw [h1 w]; exact ⟨hC, h2⟩
        | stab => obtain ⟨v, h1, h2⟩ := h; rw [h1 w hC]; exact ⟨hC, h2⟩
        | read => obtain ⟨v, h1, h2⟩ := h; rw [h1 w (.refl w)]; exact ⟨hC, h2⟩
        | loud => exact h
      exact after_upon key fun v w' hk => ih _ _ _ (ha.put hdi v) hk.1 hk.2
    · rename_i hw
      simp only [hw] at h
      exact ih _ _ _ (ha.put hdi undef) hC h

/-- No operation writes beyond the frame. -/
def dstsB (ops : Array Oper) (n : Nat) : Bool := ops.all fun o => match o.dst with | some k => decide (k < n) | none => true

theorem dstsB_spec {n : Nat} (h : dstsB ops n = true) (i : Nat) (o : Oper) (hi : ops[i]? = some o) (k : Nat) (hk : o.dst = some k) : k < n := by
  have := Array.all_eq_true_iff_forall_mem.1 h o (Array.mem_of_getElem? hi)
  simp [hk] at this
  exact this

theorem cw_region {n id : Nat} {Q : Exit → Fr → World → Prop} {ρ : Fr} {w : World} (order : List (Nat × Md)) (hd : dstsB ops n = true) (ho : order.map (·.1) = List.range ops.size)
    (h : wk P ops (fun _ => True) (fun ρ w => Q .normal ρ w) order ρ w) : cw P n (.region id ops false) Q ρ w := fun a ha =>
  wp_region (by
    rw [← ho]
    exact wpOps_of_wk (fun ρ a w hr hq => ⟨ρ, hr, hq⟩) (dstsB_spec hd) order ρ a w ha trivial h)

theorem cw_region_draw {n id : Nat} {Q : Exit → Fr → World → Prop} {ρ : Fr} {w : World} (C : World → World → Prop) (order : List (Nat × Md)) (hm : P.follows .mixedOrders = true)
    (hd : dstsB ops n = true) (hs : Region.noSelect ops = true) (hl : order.length = ops.size) (hc : canon P ops order (Array.replicate ops.size false) = true) (hC : ∀ w, C w w)
    (h : ∀ w1, SameMem w w1 → wk P ops (C w1) (fun ρ w => Q .normal ρ w) order ρ w1) : cw P n (.region id ops true) Q ρ w := fun a ha =>
  wp_region_any hm (by
    have h1 := h { w with drawn := w.drawn + 1 } ⟨rfl, rfl, rfl, rfl⟩
    rw [← hl] at hc ⊢
    exact wpAny_of_anyC (fun a w hq => hq) _ _ _ _ (anyC_of_wk hs (dstsB_spec hd) order _ ρ a _ hc ha (hC _) h1))
end
end Go.Wk
