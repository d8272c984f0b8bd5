/-
  Regions whose last operation waits for all the others: it need not keep what the others keep.
-/
import Derived.Test.YtpcdldakilkldaaK26
set_option linter.unusedVariables false
namespace Go.Wk
open Go
section
variable {P : Program} {ops : Array Oper} {C : World → Prop}

theorem getD_in {L : Array Bool} {j : Nat} (h : j < L.size) : L.getD j true = L.getD j false := by simp [Array.getD, h]
theorem canon_listed : ∀ (order : List (Nat × Md)) (L0 L : Array Bool), canon P ops order L0 = true → (∀ j, L0.getD j false = true → L.getD j false = true) → L.size = ops.size → Region.ready .any ops L = [] →
    ∀ p ∈ order, L.getD p.1 true = true
  | [], _, _, _, _, _, _ => fun p hp => absurd hp List.not_mem_nil
  | (i, m) :: r, L0, L, hc, hsub, hsz, hr => by
    simp only [canon, Bool.and_eq_true] at hc
    obtain ⟨hm, hc⟩ := hc
    have hi : i ∈ Region.ready .any ops L0 := by
      cases m with
      | pure => simp only [Bool.and_eq_true] at hm; simpa using hm.1
      | stab => simp only [Bool.and_eq_true] at hm; simpa using hm.1
      | read => simp only [Bool.and_eq_true] at hm; simpa using hm.1.1
      | loud =>
        have hm : Region.ready .any ops L0 = [i] := by simpa using hm
        rw [hm]; exact List.mem_singleton.2 rfl
    obtain ⟨_, o, ho, hall⟩ := mem_ready.1 hi
    have hlt : i < ops.size := (Array.getElem?_eq_some_iff.1 ho).1
    have hL : L.getD i true = true := by
      cases hLi : L.getD i true with
      | true => rfl
      | false =>
        have : i ∈ Region.ready .any ops L := mem_ready.2 ⟨hLi, o, ho, fun e he hb => hsub _ (hall e he hb)⟩
        rw [hr] at this; cases this
    intro p hp
    rcases List.mem_cons.1 hp with rfl | hp
    · exact hL
    · refine canon_listed r (L0.setIfInBounds i true) L hc (fun j hj => ?_) hsz hr p hp
      by_cases hji : i = j
      · subst hji; rw [← getD_in (by omega)]; exact hL
      · rw [getD_set_ne false hji] at hj; exact hsub j hj

def lastOk (ops : Array Oper) (last : Nat) (order : List (Nat × Md)) : Bool :=
  ((List.range ops.size).all fun j => j == last || (order.map (·.1)).contains j) &&
  match ops[last]? with
  | some o => ((List.range ops.size).all fun j => j == last || o.after.any fun e => Region.binds .any e && (e.on == j || match ops[e.on]? with | some o2 => o2.after.any fun e2 => Region.binds .any e2 && e2.on == j | none => false)) && (o.after.all fun e => !Region.binds .any e || (e.on != last && decide (e.on < ops.size))) &&
      ((List.range ops.size).all fun j => j == last || match ops[j]? with | some oj => oj.after.all fun e => !(Region.binds .any e && e.on == last) | none => true)
  | none => false

/-- What is listed has what it waits for. -/
def closedL (ops : Array Oper) (L : Array Bool) : Prop := ∀ j oj, L.getD j false = true → ops[j]? = some oj → ∀ e ∈ oj.after, Region.binds .any e = true → L.getD e.on false = true
theorem closedL.add {L : Array Bool} {i : Nat} (h : closedL ops L) (hi : i ∈ Region.ready .any ops L) : closedL ops (L.setIfInBounds i true) := by
  intro j oj hj hoj e he hb
  by_cases hji : i = j
  · subst hji
    obtain ⟨_, o, ho, hall⟩ := mem_ready.1 hi
    rw [hoj] at ho; cases ho
    exact getD_set_true (hall e he hb)
  · rw [getD_set_ne false hji] at hj
    exact getD_set_true (h j oj hj hoj e he hb)
theorem last_any {last : Nat} {Q' : Act → World → Prop} {Q : Exit → Act → World → Prop} {order : List (Nat × Md)} {L0 : Array Bool} (hsel : Region.noSelect ops = true) (hl : lastOk ops last order = true) (hcan : canon P ops order (L0.setIfInBounds last true) = true)
    (hQ : ∀ a w, Q' a w → wpOp P ops noX last (fun a w => Q .normal a w) a w) :
    ∀ (f : Nat) (L : Array Bool) (a : Act) (w : World), L.size = ops.size → closedL ops L → L.getD last true = false → (∀ j, (L0.setIfInBounds last true).getD j false = true → (L.setIfInBounds last true).getD j false = true) →
      anyC P .any ops C Q' f (L.setIfInBounds last true) a w → wpAny P .any ops Q (f + 1) L a w := by
  simp only [lastOk, Bool.and_eq_true, List.all_eq_true, List.mem_range, Bool.or_eq_true, beq_iff_eq] at hl
  obtain ⟨hcov, hlast⟩ := hl
  cases ho : ops[last]? with
  | none => simp [ho] at hlast
  | some o =>
    simp only [ho, Bool.and_eq_true, List.all_eq_true, List.mem_range, Bool.or_eq_true, beq_iff_eq] at hlast
    obtain ⟨⟨hlast, hself⟩, hoth⟩ := hlast
    have hlt : last < ops.size := (Array.getElem?_eq_some_iff.1 ho).1
    -- when the others are all there the last may come
    have full : ∀ L : Array Bool, L.size = ops.size → L.getD last true = false → (∀ j, (L0.setIfInBounds last true).getD j false = true → (L.setIfInBounds last true).getD j false = true) →
        Region.ready .any ops (L.setIfInBounds last true) = [] → last ∈ Region.ready .any ops L := by
      intro L hsz hun hsub hr
      refine mem_ready.2 ⟨hun, o, ho, fun e he hb => ?_⟩
      have h1 := Array.all_eq_true'.1 hself e he
      simp only [hb, Bool.not_true, Bool.false_or, Bool.and_eq_true, bne_iff_ne, ne_eq, decide_eq_true_eq] at h1
      have h2 := (hcov e.on h1.2).resolve_left h1.1
      rw [List.contains_iff_mem] at h2
      obtain ⟨p, hp, hpe⟩ := List.mem_map.1 h2
      have h3 := canon_listed order _ _ hcan hsub (by simpa using hsz) hr p hp
      rw [hpe, getD_set_ne true (Ne.symm h1.1), getD_in (by omega)] at h3
      exact h3
    -- when the last may come the others are all there
    have none' : ∀ L : Array Bool, L.size = ops.size → closedL ops L → last ∈ Region.ready .any ops L → Region.ready .any ops (L.setIfInBounds last true) = [] := by
      intro L hsz hcl hr
      obtain ⟨_, o', ho', hall⟩ := mem_ready.1 hr
      rw [ho] at ho'
      cases ho'
      refine List.eq_nil_iff_forall_not_mem.2 fun j hj => ?_
      obtain ⟨hun, oj, hoj, _⟩ := mem_ready.1 hj
      have hjlt : j < ops.size := (Array.getElem?_eq_some_iff.1 hoj).1
      by_cases hjl : j = last
      · subst hjl
        rw [getD_in (by simpa [hsz] using hjlt), Array.getD_eq_getD_getElem?, Array.getElem?_setIfInBounds_self_of_lt (by omega)] at hun
        cases hun
      · rw [getD_set_ne true (Ne.symm hjl)] at hun
        have h1 := (hlast j hjlt).resolve_left hjl
        obtain ⟨e, he, hb⟩ := Array.any_eq_true'.1 h1
        simp only [Bool.and_eq_true, Bool.or_eq_true, beq_iff_eq] at hb
        have h2 := hall e he hb.1
        rcases hb.2 with hb2 | hb2
        · rw [hb2, ← getD_in (by omega), hun] at h2
          cases h2
        · cases ho2 : ops[e.on]? with
          | none => simp [ho2] at hb2
          | some o2 =>
            simp only [ho2] at hb2
            obtain ⟨e2, he2, hb3⟩ := Array.any_eq_true'.1 hb2
            simp only [Bool.and_eq_true, beq_iff_eq] at hb3
            have h3 := hcl e.on o2 h2 ho2 e2 he2 hb3.1
            rw [hb3.2, ← getD_in (by omega), hun] at h3
            cases h3
    intro f
    induction f with
    | zero =>
      intro L a w hsz _ hun hsub h
      have hin := full L hsz hun hsub h.1
      refine ⟨fun h0 => (by rw [h0] at hin; cases hin), fun i hi => ?_⟩
      have : i = last := by
        by_cases hil : i = last
        · exact hil
        · have := ready_mono hi hil
          rw [h.1] at this; cases this
      subst this
      exact wpOp_mono (fun a w hq => ⟨h.1, hq⟩) (wpOp_weaken (hQ _ _ h.2))
    | succ f ih =>
      intro L a w hsz hcl hun hsub h
      refine ⟨fun h0 => ?_, fun i hi => ?_⟩
      · exfalso
        have hr : Region.ready .any ops (L.setIfInBounds last true) = [] := by
          refine List.eq_nil_iff_forall_not_mem.2 fun j hj => ?_
          obtain ⟨hunj, oj, hoj, hall⟩ := mem_ready.1 hj
          have hjlt : j < ops.size := (Array.getElem?_eq_some_iff.1 hoj).1
          have hjl : j ≠ last := by
            intro e
            subst e
            rw [getD_in (by simpa [hsz] using hjlt), Array.getD_eq_getD_getElem?, Array.getElem?_setIfInBounds_self_of_lt (by omega)] at hunj
            cases hunj
          have hin : j ∈ Region.ready .any ops L := by
            refine mem_ready.2 ⟨by rw [getD_set_ne true (Ne.symm hjl)] at hunj; exact hunj, oj, hoj, fun e he hb => ?_⟩
            have h1 := (hoth j hjlt).resolve_left hjl
            rw [hoj] at h1
            have h2 := Array.all_eq_true'.1 h1 e he
            have hne : e.on ≠ last := fun q => by simp [hb, q] at h2
            have h3 := hall e he hb
            rw [getD_set_ne false (Ne.symm hne)] at h3
            exact h3
          rw [h0] at hin; cases hin
        have := full L hsz hun hsub hr
        rw [h0] at this; cases this
      · by_cases hil : i = last
        · subst hil
          have hr := none' L hsz hcl hi
          refine wpOp_mono (fun a w hq => ⟨fun _ => hq, fun j hj => ?_⟩) (wpOp_weaken (hQ _ _ (h.1 hr)))
          rw [hr] at hj; cases hj
        · have h2 := h.2 i (ready_mono hi hil)
          refine wpOp_weaken (wpOp_mono (fun a w hh => ?_) h2)
          have hsub2 : ∀ j, (L0.setIfInBounds last true).getD j false = true → ((L.setIfInBounds i true).setIfInBounds last true).getD j false = true := fun j hj => by
            rw [Array.setIfInBounds_comm _ _ hil]
            exact getD_set_true (hsub j hj)
          refine ih (L.setIfInBounds i true) a w (by simpa using hsz) (hcl.add hi) ?_ hsub2 ?_
          · rw [getD_set_ne true hil]; exact hun
          · rw [Array.setIfInBounds_comm _ _ hil]; exact hh.2
theorem cw_region_last {n id last : Nat} {Q : Exit → Fr → World → Prop} {ρ : Fr} {w : World} (C : World → World → Prop) (order : List (Nat × Md)) (hm : P.follows .mixedOrders = true)
    (hd : dstsB ops n = true) (hs : Region.noSelect ops = true) (hl : order.length + 1 = ops.size) (hk : lastOk ops last order = true) (hc : canon P ops order ((Array.replicate ops.size false).setIfInBounds last true) = true) (hC : ∀ w, C w w)
    (h : ∀ w1, SameMem w w1 → wk P ops (C w1) (fun ρ w => wk P ops (fun _ => True) (fun ρ w => Q .normal ρ w) [(last, .loud)] ρ w) order ρ w1) : cw P n (.region id ops true) Q ρ w := fun a ha =>
  wp_region_any hm (by
    have h1 := h { w with drawn := w.drawn + 1 } ⟨rfl, rfl, rfl, rfl⟩
    have h2 := anyC_of_wk hs (dstsB_spec hd) order _ ρ a _ hc ha (hC _) h1
    rw [← hl]
    have hlt : last < ops.size := by
      simp only [lastOk, Bool.and_eq_true] at hk
      cases ho : ops[last]? with
      | none => simp [ho] at hk
      | some o => exact (Array.getElem?_eq_some_iff.1 ho).1
    refine last_any (L0 := Array.replicate ops.size false) hs hk hc (Q' := fun a w => ∃ ρ', Rel n a ρ' ∧ wk P ops (fun _ => True) (fun ρ w => Q .normal ρ w) [(last, .loud)] ρ' w) ?_ order.length _ a _ (by simp [hl]) (fun j oj hj => by simp [Array.getD] at hj) (by simp [Array.getD, hl, hlt]) (fun j hj => by rw [hl]; exact hj) (by rw [hl]; exact h2)
    intro a w hq
    obtain ⟨ρ', hr, o, hi, hq⟩ := hq
    unfold wpOp
    simp only [hi]
    rw [hr.yielded]
    split
    · rename_i hw
      simp only [hw, if_true, step1] at hq
      refine .inl ?_
      unfold Oper.wp
      rw [hr.eval, execOp_eq]
      exact after_upon hq fun v w' hk' => ⟨_, hr.put (dstsB_spec hd last o hi) v, hk'.2⟩
    · rename_i hw
      simp only [hw] at hq
      exact ⟨_, hr.put (dstsB_spec hd last o hi) undef, hq⟩)
theorem g_last {n id : Nat} {c : Code} {Q : Exit → Fr → World → Prop} {ρ : Fr} {w : World} (hc : c = .region id ops true) (C : World → World → Prop) (last : Nat) (order : List (Nat × Md)) (hm : P.follows .mixedOrders = true)
    (hB : (dstsB ops n && Region.noSelect ops && decide (order.length + 1 = ops.size) && lastOk ops last order && canon P ops order ((Array.replicate ops.size false).setIfInBounds last true)) = true) (hC : ∀ w, C w w)
    (h : ∀ w1, SameMem w w1 → wk P ops (C w1) (fun ρ w => wk P ops (fun _ => True) (fun ρ w => Q .normal ρ w) [(last, .loud)] ρ w) order ρ w1) : cw P n c Q ρ w := by
  subst hc
  simp only [Bool.and_eq_true, decide_eq_true_eq] at hB
  exact cw_region_last C order hm hB.1.1.1.1 hB.1.1.1.2 hB.1.1.2 hB.1.2 hB.2 hC h
end
end Go.Wk
