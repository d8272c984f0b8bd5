/-
  One lemma a kind of operation: what its run gives.
-/
import Derived.Test.YtpcdldakilkldaaK4
import Derived.Laws.Externs
namespace Go.Wk
open Go

section
variable {P : Program} {ρ : Operand → Value} {ty : TypeId} {w : World}

theorem x_move (x : Operand) : (exOp ρ (.move x) ty).run P w = .ok (.value (ρ x)) w := rfl
theorem x_assign (x : Operand) : (exOp ρ (.assign x) ty).run P w = .ok (.value (ρ x)) w := rfl
theorem x_pick {c a b : Operand} {t : Bool} (hc : ρ c = .bool t) : (exOp ρ (.pick c a b) ty).run P w = .ok (.value (if t then ρ a else ρ b)) w := by
  simp [exOp, execOp, hc, asBool]
theorem x_pick_t {c a b : Operand} (hc : ρ c = .bool true) : (exOp ρ (.pick c a b) ty).run P w = .ok (.value (ρ a)) w := x_pick hc
theorem x_pick_f {c a b : Operand} (hc : ρ c = .bool false) : (exOp ρ (.pick c a b) ty).run P w = .ok (.value (ρ b)) w := x_pick hc
theorem x_extract {x : Operand} {vs : Array Value} {v : Value} {i : Nat} (hx : ρ x = .tuple vs) (hv : vs[i]? = some v) : (exOp ρ (.extract x i) ty).run P w = .ok (.value v) w := by
  simp [exOp, execOp, hx, Instr.extract, hv]

theorem x_int {op : BinOp} {t yt : TypeId} {x y : Operand} {k : IntKind} {a b : Int} {v : Value} (hx : ρ x = .int k a) (hy : ρ y = .int k b)
    (h : ∀ w : World, (binOp op t (.int k a) (.int k b)).run P w = .ok v w) : (exOp ρ (.binOp op t x y yt) ty).run P w = .ok (.value v) w := by
  have hg : (eqGuard op t x y (.int k a) (.int k b)).run P w = .ok () w := by
    unfold eqGuard
    cases op <;> rfl
  simp only [exOp, execOp, hx, hy, Sem.run_bind, hg, Result.andThen_ok, h w, Sem.run_pure]

theorem x_add {t yt : TypeId} {x y : Operand} {k : IntKind} {a b : Int} (hx : ρ x = .int k a) (hy : ρ y = .int k b) : (exOp ρ (.binOp .add t x y yt) ty).run P w = .ok (.value (.int k (k.wrap (a + b)))) w :=
  x_int hx hy fun w => by simp [binOp, Op.intArith]
theorem x_sub {t yt : TypeId} {x y : Operand} {k : IntKind} {a b : Int} (hx : ρ x = .int k a) (hy : ρ y = .int k b) : (exOp ρ (.binOp .sub t x y yt) ty).run P w = .ok (.value (.int k (k.wrap (a - b)))) w :=
  x_int hx hy fun w => by simp [binOp, Op.intArith]
theorem x_mul {t yt : TypeId} {x y : Operand} {k : IntKind} {a b : Int} (hx : ρ x = .int k a) (hy : ρ y = .int k b) : (exOp ρ (.binOp .mul t x y yt) ty).run P w = .ok (.value (.int k (k.wrap (a * b)))) w :=
  x_int hx hy fun w => by simp [binOp, Op.intArith]
theorem x_quo {t yt : TypeId} {x y : Operand} {k : IntKind} {a b : Int} (hx : ρ x = .int k a) (hy : ρ y = .int k b) (h0 : b ≠ 0) :
    (exOp ρ (.binOp .quo t x y yt) ty).run P w = .ok (.value (.int k (k.wrap (a.tdiv b)))) w :=
  x_int hx hy fun w => by simp [binOp, Op.intDiv, h0]
theorem x_rem {t yt : TypeId} {x y : Operand} {k : IntKind} {a b : Int} (hx : ρ x = .int k a) (hy : ρ y = .int k b) (h0 : b ≠ 0) :
    (exOp ρ (.binOp .rem t x y yt) ty).run P w = .ok (.value (.int k (a.tmod b))) w :=
  x_int hx hy fun w => by simp [binOp, Op.intDiv, h0]
theorem x_lss {t yt : TypeId} {x y : Operand} {k : IntKind} {a b : Int} (hx : ρ x = .int k a) (hy : ρ y = .int k b) : (exOp ρ (.binOp .lss t x y yt) ty).run P w = .ok (.value (.bool (decide (a < b)))) w :=
  x_int hx hy fun w => by simp [binOp, Op.intCmp]
theorem x_leq {t yt : TypeId} {x y : Operand} {k : IntKind} {a b : Int} (hx : ρ x = .int k a) (hy : ρ y = .int k b) : (exOp ρ (.binOp .leq t x y yt) ty).run P w = .ok (.value (.bool (decide (a ≤ b)))) w :=
  x_int hx hy fun w => by simp [binOp, Op.intCmp]
theorem x_gtr {t yt : TypeId} {x y : Operand} {k : IntKind} {a b : Int} (hx : ρ x = .int k a) (hy : ρ y = .int k b) : (exOp ρ (.binOp .gtr t x y yt) ty).run P w = .ok (.value (.bool (decide (b < a)))) w :=
  x_int hx hy fun w => by simp [binOp, Op.intCmp]
theorem x_geq {t yt : TypeId} {x y : Operand} {k : IntKind} {a b : Int} (hx : ρ x = .int k a) (hy : ρ y = .int k b) : (exOp ρ (.binOp .geq t x y yt) ty).run P w = .ok (.value (.bool (decide (b ≤ a)))) w :=
  x_int hx hy fun w => by simp [binOp, Op.intCmp]
theorem x_eql {t yt : TypeId} {x y : Operand} {k : IntKind} {a b : Int} (hx : ρ x = .int k a) (hy : ρ y = .int k b) : (exOp ρ (.binOp .eql t x y yt) ty).run P w = .ok (.value (.bool (decide (a = b)))) w :=
  x_int hx hy fun w => by simp [binOp, Op.intCmp]; rfl
theorem x_neq {t yt : TypeId} {x y : Operand} {k : IntKind} {a b : Int} (hx : ρ x = .int k a) (hy : ρ y = .int k b) : (exOp ρ (.binOp .neq t x y yt) ty).run P w = .ok (.value (.bool (decide (a ≠ b)))) w :=
  x_int hx hy fun w => by
    simp only [binOp, Op.intCmp, ne_eq, not_true_eq_false, if_false, Sem.run_pure]
    congr 2
    by_cases h : a = b <;> simp [h]
theorem x_bits {op : BinOp} {t yt : TypeId} {x y : Operand} {k : IntKind} {a b : Int} {v : Value} (hx : ρ x = .int k a) (hy : ρ y = .int k b)
    (h : ∀ w : World, (Op.intBits op k a b).run P w = .ok v w) (hop : op = .and ∨ op = .or ∨ op = .xor ∨ op = .andNot) : (exOp ρ (.binOp op t x y yt) ty).run P w = .ok (.value v) w :=
  x_int hx hy fun w => by
    rw [← h w]
    rcases hop with rfl | rfl | rfl | rfl <;> simp [binOp]
theorem x_shl {t yt : TypeId} {x y : Operand} {k q : IntKind} {a b : Int} (hx : ρ x = .int k a) (hy : ρ y = .int q b) (h0 : 0 ≤ b) :
    (exOp ρ (.binOp .shl t x y yt) ty).run P w = .ok (.value (.int k (k.wrap (a * 2 ^ min b.toNat k.bits)))) w := by
  have hg : (eqGuard .shl t x y (.int k a) (.int q b)).run P w = .ok () w := rfl
  have h1 : ¬ b < 0 := by omega
  simp [exOp, execOp, hx, hy, hg, binOp, Op.shift, h1]
theorem x_shr {t yt : TypeId} {x y : Operand} {k q : IntKind} {a b : Int} (hx : ρ x = .int k a) (hy : ρ y = .int q b) (h0 : 0 ≤ b) :
    (exOp ρ (.binOp .shr t x y yt) ty).run P w = .ok (.value (.int k (a.fdiv (2 ^ min b.toNat k.bits)))) w := by
  have hg : (eqGuard .shr t x y (.int k a) (.int q b)).run P w = .ok () w := rfl
  have h1 : ¬ b < 0 := by omega
  simp [exOp, execOp, hx, hy, hg, binOp, Op.shift, h1]

/-- The i64's bounds. -/
theorem wrap_id {k : IntKind} {n : Int} (h0 : k.min ≤ n) (h1 : n ≤ k.max) : k.wrap n = n := by
  cases k <;> simp [IntKind.min, IntKind.max, IntKind.signed, IntKind.bits] at h0 h1 <;> simp [IntKind.wrap, IntKind.signed, IntKind.bits] <;> omega

theorem i64_id {n : Int} (h : -9223372036854775808 ≤ n ∧ n ≤ 9223372036854775807) : IntKind.i64.wrap n = n := wrap_id h.1 h.2
theorem u8_id {n : Int} (h : 0 ≤ n ∧ n ≤ 255) : IntKind.u8.wrap n = n := wrap_id h.1 h.2
theorem u32_id {n : Int} (h : 0 ≤ n ∧ n ≤ 4294967295) : IntKind.u32.wrap n = n := wrap_id h.1 h.2
theorem u64_id {n : Int} (h : 0 ≤ n ∧ n ≤ 18446744073709551615) : IntKind.u64.wrap n = n := wrap_id h.1 h.2

theorem x_not {t : TypeId} {x : Operand} {b : Bool} (hx : ρ x = .bool b) : (exOp ρ (.unOp .not t x) ty).run P w = .ok (.value (.bool (!b))) w := by
  simp [exOp, execOp, hx, Op.unary]
theorem x_neg {t : TypeId} {x : Operand} {k : IntKind} {a : Int} (hx : ρ x = .int k a) : (exOp ρ (.unOp .neg t x) ty).run P w = .ok (.value (.int k (k.wrap (0 - a)))) w := by
  simp [exOp, execOp, hx, Op.unary, Op.intArith]
theorem x_conv {s d : TypeId} {x : Operand} {k q : IntKind} {a : Int} (hs : (P.underlying s).isSome = true) (hd : P.underlying d = some (.int k)) (hx : ρ x = .int q a) :
    (exOp ρ (.convert s d x) ty).run P w = .ok (.value (.int k (k.wrap a))) w := by
  obtain ⟨sd, hs⟩ := Option.isSome_iff_exists.1 hs
  simp only [exOp, execOp, hx, convert, Sem.run_bind, run_underlying hs, run_underlying hd, Result.andThen_ok]
  cases sd <;> simp [Conv.intToInt]

theorem eqIn_bool (d : Nat) {t : TypeId} (ht : P.underlying t = some .bool) (a b : Bool) : (Op.equalIn (d + 1) t (.bool a) (.bool b)).run P w = .ok (decide (a = b)) w := by
  simp only [Op.equalIn, Sem.run_bind, run_underlying ht, Result.andThen_ok, Sem.run_pure]
  cases a <;> cases b <;> rfl
theorem eqIn_ptr (d : Nat) {t e : TypeId} (ht : P.underlying t = some (.pointer e)) (a : Option Addr) : (Op.equalIn (d + 1) t (.pointer a) (.pointer none)).run P w = .ok a.isNone w := by
  cases a <;> simp only [Op.equalIn, Sem.run_bind, run_underlying ht, Result.andThen_ok, Sem.run_pure] <;> rfl
theorem eqIn_sl (d : Nat) {t e : TypeId} (ht : P.underlying t = some (.slice e)) (a : Option Addr) (n c m l : Nat) : (Op.equalIn (d + 1) t (.slice a n c) (.slice none m l)).run P w = .ok a.isNone w := by
  cases a <;> simp only [Op.equalIn, Sem.run_bind, run_underlying ht, Result.andThen_ok, Sem.run_pure] <;> rfl

theorem x_eq_of {t yt : TypeId} {x y : Operand} {a b : Value} {r : Bool} (hx : ρ x = a) (hy : ρ y = b) (hg : (eqGuard .eql t x y a b).run P w = .ok () w) (hb : binOp .eql t a b = (do pure (.bool (← Op.equal t a b))))
    (he : (Op.equal t a b).run P w = .ok r w) : (exOp ρ (.binOp .eql t x y yt) ty).run P w = .ok (.value (.bool r)) w := by
  simp only [exOp, execOp, hx, hy, Sem.run_bind, hg, Result.andThen_ok, hb, he, Sem.run_pure]
theorem x_ne_of {t yt : TypeId} {x y : Operand} {a b : Value} {r : Bool} (hx : ρ x = a) (hy : ρ y = b) (hg : (eqGuard .neq t x y a b).run P w = .ok () w) (hb : binOp .neq t a b = (do pure (.bool (!(← Op.equal t a b)))))
    (he : (Op.equal t a b).run P w = .ok r w) : (exOp ρ (.binOp .neq t x y yt) ty).run P w = .ok (.value (.bool (!r))) w := by
  simp only [exOp, execOp, hx, hy, Sem.run_bind, hg, Result.andThen_ok, hb, he, Sem.run_pure]
theorem x_beql {t yt : TypeId} {x y : Operand} {a b : Bool} (ht : P.underlying t = some .bool) (hx : ρ x = .bool a) (hy : ρ y = .bool b) :
    (exOp ρ (.binOp .eql t x y yt) ty).run P w = .ok (.value (.bool (decide (a = b)))) w := x_eq_of hx hy rfl rfl (eqIn_bool 9999 ht a b)
theorem x_bneq {t yt : TypeId} {x y : Operand} {a b : Bool} (ht : P.underlying t = some .bool) (hx : ρ x = .bool a) (hy : ρ y = .bool b) :
    (exOp ρ (.binOp .neq t x y yt) ty).run P w = .ok (.value (.bool (!decide (a = b)))) w := x_ne_of hx hy rfl rfl (eqIn_bool 9999 ht a b)
theorem x_ptr_eql_nil {t yt e : TypeId} {x y : Operand} {a : Option Addr} (ht : P.underlying t = some (.pointer e)) (hx : ρ x = .pointer a) (hy : ρ y = .pointer none) :
    (exOp ρ (.binOp .eql t x y yt) ty).run P w = .ok (.value (.bool a.isNone)) w := x_eq_of hx hy rfl rfl (eqIn_ptr 9999 ht a)
theorem x_ptr_neq_nil {t yt e : TypeId} {x y : Operand} {a : Option Addr} (ht : P.underlying t = some (.pointer e)) (hx : ρ x = .pointer a) (hy : ρ y = .pointer none) :
    (exOp ρ (.binOp .neq t x y yt) ty).run P w = .ok (.value (.bool (!a.isNone))) w := x_ne_of hx hy rfl rfl (eqIn_ptr 9999 ht a)
theorem x_sl_eql_nil {t yt e : TypeId} {x y : Operand} {a : Option Addr} {n c m l : Nat} (ht : P.underlying t = some (.slice e)) (hx : ρ x = .slice a n c) (hy : ρ y = .slice none m l) :
    (exOp ρ (.binOp .eql t x y yt) ty).run P w = .ok (.value (.bool a.isNone)) w := x_eq_of hx hy rfl rfl (eqIn_sl 9999 ht a n c m l)
theorem x_sl_neq_nil {t yt e : TypeId} {x y : Operand} {a : Option Addr} {n c m l : Nat} (ht : P.underlying t = some (.slice e)) (hx : ρ x = .slice a n c) (hy : ρ y = .slice none m l) :
    (exOp ρ (.binOp .neq t x y yt) ty).run P w = .ok (.value (.bool (!a.isNone))) w := x_ne_of hx hy rfl rfl (eqIn_sl 9999 ht a n c m l)

theorem x_nilCheck {x : Operand} {a : Addr} (hx : ρ x = .pointer (some a)) : (exOp ρ (.nilCheck x) ty).run P w = .ok (.value (.pointer (some a))) w := by
  simp [exOp, execOp, hx]

/-- Where a field lies in its struct. -/
def fieldOff (P : Program) (s : TypeId) (f : Nat) : Option Nat :=
  match P.underlying s with
  | some (.struct fs) => match fs[f]? with
    | some fl => match P.info? fl.type with
      | some i => if i.size = 0 then none else some fl.offset
      | none => none
    | none => none
  | _ => none

theorem Addr.add_off (b off n : Nat) : (⟨b, off, none⟩ : Addr).add n = ⟨b, off + n, none⟩ := by unfold Addr.add; split <;> simp_all

theorem x_fieldAddr {s : TypeId} {x : Operand} {f b off o : Nat} (hf : fieldOff P s f = some o) (hx : ρ x = .pointer (some ⟨b, off, none⟩)) :
    (exOp ρ (.fieldAddr s x f) ty).run P w = .ok (.value (.pointer (some ⟨b, off + o, none⟩))) w := by
  unfold fieldOff at hf
  split at hf
  · rename_i fs hs
    split at hf
    · rename_i fl hfl
      split at hf
      · rename_i i hi
        split at hf
        · cases hf
        · rename_i hne
          simp only [Option.some.injEq] at hf
          subst hf
          simp [exOp, execOp, hx, Instr.fieldAt, run_underlying hs, hfl, Instr.sureAddr, fieldPlace, sizeOf, typeInfo, hi, hne, Addr.add_off]
      · cases hf
    · cases hf
  · cases hf

/-- A field of a struct value: its place and its size; aggregate or not. -/
def fieldAt (P : Program) (s : TypeId) (f : Nat) : Option (Nat × Nat × Bool) :=
  match P.underlying s with
  | some (.struct fs) => match fs[f]? with
    | some fl => match P.info? fl.type, P.underlying fl.type with
      | some i, some (.struct _) | some i, some (.array _ _) => some (fl.offset, i.size, true)
      | some i, some _ => some (fl.offset, i.size, false)
      | _, _ => none
    | none => none
  | _ => none

/-- The type is one cell's: neither struct nor array. -/
def oneT (P : Program) (t : TypeId) : Bool :=
  match P.underlying t with
  | some (.struct _) | some (.array _ _) | none => false
  | _ => match P.info? t with | some i => i.size == 1 | none => false

/-- The type is a struct or an array of so many cells. -/
def aggT (P : Program) (t : TypeId) (n : Nat) : Bool :=
  (match P.underlying t with
  | some (.struct _) | some (.array _ _) => true
  | _ => false) && match P.info? t with | some i => i.size == n | none => false

theorem run_isAgg_one {t : TypeId} (h : oneT P t = true) (w : World) : (isAgg t).run P w = .ok false w := by
  unfold oneT at h
  cases hu : P.underlying t with
  | none => simp [hu] at h
  | some d => cases d <;> simp [hu] at h <;> simp [isAgg, run_underlying hu]
theorem run_isAgg_agg {t : TypeId} {n : Nat} (h : aggT P t n = true) (w : World) : (isAgg t).run P w = .ok true w := by
  unfold aggT at h
  cases hu : P.underlying t with
  | none => simp [hu] at h
  | some d => cases d <;> simp [hu] at h <;> simp [isAgg, run_underlying hu]
theorem run_sizeOf_one {t : TypeId} (h : oneT P t = true) (w : World) : (sizeOf t).run P w = .ok 1 w := by
  unfold oneT at h
  have : ∃ i, P.info? t = some i ∧ i.size = 1 := by
    cases hu : P.underlying t with
    | none => simp [hu] at h
    | some d =>
      cases hi : P.info? t with
      | none => cases d <;> simp [hu, hi] at h
      | some i => cases d <;> simp [hu, hi] at h <;> exact ⟨i, rfl, h⟩
  obtain ⟨i, hi, h1⟩ := this
  simp [sizeOf, typeInfo, hi, h1]
theorem run_sizeOf_agg {t : TypeId} {n : Nat} (h : aggT P t n = true) (w : World) : (sizeOf t).run P w = .ok n w := by
  simp only [aggT, Bool.and_eq_true] at h
  obtain ⟨_, h⟩ := h
  cases hi : P.info? t with
  | none => simp [hi] at h
  | some i =>
    simp only [hi, beq_iff_eq] at h
    simp [sizeOf, typeInfo, hi, h]

theorem x_load {t : TypeId} {x : Operand} {b off : Nat} {cs : Array Value} {e : TypeId} {fz : Nat × Nat} {v : Value} (ht : oneT P t = true) (hx : ρ x = .pointer (some ⟨b, off, none⟩))
    (hb : w.heap[b]? = some (.cells cs e fz)) (hv : cs[off]? = some v) : (exOp ρ (.load t x) ty).run P w = .ok (.value v) w := by
  simp [exOp, execOp, hx, Instr.loadAt, Instr.sureAddr, loadVar, run_isAgg_one ht, cell_of hb, hv]

theorem run_loadCells_from {b : Nat} {cs : Array Value} {e : TypeId} {fz : Nat × Nat} (hb : w.heap[b]? = some (.cells cs e fz)) (off n : Nat) (h : off + n ≤ cs.size) :
    (loadCells ⟨b, off, none⟩ n).run P w = .ok (cs.extract off (off + n)) w := by
  have := run_loadCells (P := P) w ⟨b, off, none⟩ n (fun j => cs.getD (off + j) undef) (fun j hj => by
    rw [Addr.add_off, cell_of hb]
    have : off + j < cs.size := by omega
    simp [this])
  rw [this]
  congr 1
  apply Array.ext
  · simp; omega
  · intro k h1 h2
    simp at h1
    have : off + k < cs.size := by omega
    simp [this]

theorem x_load_agg {t : TypeId} {x : Operand} {b off n : Nat} {cs : Array Value} {e : TypeId} {fz : Nat × Nat} {vs : Array Value} (ht : aggT P t n = true) (hx : ρ x = .pointer (some ⟨b, off, none⟩))
    (hb : w.heap[b]? = some (.cells cs e fz)) (hl : off + n ≤ cs.size) (hv : cs.extract off (off + n) = vs) : (exOp ρ (.load t x) ty).run P w = .ok (.value (.agg vs)) w := by
  simp [exOp, execOp, hx, Instr.loadAt, Instr.sureAddr, loadVar, run_isAgg_agg ht, run_sizeOf_agg ht, run_loadCells_from hb off n hl, hv]

/-- A slice type's element: its type, its size. -/
def elemT (P : Program) (t : TypeId) : Option (TypeId × Nat) :=
  match P.underlying t with
  | some (.slice e) => (P.info? e).map fun i => (e, i.size)
  | _ => none
theorem elemT_spec {t e : TypeId} {n : Nat} (h : elemT P t = some (e, n)) : P.underlying t = some (.slice e) ∧ ∃ i, P.info? e = some i ∧ i.size = n := by
  unfold elemT at h
  split at h
  · rename_i e' hu
    cases hi : P.info? e' with
    | none => simp [hi] at h
    | some i =>
      simp only [hi, Option.map_some, Option.some.injEq, Prod.mk.injEq] at h
      obtain ⟨rfl, rfl⟩ := h
      exact ⟨hu, i, hi, rfl⟩
  · cases h
/-- An array type's length, its element and that one's size. -/
def arrT (P : Program) (t : TypeId) : Option (Nat × TypeId × Nat) :=
  match P.underlying t with
  | some (.array n e) => (P.info? e).map fun i => (n, e, i.size)
  | _ => none
theorem arrT_spec {t e : TypeId} {len n : Nat} (h : arrT P t = some (len, e, n)) : P.underlying t = some (.array len e) ∧ ∃ i, P.info? e = some i ∧ i.size = n := by
  unfold arrT at h
  split at h
  · rename_i l e' hu
    cases hi : P.info? e' with
    | none => simp [hi] at h
    | some i =>
      simp only [hi, Option.map_some, Option.some.injEq, Prod.mk.injEq] at h
      obtain ⟨rfl, rfl, rfl⟩ := h
      exact ⟨hu, i, hi, rfl⟩
  · cases h

theorem x_indexSl {t e : TypeId} {x ix : Operand} {b off n c sz : Nat} {k : IntKind} {i : Int} (ht : elemT P t = some (e, sz)) (hx : ρ x = .slice (some ⟨b, off, none⟩) n c) (hi : ρ ix = .int k i)
    (h : 0 ≤ i ∧ i < n) : (exOp ρ (.indexAddr t x ix) ty).run P w = .ok (.value (.pointer (some ⟨b, off + i.toNat * sz, none⟩))) w := by
  obtain ⟨hu, inf, hinf, rfl⟩ := elemT_spec ht
  simp [exOp, execOp, hx, hi, Instr.indexAt, asIntOf, run_underlying hu, h, sizeOf, typeInfo, hinf, Addr.add_off]
theorem x_indexArr {t e : TypeId} {x ix : Operand} {b off len sz : Nat} {k : IntKind} {i : Int} (ht : arrT P t = some (len, e, sz)) (hx : ρ x = .pointer (some ⟨b, off, none⟩)) (hi : ρ ix = .int k i)
    (h : 0 ≤ i ∧ i < len) : (exOp ρ (.indexAddr t x ix) ty).run P w = .ok (.value (.pointer (some ⟨b, off + i.toNat * sz, none⟩))) w := by
  obtain ⟨hu, inf, hinf, rfl⟩ := arrT_spec ht
  simp [exOp, execOp, hx, hi, Instr.indexAt, Instr.sureAddr, asIntOf, run_underlying hu, h, sizeOf, typeInfo, hinf, Addr.add_off]

def sliceT (P : Program) (t : TypeId) : Bool := match P.underlying t with | some (.slice _) => true | _ => false
theorem sliceT_spec {t : TypeId} (h : sliceT P t = true) : ∃ e, P.underlying t = some (.slice e) := by
  unfold sliceT at h
  split at h
  · exact ⟨_, by assumption⟩
  · cases h
theorem x_len {t : TypeId} {x : Operand} {a : Option Addr} {n c : Nat} (ht : sliceT P t = true) (hx : ρ x = .slice a n c) :
    (exOp ρ (.call { callee := .builtin .len, args := #[x], argTypes := #[t] }) ty).run P w = .ok (.value (.int .i64 n)) w := by
  obtain ⟨e, hu⟩ := sliceT_spec ht
  simp [exOp, execOp, resolve, invoke, builtin, hx, Builtin.len_, run_underlying hu, goInt]

theorem x_field {s : TypeId} {x : Operand} {f off sz : Nat} {cs : Array Value} {v : Value} (hf : fieldAt P s f = some (off, sz, false)) (hx : ρ x = .agg cs) (hv : cs[off]? = some v) :
    (exOp ρ (.field s x f) ty).run P w = .ok (.value v) w := by
  unfold fieldAt at hf
  split at hf
  · rename_i fs hs
    split at hf
    · rename_i fl hfl
      cases hi : P.info? fl.type with
      | none => simp [hi] at hf
      | some i =>
        cases hu : P.underlying fl.type with
        | none => simp [hi, hu] at hf
        | some dsc =>
          have ha : (isAgg fl.type).run P w = .ok false w := by
            cases dsc <;> simp [hi, hu] at hf <;> simp [isAgg, run_underlying hu]
          have ho : fl.offset = off := by cases dsc <;> simp [hi, hu] at hf <;> exact hf.1
          simp [exOp, execOp, hx, Instr.field, run_underlying hs, hfl, asAgg, part, ha, ho, hv]
    · cases hf
  · cases hf

theorem x_call {f : FuncId} {fn : Func} {c : Code} {args : Array Operand} {ats : Array TypeId} {vs : Array Value} (hf : P.funcs[f]? = some fn) (hn : (fn.name == "runtime.NumGoroutine") = false) (hb : fn.body = some c)
    (ha : args.map ρ = vs) (hfn : ρ (.func f) = .func (.func f) #[] #[]) :
    (exOp ρ (.call { callee := .value (.func f), args := args, argTypes := ats }) ty).run P w = .ok (.enter f vs) w := by
  have hn' : ¬ (fn.name == "runtime.NumGoroutine") = true := by simp [hn]
  simp only [exOp, execOp, resolve, Deferred.ofValue, hfn, ha, Array.empty_append, Sem.run_bind, Sem.run_pure, Result.andThen_ok, invoke, Array.append_empty, callFunc, run_program, hf]
  rw [if_neg hn', hb]
  rfl
theorem x_extern {f : FuncId} {fn : Func} {e : Array Value → Sem Value} {args : Array Operand} {ats : Array TypeId} {vs : Array Value} {v : Value} (hf : P.funcs[f]? = some fn) (hn : (fn.name == "runtime.NumGoroutine") = false)
    (hb : fn.body.isNone = true) (h1 : Extern.findNext fn = none) (h2 : Extern.find fn = some e) (ha : args.map ρ = vs) (hfn : ρ (.func f) = .func (.func f) #[] #[]) (hv : (e vs).run P w = .ok v w) :
    (exOp ρ (.call { callee := .value (.func f), args := args, argTypes := ats }) ty).run P w = .ok (.value v) w := by
  simp only [exOp, execOp, resolve, Deferred.ofValue, hfn, ha, Array.empty_append, Sem.run_bind, Sem.run_pure, Result.andThen_ok, invoke, Array.append_empty]
  rw [run_callFunc_extern hf hn hb h1 h2, hv]
  rfl
end

/-! ### Operations that make or write memory, with what follows -/
section
variable {P : Program} {ops : Array Oper} {C : World → Prop} {Q : Fr → World → Prop} {r : List (Nat × Md)} {ρ : Fr} {w : World} {i : Nat}
  {d : Option Tmp} {ty : TypeId} {g : Option (Nat × Bool)}

/-- The zero value's cells. -/
def zeroOf (P : Program) (t : TypeId) : Option (Array Value) :=
  match P.info? t with
  | some i => i.zero.map Value.cells
  | none => none

theorem run_zero {t : TypeId} {z : Array Value} (h : zeroOf P t = some z) (w : World) : ∃ v, (zeroValue t).run P w = .ok v w ∧ v.cells = z := by
  unfold zeroOf at h
  split at h
  · rename_i i hi
    cases hz : i.zero with
    | none => simp [hz] at h
    | some v =>
      simp only [hz, Option.map_some, Option.some.injEq] at h
      exact ⟨v, by simp [zeroValue, typeInfo, hi, hz], h⟩
  · cases h

theorem wk_new {op : Op} {o : Obj} (hso : softO o = true) (ho : opD ops i = some (d, op, ty, g)) (hw : wantedG ops ρ g = true)
    (hrun : (exOp ρ.ev op ty).run P w = .ok (.value (.pointer (some ⟨w.heap.size, 0, none⟩))) { w with heap := w.heap.push o })
    (h : ∀ w' b, b = w.heap.size → Ext [] w w' → w'.heap.size = b + 1 → w'.heap[b]? = some o → C w' ∧ wk P ops C Q r (updO ρ d (.pointer (some ⟨b, 0, none⟩))) w') :
    wk P ops C Q ((i, .loud) :: r) ρ w := by
  have := h _ _ rfl (Ext.alloc w o hso) (alloc_size w o) (alloc_new w o)
  exact wk_val ho hw _ hrun this.1 this.2

theorem x_box {e : TypeId} {x : Operand} {ρ : Operand → Value} : (exOp ρ (.box e x) ty).run P w = .ok (.value (.pointer (some ⟨w.heap.size, 0, none⟩))) { w with heap := w.heap.push (.cells (ρ x).cells e) } := by
  simp [exOp, execOp, Instr.box, newVar, newRow]
theorem x_alloc {e : TypeId} {z : Array Value} {ρ : Operand → Value} (hz : zeroOf P e = some z) :
    (exOp ρ (.alloc e) ty).run P w = .ok (.value (.pointer (some ⟨w.heap.size, 0, none⟩))) { w with heap := w.heap.push (.cells z e) } := by
  obtain ⟨v, hv, rfl⟩ := run_zero hz w
  simp [exOp, execOp, Instr.alloc, newVar, newRow, hv]

theorem wk_box {e : TypeId} {x : Operand} {cs : Array Value} (ho : opD ops i = some (d, .box e x, ty, g)) (hw : wantedG ops ρ g = true) (hx : (ρ.ev x).cells = cs)
    (h : ∀ w' b, b = w.heap.size → Ext [] w w' → w'.heap.size = b + 1 → w'.heap[b]? = some (.cells cs e (0, 0)) → C w' ∧ wk P ops C Q r (updO ρ d (.pointer (some ⟨b, 0, none⟩))) w') :
    wk P ops C Q ((i, .loud) :: r) ρ w := wk_new (o := .cells cs e) rfl ho hw (by rw [x_box, hx]) h
theorem wk_alloc {e : TypeId} {z : Array Value} (ho : opD ops i = some (d, .alloc e, ty, g)) (hw : wantedG ops ρ g = true) (hz : zeroOf P e = some z)
    (h : ∀ w' b, b = w.heap.size → Ext [] w w' → w'.heap.size = b + 1 → w'.heap[b]? = some (.cells z e (0, 0)) → C w' ∧ wk P ops C Q r (updO ρ d (.pointer (some ⟨b, 0, none⟩))) w') :
    wk P ops C Q ((i, .loud) :: r) ρ w := wk_new (o := .cells z e) rfl ho hw (x_alloc hz) h

/-- A store: one cell or many. -/
theorem wk_store {t : TypeId} {x a : Operand} {b off : Nat} {cs cs' vs : Array Value} {e : TypeId} (ho : opD ops i = some (d, .store t a x, ty, g)) (hw : wantedG ops ρ g = true)
    (ha : ρ.ev a = .pointer (some ⟨b, off, none⟩)) (hx : (ρ.ev x).cells = vs) (hs : P.cellsOf t = vs.size) (hi : (P.info? t).isSome = true) (hb : w.heap[b]? = some (.cells cs e (0, 0))) (hl : off + vs.size ≤ cs.size)
    (h1 : vs.toList.all Value.oneCell' = true) (hcs : putCells cs off vs.toList = cs')
    (h : ∀ w', Ext [b] w w' → w'.heap.size = w.heap.size → w'.heap[b]? = some (.cells cs' e (0, 0)) → C w' ∧ wk P ops C Q r (updO ρ d undef) w') :
    wk P ops C Q ((i, .loud) :: r) ρ w := by
  subst hcs
  obtain ⟨w', h2, h3, h4, h5⟩ := run_storeCells_put (P := P) b e vs.toList off 0 cs w hb (by simpa using hl) (fun v hv => List.all_eq_true.1 h1 v hv)
  obtain ⟨hC, hk⟩ := h w' h3 h4 (by simpa using h5)
  obtain ⟨inf, hinf⟩ := Option.isSome_iff_exists.1 hi
  have hsz : inf.size = vs.size := by simpa [Program.cellsOf, hinf] using hs
  refine wk_do ho hw ?_ hC hk
  simp [exOp, execOp, ha, Instr.storeAt, Instr.sureAddr, storeVar, sizeOf, typeInfo, hinf, hsz, hx, h2]
end
end Go.Wk
