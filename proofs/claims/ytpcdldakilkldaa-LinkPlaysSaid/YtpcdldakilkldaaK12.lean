/-
  Structs of two whole numbers; ^x of a uint64; bits.Add64; own slices once more.
-/
import Derived.Test.YtpcdldakilkldaaK11
import Derived.Laws.StructEq
import Derived.Laws.Externs
namespace Go.Wk
open Go

section
variable {α : Type} {enc : α → List Value} {sz : Nat} {w w' : World}
theorem ExtW.keepOwP {S : List Nat} (h : ExtW S w w') {e : TypeId} {a : Option Addr} {g c : Nat} {L : List α} {rest : List Value} (ho : OwO w e sz a g c enc L rest) (hS : L.length = 0 ∨ g ∉ S) : OwO w' e sz a g c enc L rest :=
  ⟨fun hp => ⟨(ho.own hp).1, h.keepOwn (ho.own hp).2 (hS.resolve_left (by omega))⟩, ho.le⟩
theorem OwO.lt {e : TypeId} {a : Option Addr} {g c : Nat} {L : List α} {rest : List Value} (ho : OwO w e sz a g c enc L rest) : L.length = 0 ∨ g < w.heap.size := by
  by_cases hp : 0 < L.length
  · exact .inr (ho.own hp).2.lt
  · exact .inl (by omega)
end

/-- A struct of two whole numbers. -/
def twoT (P : Program) (t : TypeId) : Bool :=
  !P.stoodInHeld t && !P.eqGuardType P.depth t && match P.underlying t with
  | some (.struct fs) => match fs.toList with
    | [f, g] => f.name != "_" && g.name != "_" && f.offset == 0 && g.offset == 1 && (match P.underlying f.type, P.underlying g.type with | some (.int _), some (.int _) => true | _, _ => false)
    | _ => false
  | _ => false

section
variable {P : Program} {ρ : Operand → Value} {ty : TypeId} {w : World}

theorem run_part_int {t : TypeId} {k : IntKind} (h : P.underlying t = some (.int k)) (cs : Array Value) (off : Nat) (v : Value) (hv : cs[off]? = some v) : (part t cs off).run P w = .ok v w := by
  have ha : (isAgg t).run P w = .ok false w := by simp [isAgg, run_underlying h]
  simp [part, ha, hv]

theorem twoT_spec {t : TypeId} (h : twoT P t = true) (k1 k2 : IntKind) (a b c d : Int) :
    P.eqGuardType P.depth t = false ∧ (Op.equalIn 10000 t (.agg #[.int k1 a, .int k2 b]) (.agg #[.int k1 c, .int k2 d])).run P w = .ok (decide (a = c ∧ b = d)) w := by
  simp only [twoT, Bool.and_eq_true, Bool.not_eq_true'] at h
  obtain ⟨⟨h1, h2⟩, h3⟩ := h
  refine ⟨h2, ?_⟩
  cases hu : P.underlying t with
  | none => simp [hu] at h3
  | some ds =>
    cases ds <;> simp only [hu, Bool.false_eq_true] at h3
    rename_i fs
    split at h3
    · rename_i f g hfs
      simp only [Bool.and_eq_true, bne_iff_ne, beq_iff_eq, ne_eq] at h3
      obtain ⟨⟨⟨⟨n1, n2⟩, o1⟩, o2⟩, h4⟩ := h3
      split at h4
      · rename_i q1 q2 u1 u2
        have hf : P.fieldsOf t = fs := by simp [Program.fieldsOf, hu]
        rw [run_equalIn_struct w 9999 t _ _ (by rw [hf]; exact hu) h1, hf, hfs]
        have e1 : ∀ a c w, (Op.equalIn 9999 f.type (.int k1 a) (.int k1 c)).run P w = .ok (a == c) w := fun a c w => run_equalIn_int (P := P) w 9998 f.type k1 q1 a c u1
        have e2 : ∀ b d w, (Op.equalIn 9999 g.type (.int k2 b) (.int k2 d)).run P w = .ok (b == d) w := fun b d w => run_equalIn_int (P := P) w 9998 g.type k2 q2 b d u2
        simp only [Op.eqFields, ne_eq, n1, n2, not_false_eq_true, if_true, Sem.run_bind, o1, o2, run_part_int u1 #[.int k1 a, .int k2 b] 0 _ rfl, run_part_int u1 #[.int k1 c, .int k2 d] 0 _ rfl,
          run_part_int u2 #[.int k1 a, .int k2 b] 1 _ rfl, run_part_int u2 #[.int k1 c, .int k2 d] 1 _ rfl, Result.andThen_ok, e1, e2]
        by_cases x1 : a = c <;> by_cases x2 : b = d <;> simp [x1, x2, e1, e2, run_part_int u2 #[.int k1 a, .int k2 b] 1 _ rfl, run_part_int u2 #[.int k1 c, .int k2 d] 1 _ rfl, run_part_int u2 #[.int k1 c, .int k2 b] 1 _ rfl]
      · cases h4
    · cases h3

theorem y_eql2 {t yt : TypeId} {x y : Operand} {k1 k2 : IntKind} {a b c d : Int} {r : Bool} (ht : twoT P t = true) (hx : ρ x = .agg #[.int k1 a, .int k2 b]) (hy : ρ y = .agg #[.int k1 c, .int k2 d]) (h : decide (a = c ∧ b = d) = r) :
    (exOp ρ (.binOp .eql t x y yt) ty).run P w = .ok (.value (.bool r)) w := by
  obtain ⟨h1, h2⟩ := twoT_spec (w := w) ht k1 k2 a b c d
  simp only [exOp, execOp, hx, hy, Sem.run_bind, run_eqGuard_agg w .eql t x y _ _ h1, Result.andThen_ok, run_eql_struct, h2, h, Sem.run_pure]
theorem y_neq2 {t yt : TypeId} {x y : Operand} {k1 k2 : IntKind} {a b c d : Int} {r : Bool} (ht : twoT P t = true) (hx : ρ x = .agg #[.int k1 a, .int k2 b]) (hy : ρ y = .agg #[.int k1 c, .int k2 d]) (h : decide (¬ (a = c ∧ b = d)) = r) :
    (exOp ρ (.binOp .neq t x y yt) ty).run P w = .ok (.value (.bool r)) w := by
  obtain ⟨h1, h2⟩ := twoT_spec (w := w) ht k1 k2 a b c d
  simp only [exOp, execOp, hx, hy, Sem.run_bind, run_eqGuard_agg w .neq t x y _ _ h1, Result.andThen_ok, run_neq_struct, h2, Sem.run_pure]
  rw [← h]
  by_cases hh : a = c ∧ b = d <;> simp [hh]

theorem y_xor64 {t : TypeId} {x : Operand} {a c : Int} (hx : ρ x = .int .u64 a) (h0 : 0 ≤ a ∧ a < 18446744073709551616) (h : 18446744073709551615 - a = c) : (exOp ρ (.unOp .xor t x) ty).run P w = .ok (.value (.int .u64 c)) w := by
  have key : IntKind.u64.wrap ((BitVec.ofInt 64 18446744073709551615 ^^^ BitVec.ofInt 64 a).toNat : Int) = c := by
    have e1 : (BitVec.ofInt 64 18446744073709551615 : BitVec 64) = BitVec.allOnes 64 := by decide
    rw [e1, BitVec.allOnes_xor]
    rw [BitVec.toNat_not, BitVec.toNat_ofInt]
    rw [u64_id] <;> omega
  have : (Op.unary .xor (.int .u64 a)).run P w = .ok (.int .u64 c) w := by
    rw [← key]; rfl
  simp only [exOp, execOp, hx, Sem.run_bind, this, Result.andThen_ok, Sem.run_pure]

theorem y_add64 {f : FuncId} {fn : Func} {x y z : Operand} {ats : Array TypeId} {a b c s o : Int} (hf : P.funcs[f]? = some fn) (hn : (fn.name == "runtime.NumGoroutine") = false)
    (hb : fn.body.isNone = true) (h1 : Extern.findNext fn = none) (h2 : Extern.find fn = some add64Entry) (hx : ρ x = .int .u64 a) (hy : ρ y = .int .u64 b) (hz : ρ z = .int .u64 c) (hfn : ρ (.func f) = .func (.func f) #[] #[])
    (ha : 0 ≤ a) (hb' : 0 ≤ b) (hc : 0 ≤ c ∧ c ≤ 1) (hs : (a + b + c) % 18446744073709551616 = s) (ho : (a + b + c) / 18446744073709551616 = o) :
    (exOp ρ (.call { callee := .value (.func f), args := #[x, y, z], argTypes := ats }) ty).run P w = .ok (.value (.tuple #[.int .u64 s, .int .u64 o])) w := by
  subst hs; subst ho
  exact x_extern hf hn hb h1 h2 (vs := #[.int .u64 a, .int .u64 b, .int .u64 c]) (by simp [hx, hy, hz]) hfn (run_add64 a b c ha hb' hc.1 hc.2 w)
end
end Go.Wk
