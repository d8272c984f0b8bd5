/-
  The forms of code by name: what a printed walk leans on.
-/
import Derived.Test.YtpcdldakilkldaaK5
namespace Go.Wk
open Go

def s1 : Code → Code
  | .seq a _ => a
  | .block _ c => c
  | .loop c => c
  | .cond _ a _ => a
  | c => c
def s2 : Code → Code
  | .seq _ b => b
  | .cond _ _ b => b
  | c => c
def rops : Code → Array Oper
  | .region _ ops _ => ops
  | _ => #[]

section
variable {P : Program} {n : Nat} {Q : Exit → Fr → World → Prop} {ρ : Fr} {w : World} {c x y : Code}

theorem g_seq (hc : c = .seq x y) (h : cw P n x (thn (fun ρ' w' => cw P n y Q ρ' w') Q) ρ w) : cw P n c Q ρ w := by subst hc; exact cw_seq h
theorem g_block {id : Nat} (hc : c = .block id x) (h : cw P n x (blk id Q) ρ w) : cw P n c Q ρ w := by subst hc; exact cw_block h
theorem g_cond_t {o : Operand} (hc : c = .cond o x y) (ho : ρ.ev o = .bool true) (h : cw P n x Q ρ w) : cw P n c Q ρ w := by
  subst hc; exact cw_cond ho (fun _ => h) (fun e => by cases e)
theorem g_cond_f {o : Operand} (hc : c = .cond o x y) (ho : ρ.ev o = .bool false) (h : cw P n y Q ρ w) : cw P n c Q ρ w := by
  subst hc; exact cw_cond ho (fun e => by cases e) (fun _ => h)
theorem g_cond {o : Operand} {t : Bool} (hc : c = .cond o x y) (ho : ρ.ev o = .bool t) (h1 : t = true → cw P n x Q ρ w) (h2 : t = false → cw P n y Q ρ w) : cw P n c Q ρ w := by
  subst hc; exact cw_cond ho h1 h2
theorem g_loop (hc : c = .loop x) (I : Nat → Fr → World → Prop) (m : Nat) (h₀ : I m ρ w)
    (round : ∀ m ρ w, I m ρ w → cw P n x (thn (fun ρ' w' => ∃ m', m' < m ∧ I m' ρ' w') Q) ρ w) : cw P n c Q ρ w := by subst hc; exact cw_loop I m h₀ round
theorem g_ret (hc : c = .ret) (h : Q .ret ρ w) : cw P n c Q ρ w := by subst hc; exact cw_ret h
theorem g_skip (hc : c = .skip) (h : Q .normal ρ w) : cw P n c Q ρ w := by subst hc; exact cw_skip h
theorem g_exit {id : Nat} (hc : c = .exit id) (h : Q (.exit id) ρ w) : cw P n c Q ρ w := by subst hc; exact cw_exit h
theorem g_region {id : Nat} {ops : Array Oper} (hc : c = .region id ops false) (order : List (Nat × Md)) (hd : dstsB ops n = true) (ho : order.map (·.1) = List.range ops.size)
    (h : wk P ops (fun _ => True) (fun ρ w => Q .normal ρ w) order ρ w) : cw P n c Q ρ w := by subst hc; exact cw_region order hd ho h
theorem g_draw {id : Nat} {ops : Array Oper} (hc : c = .region id ops true) (C : World → World → Prop) (order : List (Nat × Md)) (hm : P.follows .mixedOrders = true)
    (hB : (dstsB ops n && Region.noSelect ops && decide (order.length = ops.size) && canon P ops order (Array.replicate ops.size false)) = true) (hC : ∀ w, C w w)
    (h : ∀ w1, SameMem w w1 → wk P ops (C w1) (fun ρ w => Q .normal ρ w) order ρ w1) : cw P n c Q ρ w := by
  subst hc
  simp only [Bool.and_eq_true, decide_eq_true_eq] at hB
  exact cw_region_draw C order hm hB.1.1.1 hB.1.1.2 hB.1.2 hB.2 hC h

theorem thn_n {K : Fr → World → Prop} (h : K ρ w) : thn K Q .normal ρ w := h
theorem thn_r {K : Fr → World → Prop} (h : Q .ret ρ w) : thn K Q .ret ρ w := h
theorem thn_e {K : Fr → World → Prop} {id : Nat} (h : Q (.exit id) ρ w) : thn K Q (.exit id) ρ w := h
theorem blk_n {id : Nat} (h : Q .normal ρ w) : blk id Q .normal ρ w := h
theorem blk_r {id : Nat} (h : Q .ret ρ w) : blk id Q .ret ρ w := h
theorem blk_hit {id : Nat} (h : Q .normal ρ w) : blk id Q (.exit id) ρ w := by simp only [blk, if_true]; exact h
theorem blk_miss {id id' : Nat} (hne : id' ≠ id) (h : Q (.exit id') ρ w) : blk id Q (.exit id') ρ w := by simp only [blk]; rw [if_neg hne]; exact h
end

section
variable {P : Program} {fn : Func} {K : Value → World → Prop} {ρ : Fr} {w : World}
theorem ends0_n (hr : fn.results = #[]) (h : K (.tuple #[]) w) : ends P fn K .normal ρ w := ⟨_, res_none hr ρ w, h⟩
theorem ends0_r (hr : fn.results = #[]) (h : K (.tuple #[]) w) : ends P fn K .ret ρ w := ⟨_, res_none hr ρ w, h⟩
theorem ends1_r {t : Tmp} {v : Value} (hr : fn.results = #[.tmp t]) (hv : ρ t = v) (h : K v w) : ends P fn K .ret ρ w := ⟨_, res_one hr ρ w, hv ▸ h⟩
theorem ends2_r {t u : Tmp} {v v' : Value} (hr : fn.results = #[.tmp t, .tmp u]) (hv : ρ t = v) (hv' : ρ u = v') (h : K (.tuple #[v, v']) w) : ends P fn K .ret ρ w :=
  ⟨_, res_two hr ρ w, by rw [hv, hv']; exact h⟩
theorem ends3_r {t u s : Tmp} {v v' v'' : Value} (hr : fn.results = #[.tmp t, .tmp u, .tmp s]) (hv : ρ t = v) (hv' : ρ u = v') (hv'' : ρ s = v'') (h : K (.tuple #[v, v', v'']) w) : ends P fn K .ret ρ w :=
  ⟨_, res_three hr ρ w, by rw [hv, hv', hv'']; exact h⟩
/-- Results of whatever kinds, by their run. -/
theorem endsR {v : Value} (hv : (resultsF fn ρ).run P w = .ok v w) (h : K v w) : ends P fn K .ret ρ w := ⟨v, hv, h⟩
end

/-! Pure operations, their answer as one likes it. -/
section
variable {P : Program} {ρ : Operand → Value} {ty : TypeId} {w : World} {t yt : TypeId} {x y : Operand} {k : IntKind} {a b c : Int} {r : Bool}
theorem y_add (hx : ρ x = .int k a) (hy : ρ y = .int k b) (h : k.wrap (a + b) = c) : (exOp ρ (.binOp .add t x y yt) ty).run P w = .ok (.value (.int k c)) w := h ▸ x_add hx hy
theorem y_sub (hx : ρ x = .int k a) (hy : ρ y = .int k b) (h : k.wrap (a - b) = c) : (exOp ρ (.binOp .sub t x y yt) ty).run P w = .ok (.value (.int k c)) w := h ▸ x_sub hx hy
theorem y_mul (hx : ρ x = .int k a) (hy : ρ y = .int k b) (h : k.wrap (a * b) = c) : (exOp ρ (.binOp .mul t x y yt) ty).run P w = .ok (.value (.int k c)) w := h ▸ x_mul hx hy
theorem y_quo (hx : ρ x = .int k a) (hy : ρ y = .int k b) (h0 : b ≠ 0) (h : k.wrap (a.tdiv b) = c) : (exOp ρ (.binOp .quo t x y yt) ty).run P w = .ok (.value (.int k c)) w := h ▸ x_quo hx hy h0
theorem y_rem (hx : ρ x = .int k a) (hy : ρ y = .int k b) (h0 : b ≠ 0) (h : a.tmod b = c) : (exOp ρ (.binOp .rem t x y yt) ty).run P w = .ok (.value (.int k c)) w := h ▸ x_rem hx hy h0
theorem y_lss (hx : ρ x = .int k a) (hy : ρ y = .int k b) (h : decide (a < b) = r) : (exOp ρ (.binOp .lss t x y yt) ty).run P w = .ok (.value (.bool r)) w := h ▸ x_lss hx hy
theorem y_leq (hx : ρ x = .int k a) (hy : ρ y = .int k b) (h : decide (a ≤ b) = r) : (exOp ρ (.binOp .leq t x y yt) ty).run P w = .ok (.value (.bool r)) w := h ▸ x_leq hx hy
theorem y_gtr (hx : ρ x = .int k a) (hy : ρ y = .int k b) (h : decide (b < a) = r) : (exOp ρ (.binOp .gtr t x y yt) ty).run P w = .ok (.value (.bool r)) w := h ▸ x_gtr hx hy
theorem y_geq (hx : ρ x = .int k a) (hy : ρ y = .int k b) (h : decide (b ≤ a) = r) : (exOp ρ (.binOp .geq t x y yt) ty).run P w = .ok (.value (.bool r)) w := h ▸ x_geq hx hy
theorem y_eql (hx : ρ x = .int k a) (hy : ρ y = .int k b) (h : decide (a = b) = r) : (exOp ρ (.binOp .eql t x y yt) ty).run P w = .ok (.value (.bool r)) w := h ▸ x_eql hx hy
theorem y_neq (hx : ρ x = .int k a) (hy : ρ y = .int k b) (h : decide (a ≠ b) = r) : (exOp ρ (.binOp .neq t x y yt) ty).run P w = .ok (.value (.bool r)) w := h ▸ x_neq hx hy
theorem y_not {p : Bool} (hx : ρ x = .bool p) (h : (!p) = r) : (exOp ρ (.unOp .not t x) ty).run P w = .ok (.value (.bool r)) w := h ▸ x_not hx
theorem y_neg (hx : ρ x = .int k a) (h : k.wrap (0 - a) = c) : (exOp ρ (.unOp .neg t x) ty).run P w = .ok (.value (.int k c)) w := h ▸ x_neg hx
theorem y_conv {s d : TypeId} {q : IntKind} (hs : (P.underlying s).isSome = true) (hd : P.underlying d = some (.int k)) (hx : ρ x = .int q a) (h : k.wrap a = c) :
    (exOp ρ (.convert s d x) ty).run P w = .ok (.value (.int k c)) w := h ▸ x_conv hs hd hx
theorem y_move {v : Value} (hx : ρ x = v) : (exOp ρ (.move x) ty).run P w = .ok (.value v) w := hx ▸ x_move x
theorem y_assign {v : Value} (hx : ρ x = v) : (exOp ρ (.assign x) ty).run P w = .ok (.value v) w := hx ▸ x_assign x
theorem y_pick_t {o : Operand} {v : Value} (hc : ρ o = .bool true) (hx : ρ x = v) : (exOp ρ (.pick o x y) ty).run P w = .ok (.value v) w := hx ▸ x_pick_t hc
theorem y_pick_f {o : Operand} {v : Value} (hc : ρ o = .bool false) (hx : ρ y = v) : (exOp ρ (.pick o x y) ty).run P w = .ok (.value v) w := hx ▸ x_pick_f hc
theorem tmod_of {a b c : Int} (h0 : 0 ≤ a) (h : a % b = c) : a.tmod b = c := by rw [Int.tmod_eq_emod_of_nonneg h0]; exact h
theorem tdiv_of {a b c : Int} (h0 : 0 ≤ a) (h : IntKind.i64.wrap (a / b) = c) : IntKind.i64.wrap (a.tdiv b) = c := by rw [Int.tdiv_eq_ediv_of_nonneg h0]; exact h
end
end Go.Wk
