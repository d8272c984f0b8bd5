/-
  A number's low bits.
-/
import Derived.Test.YtpcdldakilkldaaK23
namespace Go.Wk
open Go
section
variable {ρ : Operand → Value} {P : Program} {w : World} {ty : TypeId}
theorem x_and {t yt : TypeId} {x y : Operand} {k : IntKind} {a b : Int} (hx : ρ x = .int k a) (hy : ρ y = .int k b) :
    (exOp ρ (.binOp .and t x y yt) ty).run P w = .ok (.value (.int k (k.wrap ((BitVec.ofInt k.bits a &&& BitVec.ofInt k.bits b).toNat : Int)))) w :=
  x_int hx hy fun w => by simp [binOp, Op.intBits]
theorem and_low (n m : Nat) (hn : n < 9223372036854775808) (hm : 2 ^ m ≤ 9223372036854775808) : IntKind.i64.wrap ((BitVec.ofInt 64 (n : Int) &&& BitVec.ofInt 64 ((2 ^ m - 1 : Nat) : Int)).toNat : Int) = ((n % 2 ^ m : Nat) : Int) := by
  have e1 : (BitVec.ofInt 64 (n : Int)).toNat = n := by
    rw [BitVec.toNat_ofInt]; omega
  have e2 : (BitVec.ofInt 64 ((2 ^ m - 1 : Nat) : Int)).toNat = 2 ^ m - 1 := by
    rw [BitVec.toNat_ofInt]; omega
  rw [BitVec.toNat_and, e1, e2, Nat.and_two_pow_sub_one_eq_mod]
  have : n % 2 ^ m ≤ n := Nat.mod_le _ _
  exact i64_id (by omega)
theorem y_and7 {t yt : TypeId} {x y : Operand} {n : Nat} (hx : ρ x = .int .i64 (n : Int)) (hy : ρ y = .int .i64 7) (hn : n < 9223372036854775808) :
    (exOp ρ (.binOp .and t x y yt) ty).run P w = .ok (.value (.int .i64 ((n % 8 : Nat) : Int))) w := (x_and hx hy).trans (by rw [show (7 : Int) = ((2 ^ 3 - 1 : Nat) : Int) from rfl, show IntKind.i64.bits = 64 from rfl, and_low n 3 hn (by decide)])
end
end Go.Wk
