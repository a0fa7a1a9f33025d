/- More rules: remainders, bits, conversions of numbers, bools compared, fields of values. -/
import Derived.Test.YtgakbdofjlhoeaaSLQ
import Derived.Laws.Entries
namespace Go.Proofs.Ytgakbdofjlhoeaa.SL
open Go Go.RowKit
section
variable {P : Program} {s : World} {n : Nat} {E : List (Nat × Value)} {H : List HP} {ty : TypeId}
theorem Op_rem {x y : Operand} {t t' : TypeId} {k : IntKind} {a b : Int} (hx : ev E x = some (.int k a)) (hy : ev E y = some (.int k b)) (hb : b ≠ 0) : OpQ P s n E H (.binOp .rem t x y t') ty (.int k (a.tmod b)) :=
  bin_ints hx hy fun w => by simp [binOp, Op.intDiv, hb]
theorem Op_quo {x y : Operand} {t t' : TypeId} {k : IntKind} {a b : Int} (hx : ev E x = some (.int k a)) (hy : ev E y = some (.int k b)) (hb : b ≠ 0) : OpQ P s n E H (.binOp .quo t x y t') ty (.int k (k.wrap (a.tdiv b))) :=
  bin_ints hx hy fun w => by simp [binOp, Op.intDiv, hb]
theorem Op_and {x y : Operand} {t t' : TypeId} {k : IntKind} {a b : Int} (hx : ev E x = some (.int k a)) (hy : ev E y = some (.int k b)) : OpQ P s n E H (.binOp .and t x y t') ty (.int k (k.wrap (BitVec.ofInt k.bits a &&& BitVec.ofInt k.bits b).toNat)) :=
  bin_ints hx hy fun w => by simp [binOp, Op.intBits]
/-- The last bit. -/
theorem and_one (a : Int) : IntKind.i64.wrap (BitVec.ofInt 64 a &&& BitVec.ofInt 64 1).toNat = a % 2 := by
  have h : (BitVec.ofInt 64 a &&& BitVec.ofInt 64 1).toNat = (a % 2).toNat := by
    rw [BitVec.toNat_and]
    have e1 : (BitVec.ofInt 64 1).toNat = 1 := by decide
    rw [e1, Nat.and_one_is_mod, BitVec.toNat_ofInt]
    omega
  rw [h, IntKind.wrap_i64]
  omega
theorem Op_and1 {x y : Operand} {t t' : TypeId} {a : Int} (hx : ev E x = some (.int .i64 a)) (hy : ev E y = some (.int .i64 1)) : OpQ P s n E H (.binOp .and t x y t') ty (.int .i64 (a % 2)) := by
  have := Op_and (P := P) (s := s) (n := n) (H := H) (ty := ty) (t := t) (t' := t') hx hy
  have e := and_one a
  unfold IntKind.bits at this
  rw [e] at this
  exact this
theorem Op_convInt {x : Operand} {t t2 : TypeId} {k q : IntKind} {a : Int} (hx : ev E x = some (.int k a)) (h1 : (P.underlying t).isSome = true) (h2 : P.underlying t2 = some (.int q)) : OpQ P s n E H (.convert t t2 x) ty (.int q (q.wrap a)) := by
  intro ac w he hs d pos af g
  simp only [execOp, he.ev hx]
  refine run_v ?_
  have hk : P.intKind t2 = q := by simp [Program.intKind, h2]
  have h := run_convert_int (P := P) w t t2 k a (hs := h1) (hd := by rw [hk]; exact h2)
  rw [hk] at h
  exact h
theorem Op_convInt64 {x : Operand} {t t2 : TypeId} {k : IntKind} {a : Int} (hx : ev E x = some (.int k a)) (h1 : (P.underlying t).isSome = true) (h2 : P.underlying t2 = some (.int .i64)) (h : -9223372036854775808 ≤ a ∧ a ≤ 9223372036854775807) : OpQ P s n E H (.convert t t2 x) ty (.int .i64 a) := by
  have := Op_convInt (s := s) (n := n) (H := H) (ty := ty) hx h1 h2
  rwa [wrap_i64_id h] at this
theorem Op_neqb {x y : Operand} {t t' : TypeId} {a b : Bool} (hx : ev E x = some (.bool a)) (hy : ev E y = some (.bool b)) (ht : P.underlying t = some .bool) : OpQ P s n E H (.binOp .neq t x y t') ty (.bool (decide (a ≠ b))) := by
  intro ac w he hs d pos af g
  simp only [execOp, he.ev hx, he.ev hy]
  refine run_v ?_
  rw [Sem.run_bind]
  have : (eqGuard .neq t x y (.bool a) (.bool b)).run P w = .ok () w := by unfold eqGuard; rfl
  rw [this]
  have h := run_neq_bool (P := P) w t a b ht
  have e : (!(a == b)) = decide (a ≠ b) := by cases a <;> cases b <;> rfl
  rw [e] at h
  exact h
end
end Go.Proofs.Ytgakbdofjlhoeaa.SL
