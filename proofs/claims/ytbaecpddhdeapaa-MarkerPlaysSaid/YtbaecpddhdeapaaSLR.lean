/- More rules: remainders, bits, conversions of numbers, bools compared, fields of values. -/
import Derived.Test.YtbaecpddhdeapaaSLQ
import Derived.Laws.Entries
namespace Go.Proofs.Ytbaecpddhdeapaa.SL
open Go Go.RowKit
section
variable {P : Program} {s : World} {n : Nat} {E : List (Nat × Value)} {H : List HP} {ty : TypeId}
theorem Op_rem {x y : Operand} {t t' : TypeId} {k : IntKind} {a b : Int} (hx : ev E x = some (.int k a)) (hy : ev E y = some (.int k b)) (hb : b ≠ 0) : OpQ P s n E H (.binOp .rem t x y t') ty (.int k (a.tmod b)) :=
  bin_ints hx hy fun w => by simp [binOp, Op.intDiv, hb]
theorem Op_quo {x y : Operand} {t t' : TypeId} {k : IntKind} {a b : Int} (hx : ev E x = some (.int k a)) (hy : ev E y = some (.int k b)) (hb : b ≠ 0) : OpQ P s n E H (.binOp .quo t x y t') ty (.int k (k.wrap (a.tdiv b))) :=
  bin_ints hx hy fun w => by simp [binOp, Op.intDiv, hb]
theorem Op_and {x y : Operand} {t t' : TypeId} {k : IntKind} {a b : Int} (hx : ev E x = some (.int k a)) (hy : ev E y = some (.int k b)) : OpQ P s n E H (.binOp .and t x y t') ty (.int k (k.wrap (BitVec.ofInt k.bits a &&& BitVec.ofInt k.bits b).toNat)) :=
  bin_ints hx hy fun w => by simp [binOp, Op.intBits]
/-- The last bit. -/
theorem and_one (a : Int) : IntKind.i64.wrap (BitVec.ofInt 64 a &&& BitVec.ofInt 64 1).toNat = a % 2 := by
  have h : (BitVec.ofInt 64 a &&& BitVec.ofInt 64 1).toNat = (a % 2).toNat := by
    rw [BitVec.toNat_and]
    have e1 : (BitVec.ofInt 64 1).toNat = 1 := by decide
    rw [e1, Nat.and_one_is_mod, BitVec.toNat_ofInt]
    omega
  rw [h, IntKind.wrap_i64]
  omega
theorem Op_and1 {x y : Operand} {t t' : TypeId} {a : Int} (hx : ev E x = some (.int .i64 a)) (hy : ev E y = some (.int .i64 1)) : OpQ P s n E H (.binOp .and t x y t') ty (.int .i64 (a % 2)) := by
  have := Op_and (P := P) (s := s) (n := n) (H := H) (ty := ty) (t := t) (t' := t') hx hy
  have e := and_one a
  unfold IntKind.bits at this
  rw [e] at this
  exact this
theorem Op_convInt {x : Operand} {t t2 : TypeId} {k q : IntKind} {a : Int} (hx : ev E x = some (.int k a)) (h1 : (P.underlying t).isSome = true) (h2 : P.underlying t2 = some (.int q)) : OpQ P s n E H (.convert t t2 x) ty (.int q (q.wrap a)) := by
  intro ac w he hs d pos af g
  simp only [execOp, he.ev hx]
  refine run_v ?_
  have hk : P.intKind t2 = q := by simp [Program.intKind, h2]
  have h := run_convert_int (P := P) w t t2 k a (hs := h1) (hd := by rw [hk]; exact h2)
  rw [hk] at h
  exact h
theorem Op_convInt64 {x : Operand} {t t2 : TypeId} {k : IntKind} {a : Int} (hx : ev E x = some (.int k a)) (h1 : (P.underlying t).isSome = true) (h2 : P.underlying t2 = some (.int .i64)) (h : -9223372036854775808 ≤ a ∧ a ≤ 9223372036854775807) : OpQ P s n E H (.convert t t2 x) ty (.int .i64 a) := by
  have := Op_convInt (s := s) (n := n) (H := H) (ty := ty) hx h1 h2
  rwa [wrap_i64_id h] at this
theorem Op_neqb {x y : Operand} {t t' : TypeId} {a b : Bool} (hx : ev E x = some (.bool a)) (hy : ev E y = some (.bool b)) (ht : P.underlying t = some .bool) : OpQ P s n E H (.binOp .neq t x y t') ty (.bool (decide (a ≠ b))) := by
  intro ac w he hs d pos af g
  simp only [execOp, he.ev hx, he.ev hy]
  refine run_v ?_
  rw [Sem.run_bind]
  have : (eqGuard .neq t x y (.bool a) (.bool b)).run P w = .ok () w := by unfold eqGuard; rfl
  rw [this]
  have h := run_neq_bool (P := P) w t a b ht
  have e : (!(a == b)) = decide (a ≠ b) := by cases a <;> cases b <;> rfl
  rw [e] at h
  exact h
theorem Op_fieldOld {x : Operand} {t : TypeId} {k : Nat} {q : Addr} {fs : Array Field} {f : Field} {z off : Nat} (hx : ev E x = some (.pointer (some q))) (ht : P.underlying t = some (.struct fs)) (hf : fs[k]? = some f)
    (hi : Sz P f.type z) (hz : Nat.beq z 0 = false) (ho : f.offset = off) : OpQ P s n E H (.fieldAddr t x k) ty (.pointer (some (q.add off))) := by
  subst ho
  intro a w he hs d pos af g
  simp only [execOp, he.ev hx]
  refine run_v ?_
  have hz' : ¬ (z = 0) := Nat.ne_of_beq_eq_false hz
  have hr := hi.run
  simp [Instr.fieldAt, run_underlying ht, hf, Instr.sureAddr, fieldPlace, hr, hz']
theorem Op_slice_lo0 {x l : Operand} {t e : TypeId} {a : Option Addr} {len cap : Nat} {kl : IntKind} {z : Nat} {j : Int} (hx : ev E x = some (.slice a len cap)) (hl : ev E l = some (.int kl j)) (hj : j = 0)
    (ht : P.underlying t = some (.slice e)) (hi : Sz P e z) : OpQ P s n E H (.slice t x (some l) none none) ty (.slice a len cap) := by
  subst hj
  intro ac w he hs d pos af g
  simp only [execOp, he.ev hx, Option.map, he.ev hl]
  refine run_v ?_
  have s2 : ∀ c w, (Instr.sliceBound (.int kl 0) len c).run P w = .ok 0 w := fun c w => by simp [Instr.sliceBound, asIntOf]
  have hb : (Instr.sliceBounds true len cap (some (.int kl 0)) none none).run P w = .ok (0, len, cap) w := by
    simp [Instr.sliceBounds, s2]
  simp only [Instr.sliceAt, Instr.slice]
  have hadd : ∀ a : Addr, a.add 0 = a := fun a => by simp [Addr.add]
  simp [run_underlying ht, hb, hi.run]
  intro _
  cases a <;> simp [hadd]
theorem Reads_nil {α : Type} {T : Ty α} {xs : List α} (h : xs = []) : Reads s H none (T.flat xs) := by
  subst h
  intro w _
  rfl
/-! arrays -/
theorem Op_buildArr {t e : TypeId} {len sz : Nat} {parts : List (Nat × Operand)} {vs cells : List Value} {z : Value} (ht : P.underlying t = some (.array len e)) (hz : Zr P t z) (hs : Sz P e sz)
    (hp : parts.map (fun p => ev E p.2) = vs.map some) (hc : lfill (fun i => some (i * sz, sz)) z.cells.toList ((parts.map (·.1)).zip vs) = some cells) : OpQ P s n E H (.build t parts.toArray) ty (.agg cells.toArray) := by
  intro a w he hs' d pos af g
  simp only [execOp]
  refine run_v ?_
  have hparts : (parts.toArray.map fun (i, x) => (i, a.eval x)).toList = (parts.map (·.1)).zip vs := by
    simp only [List.map_toArray]
    clear hc
    induction parts generalizing vs with
    | nil => rfl
    | cons p l ih =>
      cases vs with
      | nil => simp at hp
      | cons v vs =>
        simp only [List.map_cons, List.cons.injEq] at hp
        have h2 := ih hp.2
        simp [he.ev hp.1]
        simpa using h2
  have hc' := fill_eq _ _ _ hc
  unfold Instr.build
  rw [Sem.run_bind, hz.run]
  simp only [Result.andThen_ok]
  rw [Sem.run_bind, run_underlying ht]
  simp only [Result.andThen_ok]
  rw [Sem.run_bind, hs.run]
  simp only [Result.andThen_ok]
  rw [hparts]
  simp only [Array.toArray_toList] at hc'
  rw [hc']
  rfl
theorem Op_indexArr {x y : Operand} {t e : TypeId} {k : IntKind} {b o len o' : Nat} {j : Int} {z : Nat} (hx : ev E x = some (.pointer (some ⟨b, o, none⟩))) (hy : ev E y = some (.int k j))
    (ht : P.underlying t = some (.array len e)) (hi : Sz P e z) (h0 : 0 ≤ j) (h1 : j < len) (ho : o + j.toNat * z = o') :
    OpQ P s n E H (.indexAddr t x y) ty (.pointer (some ⟨b, o', none⟩)) := by
  intro a w he hs d pos af g
  simp only [execOp, he.ev hx, he.ev hy]
  refine run_v ?_
  subst ho
  have hadd : ∀ m, (⟨b, o, none⟩ : Addr).add m = ⟨b, o + m, none⟩ := fun m => by unfold Addr.add; split <;> simp_all
  simp [Instr.indexAt, asIntOf, Instr.sureAddr, run_underlying ht, h0, h1, hi.run, hadd]
end
section
variable {P : Program} {s : World} {n : Nat} {E : List (Nat × Value)} {Q : Exit → Act → World → Prop}
theorem CJ_app7 {c : Code} {x0 x1 x2 x3 x4 x5 x6 : HP} {R : List HP} (k : CJ P s n c E (x0 :: x1 :: x2 :: x3 :: x4 :: x5 :: x6 :: R) Q) : CJ P s n c E ([x0, x1, x2, x3, x4, x5, x6] ++ R) Q := k
theorem CJ_app8 {c : Code} {x0 x1 x2 x3 x4 x5 x6 x7 : HP} {R : List HP} (k : CJ P s n c E (x0 :: x1 :: x2 :: x3 :: x4 :: x5 :: x6 :: x7 :: R) Q) : CJ P s n c E ([x0, x1, x2, x3, x4, x5, x6, x7] ++ R) Q := k
theorem CJ_app9 {c : Code} {x0 x1 x2 x3 x4 x5 x6 x7 x8 : HP} {R : List HP} (k : CJ P s n c E (x0 :: x1 :: x2 :: x3 :: x4 :: x5 :: x6 :: x7 :: x8 :: R) Q) : CJ P s n c E ([x0, x1, x2, x3, x4, x5, x6, x7, x8] ++ R) Q := k
theorem CJ_app10 {c : Code} {x0 x1 x2 x3 x4 x5 x6 x7 x8 x9 : HP} {R : List HP} (k : CJ P s n c E (x0 :: x1 :: x2 :: x3 :: x4 :: x5 :: x6 :: x7 :: x8 :: x9 :: R) Q) : CJ P s n c E ([x0, x1, x2, x3, x4, x5, x6, x7, x8, x9] ++ R) Q := k
theorem CJ_app11 {c : Code} {x0 x1 x2 x3 x4 x5 x6 x7 x8 x9 x10 : HP} {R : List HP} (k : CJ P s n c E (x0 :: x1 :: x2 :: x3 :: x4 :: x5 :: x6 :: x7 :: x8 :: x9 :: x10 :: R) Q) : CJ P s n c E ([x0, x1, x2, x3, x4, x5, x6, x7, x8, x9, x10] ++ R) Q := k
theorem CJ_app12 {c : Code} {x0 x1 x2 x3 x4 x5 x6 x7 x8 x9 x10 x11 : HP} {R : List HP} (k : CJ P s n c E (x0 :: x1 :: x2 :: x3 :: x4 :: x5 :: x6 :: x7 :: x8 :: x9 :: x10 :: x11 :: R) Q) : CJ P s n c E ([x0, x1, x2, x3, x4, x5, x6, x7, x8, x9, x10, x11] ++ R) Q := k
theorem CJ_app13 {c : Code} {x0 x1 x2 x3 x4 x5 x6 x7 x8 x9 x10 x11 x12 : HP} {R : List HP} (k : CJ P s n c E (x0 :: x1 :: x2 :: x3 :: x4 :: x5 :: x6 :: x7 :: x8 :: x9 :: x10 :: x11 :: x12 :: R) Q) : CJ P s n c E ([x0, x1, x2, x3, x4, x5, x6, x7, x8, x9, x10, x11, x12] ++ R) Q := k
theorem CJ_app14 {c : Code} {x0 x1 x2 x3 x4 x5 x6 x7 x8 x9 x10 x11 x12 x13 : HP} {R : List HP} (k : CJ P s n c E (x0 :: x1 :: x2 :: x3 :: x4 :: x5 :: x6 :: x7 :: x8 :: x9 :: x10 :: x11 :: x12 :: x13 :: R) Q) : CJ P s n c E ([x0, x1, x2, x3, x4, x5, x6, x7, x8, x9, x10, x11, x12, x13] ++ R) Q := k
theorem CJ_app15 {c : Code} {x0 x1 x2 x3 x4 x5 x6 x7 x8 x9 x10 x11 x12 x13 x14 : HP} {R : List HP} (k : CJ P s n c E (x0 :: x1 :: x2 :: x3 :: x4 :: x5 :: x6 :: x7 :: x8 :: x9 :: x10 :: x11 :: x12 :: x13 :: x14 :: R) Q) : CJ P s n c E ([x0, x1, x2, x3, x4, x5, x6, x7, x8, x9, x10, x11, x12, x13, x14] ++ R) Q := k
theorem CJ_app16 {c : Code} {x0 x1 x2 x3 x4 x5 x6 x7 x8 x9 x10 x11 x12 x13 x14 x15 : HP} {R : List HP} (k : CJ P s n c E (x0 :: x1 :: x2 :: x3 :: x4 :: x5 :: x6 :: x7 :: x8 :: x9 :: x10 :: x11 :: x12 :: x13 :: x14 :: x15 :: R) Q) : CJ P s n c E ([x0, x1, x2, x3, x4, x5, x6, x7, x8, x9, x10, x11, x12, x13, x14, x15] ++ R) Q := k
end
end Go.Proofs.Ytbaecpddhdeapaa.SL
