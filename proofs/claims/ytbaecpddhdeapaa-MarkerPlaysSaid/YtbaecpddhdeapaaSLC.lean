/- Rules for the operations that compute with numbers, bools, strings, pointers and slices' values; loads. -/
import Derived.Test.YtbaecpddhdeapaaSLB
namespace Go.Proofs.Ytbaecpddhdeapaa.SL
open Go Go.RowKit

section
variable {P : Program} {s : World} {n : Nat} {E : List (Nat × Value)} {H : List HP} {ty : TypeId}

/-- A type's cells, its zero value, its bytes. -/
def Sz (P : Program) (t : TypeId) (k : Nat) : Prop := (P.info? t).map (·.size) = some k
def Zr (P : Program) (t : TypeId) (z : Value) : Prop := (P.info? t).map (·.zero) = some (some z)
def By (P : Program) (t : TypeId) (k : Nat) : Prop := (P.info? t).map (·.bytes) = some k
theorem Sz.out {t : TypeId} {k : Nat} (h : Sz P t k) : ∃ i, P.info? t = some i ∧ i.size = k := by
  unfold Sz at h
  cases hh : P.info? t with
  | none => simp [hh] at h
  | some i => exact ⟨i, rfl, by simpa [hh] using h⟩
theorem Sz.run {t : TypeId} {k : Nat} (h : Sz P t k) (w : World) : (sizeOf t).run P w = .ok k w := by
  obtain ⟨i, hi, hk⟩ := h.out
  simp [sizeOf, typeInfo, hi, hk]
theorem Zr.run {t : TypeId} {z : Value} (h : Zr P t z) (w : World) : (zeroValue t).run P w = .ok z w := by
  unfold Zr at h
  cases hh : P.info? t with
  | none => simp [hh] at h
  | some i =>
    have : i.zero = some z := by simpa [hh] using h
    simp [zeroValue, typeInfo, hh, this]

theorem run_v {m : Sem Value} {v : Value} {w w' : World} (h : m.run P w = .ok v w') : ((do pure (Next.value (← m))) : Sem Next).run P w = .ok (.value v) w' := by
  rw [Sem.run_bind, h]; rfl

theorem run_u {m : Sem Unit} {w w' : World} (h : m.run P w = .ok () w') : ((do m; pure Next.skip) : Sem Next).run P w = .ok .skip w' := by
  rw [Sem.run_bind, h]; rfl

theorem Op_move {x : Operand} {v : Value} (hx : ev E x = some v) : OpQ P s n E H (.move x) ty v := by
  intro a w he hs d pos af g
  show Result.ok (Next.value (a.eval x)) w = _
  rw [he.ev hx]
theorem Op_assign {x : Operand} {v : Value} (hx : ev E x = some v) : OpQ P s n E H (.assign x) ty v := by
  intro a w he hs d pos af g
  show Result.ok (Next.value (a.eval x)) w = _
  rw [he.ev hx]

theorem Op_nilCheck {x : Operand} {p : Addr} (hx : ev E x = some (.pointer (some p))) : OpQ P s n E H (.nilCheck x) ty (.pointer (some p)) := by
  intro a w he hs d pos af g
  simp only [execOp, he.ev hx]; rfl

theorem Op_pick_t {c x y : Operand} {v : Value} {b : Bool} (hc : ev E c = some (.bool b)) (hb : b = true) (hx : ev E x = some v) : OpQ P s n E H (.pick c x y) ty v := by
  intro a w he hs d pos af g
  subst hb
  simp only [execOp, he.ev hc, he.ev hx, asBool]; rfl
theorem Op_pick_f {c x y : Operand} {v : Value} {b : Bool} (hc : ev E c = some (.bool b)) (hb : b = false) (hy : ev E y = some v) : OpQ P s n E H (.pick c x y) ty v := by
  intro a w he hs d pos af g
  subst hb
  simp only [execOp, he.ev hc, he.ev hy, asBool]; rfl

theorem Op_not {x : Operand} {t : TypeId} {b : Bool} (hx : ev E x = some (.bool b)) : OpQ P s n E H (.unOp .not t x) ty (.bool !b) := by
  intro a w he hs d pos af g
  simp only [execOp, he.ev hx]; rfl

theorem Op_extract {x : Operand} {k : Nat} {vs : Array Value} {v : Value} (hx : ev E x = some (.tuple vs)) (hv : vs[k]? = some v) : OpQ P s n E H (.extract x k) ty v := by
  intro a w he hs d pos af g
  simp only [execOp, he.ev hx, Instr.extract, hv]; rfl

/-! numbers -/
section ints
variable {x y : Operand} {t t' : TypeId} {k : IntKind} {a b : Int}

theorem bin_ints {op : BinOp} {v : Value} (hx : ev E x = some (.int k a)) (hy : ev E y = some (.int k b)) (h : ∀ w, (binOp op t (.int k a) (.int k b)).run P w = .ok v w) : OpQ P s n E H (.binOp op t x y t') ty v := by
  intro ac w he hs d pos af g
  simp only [execOp, he.ev hx, he.ev hy]
  refine run_v ?_
  rw [Sem.run_bind]
  have : (eqGuard op t x y (.int k a) (.int k b)).run P w = .ok () w := by
    unfold eqGuard
    cases op <;> rfl
  rw [this]
  exact h w

theorem Op_add (hx : ev E x = some (.int k a)) (hy : ev E y = some (.int k b)) : OpQ P s n E H (.binOp .add t x y t') ty (.int k (k.wrap (a + b))) :=
  bin_ints hx hy fun w => by simp [binOp, Op.intArith]
theorem Op_sub (hx : ev E x = some (.int k a)) (hy : ev E y = some (.int k b)) : OpQ P s n E H (.binOp .sub t x y t') ty (.int k (k.wrap (a - b))) :=
  bin_ints hx hy fun w => by simp [binOp, Op.intArith]
theorem Op_mul (hx : ev E x = some (.int k a)) (hy : ev E y = some (.int k b)) : OpQ P s n E H (.binOp .mul t x y t') ty (.int k (k.wrap (a * b))) :=
  bin_ints hx hy fun w => by simp [binOp, Op.intArith]

theorem wrap_i64_id {a : Int} (h : -9223372036854775808 ≤ a ∧ a ≤ 9223372036854775807) : IntKind.i64.wrap a = a := by
  rw [IntKind.wrap_i64]; omega

theorem Op_add64 (hx : ev E x = some (.int .i64 a)) (hy : ev E y = some (.int .i64 b)) (h : -9223372036854775808 ≤ a + b ∧ a + b ≤ 9223372036854775807) : OpQ P s n E H (.binOp .add t x y t') ty (.int .i64 (a + b)) := by
  have := Op_add (P := P) (s := s) (n := n) (H := H) (ty := ty) (t := t) (t' := t') hx hy
  rwa [wrap_i64_id h] at this
theorem Op_sub64 (hx : ev E x = some (.int .i64 a)) (hy : ev E y = some (.int .i64 b)) (h : -9223372036854775808 ≤ a - b ∧ a - b ≤ 9223372036854775807) : OpQ P s n E H (.binOp .sub t x y t') ty (.int .i64 (a - b)) := by
  have := Op_sub (P := P) (s := s) (n := n) (H := H) (ty := ty) (t := t) (t' := t') hx hy
  rwa [wrap_i64_id h] at this

theorem Op_lss (hx : ev E x = some (.int k a)) (hy : ev E y = some (.int k b)) : OpQ P s n E H (.binOp .lss t x y t') ty (.bool (decide (a < b))) :=
  bin_ints hx hy fun w => by simp [binOp, Op.intCmp]
theorem Op_leq (hx : ev E x = some (.int k a)) (hy : ev E y = some (.int k b)) : OpQ P s n E H (.binOp .leq t x y t') ty (.bool (decide (a ≤ b))) :=
  bin_ints hx hy fun w => by simp [binOp, Op.intCmp]
theorem Op_gtr (hx : ev E x = some (.int k a)) (hy : ev E y = some (.int k b)) : OpQ P s n E H (.binOp .gtr t x y t') ty (.bool (decide (b < a))) :=
  bin_ints hx hy fun w => by simp [binOp, Op.intCmp]
theorem Op_geq (hx : ev E x = some (.int k a)) (hy : ev E y = some (.int k b)) : OpQ P s n E H (.binOp .geq t x y t') ty (.bool (decide (b ≤ a))) :=
  bin_ints hx hy fun w => by simp [binOp, Op.intCmp]
theorem Op_eql (hx : ev E x = some (.int k a)) (hy : ev E y = some (.int k b)) : OpQ P s n E H (.binOp .eql t x y t') ty (.bool (decide (a = b))) :=
  bin_ints hx hy fun w => by simp [binOp, Op.intCmp]; exact (by rw [Bool.eq_iff_iff]; simp)
theorem Op_neq (hx : ev E x = some (.int k a)) (hy : ev E y = some (.int k b)) : OpQ P s n E H (.binOp .neq t x y t') ty (.bool (decide (a ≠ b))) :=
  bin_ints hx hy fun w => by simp [binOp, Op.intCmp, bne]; exact (by rw [Bool.eq_iff_iff]; simp)
theorem Op_xor (hx : ev E x = some (.int k a)) (hy : ev E y = some (.int k b)) : OpQ P s n E H (.binOp .xor t x y t') ty (.int k (k.wrap (BitVec.ofInt k.bits a ^^^ BitVec.ofInt k.bits b).toNat)) :=
  bin_ints hx hy fun w => by simp [binOp, Op.intBits]
end ints

/-! a pointer against nil -/
theorem Op_ptr_eq_nil {x y : Operand} {t t' e : TypeId} {p : Option Addr} (hx : ev E x = some (.pointer p)) (hy : ev E y = some (.pointer none)) (ht : P.underlying t = some (.pointer e)) :
    OpQ P s n E H (.binOp .eql t x y t') ty (.bool p.isNone) := by
  intro ac w he hs d pos af g
  simp only [execOp, he.ev hx, he.ev hy]
  refine run_v ?_
  rw [Sem.run_bind]
  have : (eqGuard .eql t x y (.pointer p) (.pointer none)).run P w = .ok () w := by unfold eqGuard; rfl
  rw [this]
  have hpt : P.pointee t = e := by simp [Program.pointee, ht]
  have := run_eql_pointer_nil (P := P) w t p (by rw [hpt]; exact ht)
  cases p <;> simpa using this
theorem Op_ptr_ne_nil {x y : Operand} {t t' e : TypeId} {p : Option Addr} (hx : ev E x = some (.pointer p)) (hy : ev E y = some (.pointer none)) (ht : P.underlying t = some (.pointer e)) :
    OpQ P s n E H (.binOp .neq t x y t') ty (.bool p.isSome) := by
  intro ac w he hs d pos af g
  simp only [execOp, he.ev hx, he.ev hy]
  refine run_v ?_
  rw [Sem.run_bind]
  have : (eqGuard .neq t x y (.pointer p) (.pointer none)).run P w = .ok () w := by unfold eqGuard; rfl
  rw [this]
  have hpt : P.pointee t = e := by simp [Program.pointee, ht]
  have := run_neq_pointer_nil (P := P) w t p (by rw [hpt]; exact ht)
  cases p <;> simpa using this

/-! strings -/
section strs
variable {x y : Operand} {t t' : TypeId} {a b : ByteArray}
theorem bin_strs {op : BinOp} {v : Value} (hx : ev E x = some (.string a)) (hy : ev E y = some (.string b)) (h : ∀ w, (binOp op t (.string a) (.string b)).run P w = .ok v w) : OpQ P s n E H (.binOp op t x y t') ty v := by
  intro ac w he hs d pos af g
  simp only [execOp, he.ev hx, he.ev hy]
  refine run_v ?_
  rw [Sem.run_bind]
  have : (eqGuard op t x y (.string a) (.string b)).run P w = .ok () w := by
    unfold eqGuard
    cases op <;> rfl
  rw [this]
  exact h w
theorem bytes_toList (a : ByteArray) : a.toList = a.data.toList := ByteArray.toList_eq a
theorem toList_beq (a b : ByteArray) : (a.toList == b.toList) = decide (a = b) := by
  rw [Bool.eq_iff_iff]
  simp only [beq_iff_eq, decide_eq_true_eq]
  constructor
  · intro h
    rw [bytes_toList, bytes_toList] at h
    exact ByteArray.ext (Array.ext' h)
  · rintro rfl; rfl
theorem Op_str_eql (hx : ev E x = some (.string a)) (hy : ev E y = some (.string b)) : OpQ P s n E H (.binOp .eql t x y t') ty (.bool (decide (a = b))) :=
  bin_strs hx hy fun w => by simp [binOp, Op.stringOp, toList_beq]
theorem Op_str_neq (hx : ev E x = some (.string a)) (hy : ev E y = some (.string b)) : OpQ P s n E H (.binOp .neq t x y t') ty (.bool (decide (a ≠ b))) :=
  bin_strs hx hy fun w => by simp [binOp, Op.stringOp, toList_beq]
theorem Op_str_lss (hx : ev E x = some (.string a)) (hy : ev E y = some (.string b)) : OpQ P s n E H (.binOp .lss t x y t') ty (.bool (Op.bytesLess a.data.toList b.data.toList)) :=
  bin_strs hx hy fun w => by simp [binOp, Op.stringOp, bytes_toList]
end strs

/-! addresses -/
theorem Op_fieldAddr {x : Operand} {t : TypeId} {k b o o' : Nat} {fs : Array Field} {f : Field} {z : Nat} (hx : ev E x = some (.pointer (some ⟨b, o, none⟩))) (ht : P.underlying t = some (.struct fs)) (hf : fs[k]? = some f)
    (hi : Sz P f.type z) (hz : Nat.beq z 0 = false) (ho : o + f.offset = o') : OpQ P s n E H (.fieldAddr t x k) ty (.pointer (some ⟨b, o', none⟩)) := by
  intro a w he hs d pos af g
  simp only [execOp, he.ev hx]
  refine run_v ?_
  have hz' : ¬ (z = 0) := Nat.ne_of_beq_eq_false hz
  have hr := hi.run
  subst ho
  have hadd : (⟨b, o, none⟩ : Addr).add f.offset = ⟨b, o + f.offset, none⟩ := by unfold Addr.add; split <;> simp_all
  simp [Instr.fieldAt, run_underlying ht, hf, Instr.sureAddr, fieldPlace, hr, hz', hadd]

theorem Op_indexAddr {x y : Operand} {t e : TypeId} {k : IntKind} {b o len cap o' : Nat} {j : Int} {z : Nat} (hx : ev E x = some (.slice (some ⟨b, o, none⟩) len cap)) (hy : ev E y = some (.int k j))
    (ht : P.underlying t = some (.slice e)) (hi : Sz P e z) (h0 : 0 ≤ j) (h1 : j < len) (ho : o + j.toNat * z = o') :
    OpQ P s n E H (.indexAddr t x y) ty (.pointer (some ⟨b, o', none⟩)) := by
  intro a w he hs d pos af g
  simp only [execOp, he.ev hx, he.ev hy]
  refine run_v ?_
  subst ho
  have hadd : ∀ m, (⟨b, o, none⟩ : Addr).add m = ⟨b, o + m, none⟩ := fun m => by unfold Addr.add; split <;> simp_all
  simp [Instr.indexAt, asIntOf, run_underlying ht, h0, h1, hi.run, hadd]

theorem Op_len_slice {x : Operand} {t e : TypeId} {a : Option Addr} {len cap : Nat} (hx : ev E x = some (.slice a len cap)) (ht : P.underlying t = some (.slice e)) :
    OpQ P s n E H (.call { callee := .builtin .len, args := #[x], argTypes := #[t] }) ty (.int .i64 len) := by
  intro ac w he hs d pos af g
  simp [execOp, resolve, he.ev hx, invoke, builtin, Builtin.len_, run_underlying ht, goInt]
theorem Op_len_str {x : Operand} {t : TypeId} {a : ByteArray} (hx : ev E x = some (.string a)) (ht : P.underlying t = some .string) :
    OpQ P s n E H (.call { callee := .builtin .len, args := #[x], argTypes := #[t] }) ty (.int .i64 a.size) := by
  intro ac w he hs d pos af g
  simp [execOp, resolve, he.ev hx, invoke, builtin, Builtin.len_, run_underlying ht, goInt]

/-- x[l:h:m] of a slice, each bound there or not. -/
theorem Op_slice3 {x l h m : Operand} {t e : TypeId} {b o len cap : Nat} {kl kh km : IntKind} {jl jh jm : Int} {z : Nat} (hx : ev E x = some (.slice (some ⟨b, o, none⟩) len cap)) (hl : ev E l = some (.int kl jl)) (hh : ev E h = some (.int kh jh)) (hm : ev E m = some (.int km jm))
    (ht : P.underlying t = some (.slice e)) (hi : Sz P e z) (h0 : 0 ≤ jl) (h1 : jl ≤ jh) (h2 : jh ≤ jm) (h3 : jm ≤ cap) :
    OpQ P s n E H (.slice t x (some l) (some h) (some m)) ty (.slice (if jm = jl then some ⟨b, o, none⟩ else some ⟨b, o + jl.toNat * z, none⟩) (jh.toNat - jl.toNat) (jm.toNat - jl.toNat)) := by
  intro a w he hs d pos af g
  simp only [execOp, he.ev hx, Option.map, he.ev hl, he.ev hh, he.ev hm]
  refine run_v ?_
  have hadd : ∀ m, (⟨b, o, none⟩ : Addr).add m = ⟨b, o + m, none⟩ := fun m => by unfold Addr.add; split <;> simp_all
  have e1 : (0 ≤ jm ∧ jm ≤ (cap : Int)) := by omega
  have e2 : (0 ≤ jh ∧ jh ≤ (jm.toNat : Int)) := by omega
  have e3 : (0 ≤ jl ∧ jl ≤ (jh.toNat : Int)) := by omega
  have e4 : (jm.toNat = jl.toNat) = (jm = jl) := by apply propext; omega
  have s1 : ∀ c w, (Instr.sliceBound (.int km jm) cap c).run P w = .ok jm.toNat w := fun c w => by simp [Instr.sliceBound, asIntOf, e1]
  have s2 : ∀ c w, (Instr.sliceBound (.int kh jh) jm.toNat c).run P w = .ok jh.toNat w := fun c w => by simp only [Instr.sliceBound, asIntOf]; simp only [pure_bind]; rw [if_pos e2]; rfl
  have s3 : ∀ c w, (Instr.sliceBound (.int kl jl) jh.toNat c).run P w = .ok jl.toNat w := fun c w => by simp only [Instr.sliceBound, asIntOf]; simp only [pure_bind]; rw [if_pos e3]; rfl
  have hb : (Instr.sliceBounds true len cap (some (.int kl jl)) (some (.int kh jh)) (some (.int km jm))).run P w = .ok (jl.toNat, jh.toNat, jm.toNat) w := by
    simp [Instr.sliceBounds, s1, s2, s3]
  simp only [Instr.sliceAt, Instr.slice]
  simp [run_underlying ht, hb, hi.run, e4, hadd]

theorem Op_slice_hi {x h : Operand} {t e : TypeId} {a : Option Addr} {len cap : Nat} {kh : IntKind} {jh : Int} {z : Nat} (hx : ev E x = some (.slice a len cap)) (hh : ev E h = some (.int kh jh))
    (ht : P.underlying t = some (.slice e)) (hi : Sz P e z) (h1 : 0 ≤ jh) (h2 : jh ≤ cap) :
    OpQ P s n E H (.slice t x none (some h) none) ty (.slice a jh.toNat cap) := by
  intro ac w he hs d pos af g
  simp only [execOp, he.ev hx, Option.map, he.ev hh]
  refine run_v ?_
  have e2 : (0 ≤ jh ∧ jh ≤ (cap : Int)) := by omega
  have s2 : ∀ c w, (Instr.sliceBound (.int kh jh) cap c).run P w = .ok jh.toNat w := fun c w => by simp only [Instr.sliceBound, asIntOf]; simp only [pure_bind]; rw [if_pos e2]; rfl
  have hb : (Instr.sliceBounds true len cap none (some (.int kh jh)) none).run P w = .ok (0, jh.toNat, cap) w := by
    simp [Instr.sliceBounds, s2]
  simp only [Instr.sliceAt, Instr.slice]
  have hadd : ∀ a : Addr, a.add 0 = a := fun a => by simp [Addr.add]
  simp [run_underlying ht, hb, hi.run]
  intro _
  cases a <;> simp [hadd]

theorem Op_slice_him {x h m : Operand} {t e : TypeId} {a : Option Addr} {len cap : Nat} {kh km : IntKind} {jh jm : Int} {z : Nat} (hx : ev E x = some (.slice a len cap)) (hh : ev E h = some (.int kh jh)) (hm : ev E m = some (.int km jm))
    (ht : P.underlying t = some (.slice e)) (hi : Sz P e z) (h1 : 0 ≤ jh) (h2 : jh ≤ jm) (h3 : jm ≤ cap) :
    OpQ P s n E H (.slice t x none (some h) (some m)) ty (.slice a jh.toNat jm.toNat) := by
  intro ac w he hs d pos af g
  simp only [execOp, he.ev hx, Option.map, he.ev hh, he.ev hm]
  refine run_v ?_
  have e1 : (0 ≤ jm ∧ jm ≤ (cap : Int)) := by omega
  have e2 : (0 ≤ jh ∧ jh ≤ (jm.toNat : Int)) := by omega
  have s1 : ∀ c w, (Instr.sliceBound (.int km jm) cap c).run P w = .ok jm.toNat w := fun c w => by simp only [Instr.sliceBound, asIntOf]; simp only [pure_bind]; rw [if_pos e1]; rfl
  have s2 : ∀ c w, (Instr.sliceBound (.int kh jh) jm.toNat c).run P w = .ok jh.toNat w := fun c w => by simp only [Instr.sliceBound, asIntOf]; simp only [pure_bind]; rw [if_pos e2]; rfl
  have hb : (Instr.sliceBounds true len cap none (some (.int kh jh)) (some (.int km jm))).run P w = .ok (0, jh.toNat, jm.toNat) w := by
    simp [Instr.sliceBounds, s1, s2]
  simp only [Instr.sliceAt, Instr.slice]
  have hadd : ∀ a : Addr, a.add 0 = a := fun a => by simp [Addr.add]
  simp [run_underlying ht, hb, hi.run]
  intro _
  cases a <;> simp [hadd]

theorem Op_slice_lo {x l : Operand} {t e : TypeId} {b o len cap : Nat} {kl : IntKind} {jl : Int} {z : Nat} (hx : ev E x = some (.slice (some ⟨b, o, none⟩) len cap)) (hl : ev E l = some (.int kl jl))
    (ht : P.underlying t = some (.slice e)) (hi : Sz P e z) (h1 : 0 ≤ jl) (h2 : jl ≤ len) :
    OpQ P s n E H (.slice t x (some l) none none) ty (.slice (some (if (cap : Int) = jl then ⟨b, o, none⟩ else ⟨b, o + jl.toNat * z, none⟩)) (len - jl.toNat) (cap - jl.toNat)) := by
  intro ac w he hs d pos af g
  simp only [execOp, he.ev hx, Option.map, he.ev hl]
  refine run_v ?_
  have e2 : (0 ≤ jl ∧ jl ≤ (len : Int)) := by omega
  have e4 : (cap = jl.toNat) = ((cap : Int) = jl) := by apply propext; omega
  have s2 : ∀ c w, (Instr.sliceBound (.int kl jl) len c).run P w = .ok jl.toNat w := fun c w => by simp only [Instr.sliceBound, asIntOf]; simp only [pure_bind]; rw [if_pos e2]; rfl
  have hb : (Instr.sliceBounds true len cap (some (.int kl jl)) none none).run P w = .ok (jl.toNat, len, cap) w := by
    simp [Instr.sliceBounds, s2]
  simp only [Instr.sliceAt, Instr.slice]
  have hadd : ∀ m, (⟨b, o, none⟩ : Addr).add m = ⟨b, o + m, none⟩ := fun m => by unfold Addr.add; split <;> simp_all
  simp [run_underlying ht, hb, hi.run, e4, hadd]
  split <;> rfl

theorem Op_sliceN_hi {x h : Operand} {t e : TypeId} {a : Option Addr} {len cap : Nat} {kh : IntKind} {jh : Nat} {z : Nat} (hx : ev E x = some (.slice a len cap)) (hh : ev E h = some (.int kh jh))
    (ht : P.underlying t = some (.slice e)) (hi : Sz P e z) (h2 : jh ≤ cap) : OpQ P s n E H (.slice t x none (some h) none) ty (.slice a jh cap) := by
  have := Op_slice_hi (P := P) (s := s) (n := n) (H := H) (ty := ty) hx hh ht hi (by omega) (by omega)
  simpa using this
theorem Op_sliceN_him {x h m : Operand} {t e : TypeId} {a : Option Addr} {len cap : Nat} {kh km : IntKind} {jh jm : Nat} {z : Nat} (hx : ev E x = some (.slice a len cap)) (hh : ev E h = some (.int kh jh)) (hm : ev E m = some (.int km jm))
    (ht : P.underlying t = some (.slice e)) (hi : Sz P e z) (h2 : jh ≤ jm) (h3 : jm ≤ cap) : OpQ P s n E H (.slice t x none (some h) (some m)) ty (.slice a jh jm) := by
  have := Op_slice_him (P := P) (s := s) (n := n) (H := H) (ty := ty) hx hh hm ht hi (by omega) (by omega) (by omega)
  simpa using this
/-- Where x[l:] begins. -/
def lowAt (b o cap l z : Nat) : Addr := if cap = l then ⟨b, o, none⟩ else ⟨b, o + l * z, none⟩
theorem Op_sliceN_lo {x l : Operand} {t e : TypeId} {b o len cap : Nat} {kl : IntKind} {jl : Nat} {z : Nat} (hx : ev E x = some (.slice (some ⟨b, o, none⟩) len cap)) (hl : ev E l = some (.int kl jl))
    (ht : P.underlying t = some (.slice e)) (hi : Sz P e z) (h2 : jl ≤ len) : OpQ P s n E H (.slice t x (some l) none none) ty (.slice (some (lowAt b o cap jl z)) (len - jl) (cap - jl)) := by
  have := Op_slice_lo (P := P) (s := s) (n := n) (H := H) (ty := ty) hx hl ht hi (by omega) (by omega)
  simp only [Int.toNat_natCast] at this
  have e : (if (cap : Int) = jl then (⟨b, o, none⟩ : Addr) else ⟨b, o + jl * z, none⟩) = lowAt b o cap jl z := by
    unfold lowAt
    by_cases hc : cap = jl
    · simp [hc]
    · rw [if_neg hc, if_neg (by omega)]
  rw [e] at this
  exact this
/-- A sum that is a length. -/
theorem Op_addN {x y : Operand} {t t' : TypeId} {a b : Int} (c : Nat) (hx : ev E x = some (.int .i64 a)) (hy : ev E y = some (.int .i64 b)) (hc : a + b = c) (hl : c ≤ 9223372036854775807) : OpQ P s n E H (.binOp .add t x y t') ty (.int .i64 c) := by
  have := Op_add64 (P := P) (s := s) (n := n) (H := H) (ty := ty) (t := t) (t' := t') hx hy (by omega)
  rwa [hc] at this
theorem Op_subN {x y : Operand} {t t' : TypeId} {a b : Int} (c : Nat) (hx : ev E x = some (.int .i64 a)) (hy : ev E y = some (.int .i64 b)) (hc : a - b = c) (hl : c ≤ 9223372036854775807) : OpQ P s n E H (.binOp .sub t x y t') ty (.int .i64 c) := by
  have := Op_sub64 (P := P) (s := s) (n := n) (H := H) (ty := ty) (t := t) (t' := t') hx hy (by omega)
  rwa [hc] at this

/-! aggregates as values -/
/-- Cells laid over cells. -/
def putAt (l : List Value) (o : Nat) (vs : List Value) : List Value := l.take o ++ vs ++ l.drop (o + vs.length)

def lfill (place : Nat → Option (Nat × Nat)) (l : List Value) : List (Nat × Value) → Option (List Value)
  | [] => some l
  | (i, v) :: rest => match place i with
    | none => none
    | some (off, size) => cond (Nat.beq v.cells.toList.length size && Nat.ble (off + size) l.length) (lfill place (putAt l off v.cells.toList) rest) none

theorem foldl_put (vs : List Value) : ∀ (k off : Nat) (l : List Value), off + k + vs.length ≤ l.length →
    (vs.zipIdx k).foldl (fun cs (p : Value × Nat) => cs.setIfInBounds (off + p.2) p.1) l.toArray = (putAt l (off + k) vs).toArray := by
  induction vs with
  | nil => intro k off l _; simp [putAt]
  | cons v vs ih =>
    intro k off l h
    simp only [List.zipIdx_cons, List.foldl_cons]
    have hs : l.toArray.setIfInBounds (off + k) v = (l.set (off + k) v).toArray := by simp
    rw [hs, ih (k + 1) off (l.set (off + k) v) (by simp at h ⊢; omega)]
    have hlt : off + k < l.length := by simp at h; omega
    congr 1
    unfold putAt
    rw [List.set_eq_take_append_cons_drop, if_pos hlt]
    have e1 : (l.take (off + k) ++ v :: l.drop (off + k + 1)).take (off + (k + 1)) = l.take (off + k) ++ [v] := by
      rw [List.take_append, List.take_of_length_le (by simp; omega)]
      have : off + (k + 1) - (l.take (off + k)).length = 1 := by simp; omega
      rw [this]; rfl
    have e2 : (l.take (off + k) ++ v :: l.drop (off + k + 1)).drop (off + (k + 1) + vs.length) = l.drop (off + k + (v :: vs).length) := by
      rw [List.drop_append, List.drop_of_length_le (by simp; omega)]
      have : off + (k + 1) + vs.length - (l.take (off + k)).length = vs.length + 1 := by simp; omega
      rw [this, List.drop_succ_cons, List.drop_drop]
      simp only [List.nil_append, List.length_cons]
      congr 1; omega
    rw [e1, e2]
    simp

theorem fill_eq {place : Nat → Option (Nat × Nat)} : ∀ (parts : List (Nat × Value)) (l l' : List Value), lfill place l parts = some l' → Instr.fill place l.toArray parts = some l'.toArray
  | [], l, l', h => by simp only [lfill, Option.some.injEq] at h; subst h; rfl
  | (i, v) :: rest, l, l', h => by
    simp only [lfill] at h
    unfold Instr.fill
    cases hp : place i with
    | none => simp [hp] at h
    | some q =>
      obtain ⟨off, size⟩ := q
      simp only [hp] at h ⊢
      cases hc : (Nat.beq v.cells.toList.length size && Nat.ble (off + size) l.length) with
      | false => rw [hc] at h; cases h
      | true =>
        rw [hc] at h
        simp only [Bool.and_eq_true] at hc
        have h1 : v.cells.size = size := by have := Nat.eq_of_beq_eq_true hc.1; simpa using this
        have h2 : off + size ≤ l.length := Nat.le_of_ble_eq_true hc.2
        rw [if_neg (by simp [h1]; omega)]
        have hf : Array.foldl (fun cs (p : Value × Nat) => cs.setIfInBounds (off + p.2) p.1) l.toArray v.cells.zipIdx = (putAt l off v.cells.toList).toArray := by
          rw [← Array.foldl_toList]
          have : v.cells.zipIdx.toList = v.cells.toList.zipIdx 0 := by simp
          rw [this]
          have := foldl_put v.cells.toList 0 off l (by simp; omega)
          simpa using this
        have ih := fill_eq rest (putAt l off v.cells.toList) l' h
        rw [← hf] at ih
        exact ih

theorem Op_build {t : TypeId} {parts : List (Nat × Operand)} {vs cells : List Value} {fs : Array Field} {z : Value} {pl : Array (Nat × Nat)} (ht : P.underlying t = some (.struct fs)) (hz : Zr P t z)
    (hp : parts.map (fun p => ev E p.2) = vs.map some) (hpl : ∀ w, Sem.run P (fs.mapM fun f => do pure (f.offset, ← sizeOf f.type)) w = .ok pl w)
    (hc : lfill (pl[·]?) z.cells.toList ((parts.map (·.1)).zip vs) = some cells) : OpQ P s n E H (.build t parts.toArray) ty (.agg cells.toArray) := by
  intro a w he hs d pos af g
  simp only [execOp]
  refine run_v ?_
  have hparts : (parts.toArray.map fun (i, x) => (i, a.eval x)).toList = (parts.map (·.1)).zip vs := by
    simp only [List.map_toArray]
    clear hc
    induction parts generalizing vs with
    | nil => rfl
    | cons p l ih =>
      cases vs with
      | nil => simp at hp
      | cons v vs =>
        simp only [List.map_cons, List.cons.injEq] at hp
        have h2 := ih hp.2
        simp [he.ev hp.1]
        simpa using h2
  have hc' := fill_eq _ _ _ hc
  unfold Instr.build
  rw [Sem.run_bind, hz.run]
  simp only [Result.andThen_ok]
  rw [Sem.run_bind, run_underlying ht]
  simp only [Result.andThen_ok]
  rw [Sem.run_bind, hpl]
  simp only [Result.andThen_ok]
  rw [hparts]
  simp only [Array.toArray_toList] at hc'
  rw [hc']
  rfl

theorem Op_field {t : TypeId} {x : Operand} {k : Nat} {fs : Array Field} {f : Field} {cs : Array Value} {v : Value} (hx : ev E x = some (.agg cs)) (ht : P.underlying t = some (.struct fs)) (hf : fs[k]? = some f)
    (h : ∀ w, (part f.type cs f.offset).run P w = .ok v w) : OpQ P s n E H (.field t x k) ty v := by
  intro a w he hs d pos af g
  simp only [execOp, he.ev hx]
  refine run_v ?_
  simp [Instr.field, run_underlying ht, hf, asAgg, h]

/-! loads -/
theorem add_addr (b o m : Nat) : (⟨b, o, none⟩ : Addr).add m = ⟨b, o + m, none⟩ := by unfold Addr.add; split <;> simp_all

theorem Op_load {t : TypeId} {x : Operand} {p : Addr} {v : Value} (hx : ev E x = some (.pointer (some p))) (h : LoadJ P s H t p v) : OpQ P s n E H (.load t x) ty v := by
  intro a w he hs d pos af g
  simp only [execOp, he.ev hx]
  refine run_v ?_
  simp [Instr.loadAt, Instr.sureAddr, h w hs]

def scalarD : TypeDesc → Bool
  | .struct _ | .array _ _ | .named _ _ => false
  | _ => true

theorem isAgg_scalar {t : TypeId} {d : TypeDesc} (h : P.underlying t = some d) (hd : scalarD d = true) (w : World) : (isAgg t).run P w = .ok false w := by
  unfold isAgg
  rw [Sem.run_bind, run_underlying h]
  cases d <;> first | rfl | (simp [scalarD] at hd)

theorem isAgg_struct {t : TypeId} {fs : Array Field} (h : P.underlying t = some (.struct fs)) (w : World) : (isAgg t).run P w = .ok true w := by
  unfold isAgg
  rw [Sem.run_bind, run_underlying h]
  rfl

/-- The element at a place. -/
inductive Nth {β : Type} : List β → Nat → β → Prop
  | z {x : β} {l : List β} : Nth (x :: l) 0 x
  | s {x y : β} {l : List β} {k : Nat} (h : Nth l k y) : Nth (x :: l) (k + 1) y
theorem Nth.get {β : Type} {l : List β} {k : Nat} {x : β} (h : Nth l k x) : l[k]? = some x := by
  induction h with
  | z => rfl
  | s _ ih => simpa using ih

theorem load_cell {t : TypeId} {d : TypeDesc} {b o : Nat} {cs : Array Value} {et : TypeId} {fr : Nat × Nat} {v : Value} {H' : List HP} (h : P.underlying t = some d) (hd : scalarD d = true)
    (pk : Pick H (pt b (.cells cs et fr)) H') (hv' : Nth cs.toList o v) : LoadJ P s H t ⟨b, o, none⟩ v := by
  intro w hs
  have hv : cs[o]? = some v := by simpa using hv'.get
  have hb := hs.get pk
  have hc : w.cell? ⟨b, o, none⟩ = some v := by simp [World.cell?, hb, hv]
  simp [loadVar, isAgg_scalar h hd, load, Sem.run, hc]

theorem load_struct {t : TypeId} {fs : Array Field} {b o k : Nat} {cs : Array Value} {et : TypeId} {fr : Nat × Nat} {vs : List Value} {H' : List HP} (h : P.underlying t = some (.struct fs)) (hk : Sz P t k)
    (pk : Pick H (pt b (.cells cs et fr)) H') (hv' : (cs.toList.drop o).take k = vs) (hl : vs.length = k) : LoadJ P s H t ⟨b, o, none⟩ (.agg vs.toArray) := by
  intro w hs
  have hv : ∀ j v, vs[j]? = some v → cs[o + j]? = some v := fun j v hj => by
    subst hv'
    have hlt : j < k := by have := (List.getElem?_eq_some_iff.1 hj).1; rw [List.length_take] at this; omega
    rw [List.getElem?_take_of_lt hlt, List.getElem?_drop] at hj
    simpa using hj
  have hb := hs.get pk
  have hc : (loadCells ⟨b, o, none⟩ vs.length).run P w = .ok vs.toArray w := run_loadCells_list (P := P) w ⟨b, o, none⟩ vs fun j v hj => by
    rw [add_addr]; simp [World.cell?, hb, hv j v hj]
  rw [hl] at hc
  simp [loadVar, isAgg_struct h, hk.run, hc]
/-- The whole of a block. -/
theorem load_whole {t : TypeId} {fs : Array Field} {b k : Nat} {cs : Array Value} {et : TypeId} {fr : Nat × Nat} {H' : List HP} (h : P.underlying t = some (.struct fs)) (hk : Sz P t k)
    (pk : Pick H (pt b (.cells cs et fr)) H') (hl : cs.size = k) : LoadJ P s H t ⟨b, 0, none⟩ (.agg cs) := by
  have := load_struct (s := s) (P := P) (t := t) (o := 0) (vs := cs.toList) h hk pk (by simp [← hl, ← Array.length_toList]) (by simpa using hl)
  simpa using this
end
end Go.Proofs.Ytbaecpddhdeapaa.SL
