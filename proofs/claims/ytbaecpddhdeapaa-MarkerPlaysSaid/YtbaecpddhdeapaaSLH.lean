/- What came in and is only read; bools; bytes. -/
import Derived.Test.YtbaecpddhdeapaaSLF
namespace Go.Proofs.Ytbaecpddhdeapaa.SL
open Go Go.RowKit

section
variable {P : Program} {s : World} {n : Nat} {E : List (Nat × Value)} {H : List HP} {ty : TypeId} {α : Type}

theorem Op_eqb {x y : Operand} {t t' : TypeId} {a b : Bool} (hx : ev E x = some (.bool a)) (hy : ev E y = some (.bool b)) (ht : P.underlying t = some .bool) : OpQ P s n E H (.binOp .eql t x y t') ty (.bool (decide (a = b))) := by
  intro ac w he hs d pos af g
  simp only [execOp, he.ev hx, he.ev hy]
  refine run_v ?_
  rw [Sem.run_bind]
  have : (eqGuard .eql t x y (.bool a) (.bool b)).run P w = .ok () w := by unfold eqGuard; rfl
  rw [this]
  have h := run_eql_bool (P := P) w t a b ht
  have e : (a == b) = decide (a = b) := by cases a <;> cases b <;> rfl
  rw [e] at h
  exact h

theorem wrap_inc8 (c : UInt8) : IntKind.u8.wrap ((c.toNat : Int) + 1) = ((c + 1).toNat : Int) := by
  have h : (c + 1).toNat = (c.toNat + 1) % 256 := by rw [UInt8.toNat_add]; rfl
  rw [h]
  simp only [IntKind.wrap, IntKind.signed, IntKind.bits, Bool.false_and, Bool.false_eq_true, if_false]
  omega
theorem Op_inc8 {x y : Operand} {t t' : TypeId} {c : UInt8} (hx : ev E x = some (.int .u8 c.toNat)) (hy : ev E y = some (.int .u8 1)) : OpQ P s n E H (.binOp .add t x y t') ty (.int .u8 ((c + 1).toNat : Nat)) := by
  have := Op_add (P := P) (s := s) (n := n) (H := H) (ty := ty) (t := t) (t' := t') hx hy
  rwa [wrap_inc8] at this

/-- '[]byte' of a text's constant: the bytes' block is marked. -/
theorem Op_mark {T : Ty α} {x : Operand} {t : TypeId} {g m : Nat} {cs : Array Value} {xs : List α} {R : List HP} (hx : ev E x = some (.slice (some ⟨g, 0, none⟩) m m)) (pk : Pick H (pt g (.cells cs T.e (0, 0))) R)
    (hc : cs.toList = T.flat xs) (hm : xs.length = m) (ht : P.underlying t = some (.slice T.e)) (he8 : P.underlying T.e = some (.int .u8)) (hl : m ≤ maxLen) :
    OpP P s n E H (.convert t t x) ty fun v H' => v = .slice (sl (some g)) xs.length m ∧ H' = Row T (some g) m xs :: R := by
  subst hm
  intro a w he hs d pos af gd next Q hnx
  have hg := hs.get pk
  have hlt : g < w.heap.size := (Array.getElem?_eq_some_iff.1 hg).1
  have hsh : w.shape? g = some (T.e, cs.size) := by simp [World.shape?, hg]
  let w' := w.freeze ⟨g, cs.size, none⟩ 1
  have hrun : (convert t t (.slice (some ⟨g, 0, none⟩) xs.length xs.length)).run P w = .ok (.slice (some ⟨g, 0, none⟩) xs.length xs.length) w' := by
    simp [convert, run_underlying ht, run_underlying he8, markStringish, hsh]
    rfl
  have hr : (execOp a.eval ⟨d, .convert t t x, ty, pos, af, gd⟩).run P w = .ok (.value (.slice (some ⟨g, 0, none⟩) xs.length xs.length)) w' := by
    simp only [execOp, he.ev hx]
    exact run_v hrun
  unfold Oper.wp
  rw [hr]
  refine hnx _ _ _ ⟨rfl, rfl⟩ ?_
  have hw' : w'.heap = w.heap.modify g fun
      | .cells c elem (lo, hi) => .cells c elem (if lo == hi then (cs.size, cs.size + 1) else (min lo cs.size, max hi (cs.size + 1)))
      | o => o := by
    show (w.freeze ⟨g, cs.size, none⟩ 1).heap = _
    unfold World.freeze
    rw [if_neg (by decide)]
    rfl
  have hgw : w'.heap[g]? = some (.cells cs T.e (cs.size, cs.size + 1)) := by
    rw [hw', Array.getElem?_modify]
    simp [hg]
  have hos : w'.os = w.os ∧ w'.tape = w.tape ∧ w'.output = w.output := by
    show (w.freeze ⟨g, cs.size, none⟩ 1).os = _ ∧ (w.freeze ⟨g, cs.size, none⟩ 1).tape = _ ∧ (w.freeze ⟨g, cs.size, none⟩ 1).output = _
    unfold World.freeze
    rw [if_neg (by decide)]
    exact ⟨rfl, rfl, rfl⟩
  have S2 := Sat.upd (hs.pick pk) (w' := w') hos.1 ⟨hos.2.1, Nat.le_refl _⟩ hos.2.2 hgw fun k hk _ => by
    rw [hw', Array.getElem?_modify, if_neg (fun e => hk e.symm)]
  have hfl : (T.flat xs).length = xs.length * T.sz := T.flat_len xs
  have hcs : cs = (T.flat xs ++ []).toArray := by apply Array.ext'; simp [hc]
  refine S2.mono fun _ z => sep_mono (fun h y => ?_) (fun _ y => y) z
  rw [hcs] at y
  refine Row_mk T g xs.length xs [] _ (Nat.le_refl _) hl (by rw [hfl]; simp) ?_ h y
  intro j _ hj
  simp only [List.length_nil, Nat.add_zero, List.append_nil] at hj ⊢
  have : (T.flat xs).toArray.size = (T.flat xs).length := by simp
  omega

/-! memory that was there before -/
theorem old_get {w : World} {w0 : World} {R : List HP} (hs : Sat s w (stars H)) (pk : Pick H (old w0) R) {b : Nat} {o : Obj} (hb : w0.heap[b]? = some o) : w.heap[b]? = some o := by
  obtain ⟨_, _, _, h, d, e⟩ := (hs.pick pk).left
  exact d b o (by rw [e b, hb])
theorem old_cell {w : World} {w0 : World} {R : List HP} (hs : Sat s w (stars H)) (pk : Pick H (old w0) R) {a : Addr} {v : Value} (hb : w0.cell? a = some v) : w.cell? a = some v := by
  have h0 : ∃ o, w0.heap[a.block]? = some o := by
    unfold World.cell? at hb
    cases hh : w0.heap[a.block]? with
    | none => simp [hh] at hb
    | some o => exact ⟨o, rfl⟩
  obtain ⟨o, ho⟩ := h0
  have := old_get hs pk ho
  rw [World.cell?_of_block (w := w0) (w' := w) (by rw [this, ho]), hb]

theorem load_old {w0 : World} {R : List HP} {t : TypeId} {d : TypeDesc} {p : Addr} {v : Value} (h : P.underlying t = some d) (hd : scalarD d = true) (pk : Pick H (old w0) R) (hv : w0.cell? p = some v) : LoadJ P s H t p v := by
  intro w hs
  have hc := old_cell hs pk hv
  simp [loadVar, isAgg_scalar h hd, load, Sem.run, hc]
theorem load_old_struct {w0 : World} {R : List HP} {t : TypeId} {fs : Array Field} {k : Nat} {p : Addr} {vs : List Value} (h : P.underlying t = some (.struct fs)) (hk : Sz P t k) (pk : Pick H (old w0) R) (hl : vs.length = k)
    (hv : ∀ j v, vs[j]? = some v → w0.cell? (p.add j) = some v) : LoadJ P s H t p (.agg vs.toArray) := by
  intro w hs
  have hc : (loadCells p vs.length).run P w = .ok vs.toArray w := run_loadCells_list (P := P) w p vs fun j v hj => old_cell hs pk (hv j v hj)
  rw [hl] at hc
  simp [loadVar, isAgg_struct h, hk.run, hc]
theorem Reads_old {w0 : World} {R : List HP} {p : Option Addr} {vs : List Value} (pk : Pick H (old w0) R) (h : match p with | some a => ∀ j u, vs[j]? = some u → w0.cell? (a.add j) = some u | none => vs = []) : Reads s H p vs := by
  intro w hs
  cases p with
  | none => exact h
  | some a => exact fun j u hj => old_cell hs pk (h j u hj)
/-- An element's address in a slice that came in. -/
theorem Op_indexOld {x y : Operand} {t e : TypeId} {k : IntKind} {a' : Option Addr} {p : Addr} {len cap : Nat} {j : Nat} {z : Nat} (hx : ev E x = some (.slice a' len cap)) (ha : a' = some p) (hy : ev E y = some (.int k j))
    (ht : P.underlying t = some (.slice e)) (hi : Sz P e z) (h1 : j < len) : OpQ P s n E H (.indexAddr t x y) ty (.pointer (some (p.add (j * z)))) := by
  subst ha
  intro a w he hs d pos af g
  simp only [execOp, he.ev hx, he.ev hy]
  refine run_v ?_
  have h0 : (0 : Int) ≤ j := by omega
  have h1' : (j : Int) < len := by omega
  simp [Instr.indexAt, asIntOf, run_underlying ht, h1, hi.run]

theorem Sat_old (w : World) : Sat w w (stars [old w]) := ⟨rfl, ⟨rfl, Nat.le_refl _⟩, rfl, fun k => w.heap[k]?, fun _ _ h => h, sep_emp fun _ => rfl⟩
theorem old_below {w w' : World} {R : List HP} (hs : Sat w w' (stars H)) (pk : Pick H (old w) R) : Below w.heap.size w w' := by
  obtain ⟨a, b, c, h, d, e⟩ := (hs.pick pk).left
  have hb : ∀ k, k < w.heap.size → w'.heap[k]? = w.heap[k]? := fun k hk => by
    have : w.heap[k]? = some w.heap[k] := Array.getElem?_eq_getElem hk
    rw [this]
    exact d k _ (by rw [e k, this])
  refine ⟨a, b.1, c, ?_, hb⟩
  rcases Nat.eq_zero_or_pos w.heap.size with h0 | h0
  · omega
  · have h1 := hb (w.heap.size - 1) (by omega)
    have h2 : w.heap[w.heap.size - 1]? = some (w.heap[w.heap.size - 1]'(by omega)) := Array.getElem?_eq_getElem _
    rw [h2] at h1
    have := (Array.getElem?_eq_some_iff.1 h1).1
    omega
end
end Go.Proofs.Ytbaecpddhdeapaa.SL
