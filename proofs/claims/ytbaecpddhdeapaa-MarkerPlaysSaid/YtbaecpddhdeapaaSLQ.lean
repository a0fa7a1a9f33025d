/- Equality of structs; structs as keys of maps. -/
import Derived.Test.YtbaecpddhdeapaaSLN
import Derived.Laws.StructEq
namespace Go.Proofs.Ytbaecpddhdeapaa.SL
open Go Go.RowKit
section
variable {P : Program} {s : World} {n : Nat} {E : List (Nat × Value)} {H : List HP} {ty : TypeId}

def PartJ (P : Program) (t : TypeId) (cs : Array Value) (off : Nat) (v : Value) : Prop := ∀ w, (part t cs off).run P w = .ok v w
theorem PartJ_cell {t : TypeId} {d : TypeDesc} {cs : Array Value} {off : Nat} {v : Value} (h : P.underlying t = some d) (hd : scalarD d = true) (hv : Nth cs.toList off v) : PartJ P t cs off v := fun w => by
  have h1 : cs[off]? = some v := by have := hv.get; simpa using this
  unfold part
  rw [Sem.run_bind, isAgg_scalar h hd]
  simp [h1]
theorem PartJ_struct {t : TypeId} {fs : Array Field} {cs : Array Value} {off k : Nat} {vs : List Value} (h : P.underlying t = some (.struct fs)) (hk : Sz P t k) (hv : (cs.toList.drop off).take k = vs) : PartJ P t cs off (.agg vs.toArray) := fun w => by
  unfold part
  rw [Sem.run_bind, isAgg_struct h]
  simp only [Result.andThen_ok, if_true, Sem.run_bind, hk.run, Sem.run_pure]
  subst hv
  congr 2
  apply Array.ext'
  simp [List.extract_eq_take_drop]

/-- Two values compared. -/
def EqJ (P : Program) (d : Nat) (t : TypeId) (x y : Value) (b : Bool) : Prop := ∀ w, (Op.equalIn d t x y).run P w = .ok b w
theorem EqJ_int {d : Nat} {t : TypeId} {k k' : IntKind} {a b : Int} (h : P.underlying t = some (.int k')) : EqJ P (d + 1) t (.int k a) (.int k b) (decide (a = b)) := fun w => by
  rw [run_equalIn_int w d t k k' a b h]; congr 1
theorem EqJ_bool {d : Nat} {t : TypeId} {a b : Bool} (h : P.underlying t = some .bool) : EqJ P (d + 1) t (.bool a) (.bool b) (decide (a = b)) := fun w => by
  rw [run_equalIn_bool w d t a b h]; cases a <;> cases b <;> rfl
theorem EqJ_str {d : Nat} {t : TypeId} {a b : ByteArray} (h : P.underlying t = some .string) : EqJ P (d + 1) t (.string a) (.string b) (decide (a = b)) := fun w => by
  rw [run_equalIn_string w d t a b h, toList_beq]
/-- Field by field. -/
inductive EqF (P : Program) (d : Nat) (xs ys : Array Value) : List Field → Bool → Prop
  | nil : EqF P d xs ys [] true
  | cons {f : Field} {l : List Field} {x y : Value} {b b' : Bool} (hn : (f.name != "_") = true) (px : PartJ P f.type xs f.offset x) (py : PartJ P f.type ys f.offset y) (e : EqJ P d f.type x y b) (r : EqF P d xs ys l b') : EqF P d xs ys (f :: l) (b && b')
theorem EqF.run {d : Nat} {xs ys : Array Value} {l : List Field} {b : Bool} (h : EqF P d xs ys l b) (w : World) : (Op.eqFields d xs ys l).run P w = .ok b w := by
  induction h with
  | nil => rfl
  | cons hn px py e r ih =>
    rename_i f l x y b1 b2
    have hn' : f.name ≠ "_" := by simpa using hn
    simp only [Op.eqFields, hn', ne_eq, not_false_eq_true, if_true, Sem.run_bind, px w, py w, e w, Result.andThen_ok]
    cases b1
    · simp
    · simp [ih]
theorem EqJ_struct {d : Nat} {t : TypeId} {fs : Array Field} {xs ys : Array Value} {b : Bool} (ht : P.underlying t = some (.struct fs)) (hp : P.stoodInHeld t = false) (h : EqF P d xs ys fs.toList b) : EqJ P (d + 1) t (.agg xs) (.agg ys) b := fun w => by
  have hf : P.fieldsOf t = fs := by simp [Program.fieldsOf, ht]
  rw [run_equalIn_struct w d t xs ys (by rw [hf]; exact ht) hp, hf]
  exact h.run w
theorem EqJ.to {d : Nat} {t : TypeId} {x y : Value} {b b' : Bool} (h : EqJ P d t x y b) (e : b = b') : EqJ P d t x y b' := e ▸ h

theorem Op_struct_eql {x y : Operand} {t t' : TypeId} {xs ys : Array Value} {b : Bool} (hx : ev E x = some (.agg xs)) (hy : ev E y = some (.agg ys)) (hm : P.eqGuardType P.depth t = false) (h : EqJ P 10000 t (.agg xs) (.agg ys) b) : OpQ P s n E H (.binOp .eql t x y t') ty (.bool b) := by
  intro ac w he hs d pos af g
  simp only [execOp, he.ev hx, he.ev hy]
  refine run_v ?_
  rw [Sem.run_bind, run_eqGuard_agg w .eql t x y xs ys hm]
  simp only [Result.andThen_ok]
  rw [run_eql_struct, h w]; rfl
theorem Op_struct_neq {x y : Operand} {t t' : TypeId} {xs ys : Array Value} {b : Bool} (hx : ev E x = some (.agg xs)) (hy : ev E y = some (.agg ys)) (hm : P.eqGuardType P.depth t = false) (h : EqJ P 10000 t (.agg xs) (.agg ys) b) : OpQ P s n E H (.binOp .neq t x y t') ty (.bool (!b)) := by
  intro ac w he hs d pos af g
  simp only [execOp, he.ev hx, he.ev hy]
  refine run_v ?_
  rw [Sem.run_bind, run_eqGuard_agg w .neq t x y xs ys hm]
  simp only [Result.andThen_ok]
  rw [run_neq_struct, h w]; rfl

/-! structs as keys -/
def ChkJ (P : Program) (b : Bool) (d : Nat) (t : TypeId) (x : Value) : Prop := ∀ w, (Instr.checkKey b d t x).run P w = .ok () w
theorem ChkJ_int {b : Bool} {d : Nat} {t : TypeId} {x : Value} {k : IntKind} (h : P.underlying t = some (.int k)) : ChkJ P b (d + 1) t x := fun w => by
  unfold Instr.checkKey; rw [Sem.run_bind, run_underlying h]; rfl
theorem ChkJ_str {b : Bool} {d : Nat} {t : TypeId} {x : Value} (h : P.underlying t = some .string) : ChkJ P b (d + 1) t x := fun w => by
  unfold Instr.checkKey; rw [Sem.run_bind, run_underlying h]; rfl
inductive ChkF (P : Program) (b : Bool) (d : Nat) (xs : Array Value) : List Field → Prop
  | nil : ChkF P b d xs []
  | cons {f : Field} {l : List Field} {x : Value} (px : PartJ P f.type xs f.offset x) (e : ChkJ P b d f.type x) (r : ChkF P b d xs l) : ChkF P b d xs (f :: l)
theorem ChkJ_struct {b : Bool} {d : Nat} {t : TypeId} {fs : Array Field} {xs : Array Value} (ht : P.underlying t = some (.struct fs)) (h : ChkF P b d xs fs.toList) : ChkJ P b (d + 1) t (.agg xs) := fun w => by
  unfold Instr.checkKey
  rw [Sem.run_bind, run_underlying ht]
  simp only [Result.andThen_ok]
  rw [← Array.forIn_toList]
  revert h
  generalize fs.toList = l
  intro h
  induction h generalizing w with
  | nil => rfl
  | cons px e r ih =>
    rename_i f l x
    simp only [List.forIn_cons, Sem.run_bind, Sem.run_ite]
    split
    · rw [px w]
      simp only [Result.andThen_ok]
      rw [e w]
      simp only [Result.andThen_ok, Sem.run_pure]
      have h2 := ih w
      simp only [Sem.run_bind, Sem.run_pure] at h2
      exact h2
    · simp only [Sem.run_pure, Result.andThen_ok]
      have h2 := ih w
      simp only [Sem.run_bind, Sem.run_pure] at h2
      exact h2
theorem KOk_struct {κ : Type} [DecidableEq κ] {K : KTy κ} {fs : Array Field} (ht : P.underlying K.kt = some (.struct fs)) (hc : ∀ b k, ChkJ P b 10000 K.kt (K.enc k)) (he : ∀ a b, EqJ P 10000 K.kt (K.enc a) (K.enc b) (decide (a = b))) : KOk P K where
  chk := fun b k w => hc b k w
  fnd := fun k ks es h w => by
    have ask : ∀ (ks : List κ) (es : List MapEntry) (j : Nat), es.map (·.key) = ks.map K.enc → (Instr.findAsking K.kt (K.enc k) es j).run P w = .ok ((idx k ks).bind fun i => (es[i]?).map fun e => (j + i, e.val)) w := by
      intro ks
      induction ks with
      | nil => intro es j h; cases es with | nil => rfl | cons _ _ => simp at h
      | cons x l ih =>
        intro es j h
        cases es with
        | nil => simp at h
        | cons e es =>
          simp only [List.map_cons, List.cons.injEq] at h
          have h0 : (Op.equal K.kt (K.enc k) e.key).run P w = .ok (decide (k = x)) w := by rw [h.1]; exact he k x w
          simp only [Instr.findAsking, Sem.run_bind, h0, Result.andThen_ok, idx]
          by_cases hk : k = x
          · simp [hk]
          · simp only [hk, decide_false, Bool.false_eq_true, if_false]
            rw [ih es (j + 1) h.2]
            cases idx k l with
            | none => rfl
            | some i => simp [Nat.add_assoc, Nat.add_comm 1 i]
    unfold Instr.findKey
    rw [Sem.run_bind, run_underlying ht]
    simp only [Result.andThen_ok]
    cases es with
    | nil => cases ks with | nil => rfl | cons _ _ => simp at h
    | cons e es =>
      have h1 : Instr.findNow (.struct fs) (K.enc k) (e :: es) 0 = none := rfl
      rw [h1]
      have := ask ks (e :: es) 0 h
      simpa using this
end
section
variable {P : Program} {s : World} {n : Nat} {E : List (Nat × Value)} {H : List HP} {Q : Exit → Act → World → Prop} {ops : Array Oper} {rest : List Oper}
theorem yielded_undef {a : Act} (he : Env a n E) {j t : Nat} (hj : (ops[j]?).bind (·.dst) = some t) (hl : look E t = some undef) : yielded ops a.tmps j = none := by
  have := he.2.2 t _ hl
  simp [yielded, hj, this, undef]
/-- One whose guard was passed over itself. -/
theorem RJ_nou {d : Nat} {op : Op} {ty : TypeId} {pos : String} {af : Array Edge} {j t : Nat} {want : Bool} (hj : (ops[j]?).bind (·.dst) = some t) (hl : look E t = some undef) (hd : Nat.ble (d + 1) n = true)
    (k : RJ P s n ops Q rest ((d, undef) :: E) H) : RJ P s n ops Q (⟨some d, op, ty, pos, af, some (j, want)⟩ :: rest) E H := by
  intro a w he hs
  unfold wpList
  have hy := yielded_undef (ops := ops) he hj hl
  rw [if_neg (by simp [Region.wanted, hy])]
  exact k _ _ (he.put hd undef) hs
theorem SJ_nou {i d : Nat} {op : Op} {ty : TypeId} {pos : String} {af : Array Edge} {j t : Nat} {want : Bool} {sc : Sched} {rd : List Rd} (hi : ops[i]? = some ⟨some d, op, ty, pos, af, some (j, want)⟩)
    (hj : (ops[j]?).bind (·.dst) = some t) (hl : look E t = some undef) (hd : Nat.ble (d + 1) n = true) (k : SJ P s n ops Q sc rd ((d, undef) :: E) H) : SJ P s n ops Q (.q i sc) rd E H := by
  intro a w pend he hs hp
  refine ⟨_, undef, fun _ => True, hi, .inr ⟨?_, rfl⟩, trivial, fun _ _ _ h => NP_panic h, ?_⟩
  · have hy := yielded_undef (ops := ops) he hj hl
    simp [Region.wanted, hy]
  · exact k _ _ _ (he.put hd undef) hs fun p h => by
      rcases List.mem_cons.1 h with rfl | h
      · exact .inl fun _ => trivial
      · exact hp p h
theorem SJ_nou_e {i d : Nat} {op : Op} {ty : TypeId} {pos : String} {af : Array Edge} {j t : Nat} {want : Bool} {sc : Sched} {rd rd' : List Rd} (keep : List Nat) (hi : ops[i]? = some ⟨some d, op, ty, pos, af, some (j, want)⟩)
    (hj : (ops[j]?).bind (·.dst) = some t) (hl : look E t = some undef) (hd : Nat.ble (d + 1) n = true)
    (hr0 : dropOK .any ops i (rd.map Rd.i) keep = true) (hr : rd.filter (fun r => keep.any (Nat.beq r.i)) = rd') (ho : Obl P s H rd')
    (k : SJ P s n ops Q sc rd' ((d, undef) :: E) H) : SJ P s n ops Q (.e i sc) rd E H := by
  intro a w pend he hs hp
  subst hr
  classical
  have hy := yielded_undef (ops := ops) he hj hl
  show wpOp P ops (NP Q) i _ a w
  unfold wpOp
  simp only [hi]
  rw [if_neg (by simp [Region.wanted, hy])]
  let keepP : Nat × (World → Prop) → Prop := fun p => (∀ w', p.2 w') ∨ ∃ r ∈ rd.filter (fun r => keep.any (Nat.beq r.i)), p.1 = r.i ∧ p.2 = r.holds P
  refine ⟨pend.filter (fun p => decide (keepP p)), fun p hpm => ?_, fun p hpm => ?_, k _ _ _ (he.put hd undef) hs fun p hpm => ?_⟩
  · by_cases hkp : keepP p
    · exact .inl (List.mem_filter.2 ⟨hpm, by simpa using hkp⟩)
    · rcases hp p hpm with x | ⟨r, hrm, e1, e2⟩
      · exact absurd (.inl x) hkp
      · rcases dropOK_spec hr0 r.i (List.mem_map_of_mem hrm) with y | y
        · refine absurd (.inr ⟨r, List.mem_filter.2 ⟨hrm, ?_⟩, e1, e2⟩) hkp
          rw [List.any_eq_true]
          exact ⟨r.i, y, by simp⟩
        · exact .inr (by rw [e1]; exact y)
  · rw [List.mem_filter] at hpm
    have hkp : keepP p := by simpa using hpm.2
    rcases hkp with x | ⟨r, hrm, e1, e2⟩
    · exact x w
    · rw [e2]; exact ho.mem hrm w hs
  · rw [List.mem_filter] at hpm
    exact of_decide_eq_true hpm.2
end
end Go.Proofs.Ytbaecpddhdeapaa.SL
