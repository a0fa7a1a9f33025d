/- Rules for what makes and writes memory: variables, rows, append, copy, make, conversions. -/
import Derived.Test.YtbaecpddhdeapaaSLC
namespace Go.Proofs.Ytbaecpddhdeapaa.SL
open Go Go.RowKit

section
variable {P : Program} {s : World} {n : Nat} {E : List (Nat × Value)} {H : List HP} {ty : TypeId}

theorem run_new (o : Obj) (w : World) : (newObj o).run P w = .ok w.heap.size (w.alloc o) := rfl
theorem run_newRow (e : TypeId) (cs : Array Value) (w : World) : (newRow e cs).run P w = .ok ⟨w.heap.size, 0, none⟩ (w.alloc (.cells cs e)) := by
  unfold newRow; rw [Sem.run_bind, run_new]; rfl

/-- A new variable: a block that nobody had. -/
theorem Op_alloc {t : TypeId} {z : Value} (hz : Zr P t z) : OpP P s n E H (.alloc t) ty fun v H' => ∃ b, v = .pointer (some ⟨b, 0, none⟩) ∧ H' = pt b (.cells z.cells t (0, 0)) :: H := by
  intro a w he hs d pos af g next Q hn
  have hr : (execOp a.eval ⟨d, .alloc t, ty, pos, af, g⟩).run P w = .ok (.value (.pointer (some ⟨w.heap.size, 0, none⟩))) (w.alloc (.cells z.cells t)) := by
    simp only [execOp]
    refine run_v ?_
    unfold Instr.alloc
    rw [Sem.run_bind, hz.run]
    simp only [Result.andThen_ok, newVar]
    rw [Sem.run_bind, run_newRow]
    rfl
  unfold Oper.wp
  rw [hr]
  exact hn _ _ _ ⟨_, rfl, rfl⟩ (hs.alloc _)

theorem Op_box {t : TypeId} {x : Operand} {v : Value} (hx : ev E x = some v) : OpP P s n E H (.box t x) ty fun u H' => ∃ b, u = .pointer (some ⟨b, 0, none⟩) ∧ H' = pt b (.cells v.cells t (0, 0)) :: H := by
  intro a w he hs d pos af g next Q hn
  have hr : (execOp a.eval ⟨d, .box t x, ty, pos, af, g⟩).run P w = .ok (.value (.pointer (some ⟨w.heap.size, 0, none⟩))) (w.alloc (.cells v.cells t)) := by
    simp only [execOp, he.ev hx]
    refine run_v ?_
    unfold Instr.box newVar
    rw [Sem.run_bind, run_newRow]
    rfl
  unfold Oper.wp
  rw [hr]
  exact hn _ _ _ ⟨_, rfl, rfl⟩ (hs.alloc _)

/-! stores -/
theorem setRow_os (w : World) (g : Nat) (cs : Array Value) : (w.setRow g cs).os = w.os := rfl
theorem setRow_size (w : World) (g : Nat) (cs : Array Value) : (w.setRow g cs).heap.size = w.heap.size := by simp [World.setRow]

theorem Sat.setRow {w : World} {H H' : List HP} {b : Nat} {cs cs' : Array Value} {t : TypeId} {fr : Nat × Nat} (S : Sat s w (stars H)) (p : Repl H (pt b (.cells cs t fr)) (pt b (.cells cs' t fr)) H') : Sat s (w.setRow b cs') (stars H') := by
  obtain ⟨r, p1, _⟩ := p.picks
  exact S.repl p rfl ⟨rfl, Nat.le_refl _⟩ rfl (setRow_heap w b cs cs' t fr (S.get p1)) fun k hk _ => setRow_other w b k cs' hk

/-- What may be written in a block. -/
def free (fr : Nat × Nat) (lo hi : Nat) : Prop := ∀ j, lo ≤ j → j < hi → ¬ (fr.1 ≤ j ∧ j < fr.2)
theorem free_zero (lo hi : Nat) : free (0, 0) lo hi := fun j _ _ h => by simp at h

theorem run_storeCells_fr (g o : Nat) (t : TypeId) (fr : Nat × Nat) : ∀ (vs : List Value) (i : Nat) (cur : Array Value) (w : World), w.heap[g]? = some (.cells cur t fr) → o + i + vs.length ≤ cur.size → free fr (o + i) (o + i + vs.length) → (∀ v ∈ vs, v.oneCell' = true) →
    (storeCells ⟨g, o, none⟩ vs i).run P w = .ok () (w.setRow g (cur.toList.take (o + i) ++ vs ++ cur.toList.drop (o + i + vs.length)).toArray)
  | [], i, cur, w, hg, _, _, _ => by
    simp only [storeCells, List.append_nil, List.length_nil, Nat.add_zero, List.take_append_drop, Array.toArray_toList]
    rw [setRow_self w g cur t fr hg]
    rfl
  | v :: rest, i, cur, w, hg, hl, hf, h1 => by
    have hi : o + i < cur.size := by simp at hl; omega
    have hcell : w.cell? ⟨g, o + i, none⟩ = some cur[o + i] := by simp [World.cell?, hg, hi]
    have hfro : w.frozen? ⟨g, o + i, none⟩ = false := by
      have := hf (o + i) (Nat.le_refl _) (by simp)
      simp [World.frozen?, hg]
      omega
    have hst : (store ((⟨g, o, none⟩ : Addr).add i) v).run P w = .ok () (w.setRow g (cur.setIfInBounds (o + i) v)) := by
      rw [add_addr, run_store P w _ v _ (h1 v (by simp)), hcell]
      simp [hfro, setCell_eq_setRow w g (o + i) cur t fr v hg]
    have ih := run_storeCells_fr g o t fr rest (i + 1) (cur.setIfInBounds (o + i) v) (w.setRow g (cur.setIfInBounds (o + i) v)) (setRow_heap w g cur _ t _ hg) (by simp at hl ⊢; omega)
      (fun j h1 h2 => hf j (by omega) (by simp at h2 ⊢; omega)) (fun x hx => h1 x (by simp [hx]))
    simp only [storeCells, Sem.run_bind, hst, Result.andThen_ok, ih, setRow_setRow]
    congr 3
    have e := list_seg_step cur.toList (o + i) v rest (by simp at hl ⊢; omega)
    simpa [Array.toList_setIfInBounds, Nat.add_assoc] using e

/-- The cells of a block behind a store. -/
def putCells (cur : Array Value) (o : Nat) (vs : List Value) : Array Value := (cur.toList.take o ++ vs ++ cur.toList.drop (o + vs.length)).toArray
theorem putCells_size {cur : Array Value} {o : Nat} {vs : List Value} (h : o + vs.length ≤ cur.size) : (putCells cur o vs).size = cur.size := by
  simp [putCells]; omega

theorem Op_store {t : TypeId} {x y : Operand} {b o k : Nat} {cs cs' : Array Value} {v : Value} {et : TypeId} {fr : Nat × Nat} {H' : List HP} (hx : ev E x = some (.pointer (some ⟨b, o, none⟩))) (hy : ev E y = some v) (hk : Sz P t k) (hv : v.cells.size = k)
    (h1 : ∀ u ∈ v.cells.toList, u.oneCell' = true) (pk : Repl H (pt b (.cells cs et fr)) (pt b (.cells cs' et fr)) H') (hle' : Nat.ble (o + k) cs.size = true) (hf : free fr o (o + k)) (hc : putCells cs o v.cells.toList = cs') :
    OpD P s n E H (.store t x y) ty undef H' := by
  have hle : o + k ≤ cs.size := Nat.le_of_ble_eq_true hle'
  intro a w he hs d pos af g
  subst hc
  obtain ⟨r, p1, _⟩ := pk.picks
  refine ⟨_, .skip, ?_, .inr ⟨rfl, rfl⟩, hs.setRow pk⟩
  simp only [execOp, he.ev hx, he.ev hy]
  refine run_u ?_
  have hst := run_storeCells_fr (P := P) b o et fr v.cells.toList 0 cs w (hs.get p1) (by simp; omega) (by simpa [hv] using hf) h1
  simp only [Nat.add_zero] at hst
  simp [Instr.storeAt, Instr.sureAddr, storeVar, hk.run, hv, hst, putCells]

/-! rows -/
/-- How a row's elements lie in memory. -/
structure Ty (α : Type) where
  e : TypeId
  sz : Nat
  bytes : Nat
  enc : α → List Value
  len : ∀ x, (enc x).length = sz
  one : ∀ x u, u ∈ enc x → u.oneCell' = true
  pos : 0 < sz

variable {α : Type}
def Ty.flat (T : Ty α) (xs : List α) : List Value := xs.flatMap T.enc
theorem Ty.flat_len (T : Ty α) (xs : List α) : (T.flat xs).length = xs.length * T.sz := by
  induction xs with
  | nil => simp [Ty.flat]
  | cons x l ih => simp only [Ty.flat, List.flatMap_cons, List.length_append, T.len, List.length_cons] at ih ⊢; rw [ih, Nat.add_mul]; omega
theorem Ty.flat_app (T : Ty α) (xs ys : List α) : T.flat (xs ++ ys) = T.flat xs ++ T.flat ys := by simp [Ty.flat]
theorem Ty.flat_one (T : Ty α) (xs : List α) : ∀ u ∈ T.flat xs, u.oneCell' = true := by
  intro u hu
  obtain ⟨x, _, hx⟩ := List.mem_flatMap.1 hu
  exact T.one x u hx
theorem Ty.flat_take (T : Ty α) (xs : List α) (k : Nat) : (T.flat xs).take (k * T.sz) = T.flat (xs.take k) := by
  induction xs generalizing k with
  | nil => simp [Ty.flat]
  | cons x l ih =>
    cases k with
    | zero => simp [Ty.flat]
    | succ k =>
      have := ih k
      simp only [Ty.flat, List.flatMap_cons, List.take_succ_cons] at this ⊢
      rw [← this, List.take_append, T.len]
      congr 1
      · exact List.take_of_length_le (by rw [T.len, Nat.add_mul]; omega)
      · congr 1; rw [Nat.add_mul]; omega
theorem Ty.flat_drop (T : Ty α) (xs : List α) (k : Nat) : (T.flat xs).drop (k * T.sz) = T.flat (xs.drop k) := by
  induction xs generalizing k with
  | nil => simp [Ty.flat]
  | cons x l ih =>
    cases k with
    | zero => simp [Ty.flat]
    | succ k =>
      have := ih k
      simp only [Ty.flat, List.flatMap_cons, List.drop_succ_cons] at this ⊢
      rw [← this, List.drop_append, T.len]
      rw [List.drop_of_length_le (by rw [T.len, Nat.add_mul]; omega)]
      simp only [List.nil_append]
      congr 1; rw [Nat.add_mul]; omega
theorem Ty.flat_get (T : Ty α) {xs : List α} {k : Nat} {x : α} (h : xs[k]? = some x) (j : Nat) (hj : j < T.sz) : (T.flat xs)[k * T.sz + j]? = (T.enc x)[j]? := by
  have hk : k < xs.length := (List.getElem?_eq_some_iff.1 h).1
  have e : (T.flat xs).drop (k * T.sz) = T.enc x ++ T.flat (xs.drop (k + 1)) := by
    rw [T.flat_drop, List.drop_eq_getElem_cons hk]
    have : xs[k] = x := (List.getElem?_eq_some_iff.1 h).2
    rw [this]; simp [Ty.flat]
  have : (T.flat xs)[k * T.sz + j]? = ((T.flat xs).drop (k * T.sz))[j]? := by simp [List.getElem?_drop]
  rw [this, e, List.getElem?_append_left (by rw [T.len]; exact hj)]

def sl : Option Nat → Option Addr
  | none => none
  | some g => some ⟨g, 0, none⟩

/-- A row of its own: at a, of this room, with these elements. -/
def Row (T : Ty α) (a : Option Nat) (cap : Nat) (xs : List α) : HP := fun h =>
  match a with
  | none => cap = 0 ∧ xs = [] ∧ emp h
  | some g => ∃ (sp : List Value) (fr : Nat × Nat), xs.length ≤ cap ∧ cap ≤ maxLen ∧ cap * T.sz ≤ (T.flat xs).length + sp.length ∧ free fr 0 ((T.flat xs).length + sp.length) ∧ pt g (.cells (T.flat xs ++ sp).toArray T.e fr) h

theorem Row_none (T : Ty α) : Ent [] [Row T none 0 []] := fun _ h => sep_emp (p := Row T none 0 []) ⟨rfl, rfl, h⟩

theorem Row_opens (T : Ty α) (g cap : Nat) (xs : List α) : Opens (Row T (some g) cap xs) fun l =>
    ∃ (sp : List Value) (fr : Nat × Nat), xs.length ≤ cap ∧ cap ≤ maxLen ∧ cap * T.sz ≤ (T.flat xs).length + sp.length ∧ free fr 0 ((T.flat xs).length + sp.length) ∧ l = [pt g (.cells (T.flat xs ++ sp).toArray T.e fr)] := by
  rintro h ⟨sp, fr, h1, h2, h3, h4, h5⟩
  exact ⟨_, ⟨sp, fr, h1, h2, h3, h4, rfl⟩, sep_emp h5⟩

theorem Sat.row {w : World} {H' : List HP} {T : Ty α} {g cap : Nat} {xs : List α} (S : Sat s w (stars H)) (p : Pick H (Row T (some g) cap xs) H') :
    ∃ (sp : List Value) (fr : Nat × Nat), xs.length ≤ cap ∧ cap ≤ maxLen ∧ cap * T.sz ≤ (T.flat xs).length + sp.length ∧ free fr 0 ((T.flat xs).length + sp.length) ∧ w.heap[g]? = some (.cells (T.flat xs ++ sp).toArray T.e fr) ∧
      Sat s w (sep (pt g (.cells (T.flat xs ++ sp).toArray T.e fr)) (stars H')) := by
  obtain ⟨l, ⟨sp, fr, h1, h2, h3, h4, rfl⟩, hs⟩ := Sat.open (Row_opens T g cap xs) p S
  have hs' : Sat s w (sep (pt g (.cells (T.flat xs ++ sp).toArray T.e fr)) (stars H')) := hs
  exact ⟨sp, fr, h1, h2, h3, h4, hs'.left.pt_get, hs'⟩

theorem Row_know {H' : List HP} {T : Ty α} {a : Option Nat} {cap : Nat} {xs : List α} (p : Pick H (Row T a cap xs) H') : ∀ w, Sat s w (stars H) → xs.length ≤ cap ∧ cap ≤ maxLen ∧ (a = none → cap = 0 ∧ xs = []) := by
  intro w hs
  cases a with
  | none =>
    obtain ⟨_, _, _, h, _, h1⟩ := (hs.pick p).left
    obtain ⟨rfl, rfl, _⟩ := h1
    simp
  | some g =>
    obtain ⟨sp, fr, h1, h2, _⟩ := hs.row p
    exact ⟨h1, h2, fun h => by cases h⟩

theorem Row_mk (T : Ty α) (g cap : Nat) (xs : List α) (sp : List Value) (fr : Nat × Nat) (h1 : xs.length ≤ cap) (h2 : cap ≤ maxLen) (h3 : cap * T.sz ≤ (T.flat xs).length + sp.length) (h4 : free fr 0 ((T.flat xs).length + sp.length)) :
    ∀ h, pt g (.cells (T.flat xs ++ sp).toArray T.e fr) h → Row T (some g) cap xs h := fun _ hp => ⟨sp, fr, h1, h2, h3, h4, hp⟩

/-- What can be read at an address. -/
def Reads (s : World) (H : List HP) (p : Option Addr) (vs : List Value) : Prop := ∀ w, Sat s w (stars H) → match p with
  | some a => ∀ j u, vs[j]? = some u → w.cell? (a.add j) = some u
  | none => vs = []

theorem Reads_pt {H' : List HP} {b o : Nat} {cs : Array Value} {t : TypeId} {fr : Nat × Nat} {vs : List Value} (pk : Pick H (pt b (.cells cs t fr)) H') (h : ∀ j u, vs[j]? = some u → cs[o + j]? = some u) : Reads s H (some ⟨b, o, none⟩) vs := by
  intro w hs
  refine fun j u hj => ?_
  rw [add_addr]
  simp [World.cell?, hs.get pk, h j u hj]

theorem Reads_row {H' : List HP} {T : Ty α} {a : Option Nat} {cap : Nat} {xs : List α} (pk : Pick H (Row T a cap xs) H') : Reads s H (sl a) (T.flat xs) := by
  intro w hs
  cases a with
  | none =>
    obtain ⟨_, rfl⟩ := (Row_know pk w hs).2.2 rfl
    simp [sl, Ty.flat]
  | some g =>
    obtain ⟨sp, fr, _, _, _, _, hg, _⟩ := hs.row pk
    refine fun j u hj => ?_
    have hlt := (List.getElem?_eq_some_iff.1 hj).1
    show w.cell? ((⟨g, 0, none⟩ : Addr).add j) = some u
    rw [add_addr]
    simp [World.cell?, hg, List.getElem?_append_left hlt, hj]

theorem Reads_row_from {H' : List HP} {T : Ty α} {g cap : Nat} {xs : List α} (pk : Pick H (Row T (some g) cap xs) H') (k o m : Nat) (ho : o = k * T.sz) : Reads s H (some ⟨g, o, none⟩) (T.flat ((xs.drop k).take m)) := by
  intro w hs
  obtain ⟨sp, fr, _, _, _, _, hg, _⟩ := hs.row pk
  subst ho
  refine fun j u hj => ?_
  rw [add_addr]
  have hlt := (List.getElem?_eq_some_iff.1 hj).1
  have h2 : (T.flat (xs.drop k))[j]? = some u := by
    rw [← T.flat_take] at hj
    have hl2 : j < m * T.sz := by
      have := (List.getElem?_eq_some_iff.1 hj).1
      rw [List.length_take] at this; omega
    rw [List.getElem?_take_of_lt hl2] at hj
    exact hj
  rw [← T.flat_drop, List.getElem?_drop] at h2
  have hlt2 := (List.getElem?_eq_some_iff.1 h2).1
  simp [World.cell?, hg, List.getElem?_append_left hlt2, h2]

theorem load_row {t : TypeId} {fs : Array Field} {H' : List HP} {T : Ty α} {g cap k i o : Nat} {xs : List α} {x : α} {vs : List Value} (h : P.underlying t = some (.struct fs)) (hk : Sz P t k) (pk : Pick H (Row T (some g) cap xs) H') (hx : xs[i]? = some x)
    (hl : vs.length = k) (hv' : ((T.enc x).drop o).take k = vs) : LoadJ P s H t ⟨g, i * T.sz + o, none⟩ (.agg vs.toArray) := by
  intro w hs
  have hv : ∀ j v, vs[j]? = some v → (T.enc x)[o + j]? = some v := fun j v hj => by
    subst hv'
    have hlt : j < k := by have := (List.getElem?_eq_some_iff.1 hj).1; rw [List.length_take] at this; omega
    rw [List.getElem?_take_of_lt hlt, List.getElem?_drop] at hj
    exact hj
  obtain ⟨sp, fr, _, _, _, _, hg, _⟩ := hs.row pk
  have hc : (loadCells ⟨g, i * T.sz + o, none⟩ vs.length).run P w = .ok vs.toArray w := run_loadCells_list (P := P) w _ vs fun j v hj => by
    have h1 := hv j v hj
    have hlt := (List.getElem?_eq_some_iff.1 h1).1
    rw [T.len] at hlt
    have h2 := T.flat_get hx (o + j) hlt
    rw [h1] at h2
    have hlt2 := (List.getElem?_eq_some_iff.1 h2).1
    rw [add_addr, Nat.add_assoc]
    simp [World.cell?, hg, List.getElem?_append_left hlt2, h2]
  rw [hl] at hc
  simp [loadVar, isAgg_struct h, hk.run, hc]

theorem load_row_cell {t : TypeId} {d : TypeDesc} {H' : List HP} {T : Ty α} {g cap i o : Nat} {xs : List α} {x : α} {v : Value} (h : P.underlying t = some d) (hd : scalarD d = true) (pk : Pick H (Row T (some g) cap xs) H') (hx : xs[i]? = some x)
    (hv' : Nth (T.enc x) o v) : LoadJ P s H t ⟨g, i * T.sz + o, none⟩ v := by
  intro w hs
  have hv := hv'.get
  obtain ⟨sp, fr, _, _, _, _, hg, _⟩ := hs.row pk
  have hlt := (List.getElem?_eq_some_iff.1 hv).1
  rw [T.len] at hlt
  have h2 := T.flat_get hx o hlt
  rw [hv] at h2
  have hlt2 := (List.getElem?_eq_some_iff.1 h2).1
  have hc : w.cell? ⟨g, i * T.sz + o, none⟩ = some v := by
    simp [World.cell?, hg, List.getElem?_append_left hlt2, h2]
  simp [loadVar, isAgg_scalar h hd, load, Sem.run, hc]

theorem mid_put {β : Type} (A B C v : List β) (a o : Nat) (ha : A.length = a) (hb : o + v.length ≤ B.length) :
    (A ++ (B ++ C)).take (a + o) ++ v ++ (A ++ (B ++ C)).drop (a + o + v.length) = A ++ ((B.take o ++ v ++ B.drop (o + v.length)) ++ C) := by
  subst ha
  have e1 : (A ++ (B ++ C)).take (A.length + o) = A ++ B.take o := by
    rw [List.take_append, List.take_of_length_le (by omega), Nat.add_sub_cancel_left, List.take_append_of_le_length (by omega)]
  have e2 : (A ++ (B ++ C)).drop (A.length + o + v.length) = B.drop (o + v.length) ++ C := by
    rw [Nat.add_assoc, List.drop_append, List.drop_of_length_le (by omega), List.nil_append, Nat.add_sub_cancel_left, List.drop_append_of_le_length hb]
  rw [e1, e2]
  simp

/-- A store into an element of a row. -/
theorem Op_store_row {t : TypeId} {x y : Operand} {T : Ty α} {g cap k i o : Nat} {xs : List α} {u u' : α} {v : Value} {H' : List HP} (hx : ev E x = some (.pointer (some ⟨g, i * T.sz + o, none⟩))) (hy : ev E y = some v) (hk : Sz P t k) (hv : v.cells.size = k)
    (h1 : ∀ u ∈ v.cells.toList, u.oneCell' = true) (pk : Repl H (Row T (some g) cap xs) (Row T (some g) cap (xs.set i u')) H') (hi : xs[i]? = some u) (hle : o + k ≤ T.sz) (hu : (putCells (T.enc u).toArray o v.cells.toList).toList = T.enc u') :
    OpD P s n E H (.store t x y) ty undef H' := by
  intro a w he hs d pos af g'
  obtain ⟨r, p1, p2⟩ := pk.picks
  obtain ⟨sp, fr, c1, c2, c3, c4, hg, hs'⟩ := hs.row p1
  have hilt : i < xs.length := (List.getElem?_eq_some_iff.1 hi).1
  have hfl := T.flat_len xs
  have hmul : i * T.sz + T.sz ≤ xs.length * T.sz := by
    have := Nat.mul_le_mul_right T.sz (show i + 1 ≤ xs.length from hilt)
    rw [Nat.add_mul] at this; omega
  have hst := run_storeCells_fr (P := P) g (i * T.sz + o) T.e fr v.cells.toList 0 _ w hg (by simp; omega) (fun j h1 h2 => c4 j (by omega) (by simp at h2; omega)) h1
  simp only [Nat.add_zero] at hst
  have hnew : (T.flat xs ++ sp).take (i * T.sz + o) ++ v.cells.toList ++ (T.flat xs ++ sp).drop (i * T.sz + o + v.cells.toList.length) = T.flat (xs.set i u') ++ sp := by
    have hsplit : xs = xs.take i ++ u :: xs.drop (i + 1) := by
      have h := List.take_append_drop i xs
      rw [List.drop_eq_getElem_cons hilt, (List.getElem?_eq_some_iff.1 hi).2] at h
      exact h.symm
    have hset : xs.set i u' = xs.take i ++ u' :: xs.drop (i + 1) := by rw [List.set_eq_take_append_cons_drop, if_pos hilt]
    have htl : (T.flat (xs.take i)).length = i * T.sz := by rw [T.flat_len, List.length_take]; congr 1; omega
    have e1 : T.flat xs = T.flat (xs.take i) ++ (T.enc u ++ T.flat (xs.drop (i + 1))) := by
      conv => lhs; rw [hsplit]
      simp [Ty.flat]
    have e2 : T.flat (xs.set i u') = T.flat (xs.take i) ++ (T.enc u' ++ T.flat (xs.drop (i + 1))) := by rw [hset]; simp [Ty.flat]
    have hlu := T.len u
    have hvl : v.cells.toList.length = k := by simpa using hv
    rw [e2, ← hu, e1]
    have hm := mid_put (T.flat (xs.take i)) (T.enc u) (T.flat (xs.drop (i + 1)) ++ sp) v.cells.toList (i * T.sz) o htl (by omega)
    simp only [putCells, List.append_assoc] at hm ⊢
    rw [hm]
  rw [hnew] at hst
  refine ⟨w.setRow g (T.flat (xs.set i u') ++ sp).toArray, .skip, ?_, .inr ⟨rfl, rfl⟩, ?_⟩
  · simp only [execOp, he.ev hx, he.ev hy]
    refine run_u ?_
    simp only [Instr.storeAt, Instr.sureAddr, storeVar]
    simp [hk.run, hv, hst]
  · have hfl2 : (T.flat (xs.set i u')).length = (T.flat xs).length := by rw [T.flat_len, T.flat_len]; simp
    have S2 := Sat.upd hs' (w' := w.setRow g (T.flat (xs.set i u') ++ sp).toArray) rfl ⟨rfl, Nat.le_refl _⟩ rfl (setRow_heap w g _ _ T.e fr hg) fun k hk _ => setRow_other w g k _ hk
    exact (S2.mono fun _ z => sep_mono (Row_mk T g cap (xs.set i u') sp fr (by simpa using c1) c2 (by rw [hfl2]; exact c3) (by rw [hfl2]; exact c4)) (fun _ y => y) z).mono fun _ z => p2.back z
end
end Go.Proofs.Ytbaecpddhdeapaa.SL
