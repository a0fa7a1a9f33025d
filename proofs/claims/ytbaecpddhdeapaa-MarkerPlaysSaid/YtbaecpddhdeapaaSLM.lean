/- Rules for maps. -/
import Derived.Test.YtbaecpddhdeapaaSLH
import Derived.Maps.RangeRun
namespace Go.Proofs.Ytbaecpddhdeapaa.SL
open Go Go.RowKit

/-- How a map's keys lie in memory. -/
structure KTy (κ : Type) where
  kt : TypeId
  enc : κ → Value
  bits : ∀ k, Instr.sameBits 10000 (enc k) (enc k) = true
  inj : ∀ a b, enc a = enc b → a = b

section
variable {P : Program} {s : World} {n : Nat} {E : List (Nat × Value)} {H : List HP} {ty : TypeId} {κ : Type} [DecidableEq κ]

def idx (k : κ) : List κ → Option Nat
  | [] => none
  | x :: l => if k = x then some 0 else (idx k l).map (· + 1)
def mget (k : κ) : List (κ × Value) → Option Value
  | [] => none
  | (x, v) :: l => if k = x then some v else mget k l
def mdel (k : κ) : List (κ × Value) → List (κ × Value)
  | [] => []
  | (x, v) :: l => if k = x then l else (x, v) :: mdel k l
def mput (k : κ) (u : Value) : List (κ × Value) → List (κ × Value)
  | [] => [(k, u)]
  | (x, v) :: l => if k = x then (k, u) :: l else (x, v) :: mput k u l

/-- The machine finds a key. -/
structure KOk (P : Program) (K : KTy κ) : Prop where
  chk : ∀ b k w, (Instr.checkKey b 10000 K.kt (K.enc k)).run P w = .ok () w
  fnd : ∀ k (ks : List κ) (es : List MapEntry), es.map (·.key) = ks.map K.enc → ∀ w, (Instr.findKey K.kt (K.enc k) es).run P w = .ok ((idx k ks).bind fun i => (es[i]?).map fun e => (i, e.val)) w

def entOf (K : KTy κ) (x : κ × Value) : Value × Value := (K.enc x.1, x.2)
/-- When a map's entries came. -/
def Born (es : List MapEntry) (clock : Nat) : Prop := (es.map (·.born)).Nodup ∧ ∀ e ∈ es, e.born < clock
/-- A map in memory: what it has, in the order in which it came. -/
def Mp (K : KTy κ) (m : Nat) (kv : List (κ × Value)) : HP := fun h => ∃ (es : List MapEntry) (clock : Nat), es.map (fun e => (e.key, e.val)) = kv.map (entOf K) ∧ Born es clock ∧ pt m (.map es.toArray clock) h
theorem Born.nil : Born [] 0 := ⟨by simp, by simp⟩
theorem Born.erase {es : List MapEntry} {c : Nat} (h : Born es c) (i : Nat) : Born (es.eraseIdx i) c :=
  ⟨List.Nodup.sublist ((List.eraseIdx_sublist es i).map _) h.1, fun e he => h.2 e (List.mem_of_mem_eraseIdx he)⟩
theorem Born.push {es : List MapEntry} {c : Nat} (h : Born es c) (k v : Value) : Born (es ++ [⟨k, v, c⟩]) (c + 1) := by
  refine ⟨?_, fun e he => ?_⟩
  · rw [List.map_append, List.nodup_append]
    refine ⟨h.1, by simp, fun a ha b hb => ?_⟩
    obtain ⟨x, hx, rfl⟩ := List.mem_map.1 ha
    have := h.2 x hx
    simp at hb; subst hb; omega
  · rcases List.mem_append.1 he with he | he
    · have := h.2 e he; omega
    · simp at he; subst he; simp
theorem born_modify (es : List MapEntry) (i : Nat) (k v : Value) : (es.modify i fun e => { e with key := k, val := v }).map (·.born) = es.map (·.born) := by
  apply List.ext_getElem?
  intro j
  simp only [List.getElem?_map, List.getElem?_modify]
  cases es[j]? with
  | none => simp
  | some e => by_cases hij : i = j <;> simp [hij]
theorem Born.modify {es : List MapEntry} {c : Nat} (h : Born es c) (i : Nat) (k v : Value) : Born (es.modify i fun e => { e with key := k, val := v }) c := by
  refine ⟨by rw [born_modify]; exact h.1, fun e he => ?_⟩
  have : e.born ∈ es.map (·.born) := by rw [← born_modify es i k v]; exact List.mem_map_of_mem he
  obtain ⟨x, hx, e2⟩ := List.mem_map.1 this
  rw [← e2]; exact h.2 x hx

omit [DecidableEq κ] in
theorem keys_of {K : KTy κ} {kv : List (κ × Value)} {es : List MapEntry} (h : es.map (fun e => (e.key, e.val)) = kv.map (entOf K)) : es.map (·.key) = (kv.map (·.1)).map K.enc := by
  have := congrArg (List.map Prod.fst) h
  simpa [entOf, Function.comp_def] using this

theorem mget_idx {K : KTy κ} (k : κ) : ∀ {kv : List (κ × Value)} {es : List MapEntry}, es.map (fun e => (e.key, e.val)) = kv.map (entOf K) → ((idx k (kv.map (·.1))).bind fun i => (es[i]?).map fun e => (i, e.val)).map (·.2) = mget k kv
  | [], [], _ => rfl
  | (x, v) :: l, e :: es, h => by
    simp only [List.map_cons, List.cons.injEq, entOf, Prod.mk.injEq] at h
    obtain ⟨⟨h1, h2⟩, h3⟩ := h
    simp only [List.map_cons, idx, mget]
    by_cases hk : k = x
    · simp [hk, h2]
    · have ih := mget_idx (K := K) k h3
      simp only [hk, if_false]
      rw [← ih]
      cases hh : idx k (l.map (·.1)) with
      | none => rfl
      | some i => simp [Function.comp_def]
  | (x, v) :: l, [], h => by simp at h
  | [], e :: es, h => by simp at h
theorem mdel_idx (k : κ) : ∀ (kv : List (κ × Value)), mdel k kv = match idx k (kv.map (·.1)) with | none => kv | some i => kv.eraseIdx i
  | [] => rfl
  | (x, v) :: l => by
    simp only [mdel, List.map_cons, idx]
    by_cases hk : k = x
    · simp [hk]
    · simp only [hk, if_false, mdel_idx k l]
      cases idx k (l.map (·.1)) <;> rfl
theorem mput_idx (k : κ) (u : Value) : ∀ (kv : List (κ × Value)), mput k u kv = match idx k (kv.map (·.1)) with | none => kv ++ [(k, u)] | some i => kv.set i (k, u)
  | [] => rfl
  | (x, v) :: l => by
    simp only [mput, List.map_cons, idx]
    by_cases hk : k = x
    · simp [hk]
    · simp only [hk, if_false, mput_idx k u l]
      cases idx k (l.map (·.1)) <;> rfl
theorem idx_lt {k : κ} : ∀ {ks : List κ} {i : Nat}, idx k ks = some i → i < ks.length
  | x :: l, i, h => by
    simp only [idx] at h
    split at h
    · simp at h; subst h; simp
    · cases hh : idx k l with
      | none => simp [hh] at h
      | some j => simp [hh] at h; subst h; have := idx_lt hh; simp; omega
theorem idx_at {k : κ} : ∀ {ks : List κ} {i : Nat}, idx k ks = some i → ks[i]? = some k
  | x :: l, i, h => by
    simp only [idx] at h
    split at h
    · rename_i e; simp at h; subst h; simp [e]
    · cases hh : idx k l with
      | none => simp [hh] at h
      | some j => simp [hh] at h; subst h; have := idx_at hh; simpa using this

theorem run_getMap {m c : Nat} {es : Array MapEntry} {w : World} (h : w.heap[m]? = some (.map es c)) : (getObj m).run P w = .ok (.map es c) w := by
  simp [getObj, Sem.run, h]
theorem run_setMap {m c : Nat} {es : Array MapEntry} {o : Obj} {w : World} (h : w.heap[m]? = some (.map es c)) : (setObj m o).run P w = .ok () { w with heap := w.heap.setIfInBounds m o } := by
  simp [setObj, Sem.run, h]

omit [DecidableEq κ] in
theorem Mp_get {K : KTy κ} {m : Nat} {kv : List (κ × Value)} {H' : List HP} {w : World} (hs : Sat s w (stars H)) (pk : Pick H (Mp K m kv) H') :
    ∃ (es : List MapEntry) (clock : Nat), es.map (fun e => (e.key, e.val)) = kv.map (entOf K) ∧ Sat s w (stars (pt m (.map es.toArray clock) :: H')) ∧ Born es clock := by
  obtain ⟨l, ⟨es, c, h1, hb, rfl⟩, S⟩ := hs.open (S := fun l => ∃ es c, es.map (fun e => (e.key, e.val)) = kv.map (entOf K) ∧ Born es c ∧ l = [pt m (.map es.toArray c)]) (fun h hh => let ⟨es, c, h1, hb, h2⟩ := hh; ⟨[pt m (.map es.toArray c)], ⟨es, c, h1, hb, rfl⟩, sep_emp h2⟩) pk
  exact ⟨es, c, h1, S, hb⟩

theorem Op_lookup {K : KTy κ} {m : Nat} {kv : List (κ × Value)} {H' : List HP} {t e : TypeId} {x i : Operand} {k : κ} {z : Value} (hx : ev E x = some (.map (some m))) (hi : ev E i = some (K.enc k))
    (ht : P.underlying t = some (.map K.kt e)) (hK : KOk P K) (hz : Zr P e z) (pk : Pick H (Mp K m kv) H') : OpQ P s n E H (.lookup t x i false) ty ((mget k kv).getD z) := by
  intro a w he hs d pos af g
  obtain ⟨es, c, h1, S, hB⟩ := Mp_get hs pk
  simp only [execOp, he.ev hx, he.ev hi]
  refine run_v ?_
  have hg := run_getMap (P := P) (S.get .here)
  have hf := hK.fnd k (kv.map (·.1)) es (keys_of h1) w
  have hm := mget_idx (K := K) k h1
  unfold Instr.lookup
  simp only [Sem.run_bind, run_underlying ht, Result.andThen_ok, hg, Sem.run_pure, hK.chk, hf]
  cases hh : ((idx k (kv.map (·.1))).bind fun i => (es[i]?).map fun e => (i, e.val)) with
  | none => rw [hh] at hm; simp only [Option.map_none] at hm; simp [hz.run, ← hm]
  | some q => rw [hh] at hm; simp only [Option.map_some] at hm; simp [← hm]
theorem Op_lookup_ok {K : KTy κ} {m : Nat} {kv : List (κ × Value)} {H' : List HP} {t e : TypeId} {x i : Operand} {k : κ} {z : Value} (hx : ev E x = some (.map (some m))) (hi : ev E i = some (K.enc k))
    (ht : P.underlying t = some (.map K.kt e)) (hK : KOk P K) (hz : Zr P e z) (pk : Pick H (Mp K m kv) H') : OpQ P s n E H (.lookup t x i true) ty (.tuple #[(mget k kv).getD z, .bool (mget k kv).isSome]) := by
  intro a w he hs d pos af g
  obtain ⟨es, c, h1, S, hB⟩ := Mp_get hs pk
  simp only [execOp, he.ev hx, he.ev hi]
  refine run_v ?_
  have hg := run_getMap (P := P) (S.get .here)
  have hf := hK.fnd k (kv.map (·.1)) es (keys_of h1) w
  have hm := mget_idx (K := K) k h1
  unfold Instr.lookup
  simp only [Sem.run_bind, run_underlying ht, Result.andThen_ok, hg, Sem.run_pure, hK.chk, hf]
  cases hh : ((idx k (kv.map (·.1))).bind fun i => (es[i]?).map fun e => (i, e.val)) with
  | none => rw [hh] at hm; simp only [Option.map_none] at hm; simp [hz.run, ← hm]
  | some q => rw [hh] at hm; simp only [Option.map_some] at hm; simp [← hm]

theorem Sat.setMap {w : World} {H H' : List HP} {m c c' : Nat} {es es' : Array MapEntry} (S : Sat s w (stars H)) (p : Repl H (pt m (.map es c)) (pt m (.map es' c')) H') : Sat s { w with heap := w.heap.setIfInBounds m (.map es' c') } (stars H') := by
  obtain ⟨r, p1, _⟩ := p.picks
  have hg := S.get p1
  have hlt : m < w.heap.size := (Array.getElem?_eq_some_iff.1 hg).1
  exact S.repl p rfl ⟨rfl, Nat.le_refl _⟩ rfl (by simp [hlt]) fun k hk _ => by simp [Ne.symm hk]

omit [DecidableEq κ] in
theorem Mp_put {K : KTy κ} {m : Nat} {kv' : List (κ × Value)} {H' : List HP} {w : World} {es' : List MapEntry} {c' : Nat} {o : Array MapEntry} (ho : o = es'.toArray)
    (h1 : es'.map (fun e => (e.key, e.val)) = kv'.map (entOf K)) (hb : Born es' c') (S : Sat s w (stars (pt m (.map o c') :: H'))) : Sat s w (stars (Mp K m kv' :: H')) :=
  S.mono fun _ y => sep_mono (fun _ z => ⟨es', c', h1, hb, ho ▸ z⟩) (fun _ z => z) y

theorem Op_delete {K : KTy κ} {m : Nat} {kv : List (κ × Value)} {H' : List HP} {t t2 e : TypeId} {x i : Operand} {k : κ} (hx : ev E x = some (.map (some m))) (hi : ev E i = some (K.enc k))
    (ht : P.underlying t = some (.map K.kt e)) (hK : KOk P K) (pk : Pick H (Mp K m kv) H') : OpD P s n E H (.call { callee := .builtin .delete, args := #[x, i], argTypes := #[t, t2] }) ty (.tuple #[]) (Mp K m (mdel k kv) :: H') := by
  intro a w he hs d pos af g
  obtain ⟨es, c, h1, S, hB⟩ := Mp_get hs pk
  have hgm := S.get .here
  have hg := run_getMap (P := P) hgm
  have hf := hK.fnd k (kv.map (·.1)) es (keys_of h1) w
  have hl : es.length = kv.length := by have := congrArg List.length h1; simpa using this
  have key : ∀ o : Array MapEntry, (match ((idx k (kv.map (·.1))).bind fun i => (es[i]?).map fun e => (i, e.val)) with | some (i, _) => es.toArray.eraseIdxIfInBounds i | none => es.toArray) = o →
      (Builtin.delete_ #[t, t2] ty #[.map (some m), K.enc k]).run P w = .ok (.tuple #[]) { w with heap := w.heap.setIfInBounds m (.map o c) } := by
    intro o ho
    unfold Builtin.delete_
    simp only [List.getElem?_toArray, List.getElem?_cons_zero, List.getElem?_cons_succ, Sem.run_bind, run_underlying ht, Result.andThen_ok, hg, hK.chk, hf]
    cases hh : ((idx k (kv.map (·.1))).bind fun i => (es[i]?).map fun e => (i, e.val)) with
    | none => rw [hh] at ho; simp only at ho; subst ho; simp [run_setMap (P := P) hgm]
    | some q => rw [hh] at ho; simp only at ho; subst ho; simp [run_setMap (P := P) hgm]
  have fin : ∀ o : Array MapEntry, ∀ es' : List MapEntry, o = es'.toArray → es'.map (fun e => (e.key, e.val)) = (mdel k kv).map (entOf K) → Born es' c →
      (match ((idx k (kv.map (·.1))).bind fun i => (es[i]?).map fun e => (i, e.val)) with | some (i, _) => es.toArray.eraseIdxIfInBounds i | none => es.toArray) = o →
      ∃ w' r, (execOp a.eval ⟨d, .call { callee := .builtin .delete, args := #[x, i], argTypes := #[t, t2] }, ty, pos, af, g⟩).run P w = .ok r w' ∧ (r = .value (.tuple #[]) ∨ r = .skip ∧ Value.tuple #[] = undef) ∧ Sat s w' (stars (Mp K m (mdel k kv) :: H')) := fun o es' ho h2 hb hk =>
    ⟨_, _, run_call_builtin (xs := [x, i]) (vs := [.map (some m), K.enc k]) (by simp [he.ev hx, he.ev hi]) (run_v (key o hk)), .inl rfl, Mp_put ho h2 hb (S.setMap .here)⟩
  rw [mdel_idx] at fin ⊢
  cases hi : idx k (kv.map (·.1)) with
  | none =>
    rw [hi] at fin
    exact fin es.toArray es rfl h1 hB rfl
  | some i =>
    rw [hi] at fin
    have hlt := idx_lt hi
    simp at hlt
    have he' : es[i]? = some es[i] := List.getElem?_eq_getElem (by omega)
    refine fin (es.eraseIdx i).toArray (es.eraseIdx i) rfl ?_ (hB.erase i) ?_
    · simp only [List.eraseIdx_eq_take_drop_succ, List.map_append, List.map_take, List.map_drop, h1]
    · simp [he']
theorem Op_mapUpdate {K : KTy κ} {m : Nat} {kv : List (κ × Value)} {H' : List HP} {t e : TypeId} {x i y : Operand} {k : κ} {u : Value} (hx : ev E x = some (.map (some m))) (hi : ev E i = some (K.enc k)) (hy : ev E y = some u)
    (ht : P.underlying t = some (.map K.kt e)) (hK : KOk P K) (pk : Pick H (Mp K m kv) H') : OpD P s n E H (.mapUpdate t x i y) ty undef (Mp K m (mput k u kv) :: H') := by
  intro a w he hs d pos af g
  obtain ⟨es, c, h1, S, hB⟩ := Mp_get hs pk
  have hgm := S.get .here
  have hg := run_getMap (P := P) hgm
  have hf := hK.fnd k (kv.map (·.1)) es (keys_of h1) w
  have hl : es.length = kv.length := by have := congrArg List.length h1; simpa using this
  rw [mput_idx]
  simp only [execOp, he.ev hx, he.ev hi, he.ev hy]
  cases hi : idx k (kv.map (·.1)) with
  | none =>
    rw [hi] at hf
    refine ⟨_, .skip, run_u (w' := { w with heap := w.heap.setIfInBounds m (.map (es.toArray.push ⟨K.enc k, u, c⟩) (c + 1)) }) ?_, .inr ⟨rfl, trivial⟩, Mp_put (es' := es ++ [⟨K.enc k, u, c⟩]) (by simp) (by simp [h1, entOf]) (hB.push _ _) (S.setMap .here)⟩
    unfold Instr.mapUpdate
    simp [Sem.run_bind, run_underlying ht, hg, hK.chk, hf, run_setMap (P := P) hgm]
  | some i =>
    have hlt := idx_lt hi
    simp at hlt
    have hat := idx_at hi
    have he' : es[i]? = some es[i] := List.getElem?_eq_getElem (by omega)
    have hke : es[i].key = K.enc k := by
      have := congrArg (·[i]?) (keys_of h1)
      simp only [List.getElem?_map, he', hat, Option.map_some] at this
      simpa using this
    rw [hi] at hf
    simp only [Option.bind_some, he', Option.map_some] at hf
    have hst : ∀ w, (Instr.keyThatStays (((es.toArray[i]?).map (·.key)).getD (K.enc k)) (K.enc k)).run P w = .ok (K.enc k) w := fun w => by
      have : ((es.toArray[i]?).map (·.key)).getD (K.enc k) = K.enc k := by simp [he', hke]
      rw [this]; unfold Instr.keyThatStays; rw [K.bits]; rfl
    refine ⟨_, .skip, run_u (w' := { w with heap := w.heap.setIfInBounds m (.map (es.toArray.modify i fun e => { e with key := K.enc k, val := u }) c) }) ?_, .inr ⟨rfl, trivial⟩, Mp_put (es' := es.modify i fun e => { e with key := K.enc k, val := u }) (by simp) ?_ (hB.modify i _ _) (S.setMap .here)⟩
    · unfold Instr.mapUpdate
      simp only [Sem.run_bind, run_underlying ht, Result.andThen_ok, hg, hK.chk, hf, hst]
      exact run_setMap hgm
    · apply List.ext_getElem?
      intro j
      simp only [List.getElem?_map, List.getElem?_modify, List.getElem?_set]
      have hj := congrArg (·[j]?) h1
      simp only [List.getElem?_map] at hj
      by_cases hij : i = j
      · subst hij; simp [he', hlt, entOf]
      · simp [hij, hj]

omit [DecidableEq κ] in
theorem Op_makeMap {K : KTy κ} {t : TypeId} : OpP P s n E H (.makeMap t none) ty fun v H' => ∃ m, v = .map (some m) ∧ H' = Mp K m [] :: H := by
  intro a w he hs d pos af g next Q hn
  have hr : (execOp a.eval ⟨d, .makeMap t none, ty, pos, af, g⟩).run P w = .ok (.value (.map (some w.heap.size))) (w.alloc (.map #[] 0)) := by
    simp only [execOp]
    refine run_v ?_
    unfold Instr.makeMap
    rfl
  unfold Oper.wp
  rw [hr]
  exact hn _ _ _ ⟨_, rfl, rfl⟩ (Mp_put (es' := []) rfl rfl .nil (hs.alloc _))

omit [DecidableEq κ] in
theorem Op_len_map {K : KTy κ} {m : Nat} {kv : List (κ × Value)} {H' : List HP} {t e : TypeId} {x : Operand} (hx : ev E x = some (.map (some m)))
    (ht : P.underlying t = some (.map K.kt e)) (pk : Pick H (Mp K m kv) H') : OpQ P s n E H (.call { callee := .builtin .len, args := #[x], argTypes := #[t] }) ty (.int .i64 kv.length) := by
  intro a w he hs d pos af g
  obtain ⟨es, c, h1, S, hB⟩ := Mp_get hs pk
  have hg := run_getMap (P := P) (S.get .here)
  have hl : es.length = kv.length := by have := congrArg List.length h1; simpa using this
  refine run_call_builtin (xs := [x]) (vs := [.map (some m)]) (by simp [he.ev hx]) (run_v ?_)
  unfold Builtin.len_
  simp [Sem.run_bind, run_underlying ht, hg, goInt, hl]

theorem ba_beq (a b : ByteArray) : (a == b) = decide (a = b) := by
  have h : (a == b) = (a.data == b.data) := by cases a; cases b; rfl
  rw [h, Bool.eq_iff_iff]
  simp only [beq_iff_eq, decide_eq_true_eq]
  exact ⟨fun e => by cases a; cases b; simp at e; rw [e], fun e => by rw [e]⟩
/-- Texts as keys. -/
def KStr (t : TypeId) : KTy ByteArray := { kt := t, enc := .string, bits := fun k => by show (k == k) = true; rw [ba_beq]; simp, inj := fun _ _ h => by simpa using h }
theorem KStr_ok {t : TypeId} (ht : P.underlying t = some .string) : KOk P (KStr t) where
  chk := fun b k w => by
    show (Instr.checkKey b (9999 + 1) t (.string k)).run P w = .ok () w
    unfold Instr.checkKey
    rw [Sem.run_bind, run_underlying ht]; rfl
  fnd := fun k ks es h w => by
    have hn : ∀ (ks : List ByteArray) (es : List MapEntry) (j : Nat), es.map (·.key) = ks.map Value.string → Instr.findNow .string (.string k) es j = some ((idx k ks).bind fun i => (es[i]?).map fun e => (j + i, e.val)) := by
      intro ks
      induction ks with
      | nil => intro es j h; cases es with | nil => rfl | cons _ _ => simp at h
      | cons x l ih =>
        intro es j h
        cases es with
        | nil => simp at h
        | cons e es =>
          simp only [List.map_cons, List.cons.injEq] at h
          simp only [Instr.findNow, h.1, Instr.sameNow, idx]
          by_cases hk : k = x
          · simp [hk, ba_beq]
          · simp only [ba_beq, hk, decide_false, if_false]
            rw [ih es (j + 1) h.2]
            cases idx k l with
            | none => rfl
            | some i => simp [Nat.add_assoc, Nat.add_comm 1 i]
    have := hn ks es 0 h
    unfold Instr.findKey
    simp only [Sem.run_bind]
    show ((underlying t).run P w).andThen _ = _
    rw [run_underlying ht]
    simp only [Result.andThen_ok]
    show (match Instr.findNow .string (.string k) es 0 with | some r => pure r | none => Instr.findAsking t (.string k) es).run P w = _
    rw [this]
    simp

theorem Op_max {x y : Operand} {a b : Int} {k : IntKind} {ats : Array TypeId} (hx : ev E x = some (.int k a)) (hy : ev E y = some (.int k b)) : OpQ P s n E H (.call { callee := .builtin .max, args := #[x, y], argTypes := ats }) ty (.int k (max a b)) := by
  intro ac w he hs d pos af g
  refine run_call_builtin (xs := [x, y]) (vs := [.int k a, .int k b]) (by simp [he.ev hx, he.ev hy]) (run_v ?_)
  have : max a b = if b > a then b else a := by split <;> omega
  rw [this]
  simp [Builtin.max_, Builtin.max2]
theorem Op_min {x y : Operand} {a b : Int} {k : IntKind} {ats : Array TypeId} (hx : ev E x = some (.int k a)) (hy : ev E y = some (.int k b)) : OpQ P s n E H (.call { callee := .builtin .min, args := #[x, y], argTypes := ats }) ty (.int k (min a b)) := by
  intro ac w he hs d pos af g
  refine run_call_builtin (xs := [x, y]) (vs := [.int k a, .int k b]) (by simp [he.ev hx, he.ev hy]) (run_v ?_)
  have : min a b = if b < a then b else a := by split <;> omega
  rw [this]
  simp [Builtin.min_, Builtin.min2]

theorem OpP.conv {op : Op} {post post' : Value → List HP → Prop} (h : OpP P s n E H op ty post) (hp : ∀ v H', post v H' → ∃ H'', post' v H'' ∧ Imp H' H'') : OpP P s n E H op ty post' :=
  fun a w he hs d pos af g next Q hn => h a w he hs d pos af g next Q fun v H' w' hv hs' => let ⟨H'', h1, h2⟩ := hp v H' hv; hn v H'' w' h1 (h2.sat hs')
theorem Op_buildRow {α : Type} {T : Ty α} {t : TypeId} {len : Nat} {parts : List (Nat × Operand)} {vs : List Value} {z : Value} (xs : List α) (hx : xs.length = len) (ht : P.underlying t = some (.slice T.e)) (hz : Sz P T.e T.sz) (hzr : Zr P T.e z) (hp : parts.map (fun p => ev E p.2) = vs.map some)
    (hn0 : Nat.beq (len * T.sz) 0 = false) (hle : Nat.ble (len * T.sz) 16777216 = true) (hml : Nat.ble len maxLen = true)
    (hzs : Nat.beq z.cells.toList.length T.sz = true) (hc : lfill (fun i => some (i * T.sz, T.sz)) (List.replicate len z.cells.toList).flatten ((parts.map (·.1)).zip vs) = some (T.flat xs)) :
    OpP P s n E H (.buildSlice t len parts.toArray) ty fun v H' => ∃ g, v = .slice (sl (some g)) len len ∧ H' = Row T (some g) len xs :: H :=
  (Op_buildSlice ht hz hzr hp hn0 hle hzs hc).conv fun v H' ⟨g, h1, h2⟩ => ⟨_, ⟨g, h1, rfl⟩, by
    subst h2
    refine Imp.sep_mono (fun h hh => ?_) (Imp.refl _)
    have := Row_mk T g len xs [] (0, 0) (by omega) (Nat.le_of_ble_eq_true hml) (by rw [T.flat_len, hx]; simp) (free_zero _ _) h
    rw [List.append_nil] at this
    exact this hh⟩

theorem load_imp {H2 : List HP} {t : TypeId} {p : Addr} {v : Value} (e : Imp H H2) (h : LoadJ P s H2 t p v) : LoadJ P s H t p v := fun w hs => h w (e.sat hs)

theorem load_opens {q : HP} {S : List HP → Prop} {R : List HP} {t : TypeId} {p : Addr} {v : Value} (o : Opens q S) (pk : Pick H q R) (h : ∀ l, S l → LoadJ P s (l ++ R) t p v) : LoadJ P s H t p v := fun w hs =>
  let ⟨l, hl, S'⟩ := hs.open o pk
  h l hl w S'

theorem Spec.conv {f : FuncId} {args : Array Value} {pre pre' F : List HP} {post post' : Value → List HP → Prop} (h : Spec P f args pre post) (hp : Imp pre' (pre ++ F))
    (hq : ∀ v C, post v C → ∃ C', post' v C' ∧ Imp (C ++ F) C') : Spec P f args pre' post' := by
  intro s w R hs
  have hs2 : Sat s w (stars (pre ++ (F ++ R))) := by rw [← List.append_assoc]; exact (hp.app R).sat hs
  refine (h s w (F ++ R) hs2).mono ?_
  rintro _ w' ⟨v, C, hv, he, hc⟩
  obtain ⟨C', hv', hi⟩ := hq v C hv
  rw [← List.append_assoc] at hc
  exact ⟨v, C', hv', he, (hi.app R).sat hc⟩
theorem Spec.opens {f : FuncId} {args : Array Value} {p : HP} {S : List HP → Prop} {pre : List HP} {post : Value → List HP → Prop} (o : Opens p S) (h : ∀ l, S l → Spec P f args (l ++ pre) post) : Spec P f args (p :: pre) post := by
  intro s w R hs
  obtain ⟨l, hl, S'⟩ := hs.open o (.here (x := p) (l := pre ++ R))
  exact h l hl s w R (by rw [List.append_assoc]; exact S')
theorem Spec.know {f : FuncId} {args : Array Value} {φ : Prop} {pre : List HP} {post : Value → List HP → Prop} (k : ∀ s w R, Sat s w (stars (pre ++ R)) → φ) (h : φ → Spec P f args pre post) : Spec P f args pre post :=
  fun s w R hs => h (k s w R hs) s w R hs
end
section
variable {P : Program} {s : World} {n : Nat} {E : List (Nat × Value)} {H : List HP} {Q : Exit → Act → World → Prop} {ops : Array Oper}
/-- One that its guard passes over, where the schedule has a step that may change the world. -/
theorem SJ_no_e {i d : Nat} {op : Op} {ty : TypeId} {pos : String} {af : Array Edge} {j t : Nat} {b want : Bool} (b' : Bool) {sc : Sched} {rd rd' : List Rd} (keep : List Nat) (hi : ops[i]? = some ⟨some d, op, ty, pos, af, some (j, want)⟩)
    (hj : (ops[j]?).bind (·.dst) = some t) (hl : look E t = some (.bool b)) (hb1 : b = b') (hb2 : b' ≠ want) (hd : Nat.ble (d + 1) n = true)
    (hr0 : dropOK .any ops i (rd.map Rd.i) keep = true) (hr : rd.filter (fun r => keep.any (Nat.beq r.i)) = rd') (ho : Obl P s H rd')
    (k : SJ P s n ops Q sc rd' ((d, undef) :: E) H) : SJ P s n ops Q (.e i sc) rd E H := by
  have hb : b ≠ want := hb1 ▸ hb2
  intro a w pend he hs hp
  subst hr
  classical
  have hy := yielded_of (ops := ops) he hj hl
  show wpOp P ops (NP Q) i _ a w
  unfold wpOp
  simp only [hi]
  rw [if_neg (by simp [Region.wanted, hy, hb])]
  let keepP : Nat × (World → Prop) → Prop := fun p => (∀ w', p.2 w') ∨ ∃ r ∈ rd.filter (fun r => keep.any (Nat.beq r.i)), p.1 = r.i ∧ p.2 = r.holds P
  refine ⟨pend.filter (fun p => decide (keepP p)), fun p hpm => ?_, fun p hpm => ?_, k _ _ _ (he.put hd undef) hs fun p hpm => ?_⟩
  · by_cases hkp : keepP p
    · exact .inl (List.mem_filter.2 ⟨hpm, by simpa using hkp⟩)
    · rcases hp p hpm with x | ⟨r, hrm, e1, e2⟩
      · exact absurd (.inl x) hkp
      · rcases dropOK_spec hr0 r.i (List.mem_map_of_mem hrm) with y | y
        · refine absurd (.inr ⟨r, List.mem_filter.2 ⟨hrm, ?_⟩, e1, e2⟩) hkp
          rw [List.any_eq_true]
          exact ⟨r.i, y, by simp⟩
        · exact .inr (by rw [e1]; exact y)
  · rw [List.mem_filter] at hpm
    have hkp : keepP p := by simpa using hpm.2
    rcases hkp with x | ⟨r, hrm, e1, e2⟩
    · exact x w
    · rw [e2]; exact ho.mem hrm w hs
  · rw [List.mem_filter] at hpm
    exact of_decide_eq_true hpm.2
end
end Go.Proofs.Ytbaecpddhdeapaa.SL
