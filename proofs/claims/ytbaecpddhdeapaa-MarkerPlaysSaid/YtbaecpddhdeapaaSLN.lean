/- Rules for ranges over maps. -/
import Derived.Test.YtbaecpddhdeapaaSLM
namespace Go.Proofs.Ytbaecpddhdeapaa.SL
open Go Go.RowKit
section
variable {P : Program} {s : World} {n : Nat} {E : List (Nat × Value)} {H : List HP} {ty : TypeId} {κ : Type} [DecidableEq κ]

/-- A map with an iterator over it: what it has, which keys are to come, which entry came last. -/
def ItP (K : KTy κ) (m r : Nat) (kv : List (κ × Value)) (todo : List κ) (cur : Option (κ × Value)) : HP := fun h => ∃ (es : List MapEntry) (clock : Nat) (seen : Array Nat), es.map (fun e => (e.key, e.val)) = kv.map (entOf K) ∧ Born es clock ∧
  (es.filter (fun e => !seen.contains e.born)).map (·.key) = todo.map K.enc ∧ (∀ q, cur = some q → ∃ e ∈ es, ∃ s' : Array Nat, seen = s'.push e.born ∧ e.key = K.enc q.1 ∧ e.val = q.2) ∧
  sep (pt m (.map es.toArray clock)) (pt r (.mapIter (some m) clock seen clock)) h

omit [DecidableEq κ] in
theorem ItP_get {K : KTy κ} {m r : Nat} {kv : List (κ × Value)} {todo : List κ} {cur : Option (κ × Value)} {R : List HP} {w : World} (hs : Sat s w (stars H)) (pk : Pick H (ItP K m r kv todo cur) R) :
    ∃ (es : List MapEntry) (clock : Nat) (seen : Array Nat), es.map (fun e => (e.key, e.val)) = kv.map (entOf K) ∧ Born es clock ∧ (es.filter (fun e => !seen.contains e.born)).map (·.key) = todo.map K.enc ∧
      (∀ q, cur = some q → ∃ e ∈ es, ∃ s' : Array Nat, seen = s'.push e.born ∧ e.key = K.enc q.1 ∧ e.val = q.2) ∧ Sat s w (stars (pt m (.map es.toArray clock) :: pt r (.mapIter (some m) clock seen clock) :: R)) := by
  obtain ⟨l, ⟨es, c, sn, h1, h2, h3, h4, rfl⟩, S⟩ := hs.open (S := fun l => ∃ es c sn, es.map (fun e => (e.key, e.val)) = kv.map (entOf K) ∧ Born es c ∧ (es.filter (fun e => !sn.contains e.born)).map (·.key) = todo.map K.enc ∧
      (∀ q, cur = some q → ∃ e ∈ es, ∃ s' : Array Nat, sn = s'.push e.born ∧ e.key = K.enc q.1 ∧ e.val = q.2) ∧ l = [pt m (.map es.toArray c), pt r (.mapIter (some m) c sn c)])
    (fun h hh => let ⟨es, c, sn, h1, h2, h3, h4, h5⟩ := hh; ⟨[pt m (.map es.toArray c), pt r (.mapIter (some m) c sn c)], ⟨es, c, sn, h1, h2, h3, h4, rfl⟩, sep_mono (fun _ z => z) (fun _ z => sep_emp z) h5⟩) pk
  exact ⟨es, c, sn, h1, h2, h3, h4, S⟩
omit [DecidableEq κ] in
theorem ItP_put {K : KTy κ} {m r : Nat} {kv : List (κ × Value)} {todo : List κ} {cur : Option (κ × Value)} {R : List HP} {w : World} {es : List MapEntry} {c : Nat} {sn : Array Nat} {o : Array MapEntry} (ho : o = es.toArray)
    (h1 : es.map (fun e => (e.key, e.val)) = kv.map (entOf K)) (h2 : Born es c) (h3 : (es.filter (fun e => !sn.contains e.born)).map (·.key) = todo.map K.enc)
    (h4 : ∀ q, cur = some q → ∃ e ∈ es, ∃ s' : Array Nat, sn = s'.push e.born ∧ e.key = K.enc q.1 ∧ e.val = q.2)
    (S : Sat s w (stars (pt m (.map o c) :: pt r (.mapIter (some m) c sn c) :: R))) : Sat s w (stars (ItP K m r kv todo cur :: R)) :=
  S.mono fun _ y => by
    have y2 := sep_assoc' y
    exact sep_mono (fun _ z => ⟨es, c, sn, h1, h2, h3, h4, ho ▸ z⟩) (fun _ z => z) y2

omit [DecidableEq κ] in
theorem ItP_end {K : KTy κ} {m r : Nat} {kv : List (κ × Value)} {todo : List κ} {cur : Option (κ × Value)} : Imp [ItP K m r kv todo cur] [Mp K m kv] := fun h hh => by
  obtain ⟨es, c, sn, h1, h2, _, _, h5⟩ := sep_emp_out hh
  obtain ⟨a, b, ha, _, _, e⟩ := h5
  refine ⟨a, fun k o ho => ?_, sep_emp ⟨es, c, h1, h2, ha⟩⟩
  rw [e k, ho]; rfl

omit [DecidableEq κ] in
theorem Op_range {K : KTy κ} {m : Nat} {kv : List (κ × Value)} {R : List HP} {t e : TypeId} {x : Operand} (hx : ev E x = some (.map (some m))) (ht : P.underlying t = some (.map K.kt e)) (pk : Pick H (Mp K m kv) R) :
    OpP P s n E H (.range t x) ty fun v H' => ∃ r, v = .pointer (some ⟨r, 0, none⟩) ∧ H' = ItP K m r kv (kv.map (·.1)) none :: R := by
  intro a w he hs d pos af g next Q hn
  obtain ⟨es, c, h1, S, hB⟩ := Mp_get hs pk
  have hg := run_getMap (P := P) (S.get .here)
  have hr : (execOp a.eval ⟨d, .range t x, ty, pos, af, g⟩).run P w = .ok (.value (.pointer (some ⟨w.heap.size, 0, none⟩))) (w.alloc (.mapIter (some m) c #[] c)) := by
    simp only [execOp, he.ev hx]
    refine run_v ?_
    unfold Instr.range
    simp only [Sem.run_bind, run_underlying ht, Result.andThen_ok, hg]
    rfl
  unfold Oper.wp
  rw [hr]
  have S2 := S.alloc (.mapIter (some m) c #[] c)
  refine hn _ _ _ ⟨_, rfl, rfl⟩ (ItP_put (es := es) (c := c) (sn := #[]) rfl h1 hB ?_ (fun q h => by cases h) (S2.mono fun _ y => sep_swap y))
  rw [List.filter_eq_self.2 (by simp)]
  exact keys_of h1

omit [DecidableEq κ] in
theorem Op_next_done {K : KTy κ} {m r : Nat} {kv : List (κ × Value)} {cur : Option (κ × Value)} {R : List HP} {x : Operand} (hx : ev E x = some (.pointer (some ⟨r, 0, none⟩))) (pk : Pick H (ItP K m r kv [] cur) R) :
    OpQ P s n E H (.next x false) ty (.tuple #[.bool false]) := by
  intro a w he hs d pos af g
  obtain ⟨es, c, sn, h1, hB, h3, _, S⟩ := ItP_get hs pk
  simp only [execOp, he.ev hx]
  refine run_v ?_
  rcases run_next_at (P := P) w ty r m c c sn es.toArray c (S.get (.there .here)) (S.get .here) (by simpa using hB.2) (Nat.le_refl _) with ⟨_, h⟩ | ⟨e, he', _⟩
  · exact h
  · exfalso
    have : e ∈ es.filter (fun e => !sn.contains e.born) := by simpa [leftOf] using he'
    simp only [List.map_nil, List.map_eq_nil_iff] at h3
    rw [h3] at this; cases this

theorem filter_push {es : List MapEntry} {sn : Array Nat} {e : MapEntry} {j : Nat} (hn : (es.map (·.born)).Nodup) (hj : (es.filter (fun e => !sn.contains e.born))[j]? = some e) :
    es.filter (fun x => !(sn.push e.born).contains x.born) = (es.filter (fun e => !sn.contains e.born)).eraseIdx j := by
  have h1 : es.filter (fun x => !(sn.push e.born).contains x.born) = (es.filter (fun e => !sn.contains e.born)).filter (fun x => decide (x.born ≠ e.born)) := by
    rw [List.filter_filter]
    congr 1
    funext x
    by_cases hx : x.born = e.born <;> simp [hx]
  rw [h1]
  have hnf : ((es.filter (fun e => !sn.contains e.born)).map (·.born)).Nodup := List.Nodup.sublist ((List.filter_sublist).map _) hn
  revert hj hnf
  generalize es.filter (fun e => !sn.contains e.born) = l
  clear h1 hn
  intro hj hnf
  induction l generalizing j with
  | nil => simp at hj
  | cons y l ih =>
    rw [List.map_cons, List.nodup_cons] at hnf
    cases j with
    | zero =>
      simp at hj; subst hj
      simp only [List.filter_cons, ne_eq, not_true_eq_false, decide_false, Bool.false_eq_true, if_false, List.eraseIdx_cons_zero]
      refine List.filter_eq_self.2 fun x hx => ?_
      simp only [decide_eq_true_eq]
      intro e2
      exact hnf.1 (e2 ▸ List.mem_map_of_mem (f := fun x : MapEntry => x.born) hx)
    | succ j =>
      have hj' : l[j]? = some e := by simpa using hj
      have hne : y.born ≠ e.born := fun e2 => hnf.1 (e2 ▸ List.mem_map_of_mem (f := fun x : MapEntry => x.born) (List.mem_of_getElem? hj'))
      simp only [List.filter_cons, hne, ne_eq, not_false_eq_true, decide_true, if_true, List.eraseIdx_cons_succ]
      congr 1
      exact ih hj' hnf.2

omit [DecidableEq κ] in
theorem Op_next_more {K : KTy κ} {m r : Nat} {kv : List (κ × Value)} {todo : List κ} {cur : Option (κ × Value)} {R : List HP} {x : Operand} (hx : ev E x = some (.pointer (some ⟨r, 0, none⟩))) (hne : todo ≠ []) (pk : Pick H (ItP K m r kv todo cur) R) :
    OpP P s n E H (.next x false) ty fun v H' => ∃ (j : Nat) (k : κ) (u : Value), todo[j]? = some k ∧ (k, u) ∈ kv ∧ v = .tuple #[.bool true, K.enc k, u] ∧ H' = ItP K m r kv (todo.eraseIdx j) (some (k, u)) :: R := by
  intro a w he hs d pos af g next Q hn
  obtain ⟨es, c, sn, h1, hB, h3, _, S⟩ := ItP_get hs pk
  rcases run_next_at (P := P) w ty r m c c sn es.toArray c (S.get (.there .here)) (S.get .here) (by simpa using hB.2) (Nat.le_refl _) with ⟨h, _⟩ | ⟨e, hel, w1, hw1, hrun⟩
  · exfalso
    have : (es.filter (fun e => !sn.contains e.born)).length = 0 := by simpa [leftOf] using h
    have h4 := congrArg List.length h3
    simp only [List.length_map, this] at h4
    exact hne (List.eq_nil_of_length_eq_zero h4.symm)
  · have hel' : e ∈ es.filter (fun e => !sn.contains e.born) := by simpa [leftOf] using hel
    obtain ⟨j, hlt, hj⟩ := List.getElem_of_mem hel'
    have hj2 : (es.filter (fun e => !sn.contains e.born))[j]? = some e := by rw [← hj]; exact List.getElem?_eq_getElem hlt
    have hke : (todo.map K.enc)[j]? = some e.key := by rw [← h3, List.getElem?_map, hj2]; rfl
    rw [List.getElem?_map, Option.map_eq_some_iff] at hke
    obtain ⟨k, hk, hkk⟩ := hke
    have hmem : e ∈ es := (List.mem_filter.1 hel').1
    have hkv : ∃ q ∈ kv, entOf K q = (e.key, e.val) := by
      have : (e.key, e.val) ∈ es.map (fun e => (e.key, e.val)) := List.mem_map_of_mem hmem
      rw [h1] at this
      obtain ⟨q, hq, e2⟩ := List.mem_map.1 this
      exact ⟨q, hq, e2⟩
    obtain ⟨⟨k2, u⟩, hq, e2⟩ := hkv
    simp only [entOf, Prod.mk.injEq] at e2
    have hkk2 : k2 = k := K.inj _ _ (by rw [e2.1, hkk])
    subst hkk2
    have hr : (execOp a.eval ⟨d, .next x false, ty, pos, af, g⟩).run P w = .ok (.value (.tuple #[.bool true, K.enc k2, u])) { w1 with heap := w1.heap.setIfInBounds r (.mapIter (some m) c (sn.push e.born) c) } := by
      simp only [execOp, he.ev hx]
      refine run_v ?_
      rw [e2.1, e2.2]
      exact hrun
    unfold Oper.wp
    rw [hr]
    have S1 : Sat s w1 (stars (pt m (.map es.toArray c) :: pt r (.mapIter (some m) c sn c) :: R)) := by
      rcases hw1 with rfl | rfl
      · exact S
      · exact S.drew (Nat.le_succ _)
    have hg := S1.get (.there .here : Pick _ (pt r (.mapIter (some m) c sn c)) _)
    have hlt2 : r < w1.heap.size := (Array.getElem?_eq_some_iff.1 hg).1
    have S2 : Sat s { w1 with heap := w1.heap.setIfInBounds r (.mapIter (some m) c (sn.push e.born) c) } (stars (pt m (.map es.toArray c) :: pt r (.mapIter (some m) c (sn.push e.born) c) :: R)) :=
      S1.repl (.there .here) rfl ⟨rfl, Nat.le_refl _⟩ rfl (by simp [hlt2]) fun k hk _ => by simp [Ne.symm hk]
    refine hn _ _ _ ⟨j, k2, u, hk, hq, rfl, rfl⟩ (ItP_put rfl h1 hB ?_ ?_ S2)
    · rw [filter_push hB.1 hj2]
      simp only [List.eraseIdx_eq_take_drop_succ, List.map_append, List.map_take, List.map_drop, h3]
    · intro q hq2
      simp only [Option.some.injEq] at hq2; subst hq2
      exact ⟨e, hmem, sn, rfl, hkk.symm, e2.2.symm⟩

omit [DecidableEq κ] in
theorem Op_entry {K : KTy κ} {m r : Nat} {kv : List (κ × Value)} {todo : List κ} {k : κ} {u : Value} {R : List HP} {x : Operand} (hx : ev E x = some (.pointer (some ⟨r, 0, none⟩))) (pk : Pick H (ItP K m r kv todo (some (k, u))) R) :
    OpQ P s n E H (.entry x) ty (.tuple #[K.enc k, u]) := by
  intro a w he hs d pos af g
  obtain ⟨es, c, sn, h1, hB, h3, h4, S⟩ := ItP_get hs pk
  obtain ⟨e, hmem, s', rfl, e1, e2⟩ := h4 _ rfl
  simp only [execOp, he.ev hx]
  refine run_v ?_
  have := run_entry_at (P := P) w r m c s' es.toArray c e (S.get (.there .here)) (S.get .here) (by simpa using hmem) (by simpa using hB.1)
  rw [e1, e2] at this
  exact this

theorem filter_erase {β : Type} {p : β → Bool} : ∀ {l : List β} {i : Nat} {x : β}, l[i]? = some x → p x = false → (l.eraseIdx i).filter p = l.filter p
  | y :: l, 0, x, h, hp => by simp at h; subst h; simp [hp]
  | y :: l, i + 1, x, h, hp => by
    have h' : l[i]? = some x := by simpa using h
    simp only [List.eraseIdx_cons_succ, List.filter_cons, filter_erase h' hp]

/-- delete, in a round, of a key that isn't to come. -/
theorem Op_deleteI {K : KTy κ} {m r : Nat} {kv : List (κ × Value)} {todo : List κ} {cur : Option (κ × Value)} {R : List HP} {t t2 e : TypeId} {x i : Operand} {k : κ} (hx : ev E x = some (.map (some m))) (hi : ev E i = some (K.enc k))
    (ht : P.underlying t = some (.map K.kt e)) (hK : KOk P K) (hk : k ∉ todo) (pk : Pick H (ItP K m r kv todo cur) R) : OpD P s n E H (.call { callee := .builtin .delete, args := #[x, i], argTypes := #[t, t2] }) ty (.tuple #[]) (ItP K m r (mdel k kv) todo none :: R) := by
  intro a w he hs d pos af g
  obtain ⟨es, c, sn, h1, hB, h3, _, S⟩ := ItP_get hs pk
  have S' : Sat s w (stars (Mp K m kv :: pt r (.mapIter (some m) c sn c) :: R)) := Mp_put rfl h1 hB S
  have hgm := S.get .here
  have hg := run_getMap (P := P) hgm
  have hf := hK.fnd k (kv.map (·.1)) es (keys_of h1) w
  have hl : es.length = kv.length := by have := congrArg List.length h1; simpa using this
  have key : ∀ o : Array MapEntry, (match ((idx k (kv.map (·.1))).bind fun i => (es[i]?).map fun e => (i, e.val)) with | some (i, _) => es.toArray.eraseIdxIfInBounds i | none => es.toArray) = o →
      (Builtin.delete_ #[t, t2] ty #[.map (some m), K.enc k]).run P w = .ok (.tuple #[]) { w with heap := w.heap.setIfInBounds m (.map o c) } := by
    intro o ho
    unfold Builtin.delete_
    simp only [List.getElem?_toArray, List.getElem?_cons_zero, List.getElem?_cons_succ, Sem.run_bind, run_underlying ht, Result.andThen_ok, hg, hK.chk, hf]
    cases hh : ((idx k (kv.map (·.1))).bind fun i => (es[i]?).map fun e => (i, e.val)) with
    | none => rw [hh] at ho; simp only at ho; subst ho; simp [run_setMap (P := P) hgm]
    | some q => rw [hh] at ho; simp only at ho; subst ho; simp [run_setMap (P := P) hgm]
  have fin : ∀ es' : List MapEntry, es'.map (fun e => (e.key, e.val)) = (mdel k kv).map (entOf K) → Born es' c → (es'.filter (fun e => !sn.contains e.born)).map (·.key) = todo.map K.enc →
      (match ((idx k (kv.map (·.1))).bind fun i => (es[i]?).map fun e => (i, e.val)) with | some (i, _) => es.toArray.eraseIdxIfInBounds i | none => es.toArray) = es'.toArray →
      ∃ w' r', (execOp a.eval ⟨d, .call { callee := .builtin .delete, args := #[x, i], argTypes := #[t, t2] }, ty, pos, af, g⟩).run P w = .ok r' w' ∧ (r' = .value (.tuple #[]) ∨ r' = .skip ∧ Value.tuple #[] = undef) ∧ Sat s w' (stars (ItP K m r (mdel k kv) todo none :: R)) := fun es' h2 hb h5 hk =>
    ⟨_, _, run_call_builtin (xs := [x, i]) (vs := [.map (some m), K.enc k]) (by simp [he.ev hx, he.ev hi]) (run_v (key _ hk)), .inl rfl, ItP_put rfl h2 hb h5 (fun q h => by cases h) (S.setMap .here)⟩
  rw [mdel_idx] at fin ⊢
  cases hix : idx k (kv.map (·.1)) with
  | none =>
    rw [hix] at fin
    exact fin es h1 hB h3 rfl
  | some j =>
    rw [hix] at fin
    have hlt := idx_lt hix
    simp at hlt
    have hat := idx_at hix
    have he' : es[j]? = some es[j] := List.getElem?_eq_getElem (by omega)
    have hke : es[j].key = K.enc k := by
      have := congrArg (·[j]?) (keys_of h1)
      simp only [List.getElem?_map, he', hat, Option.map_some] at this
      simpa using this
    refine fin (es.eraseIdx j) ?_ (hB.erase j) ?_ ?_
    · simp only [List.eraseIdx_eq_take_drop_succ, List.map_append, List.map_take, List.map_drop, h1]
    · have hsn : (!sn.contains es[j].born) = false := by
        cases hc : (!sn.contains es[j].born) with
        | false => rfl
        | true =>
          exfalso
          have : es[j] ∈ es.filter (fun e => !sn.contains e.born) := List.mem_filter.2 ⟨List.mem_of_getElem? he', hc⟩
          have h6 : es[j].key ∈ todo.map K.enc := by rw [← h3]; exact List.mem_map_of_mem this
          obtain ⟨k', hk', e2⟩ := List.mem_map.1 h6
          exact hk (K.inj _ _ (e2.trans hke) ▸ hk')
      rw [filter_erase he' hsn]
      exact h3
    · simp [he']

theorem filter_modify (es : List MapEntry) (sn : Array Nat) (i : Nat) (kk v : Value) (hi : ∀ e, es[i]? = some e → e.key = kk) :
    ((es.modify i fun e => { e with key := kk, val := v }).filter (fun e => !sn.contains e.born)).map (·.key) = (es.filter (fun e => !sn.contains e.born)).map (·.key) := by
  induction es generalizing i with
  | nil => cases i <;> rfl
  | cons y l ih =>
    cases i with
    | zero =>
      have := hi y rfl
      subst this
      simp only [List.modify_zero_cons, List.filter_cons]
      split <;> simp
    | succ i =>
      simp only [List.modify_succ_cons, List.filter_cons]
      have h2 := ih i fun e he => hi e (by simpa using he)
      split
      · simp only [List.map_cons, h2]
      · exact h2
/-- A key's value changed in a round. -/
theorem Op_mapUpdateI {K : KTy κ} {m r : Nat} {kv : List (κ × Value)} {todo : List κ} {cur : Option (κ × Value)} {R : List HP} {t e : TypeId} {x i y : Operand} {k : κ} {u : Value} (hx : ev E x = some (.map (some m))) (hi : ev E i = some (K.enc k)) (hy : ev E y = some u)
    (ht : P.underlying t = some (.map K.kt e)) (hK : KOk P K) (hk : k ∈ kv.map (·.1)) (pk : Pick H (ItP K m r kv todo cur) R) : OpD P s n E H (.mapUpdate t x i y) ty undef (ItP K m r (mput k u kv) todo none :: R) := by
  intro a w he hs d pos af g
  obtain ⟨es, c, sn, h1, hB, h3, _, S⟩ := ItP_get hs pk
  have hgm := S.get .here
  have hg := run_getMap (P := P) hgm
  have hf := hK.fnd k (kv.map (·.1)) es (keys_of h1) w
  have hl : es.length = kv.length := by have := congrArg List.length h1; simpa using this
  have hsome : ∃ j, idx k (kv.map (·.1)) = some j := by
    clear hf
    generalize kv.map (·.1) = l at hk
    induction l with
    | nil => cases hk
    | cons z l ih =>
      by_cases hz : k = z
      · exact ⟨0, by simp [idx, hz]⟩
      · obtain ⟨j, hj⟩ := ih ((List.mem_cons.1 hk).resolve_left hz)
        exact ⟨j + 1, by simp [idx, hz, hj]⟩
  obtain ⟨j, hix⟩ := hsome
  rw [mput_idx, hix]
  simp only [execOp, he.ev hx, he.ev hi, he.ev hy]
  have hlt := idx_lt hix
  simp at hlt
  have hat := idx_at hix
  have he' : es[j]? = some es[j] := List.getElem?_eq_getElem (by omega)
  have hke : es[j].key = K.enc k := by
    have := congrArg (·[j]?) (keys_of h1)
    simp only [List.getElem?_map, he', hat, Option.map_some] at this
    simpa using this
  rw [hix] at hf
  simp only [Option.bind_some, he', Option.map_some] at hf
  have hst : ∀ w, (Instr.keyThatStays (((es.toArray[j]?).map (·.key)).getD (K.enc k)) (K.enc k)).run P w = .ok (K.enc k) w := fun w => by
    have : ((es.toArray[j]?).map (·.key)).getD (K.enc k) = K.enc k := by simp [he', hke]
    rw [this]; unfold Instr.keyThatStays; rw [K.bits]; rfl
  refine ⟨_, .skip, run_u (w' := { w with heap := w.heap.setIfInBounds m (.map (es.toArray.modify j fun e => { e with key := K.enc k, val := u }) c) }) ?_, .inr ⟨rfl, trivial⟩, ItP_put (es := es.modify j fun e => { e with key := K.enc k, val := u }) (by simp) ?_ (hB.modify j _ _) ?_ (fun q h => by cases h) (S.setMap .here)⟩
  · unfold Instr.mapUpdate
    simp only [Sem.run_bind, run_underlying ht, Result.andThen_ok, hg, hK.chk, hf, hst]
    exact run_setMap hgm
  · apply List.ext_getElem?
    intro j2
    simp only [List.getElem?_map, List.getElem?_modify, List.getElem?_set]
    have hj := congrArg (·[j2]?) h1
    simp only [List.getElem?_map] at hj
    by_cases hij : j = j2
    · subst hij; simp [he', hlt, entOf]
    · simp [hij, hj]
  · rw [filter_modify es sn j _ _ (fun e2 h => by rw [he'] at h; cases h; exact hke)]
    exact h3
end

section
variable {P : Program} {s : World} {n : Nat} {E : List (Nat × Value)} {H : List HP} {ty : TypeId} {κ : Type}
theorem Op_clear {K : KTy κ} {m : Nat} {kv : List (κ × Value)} {R : List HP} {t e : TypeId} {x : Operand} (hx : ev E x = some (.map (some m))) (ht : P.underlying t = some (.map K.kt e)) (pk : Pick H (Mp K m kv) R) :
    OpD P s n E H (.call { callee := .builtin .clear, args := #[x], argTypes := #[t] }) ty (.tuple #[]) (Mp K m [] :: R) := by
  intro a w he hs d pos af g
  obtain ⟨es, c, h1, S, hB⟩ := Mp_get hs pk
  have hgm := S.get .here
  have hg := run_getMap (P := P) hgm
  refine ⟨{ w with heap := w.heap.setIfInBounds m (.map #[] c) }, _, run_call_builtin (xs := [x]) (vs := [.map (some m)]) (by simp [he.ev hx]) (run_v (v := .tuple #[]) ?_), .inl rfl, Mp_put (es' := []) rfl rfl ⟨by simp, by simp⟩ (S.setMap .here)⟩
  unfold Builtin.clear_
  simp [Sem.run_bind, run_underlying ht, hg, run_setMap (P := P) hgm]
end

section
variable {P : Program} {s : World} {n : Nat} {E : List (Nat × Value)} {H : List HP} {ty : TypeId}
/-- sync/atomic.StoreInt64. -/
theorem Op_atomic_store {f : FuncId} {fn : Func} {x y : Operand} {ats : Array TypeId} {b o : Nat} {cs cs' : Array Value} {et : TypeId} {fr : Nat × Nat} {a dl : Int} {H' : List HP} (hf : P.funcs[f]? = some fn) (hn : (fn.name == "runtime.NumGoroutine") = false) (hb : fn.body.isNone = true)
    (he1 : (Extern.findNext fn).isNone = true) (he2 : Extern.find fn = some Extern.Atomic.storeT) (hx : ev E x = some (.pointer (some ⟨b, o, none⟩))) (hy : ev E y = some (.int .i64 dl))
    (pk : Repl H (pt b (.cells cs et fr)) (pt b (.cells cs' et fr)) H') (hv : Nth cs.toList o (.int .i64 a)) (hfr : free fr o (o + 1)) (hc : putCells cs o [.int .i64 dl] = cs') :
    OpP P s n E H (.call { callee := .value (.func f), args := #[x, y], argTypes := ats }) ty fun v H'' => v = .tuple #[] ∧ H'' = H' := by
  refine Op_extern (xs := [x, y]) (vs := [.pointer (some ⟨b, o, none⟩), .int .i64 dl]) hf hn hb he1 he2 (by simp [hx, hy]) fun w hs => ?_
  obtain ⟨r, p1, _⟩ := pk.picks
  have hg := hs.get p1
  have hcell : w.cell? ⟨b, o, none⟩ = some (.int .i64 a) := by
    have := hv.get
    simp [World.cell?, hg]
    simpa using this
  have hlt : o < cs.size := by have := (List.getElem?_eq_some_iff.1 hv.get).1; simpa using this
  have hfz : w.frozen? ⟨b, o, none⟩ = false := by
    have := hfr o (Nat.le_refl _) (by omega)
    simp [World.frozen?, hg]
    omega
  have hput : putCells cs o [.int .i64 dl] = cs.setIfInBounds o (.int .i64 dl) := by
    apply Array.ext'
    rw [Array.toList_setIfInBounds]
    simp only [putCells, List.length_singleton]
    rw [List.set_eq_take_append_cons_drop, if_pos (by simpa using hlt)]
    simp
  refine ⟨_, H', w.setRow b cs', ⟨rfl, rfl⟩, ?_, hs.setRow pk⟩
  subst hc
  rw [hput, ← setCell_eq_setRow w b o cs et fr _ hg]
  show Sem.run P (do
    store (← asAddr (.pointer (some ⟨b, o, none⟩))) (.int .i64 dl) .atomic
    pure (Value.tuple #[])) w = _
  simp [asAddr, run_store P w ⟨b, o, none⟩ (.int .i64 dl) .atomic rfl, hcell, hfz, Result.andThen]
end

/-! lists of keys and what they have -/
section assoc
variable {κ β : Type} [DecidableEq κ]
def aget (k : κ) : List (κ × β) → Option β
  | [] => none
  | (x, v) :: l => if k = x then some v else aget k l
def adel (k : κ) : List (κ × β) → List (κ × β)
  | [] => []
  | (x, v) :: l => if k = x then l else (x, v) :: adel k l
def aput (k : κ) (u : β) : List (κ × β) → List (κ × β)
  | [] => [(k, u)]
  | (x, v) :: l => if k = x then (k, u) :: l else (x, v) :: aput k u l
/-- What a map has, out of a list. -/
def encL (f : β → Value) (L : List (κ × β)) : List (κ × Value) := L.map fun x => (x.1, f x.2)
omit [DecidableEq κ] in
theorem encL_keys (f : β → Value) (L : List (κ × β)) : (encL f L).map (·.1) = L.map (·.1) := by simp [encL]
omit [DecidableEq κ] in
theorem encL_len (f : β → Value) (L : List (κ × β)) : (encL f L).length = L.length := by simp [encL]
theorem mget_enc (f : β → Value) (k : κ) : ∀ L : List (κ × β), mget k (encL f L) = (aget k L).map f
  | [] => rfl
  | (x, v) :: l => by
    simp only [encL, List.map_cons, mget, aget]
    split
    · rfl
    · exact mget_enc f k l
theorem mdel_enc (f : β → Value) (k : κ) : ∀ L : List (κ × β), mdel k (encL f L) = encL f (adel k L)
  | [] => rfl
  | (x, v) :: l => by
    have ih := mdel_enc f k l
    simp only [encL, List.map_cons, mdel, adel] at ih ⊢
    split
    · rfl
    · rw [ih]; rfl
theorem mput_enc (f : β → Value) (k : κ) (u : β) : ∀ L : List (κ × β), mput k (f u) (encL f L) = encL f (aput k u L)
  | [] => rfl
  | (x, v) :: l => by
    have ih := mput_enc f k u l
    simp only [encL, List.map_cons, mput, aput] at ih ⊢
    split
    · rfl
    · rw [ih]; rfl
theorem aget_none {k : κ} : ∀ {L : List (κ × β)}, aget k L = none → k ∉ L.map (·.1)
  | [], _ => by simp
  | (x, v) :: l, h => by
    simp only [aget] at h
    split at h
    · cases h
    · rename_i hk
      simp only [List.map_cons, List.mem_cons, not_or]
      exact ⟨hk, aget_none h⟩
theorem aput_new {k : κ} {u : β} : ∀ {L : List (κ × β)}, aget k L = none → aput k u L = L ++ [(k, u)]
  | [], _ => rfl
  | (x, v) :: l, h => by
    simp only [aget] at h
    split at h
    · cases h
    · rename_i hk
      simp only [aput, hk, if_false, List.cons_append, aput_new h]
theorem adel_none {k : κ} : ∀ {L : List (κ × β)}, aget k L = none → adel k L = L
  | [], _ => rfl
  | (x, v) :: l, h => by
    simp only [aget] at h
    split at h
    · cases h
    · rename_i hk
      simp only [adel, hk, if_false, adel_none h]
theorem adel_keys (k : κ) (L : List (κ × β)) : List.Sublist ((adel k L).map (·.1)) (L.map (·.1)) := by
  induction L with
  | nil => exact .slnil
  | cons x l ih =>
    simp only [adel]
    split
    · exact List.sublist_cons_self _ _
    · exact ih.cons_cons _
theorem aget_mem {k : κ} {v : β} : ∀ {L : List (κ × β)}, (L.map (·.1)).Nodup → (k, v) ∈ L → aget k L = some v
  | (x, u) :: l, hn, h => by
    rw [List.map_cons, List.nodup_cons] at hn
    rcases List.mem_cons.1 h with e | e
    · simp only [Prod.mk.injEq] at e
      simp [aget, e.1, e.2]
    · have hk : k ≠ x := fun e2 => by
        subst e2
        exact hn.1 (List.mem_map.2 ⟨(k, v), e, rfl⟩)
      simp only [aget, hk, if_false]
      exact aget_mem hn.2 e
omit [DecidableEq κ] in
/-- A round that changes or drops what key k has: the list behind it. -/
theorem fm_same {k : κ} {p p' : κ × β → Option (κ × β)} (hp : ∀ x, x.1 ≠ k → p x = p' x) : ∀ {l : List (κ × β)}, k ∉ l.map (·.1) → l.filterMap p = l.filterMap p'
  | [], _ => rfl
  | x :: l, h => by
    simp only [List.map_cons, List.mem_cons, not_or] at h
    rw [List.filterMap_cons, List.filterMap_cons, hp x (Ne.symm h.1), fm_same hp h.2]
theorem fm_del {k : κ} {o : β} {p p' : κ × β → Option (κ × β)} (hp : ∀ x, x.1 ≠ k → p x = p' x) (hk : ∀ x y, p x = some y → y.1 = x.1) (h1 : p (k, o) = some (k, o)) (h2 : p' (k, o) = none) :
    ∀ {L : List (κ × β)}, (L.map (·.1)).Nodup → (k, o) ∈ L → adel k (L.filterMap p) = L.filterMap p'
  | (x, v) :: l, hn, hm => by
    rw [List.map_cons, List.nodup_cons] at hn
    by_cases hx : x = k
    · subst hx
      have hv : v = o := by
        rcases List.mem_cons.1 hm with e | e
        · simp only [Prod.mk.injEq, true_and] at e; exact e.symm
        · exact absurd (List.mem_map.2 ⟨_, e, rfl⟩) hn.1
      subst hv
      rw [List.filterMap_cons, h1, List.filterMap_cons, h2]
      simp only [adel, if_true]
      exact fm_same hp hn.1
    · have hm' : (k, o) ∈ l := by
        rcases List.mem_cons.1 hm with e | e
        · simp only [Prod.mk.injEq] at e; exact absurd e.1.symm hx
        · exact e
      have ih := fm_del hp hk h1 h2 hn.2 hm'
      rw [List.filterMap_cons, List.filterMap_cons, ← hp (x, v) hx]
      cases hpx : p (x, v) with
      | none => exact ih
      | some y =>
        have hy := hk _ _ hpx
        obtain ⟨y1, y2⟩ := y
        simp only at hy
        subst hy
        simp only [adel, Ne.symm hx, if_false, ih]
theorem fm_put {k : κ} {o o' : β} {p p' : κ × β → Option (κ × β)} (hp : ∀ x, x.1 ≠ k → p x = p' x) (hk : ∀ x y, p x = some y → y.1 = x.1) (h1 : p (k, o) = some (k, o)) (h2 : p' (k, o) = some (k, o')) :
    ∀ {L : List (κ × β)}, (L.map (·.1)).Nodup → (k, o) ∈ L → aput k o' (L.filterMap p) = L.filterMap p'
  | (x, v) :: l, hn, hm => by
    rw [List.map_cons, List.nodup_cons] at hn
    by_cases hx : x = k
    · subst hx
      have hv : v = o := by
        rcases List.mem_cons.1 hm with e | e
        · simp only [Prod.mk.injEq, true_and] at e; exact e.symm
        · exact absurd (List.mem_map.2 ⟨_, e, rfl⟩) hn.1
      subst hv
      rw [List.filterMap_cons, h1, List.filterMap_cons, h2]
      simp only [aput, if_true]
      rw [fm_same hp hn.1]
    · have hm' : (k, o) ∈ l := by
        rcases List.mem_cons.1 hm with e | e
        · simp only [Prod.mk.injEq] at e; exact absurd e.1.symm hx
        · exact e
      have ih := fm_put hp hk h1 h2 hn.2 hm'
      rw [List.filterMap_cons, List.filterMap_cons, ← hp (x, v) hx]
      cases hpx : p (x, v) with
      | none => exact ih
      | some y =>
        have hy := hk _ _ hpx
        obtain ⟨y1, y2⟩ := y
        simp only at hy
        subst hy
        simp only [aput, Ne.symm hx, if_false, ih]
theorem fm_keep {k : κ} {o : β} {p p' : κ × β → Option (κ × β)} (hp : ∀ x, x.1 ≠ k → p x = p' x) (h1 : p (k, o) = p' (k, o)) : ∀ {L : List (κ × β)}, (L.map (·.1)).Nodup → (k, o) ∈ L → L.filterMap p = L.filterMap p'
  | (x, v) :: l, hn, hm => by
    rw [List.map_cons, List.nodup_cons] at hn
    rw [List.filterMap_cons, List.filterMap_cons]
    by_cases hx : x = k
    · subst hx
      have hv : v = o := by
        rcases List.mem_cons.1 hm with e | e
        · simp only [Prod.mk.injEq, true_and] at e; exact e.symm
        · exact absurd (List.mem_map.2 ⟨_, e, rfl⟩) hn.1
      subst hv
      rw [h1, fm_same hp hn.1]
    · have hm' : (k, o) ∈ l := by
        rcases List.mem_cons.1 hm with e | e
        · simp only [Prod.mk.injEq] at e; exact absurd e.1.symm hx
        · exact e
      rw [hp (x, v) hx, fm_keep hp h1 hn.2 hm']
end assoc
section pending
variable {κ β : Type} [DecidableEq κ]
/-- A list in the middle of a round: what is to come is as it was. -/
def pendF (f : κ × β → Option (κ × β)) (todo : List κ) (x : κ × β) : Option (κ × β) := if x.1 ∈ todo then some x else f x
variable {f : κ × β → Option (κ × β)} {todo : List κ} {j : Nat} {k : κ} {L : List (κ × β)} {o o' : β}
theorem pendF_key (hf : ∀ x y, f x = some y → y.1 = x.1) : ∀ x y : κ × β, pendF f todo x = some y → y.1 = x.1 := fun x y h => by
  unfold pendF at h; split at h
  · simp at h; rw [h]
  · exact hf _ _ h
theorem pendF_all (f : κ × β → Option (κ × β)) (L : List (κ × β)) : L.filterMap (pendF f (L.map (·.1))) = L := by
  have : ∀ l : List (κ × β), (∀ x ∈ l, x.1 ∈ L.map (·.1)) → l.filterMap (pendF f (L.map (·.1))) = l := by
    intro l
    induction l with
    | nil => intro _; rfl
    | cons x l ih =>
      intro h
      have hx : pendF f (L.map (·.1)) x = some x := by unfold pendF; rw [if_pos (h x (by simp))]
      rw [List.filterMap_cons, hx, ih fun y hy => h y (by simp [hy])]
  exact this L fun x hx => List.mem_map_of_mem hx
theorem pendF_none (f : κ × β → Option (κ × β)) (L : List (κ × β)) : L.filterMap (pendF f []) = L.filterMap f := by
  congr 1
omit [DecidableEq κ] in
theorem eraseK_mem {x : κ} (hn : todo.Nodup) (hj : todo[j]? = some k) (hx : x ≠ k) : x ∈ todo.eraseIdx j ↔ x ∈ todo := by
  induction todo generalizing j with
  | nil => simp
  | cons y l ih =>
    cases j with
    | zero => simp at hj; subst hj; simp [hx]
    | succ j => simp only [List.eraseIdx_cons_succ, List.mem_cons]; rw [ih (List.nodup_cons.1 hn).2 (by simpa using hj)]
omit [DecidableEq κ] in
theorem eraseK_not (hn : todo.Nodup) (hj : todo[j]? = some k) : k ∉ todo.eraseIdx j := by
  induction todo generalizing j with
  | nil => simp
  | cons y l ih =>
    rw [List.nodup_cons] at hn
    cases j with
    | zero => simp at hj; subst hj; simpa using hn.1
    | succ j =>
      have hj' : l[j]? = some k := by simpa using hj
      simp only [List.eraseIdx_cons_succ, List.mem_cons, not_or]
      exact ⟨fun e => hn.1 (e ▸ List.mem_of_getElem? hj'), ih hn.2 hj'⟩
theorem pendF_else (hn : todo.Nodup) (hj : todo[j]? = some k) : ∀ x : κ × β, x.1 ≠ k → pendF f todo x = pendF f (todo.eraseIdx j) x := fun x hx => by
  unfold pendF
  by_cases h : x.1 ∈ todo
  · rw [if_pos h, if_pos ((eraseK_mem hn hj hx).2 h)]
  · rw [if_neg h, if_neg (fun h2 => h ((eraseK_mem hn hj hx).1 h2))]
theorem pendF_at (hj : todo[j]? = some k) : pendF f todo (k, o) = some (k, o) := by unfold pendF; rw [if_pos (List.mem_of_getElem? hj)]
theorem pendF_past (hn : todo.Nodup) (hj : todo[j]? = some k) : pendF f (todo.eraseIdx j) (k, o) = f (k, o) := by unfold pendF; rw [if_neg (eraseK_not hn hj)]
theorem pendF_del (hf : ∀ x y, f x = some y → y.1 = x.1) (hN : (L.map (·.1)).Nodup) (hn : todo.Nodup) (hj : todo[j]? = some k) (ho : (k, o) ∈ L) (h : f (k, o) = none) : L.filterMap (pendF f (todo.eraseIdx j)) = adel k (L.filterMap (pendF f todo)) :=
  (fm_del (pendF_else hn hj) (pendF_key hf) (pendF_at hj) (by rw [pendF_past hn hj, h]) hN ho).symm
theorem pendF_put (hf : ∀ x y, f x = some y → y.1 = x.1) (hN : (L.map (·.1)).Nodup) (hn : todo.Nodup) (hj : todo[j]? = some k) (ho : (k, o) ∈ L) (h : f (k, o) = some (k, o')) : L.filterMap (pendF f (todo.eraseIdx j)) = aput k o' (L.filterMap (pendF f todo)) :=
  (fm_put (pendF_else hn hj) (pendF_key hf) (pendF_at hj) (by rw [pendF_past hn hj, h]) hN ho).symm
theorem pendF_keep (hN : (L.map (·.1)).Nodup) (hn : todo.Nodup) (hj : todo[j]? = some k) (ho : (k, o) ∈ L) (h : f (k, o) = some (k, o)) : L.filterMap (pendF f (todo.eraseIdx j)) = L.filterMap (pendF f todo) :=
  (fm_keep (pendF_else hn hj) (by rw [pendF_past hn hj, h, pendF_at hj]) hN ho).symm
theorem pendF_mem (hf : ∀ x y, f x = some y → y.1 = x.1) (hk : k ∈ todo) (h : (k, o) ∈ L.filterMap (pendF f todo)) : (k, o) ∈ L := by
  obtain ⟨x, hx, e⟩ := List.mem_filterMap.1 h
  have := pendF_key hf _ _ e
  simp only at this
  unfold pendF at e
  rw [if_pos (this ▸ hk)] at e
  simp at e; rw [← e]; exact hx
omit [DecidableEq κ] in
theorem encL_mem {enc : β → Value} {u : Value} (h : (k, u) ∈ encL enc L) : ∃ o : β, u = enc o ∧ (k, o) ∈ L := by
  obtain ⟨⟨k1, o⟩, hx, e⟩ := List.mem_map.1 h
  simp only [Prod.mk.injEq] at e
  exact ⟨o, e.2.symm, e.1 ▸ hx⟩
end pending
end Go.Proofs.Ytbaecpddhdeapaa.SL
