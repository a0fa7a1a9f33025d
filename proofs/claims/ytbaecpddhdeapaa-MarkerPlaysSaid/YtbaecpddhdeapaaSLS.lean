/- Calls of function values; the library's sort on a row. -/
import Derived.Test.YtbaecpddhdeapaaSLR
import Derived.Shelf.SlSortCmp.NoneTotal
namespace Go.Proofs.Ytbaecpddhdeapaa.SL
open Go Go.RowKit
section
variable {P : Program} {s : World} {n : Nat} {E : List (Nat × Value)} {H : List HP} {ty : TypeId}
theorem enters_fn {f : FuncId} {fn : Func} (hf : P.funcs[f]? = some fn) (hb : fn.body.isSome = true) (hn : (fn.name == "runtime.NumGoroutine") = false) (args : Array Value) (w : World) : (callFunc f args).run P w = .ok (.enter f args) w := by
  have hbn : fn.body.isNone = false := by cases h : fn.body <;> simp_all
  have hp : program.run P w = .ok P w := rfl
  unfold callFunc
  rw [Sem.run_bind, hp]
  simp only [Result.andThen_ok, hf, hn, hbn, Bool.false_eq_true, if_false]
  rfl
theorem evs_eval {a : Act} (he : Env a n E) : ∀ {xs : List Operand} {vs : List Value}, xs.map (ev E) = vs.map some → xs.map a.eval = vs
  | [], [], _ => rfl
  | [], _ :: _, h => by simp at h
  | _ :: _, [], h => by simp at h
  | x :: xs, v :: vs, h => by
    simp only [List.map_cons, List.cons.injEq] at h
    simp [he.ev h.1, evs_eval he h.2]
/-- A call of a function value. -/
theorem Op_callv {f : FuncId} {fn : Func} {x : Operand} {cb : List Value} {xs : List Operand} {vs : List Value} {ats : Array TypeId} {pre R : List HP} {post : Value → List HP → Prop} (hv : ev E x = some (.func (.func f) #[] cb.toArray))
    (hf : P.funcs[f]? = some fn) (hb : fn.body.isSome = true) (hn : (fn.name == "runtime.NumGoroutine") = false) (sp : Spec P f (vs ++ cb).toArray pre post) (hx : xs.map (ev E) = vs.map some) (hi : Imp H (pre ++ R)) :
    OpP P s n E H (.call { callee := .value x, args := xs.toArray, argTypes := ats }) ty fun v H' => ∃ C, post v C ∧ H' = C ++ R := by
  intro a w he hs d pos af g next Q hnx
  have hargs : xs.map a.eval = vs := evs_eval he hx
  have hrun : (execOp a.eval ⟨d, .call { callee := .value x, args := xs.toArray, argTypes := ats }, ty, pos, af, g⟩).run P w = .ok (.enter f (vs ++ cb).toArray) w := by
    have h1 := he.ev hv
    have h2 := enters_fn hf hb hn (vs ++ cb).toArray w
    simp [execOp, resolve, h1, Deferred.ofValue, invoke, hargs, h2]
  unfold Oper.wp
  rw [hrun]
  refine (sp s w R (hi.sat hs)).mono ?_
  rintro e w' ⟨v, C, hp, rfl, hs'⟩
  exact hnx v _ w' ⟨C, hp, rfl⟩ hs'
theorem Op_makeFunc {f : FuncId} {xs : List Operand} {vs : List Value} (hx : xs.map (ev E) = vs.map some) : OpQ P s n E H (.makeFunc (.func f) #[] xs.toArray) ty (.func (.func f) #[] vs.toArray) := by
  intro a w he hs d pos af g
  have hargs : xs.map a.eval = vs := evs_eval he hx
  simp only [execOp]
  refine run_v ?_
  simp [Instr.makeFunc, hargs]

theorem lt_tri (a b : List UInt8) : a < b ∨ a = b ∨ b < a := by
  by_cases h1 : a < b
  · exact .inl h1
  · by_cases h2 : b < a
    · exact .inr (.inr h2)
    · exact .inr (.inl (List.le_antisymm (List.not_lt.1 h2) (List.not_lt.1 h1)))
theorem ltB_or {a b : List UInt8} : (!(Op.bytesLess a b || a == b)) = Op.bytesLess b a := by
  have e1 := bytesLess_eq a b
  have e2 := bytesLess_eq b a
  rw [e1, e2, Bool.eq_iff_iff]
  simp only [Bool.not_eq_true', Bool.or_eq_false_iff, decide_eq_false_iff_not, beq_eq_false_iff_ne, decide_eq_true_eq, ne_eq]
  constructor
  · rintro ⟨h1, h2⟩
    rcases lt_tri a b with h | h | h
    · exact absurd h h1
    · exact absurd h h2
    · exact h
  · intro h
    exact ⟨fun h1 => List.lt_asymm h h1, fun e => by subst e; exact List.lt_irrefl _ h⟩
theorem Op_str_gtr {x y : Operand} {t t' : TypeId} {a b : ByteArray} (hx : ev E x = some (.string a)) (hy : ev E y = some (.string b)) : OpQ P s n E H (.binOp .gtr t x y t') ty (.bool (Op.bytesLess b.data.toList a.data.toList)) :=
  bin_strs hx hy fun w => by
    have := ltB_or (a := a.data.toList) (b := b.data.toList)
    simp only [binOp, Op.stringOp, bytes_toList]
    rw [this]; rfl

/-! the world behind a call that only adds -/
theorem sat_grow {W w' : World} (hs : Sat W w' (stars [old W])) : ∃ q os', w' = Go.Sort.grow (W.drewN q) os' := by
  obtain ⟨e1, ⟨e2, e3⟩, e4, h, d, hh⟩ := hs
  have ho := sep_emp_out hh
  have hget : ∀ k, k < W.heap.size → w'.heap[k]? = W.heap[k]? := fun k hk => by
    have h1 : W.heap[k]? = some W.heap[k] := Array.getElem?_eq_getElem hk
    rw [h1]
    exact d k _ (by rw [ho k, h1])
  have hsz : W.heap.size ≤ w'.heap.size := by
    rcases Nat.eq_zero_or_pos W.heap.size with h0 | h0
    · omega
    · have h1 := hget (W.heap.size - 1) (by omega)
      have h2 : W.heap[W.heap.size - 1]? = some (W.heap[W.heap.size - 1]'(by omega)) := Array.getElem?_eq_getElem _
      rw [h2] at h1
      have := (Array.getElem?_eq_some_iff.1 h1).1
      omega
  refine ⟨w'.drawn - W.drawn, w'.heap.extract W.heap.size w'.heap.size, ?_⟩
  have hheap : w'.heap = W.heap ++ w'.heap.extract W.heap.size w'.heap.size := by
    apply Array.ext_getElem?
    intro k
    by_cases hk : k < W.heap.size
    · rw [Array.getElem?_append_left hk]; exact hget k hk
    · rw [Array.getElem?_append_right (by omega), Array.getElem?_extract]
      split
      · congr 1; omega
      · exact Array.getElem?_eq_none (by omega)
  cases w'
  cases W
  simp only [Go.Sort.grow, World.drewN] at *
  subst e1 e2 e4
  simp only [World.mk.injEq, and_true, true_and]
  exact ⟨hheap, by omega⟩
end

section
variable {P : Program} {α : Type} [Inhabited α]
theorem flat_flatK (T : Ty α) (xs : List α) : (Go.Sort.flatK T.enc T.sz xs.toArray).toList = T.flat xs := by
  have hl : (Go.Sort.flatK T.enc T.sz xs.toArray).toList.length = xs.length * T.sz := by simp
  refine List.ext_getElem? fun t => ?_
  by_cases ht : t < xs.length * T.sz
  · have hp := T.pos
    have h1 : t / T.sz < xs.length := Nat.div_lt_of_lt_mul (by rw [Nat.mul_comm]; exact ht)
    have h2 : t % T.sz < T.sz := Nat.mod_lt _ hp
    have hx : xs[t / T.sz]? = some xs[t / T.sz] := List.getElem?_eq_getElem h1
    have h3 := T.flat_get hx (t % T.sz) h2
    have h4 : t / T.sz * T.sz + t % T.sz = t := by have := Nat.div_add_mod t T.sz; rw [Nat.mul_comm]; exact this
    rw [h4] at h3
    rw [h3]
    have h5 := Go.Sort.get_flatK T.enc T.sz xs.toArray t (by simpa using ht)
    have h6 : t < (Go.Sort.flatK T.enc T.sz xs.toArray).size := by simpa using ht
    rw [getElem!_pos _ t h6] at h5
    have h7 : (Go.Sort.flatK T.enc T.sz xs.toArray).toList[t]? = some (Go.Sort.flatK T.enc T.sz xs.toArray)[t] := by
      rw [Array.getElem?_toList]; exact Array.getElem?_eq_getElem h6
    rw [h7, h5]
    have h8 : xs.toArray[t / T.sz]! = xs[t / T.sz] := by
      rw [getElem!_pos _ _ (by simpa using h1)]; simp
    rw [h8]
    have h9 : t % T.sz < (T.enc xs[t / T.sz]).length := by rw [T.len]; exact h2
    rw [List.getElem?_eq_getElem h9, getElem!_pos (T.enc xs[t / T.sz]) (t % T.sz) h9]
  · rw [List.getElem?_eq_none (by rw [hl]; omega), List.getElem?_eq_none (by rw [T.flat_len]; omega)]

theorem put_flat (T : Ty α) (xs ys : List α) (sp : List Value) (h : ys.length = xs.length) :
    Go.Sort.putCells id 0 (Go.Sort.flatK T.enc T.sz ys.toArray) (T.flat xs ++ sp).toArray = (T.flat ys ++ sp).toArray := by
  apply Array.ext_getElem?
  intro k
  have hF : (Go.Sort.flatK T.enc T.sz ys.toArray).size = ys.length * T.sz := by simp
  have hlx : (T.flat xs).length = (T.flat ys).length := by rw [T.flat_len, T.flat_len, h]
  simp only [Go.Sort.putCells, Array.getElem?_mapIdx, List.getElem?_toArray, hF, Nat.zero_add, Nat.sub_zero, Nat.zero_le, true_and]
  by_cases hk : k < ys.length * T.sz
  · have h1 : k < (T.flat ys).length := by rw [T.flat_len]; exact hk
    have h2 : k < (T.flat xs).length := by omega
    rw [List.getElem?_append_left h2, List.getElem?_append_left h1, List.getElem?_eq_getElem h2]
    have h6 : k < (Go.Sort.flatK T.enc T.sz ys.toArray).size := by omega
    have h7 : (T.flat ys)[k]? = some (Go.Sort.flatK T.enc T.sz ys.toArray)[k] := by
      rw [← flat_flatK T ys, Array.getElem?_toList]; exact Array.getElem?_eq_getElem h6
    rw [h7]
    simp only [Option.map_some, hk, if_true]
    rw [getElem!_pos _ k h6]; rfl
  · have h1 : (T.flat ys).length ≤ k := by rw [T.flat_len]; omega
    rw [List.getElem?_append_right (by omega), List.getElem?_append_right h1, hlx]
    cases sp[k - (T.flat ys).length]? with
    | none => rfl
    | some v => simp [hk]

/-- slices.SortFunc on a row, by a function that parts whatever differs. -/
theorem Sort_spec {ρ : Go.Shelf.Ren} (L : SlLaysF0.n6 P ρ) (T : Ty α) (aE : ∀ w, (isAgg (ρ.t 24)).run P w = .ok true w) (zE : ∀ w, (Go.sizeOf (ρ.t 24)).run P w = .ok T.sz w) (cf : α → α → Int) (hO : Go.Sort.SWO (ltOf cf))
    (hT : ∀ x y, (ltOf cf) x y = false → (ltOf cf) y x = false → x = y) {f : FuncId} {fn : Func} (hf : P.funcs[f]? = some fn) (hb : fn.body.isSome = true) (hn : (fn.name == "runtime.NumGoroutine") = false)
    (hc : ∀ x y, Spec P f [.agg (T.enc x).toArray, .agg (T.enc y).toArray].toArray [] fun v C => v = .int .i64 (cf x y) ∧ C = []) (a : Option Nat) (cap : Nat) (xs : List α) (hl : xs.length < 4611686018427387904) :
    Spec P (ρ.f 6) [.slice (sl a) xs.length cap, .func (.func f) #[] #[]].toArray [Row T a cap xs] fun v C => v = .tuple #[] ∧ C = [Row T a cap (xs.mergeSort fun x y => !(ltOf cf) y x)] := by
  intro s w R hs
  cases a with
  | none =>
    obtain ⟨h1, h2⟩ := (Row_know (T := T) .here w hs).2.2 rfl
    subst h1 h2
    refine (AnyF.slices_SortFunc_none L none 0 _ w).mono ?_
    rintro e w' ⟨rfl, rfl⟩
    exact ⟨_, _, ⟨rfl, rfl⟩, rfl, by simpa using hs⟩
  | some g =>
    obtain ⟨sp, fr, c1, c2, c3, c4, hg, hs'⟩ := hs.row (.here : Pick (Row T (some g) cap xs :: R) _ R)
    have hlt : g < w.heap.size := (Array.getElem?_eq_some_iff.1 hg).1
    have hH : Go.Sort.HoldsK T.enc T.sz w g 0 xs.toArray := by
      intro j hj
      have hj' : j < xs.length * T.sz := by simpa using hj
      have h1 : (T.flat xs)[j]? = some (Go.Sort.flatK T.enc T.sz xs.toArray)[j]! := by
        rw [← flat_flatK T xs, Array.getElem?_toList, getElem!_pos _ j hj]; exact Array.getElem?_eq_getElem hj
      have h2 : j < (T.flat xs).length := by rw [T.flat_len]; exact hj'
      refine ⟨?_, ?_⟩
      · simp [World.cell?, hg, List.getElem?_append_left h2, h1]
      · have := c4 j (Nat.zero_le _) (by omega)
        simp [World.frozen?, hg]
        omega
    have hcmp : CmpLays P f #[] T.enc T.sz cf g 0 xs.toArray.size w := fun m os dk _ x y => by
      refine (hc x y _ _ [old (sortWorldK T.enc T.sz w g 0 m dk os)] (by simpa using Sat_old _)).mono ?_
      rintro e w' ⟨v, C, ⟨rfl, rfl⟩, rfl, hs2⟩
      exact ⟨rfl, sat_grow (by simpa using hs2)⟩
    have hmain := AnyQ.slices_SortFunc_total L T.sz aE zE T.enc T.len T.one cf hO f #[] g 0 cap xs.toArray w (enters_fn hf hb hn) hcmp hH hlt (by simpa using hl) hT
    have hsz : xs.toArray.size = xs.length := by simp
    rw [hsz] at hmain
    refine hmain.mono ?_
    rintro e w' ⟨rfl, q, os, rfl⟩
    refine ⟨_, _, ⟨rfl, rfl⟩, rfl, ?_⟩
    have hml : (xs.mergeSort fun x y => !(ltOf cf) y x).length = xs.length := List.length_mergeSort _
    have hfl2 : (T.flat (xs.mergeSort fun x y => !(ltOf cf) y x)).length = (T.flat xs).length := by rw [T.flat_len, T.flat_len, hml]
    have hheap : ∀ k, k < w.heap.size → (sortWorldK T.enc T.sz w g 0 q (xs.toArray.toList.mergeSort fun x y => !(ltOf cf) y x).toArray os).heap[k]? =
        if k = g then some (.cells (T.flat (xs.mergeSort fun x y => !(ltOf cf) y x) ++ sp).toArray T.e fr) else w.heap[k]? := by
      intro k hk
      show ((w.heap.modify g _) ++ os)[k]? = _
      rw [Array.getElem?_append_left (by simpa using hk), Array.getElem?_modify]
      by_cases hkg : k = g
      · subst hkg
        simp only [if_true, hg, Option.map_some]
        congr 1
        show Obj.cells (Go.Sort.putCells id 0 _ _) _ _ = _
        have := put_flat T xs (xs.mergeSort fun x y => !(ltOf cf) y x) sp hml
        rw [← this]
      · simp [hkg, Ne.symm hkg]
    have S2 := Sat.upd hs' (w' := sortWorldK T.enc T.sz w g 0 q (xs.toArray.toList.mergeSort fun x y => !(ltOf cf) y x).toArray os) (o' := .cells (T.flat (xs.mergeSort fun x y => !(ltOf cf) y x) ++ sp).toArray T.e fr) rfl ⟨rfl, Nat.le_add_right _ _⟩ rfl
      (by rw [hheap g hlt, if_pos rfl]) fun k hk hks => by rw [hheap k hks, if_neg hk]
    exact S2.mono fun _ z => sep_mono (Row_mk T g cap _ sp fr (by rw [hml]; exact c1) c2 (by rw [hfl2]; exact c3) (by rw [hfl2]; exact c4)) (fun _ y => y) z
end
end Go.Proofs.Ytbaecpddhdeapaa.SL
