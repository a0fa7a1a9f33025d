/- More operations: make, copy, slices' literals, conversions, bytes of strings, atomics. -/
import Derived.Test.YtbaecpddhdeapaaSLG
namespace Go.Proofs.Ytbaecpddhdeapaa.SL
open Go Go.RowKit

section
variable {P : Program} {s : World} {n : Nat} {E : List (Nat × Value)} {H : List HP} {ty : TypeId} {α : Type}

theorem flat_replicate (T : Ty α) (x : α) (k : Nat) : T.flat (List.replicate k x) = (List.replicate k (T.enc x)).flatten := by
  simp [Ty.flat, List.flatMap_replicate]

theorem madeCells_flat (T : Ty α) (x : α) {z : Value} (hz : z.cells.toList = T.enc x) (k : Nat) : (madeCells z.cells (k * T.sz)).toList = T.flat (List.replicate k x) := by
  have hsz : z.cells.size = T.sz := by rw [← Array.length_toList, hz, T.len]
  apply List.ext_getElem?
  intro j
  have hfl : (T.flat (List.replicate k x)).length = k * T.sz := by rw [T.flat_len]; simp
  by_cases hj : j < k * T.sz
  · have hq : j / T.sz < k := Nat.div_lt_of_lt_mul (by rw [Nat.mul_comm]; exact hj)
    have hr : j % T.sz < T.sz := Nat.mod_lt _ T.pos
    have hx : (List.replicate k x)[j / T.sz]? = some x := by simp [hq]
    have h2 := T.flat_get hx (j % T.sz) hr
    have hjj : j / T.sz * T.sz + j % T.sz = j := by rw [Nat.mul_comm]; exact Nat.div_add_mod j T.sz
    rw [hjj] at h2
    rw [h2, ← hz]
    have hr2 : j % z.cells.size < z.cells.size := by rw [hsz]; exact hr
    simp [madeCells, hj, hsz]
    rw [← hsz] 
    simp [hr2]
  · rw [List.getElem?_eq_none (by simp [madeCells]; omega), List.getElem?_eq_none (by rw [hfl]; omega)]

theorem Op_make {T : Ty α} {x y : Operand} {t : TypeId} {kl kc : IntKind} {l : Nat} {z : Value} (x0 : α) (hx : ev E x = some (.int kl l)) (hy : ev E y = some (.int kc l)) (ht : P.underlying t = some (.slice T.e)) (hz : Sz P T.e T.sz) (hzr : Zr P T.e z)
    (hzc : z.cells.toList = T.enc x0) (hby : By P T.e T.bytes) (hb : T.bytes * l ≤ 281474976710656) (hl : l ≤ 9223372036854775807) :
    OpP P s n E H (.makeSlice t x y) ty fun v H' => ∃ g, v = .slice (sl (some g)) l l ∧ H' = Row T (some g) l (List.replicate l x0) :: H := by
  intro a w he hs d pos af gd next Q hn
  obtain ⟨i, hi, hisz⟩ := hz.out
  have hib : i.bytes = T.bytes := by have := hby; simp [By, hi] at this; exact this
  have hiz : i.zero = some z := by have := hzr; simp [Zr, hi] at this; exact this
  have hrun := run_make (P := P) w t T.e i z ht hi hiz kl kc l l (by omega) (Int.le_refl _) (by rw [hib]; omega) (by omega)
  simp only [Int.toNat_natCast] at hrun
  unfold Oper.wp
  have hr2 : (execOp a.eval ⟨d, .makeSlice t x y, ty, pos, af, gd⟩).run P w = .ok (.value (.slice (some ⟨w.heap.size, 0, none⟩) l l)) (w.alloc (.cells (madeCells z.cells (l * i.size)) T.e)) := by
    simp only [execOp, he.ev hx, he.ev hy]
    exact run_v hrun
  rw [hr2]
  refine hn _ _ _ ⟨w.heap.size, rfl, rfl⟩ ?_
  have S1 := hs.alloc (.cells (madeCells z.cells (l * i.size)) T.e)
  refine S1.mono fun h x => sep_mono (fun h' y => ?_) (fun _ y => y) x
  have hc : madeCells z.cells (l * i.size) = (T.flat (List.replicate l x0) ++ []).toArray := by
    apply Array.ext'
    rw [hisz, madeCells_flat T x0 hzc]; simp
  rw [hc] at y
  refine Row_mk T _ _ _ [] (0, 0) (by simp) ?_ ?_ (free_zero _ _) h' y
  · show l ≤ 9223372036854775807; omega
  · rw [T.flat_len]; simp

/-- copy(dst, src) into the whole of a row of the same length. -/
theorem Op_copy {T : Ty α} {x y : Operand} {t t2 : TypeId} {g cap m c : Nat} {xs news : List α} {src : Option Addr} {R : List HP} (hx : ev E x = some (.slice (sl (some g)) m cap)) (hy : ev E y = some (.slice src m c))
    (pk : Pick H (Row T (some g) cap xs) R) (hm : news.length = m) (hlen : xs.length = m) (hr : Reads s H src (T.flat news)) (ht : P.underlying t = some (.slice T.e)) (hz : Sz P T.e T.sz) :
    OpP P s n E H (.call { callee := .builtin .copy, args := #[x, y], argTypes := #[t, t2] }) ty fun v H' => v = .int .i64 m ∧ H' = Row T (some g) cap news :: R := by
  intro ac w he hs d pos af gd next Q hn
  have hfl : (T.flat news).length = m * T.sz := by rw [T.flat_len, hm]
  have hfx := T.flat_len xs
  have hsrc := read_first (P := P) (c := c) hfl (hr w hs)
  obtain ⟨sp, fr, c1, c2, c3, c4, hg, hs'⟩ := hs.row pk
  have hst := run_storeCells_fr (P := P) g 0 T.e fr (T.flat news) 0 (T.flat xs ++ sp).toArray w hg (by simp; rw [hfl, hfx, hlen]; omega) (fun j _ h => c4 j (by omega) (by rw [hfl] at h; rw [hfx, hlen]; omega)) (T.flat_one news)
  have hput : ((T.flat xs ++ sp).toArray.toList.take (0 + 0) ++ T.flat news ++ (T.flat xs ++ sp).toArray.toList.drop (0 + 0 + (T.flat news).length)) = T.flat news ++ sp := by
    have e : (T.flat news).length = (T.flat xs).length := by rw [hfl, hfx, hlen]
    simp [e]
  rw [hput] at hst
  have hrun : (Builtin.copy_ #[t, t2] ty #[.slice (sl (some g)) m cap, .slice src m c]).run P w = .ok (.int .i64 m) (w.setRow g (T.flat news ++ sp).toArray) := by
    have hmin : Nat.min m m = m := Nat.min_self m
    simp [Builtin.copy_, run_underlying ht, Builtin.lenOf, hz.run, hmin, hsrc, sl, hst, goInt]
  unfold Oper.wp
  rw [run_call_builtin (xs := [x, y]) (vs := [.slice (sl (some g)) m cap, .slice src m c]) (by simp [he.ev hx, he.ev hy]) (run_v hrun)]
  refine hn _ _ _ ⟨rfl, rfl⟩ ?_
  have S2 := Sat.upd hs' (w' := w.setRow g (T.flat news ++ sp).toArray) rfl ⟨rfl, Nat.le_refl _⟩ rfl (setRow_heap w g _ _ T.e fr hg) fun k hk _ => setRow_other w g k _ hk
  have e : (T.flat news).length = (T.flat xs).length := by rw [hfl, hfx, hlen]
  exact S2.mono fun _ z => sep_mono (Row_mk T g cap news sp fr (by rw [hm, ← hlen]; exact c1) c2 (by rw [e]; exact c3) (by rw [e]; exact c4)) (fun _ y => y) z

theorem zeros_flat (zc : Array Value) (k : Nat) : (Array.range (k * zc.size)).map (zc[· % zc.size]!) = (List.replicate k zc.toList).flatten.toArray := by
  by_cases h0 : zc.size = 0
  · have : zc = #[] := by simpa using h0
    subst this; simp
  · have hpos : 0 < zc.size := by omega
    apply Array.ext'
    apply List.ext_getElem?
    intro j
    have hfl : ((List.replicate k zc.toList).flatten).length = k * zc.size := by simp
    by_cases hj : j < k * zc.size
    · have hq : j / zc.size < k := Nat.div_lt_of_lt_mul (by rw [Nat.mul_comm]; exact hj)
      have hr : j % zc.size < zc.size := Nat.mod_lt _ hpos
      have hsplit : List.replicate k zc.toList = List.replicate (j / zc.size) zc.toList ++ zc.toList :: List.replicate (k - j / zc.size - 1) zc.toList := by
        rw [show zc.toList :: List.replicate (k - j / zc.size - 1) zc.toList = List.replicate (k - j / zc.size) zc.toList from by
          rw [← List.replicate_succ]; congr 1; omega, List.replicate_append_replicate]
        congr 1; omega
      have hlen : ((List.replicate (j / zc.size) zc.toList).flatten).length = j / zc.size * zc.size := by simp
      have hjj : j / zc.size * zc.size + j % zc.size = j := by rw [Nat.mul_comm]; exact Nat.div_add_mod j zc.size
      have e : ((List.replicate k zc.toList).flatten)[j]? = zc.toList[j % zc.size]? := by
        rw [hsplit, List.flatten_append, List.flatten_cons, List.getElem?_append_right (by rw [hlen]; omega), List.getElem?_append_left (by rw [hlen]; simp; omega), hlen]
        congr 1; omega
      rw [e]
      simp [hj, hr]
    · rw [List.getElem?_eq_none (by simp; omega), List.getElem?_eq_none (by rw [hfl]; omega)]

/-- A slice's literal: a block of its own. -/
theorem Op_buildSlice {t e : TypeId} {len : Nat} {parts : List (Nat × Operand)} {vs : List Value} {sz : Nat} {z : Value} {cells : List Value} (ht : P.underlying t = some (.slice e)) (hz : Sz P e sz) (hzr : Zr P e z) (hp : parts.map (fun p => ev E p.2) = vs.map some)
    (hn0 : Nat.beq (len * sz) 0 = false) (hle : Nat.ble (len * sz) 16777216 = true)
    (hzs : Nat.beq z.cells.toList.length sz = true) (hc : lfill (fun i => some (i * sz, sz)) (List.replicate len z.cells.toList).flatten ((parts.map (·.1)).zip vs) = some cells) :
    OpP P s n E H (.buildSlice t len parts.toArray) ty fun v H' => ∃ g, v = .slice (some ⟨g, 0, none⟩) len len ∧ H' = pt g (.cells cells.toArray e (0, 0)) :: H := by
  intro a w he hs d pos af gd next Q hnx
  have hzs' : z.cells.size = sz := by have := Nat.eq_of_beq_eq_true hzs; simpa using this
  have hc' := fill_eq _ _ _ hc
  rw [← zeros_flat z.cells len, hzs'] at hc'
  have hparts : (parts.toArray.map fun (i, x) => (i, a.eval x)).toList = (parts.map (·.1)).zip vs := by
    simp only [List.map_toArray]
    clear hc hc'
    induction parts generalizing vs with
    | nil => rfl
    | cons p l ih =>
      cases vs with
      | nil => simp at hp
      | cons v vs =>
        simp only [List.map_cons, List.cons.injEq] at hp
        have h2 := ih hp.2
        simp [he.ev hp.1]
        simpa using h2
  have hn1 : ¬ (len * sz = 0) := Nat.ne_of_beq_eq_false hn0
  have hle1 : ¬ (len * sz > 2 ^ 24) := by have := Nat.le_of_ble_eq_true hle; omega
  have hr : (execOp a.eval ⟨d, .buildSlice t len parts.toArray, ty, pos, af, gd⟩).run P w = .ok (.value (.slice (some ⟨w.heap.size, 0, none⟩) len len)) (w.alloc (.cells cells.toArray e)) := by
    simp only [execOp]
    refine run_v ?_
    unfold Instr.buildSlice
    rw [Sem.run_bind, run_underlying ht]
    simp only [Result.andThen_ok]
    rw [Sem.run_bind, hz.run]
    simp only [Result.andThen_ok, hle1, if_false, hn1]
    simp only [Sem.run_bind, hzr.run, Result.andThen_ok, Sem.run_pure]
    rw [hparts]
    simp only [hzs', hc']
    simp only [Sem.run_bind, run_newRow, Result.andThen_ok, Sem.run_pure]
  unfold Oper.wp
  rw [hr]
  exact hnx _ _ _ ⟨_, rfl, rfl⟩ (hs.alloc _)

/-- An empty slice's literal. -/
theorem Op_buildSlice0 {T : Ty α} {t : TypeId} (ht : P.underlying t = some (.slice T.e)) (hz : Sz P T.e T.sz) :
    OpP P s n E H (.buildSlice t 0 #[]) ty fun v H' => ∃ g, v = .slice (sl (some g)) 0 0 ∧ H' = Row T (some g) 0 [] :: H := by
  intro a w he hs d pos af gd next Q hnx
  have hr : (execOp a.eval ⟨d, .buildSlice t 0 #[], ty, pos, af, gd⟩).run P w = .ok (.value (.slice (some ⟨w.heap.size, 0, none⟩) 0 0)) (w.alloc (.cells #[] T.e)) := by
    simp only [execOp]
    refine run_v ?_
    unfold Instr.buildSlice
    rw [Sem.run_bind, run_underlying ht]
    simp only [Result.andThen_ok]
    rw [Sem.run_bind, hz.run]
    simp [Instr.fill, run_newRow]
    have : (Array.map (fun _ => (default : Value)) (Array.range 0)) = #[] := by apply Array.ext'; simp
    rw [this]
  unfold Oper.wp
  rw [hr]
  refine hnx _ _ _ ⟨w.heap.size, rfl, rfl⟩ ?_
  refine (hs.alloc (.cells #[] T.e)).mono fun h x => sep_mono (fun h' y => ?_) (fun _ y => y) x
  refine Row_mk T _ 0 [] [] (0, 0) (by simp) (Nat.zero_le _) (by simp) (free_zero _ _) h' ?_
  simpa [Ty.flat] using y

theorem Op_bytes_of_string {x : Operand} {t1 t2 : TypeId} {b : ByteArray} (T : Ty UInt8) (hT : ∀ b, T.enc b = [.int .u8 b.toNat]) (hx : ev E x = some (.string b)) (h1 : P.underlying t1 = some .string) (h2 : P.underlying t2 = some (.slice T.e)) (he8 : P.underlying T.e = some (.int .u8)) (hl : b.size ≤ maxLen) :
    OpP P s n E H (.convert t1 t2 x) ty fun v H' => ∃ g cap, v = .slice (sl (some g)) b.data.toList.length cap ∧ H' = Row T (some g) cap b.data.toList :: H := by
  intro a w he hs d pos af gd next Q hnx
  have hrun := run_bytes_of_string (P := P) w t1 t2 T.e b h1 h2 he8
  have hr : (execOp a.eval ⟨d, .convert t1 t2 x, ty, pos, af, gd⟩).run P w = .ok (.value (.slice (some ⟨w.heap.size, 0, none⟩) b.size (grownCap w b.size 0 T.e)))
      (w.drew.alloc (.cells (bytesRow b (grownCap w b.size 0 T.e)) T.e ((bytesRow b (grownCap w b.size 0 T.e)).size, (bytesRow b (grownCap w b.size 0 T.e)).size + 1))) := by
    simp only [execOp, he.ev hx]
    exact run_v hrun
  have hlen : b.data.toList.length = b.size := by simp
  unfold Oper.wp
  rw [hr]
  refine hnx _ _ _ ⟨w.heap.size, grownCap w b.size 0 T.e, by rw [hlen]; rfl, rfl⟩ ?_
  have S1 : Sat s w.drew (stars H) := hs.drew (Nat.le_succ _)
  refine (S1.alloc _).mono fun h y => sep_mono (fun h' y => ?_) (fun _ y => y) y
  have hsz : T.sz = 1 := by have := T.len 0; rw [hT] at this; simpa using this.symm
  have hflat : T.flat b.data.toList = b.data.toList.map fun b => Value.int .u8 b.toNat := by
    have : T.enc = fun b => [Value.int .u8 b.toNat] := funext hT
    unfold Ty.flat
    rw [this]
    induction b.data.toList with
    | nil => rfl
    | cons x l ih => rw [List.flatMap_cons, ih]; rfl
  have hc : bytesRow b (grownCap w b.size 0 T.e) = (T.flat b.data.toList ++ List.replicate (grownCap w b.size 0 T.e - b.size) (Value.int .u8 0)).toArray := by
    rw [hflat]
    apply Array.ext'
    simp [bytesRow]
  have hg1 : b.size ≤ grownCap w b.size 0 T.e := grownCap_ge w _ _ _
  have hg2 := grownCap_le_maxLen w b.size 0 T.e hl
  have hfl : (T.flat b.data.toList).length = b.size := by rw [T.flat_len, hlen, hsz, Nat.mul_one]
  rw [hc] at y
  refine Row_mk T _ _ _ _ _ (by rw [hlen]; exact hg1) hg2 (by rw [hfl, hsz]; simp; omega) ?_ h' y
  intro j _ hj
  have : (T.flat b.data.toList ++ List.replicate (grownCap w b.size 0 T.e - b.size) (Value.int .u8 0)).toArray.size = (T.flat b.data.toList).length + (List.replicate (grownCap w b.size 0 T.e - b.size) (Value.int .u8 0)).length := by simp
  rw [this]
  simp only
  omega

theorem Op_string_of_bytes {x : Operand} {t1 t2 e : TypeId} {src : Option Addr} {m c : Nat} {bs : List UInt8} (hx : ev E x = some (.slice src m c)) (h1 : P.underlying t1 = some (.slice e)) (h2 : P.underlying t2 = some .string) (he8 : P.underlying e = some (.int .u8))
    (hm : bs.length = m) (hr : Reads s H src (bs.map fun b => .int .u8 b.toNat)) : OpQ P s n E H (.convert t1 t2 x) ty (.string ⟨bs.toArray⟩) := by
  intro a w he hs d pos af g
  simp only [execOp, he.ev hx]
  refine run_v ?_
  have h := hr w hs
  cases src with
  | none =>
    simp only [List.map_eq_nil_iff] at h
    subst h
    simp only [convert]
    simp [run_underlying h1, run_underlying h2, run_underlying he8, Conv.bytesToString]
    rfl
  | some p =>
    subst hm
    exact run_convert_bytes_back (P := P) w t1 t2 e p c bs h1 he8 h2 fun j hj => by
      have := h j (.int .u8 bs[j].toNat) (by simp [List.getElem?_eq_getElem hj])
      exact this

theorem Op_index_str {x y : Operand} {t : TypeId} {k : IntKind} {j : Int} {b : ByteArray} {c : UInt8} (hx : ev E x = some (.string b)) (hy : ev E y = some (.int k j)) (ht : P.underlying t = some .string) (h0 : 0 ≤ j) (hc : b.data.toList[j.toNat]? = some c) :
    OpQ P s n E H (.index t x y) ty (.int .u8 c.toNat) := by
  intro a w he hs d pos af g
  simp only [execOp, he.ev hx, he.ev hy]
  refine run_v ?_
  have h1 : b[j.toNat]? = some c := by
    have hlt : j.toNat < b.data.toList.length := (List.getElem?_eq_some_iff.1 hc).1
    have hv := (List.getElem?_eq_some_iff.1 hc).2
    rw [getElem?_pos b j.toNat (by simpa using hlt)]
    congr 1
  simp [Instr.index, asIntOf, run_underlying ht, h0, h1]

/-- A function without a body, that the model carries out by itself. -/
theorem Op_extern {f : FuncId} {fn : Func} {xs : List Operand} {vs : List Value} {ats : Array TypeId} {e : Array Value → Sem Value} {post : Value → List HP → Prop} (hf : P.funcs[f]? = some fn) (hn : (fn.name == "runtime.NumGoroutine") = false) (hb : fn.body.isNone = true)
    (he1 : (Extern.findNext fn).isNone = true) (he2 : Extern.find fn = some e) (hx : xs.map (ev E) = vs.map some)
    (h : ∀ w, Sat s w (stars H) → ∃ v H' w', post v H' ∧ (e vs.toArray).run P w = .ok v w' ∧ Sat s w' (stars H')) :
    OpP P s n E H (.call { callee := .value (.func f), args := xs.toArray, argTypes := ats }) ty post := by
  intro a w he hs d pos af g next Q hnx
  have hargs : xs.map a.eval = vs := by
    clear h
    induction xs generalizing vs with
    | nil => cases vs <;> simp_all
    | cons x xs ih =>
      cases vs with
      | nil => simp at hx
      | cons v vs =>
        simp only [List.map_cons, List.cons.injEq] at hx
        simp [he.ev hx.1, ih hx.2]
  obtain ⟨v, H', w', hp, hr, hs'⟩ := h w hs
  have hrun : (execOp a.eval ⟨d, .call { callee := .value (.func f), args := xs.toArray, argTypes := ats }, ty, pos, af, g⟩).run P w = .ok (.value v) w' := by
    have h1 : a.eval (.func f) = .func (.func f) #[] #[] := rfl
    have h2 : (callFunc f vs.toArray).run P w = .ok (.value v) w' := by
      have hp : program.run P w = .ok P w := rfl
      unfold callFunc
      rw [Sem.run_bind, hp]
      have hnx : Extern.findNext fn = none := by cases hh : Extern.findNext fn <;> simp_all
      simp only [Result.andThen_ok, hf, hn, hb, Bool.false_eq_true, if_false, if_true, hnx, he2]
      have hmk : (mark (.extern f)).run P w = .ok () w := rfl
      rw [Sem.run_bind, hmk]
      simp only [Result.andThen_ok]
      rw [Sem.run_bind]
      simp only [hr, Result.andThen_ok]
      rfl
    simp [execOp, resolve, h1, Deferred.ofValue, invoke, hargs, h2]
  unfold Oper.wp
  rw [hrun]
  exact hnx v H' w' hp hs'

theorem read_i64 {w : World} {b o : Nat} {a : Int} (hc : w.cell? ⟨b, o, none⟩ = some (.int .i64 a)) : (Extern.Atomic.read (.int .i64) ⟨b, o, none⟩).run P w = .ok (.int .i64 a) w := by
  simp [Extern.Atomic.read, load, Sem.run_bind, Sem.run, hc, Result.andThen]

/-- sync/atomic.AddInt64. -/
theorem Op_atomic_add {f : FuncId} {fn : Func} {x y : Operand} {ats : Array TypeId} {b o : Nat} {cs cs' : Array Value} {et : TypeId} {fr : Nat × Nat} {a dl : Int} {H' : List HP} (hf : P.funcs[f]? = some fn) (hn : (fn.name == "runtime.NumGoroutine") = false) (hb : fn.body.isNone = true)
    (he1 : (Extern.findNext fn).isNone = true) (he2 : Extern.find fn = some (Extern.Atomic.update (Op.intArith .add) .i64 true)) (hx : ev E x = some (.pointer (some ⟨b, o, none⟩))) (hy : ev E y = some (.int .i64 dl))
    (pk : Repl H (pt b (.cells cs et fr)) (pt b (.cells cs' et fr)) H') (hv : Nth cs.toList o (.int .i64 a)) (hr : -9223372036854775808 ≤ a + dl ∧ a + dl ≤ 9223372036854775807) (hfr : free fr o (o + 1)) (hc : putCells cs o [.int .i64 (a + dl)] = cs') :
    OpP P s n E H (.call { callee := .value (.func f), args := #[x, y], argTypes := ats }) ty fun v H'' => v = .int .i64 (a + dl) ∧ H'' = H' := by
  refine Op_extern (xs := [x, y]) (vs := [.pointer (some ⟨b, o, none⟩), .int .i64 dl]) hf hn hb he1 he2 (by simp [hx, hy]) fun w hs => ?_
  obtain ⟨r, p1, _⟩ := pk.picks
  have hg := hs.get p1
  have hcell : w.cell? ⟨b, o, none⟩ = some (.int .i64 a) := by
    have := hv.get
    simp [World.cell?, hg]
    simpa using this
  have hlt : o < cs.size := by have := (List.getElem?_eq_some_iff.1 hv.get).1; simpa using this
  have hfz : w.frozen? ⟨b, o, none⟩ = false := by
    have := hfr o (Nat.le_refl _) (by omega)
    simp [World.frozen?, hg]
    omega
  have hput : putCells cs o [.int .i64 (a + dl)] = cs.setIfInBounds o (.int .i64 (a + dl)) := by
    apply Array.ext'
    rw [Array.toList_setIfInBounds]
    simp only [putCells, List.length_singleton]
    rw [List.set_eq_take_append_cons_drop, if_pos (by simpa using hlt)]
    simp
  refine ⟨_, H', w.setRow b cs', ⟨rfl, rfl⟩, ?_, hs.setRow pk⟩
  subst hc
  rw [hput, ← setCell_eq_setRow w b o cs et fr _ hg]
  have hw := wrap_i64_id hr
  show Sem.run P (do
    let a ← asAddr (.pointer (some ⟨b, o, none⟩))
    let old ← Extern.Atomic.read (.int .i64) a
    let new ← Op.intArith .add .i64 (← asInt old) (← asInt (.int .i64 dl))
    store a new .atomic
    pure (if true then new else old)) w = _
  simp [asAddr, Sem.run_bind, read_i64 hcell, Op.intArith, asInt, asIntOf, hw, run_store P w ⟨b, o, none⟩ (.int .i64 (a + dl)) .atomic rfl, hcell, hfz, Result.andThen]

/-- sync/atomic.LoadInt64. -/
theorem Op_atomic_load {f : FuncId} {fn : Func} {x : Operand} {ats : Array TypeId} {b o : Nat} {cs : Array Value} {et : TypeId} {fr : Nat × Nat} {a : Int} {H' : List HP} (hf : P.funcs[f]? = some fn) (hn : (fn.name == "runtime.NumGoroutine") = false) (hb : fn.body.isNone = true)
    (he1 : (Extern.findNext fn).isNone = true) (he2 : Extern.find fn = some (Extern.Atomic.loadT (.int .i64))) (hx : ev E x = some (.pointer (some ⟨b, o, none⟩)))
    (pk : Pick H (pt b (.cells cs et fr)) H') (hv : Nth cs.toList o (.int .i64 a)) :
    OpP P s n E H (.call { callee := .value (.func f), args := #[x], argTypes := ats }) ty fun v H'' => v = .int .i64 a ∧ H'' = H := by
  refine Op_extern (xs := [x]) (vs := [.pointer (some ⟨b, o, none⟩)]) hf hn hb he1 he2 (by simp [hx]) fun w hs => ?_
  have hg := hs.get pk
  have hcell : w.cell? ⟨b, o, none⟩ = some (.int .i64 a) := by
    have := hv.get
    simp [World.cell?, hg]
    simpa using this
  refine ⟨_, H, w, ⟨rfl, rfl⟩, ?_, hs⟩
  show Sem.run P (do Extern.Atomic.read (.int .i64) (← asAddr (.pointer (some ⟨b, o, none⟩)))) w = _
  simp [asAddr, read_i64 hcell]
end
end Go.Proofs.Ytbaecpddhdeapaa.SL
