/- Rules for append, copy, make, slices' literals, conversions between strings and bytes. -/
import Derived.Test.YtbaecpddhdeapaaSLD
namespace Go.Proofs.Ytbaecpddhdeapaa.SL
open Go Go.RowKit

section
variable {P : Program} {s : World} {n : Nat} {E : List (Nat × Value)} {H : List HP} {ty : TypeId} {α : Type}

theorem run_call_builtin {a : Act} {w w' : World} {b : Builtin} {xs : List Operand} {vs : List Value} {ats : Array TypeId} {d : Option Tmp} {pos : String} {af : Array Edge} {g : Option (Nat × Bool)} {r : Next}
    (hx : xs.map a.eval = vs) (h : (builtin b ats ty (xs.toArray.map fun | .const _ => true | _ => false) vs.toArray).run P w = .ok r w') :
    (execOp a.eval ⟨d, .call { callee := .builtin b, args := xs.toArray, argTypes := ats }, ty, pos, af, g⟩).run P w = .ok r w' := by
  subst hx
  simp only [List.map_toArray] at h
  simp [execOp, resolve, invoke]
  exact h

theorem lits_append {T : Ty α} {t : TypeId} {w : World} {g m c sLen sCap : Nat} {fr : Nat × Nat} {src : Option Addr} {news : List Value} {cur : Array Value} (ht : P.underlying t = some (.slice T.e)) (hz : Sz P T.e T.sz)
    (hg : w.heap[g]? = some (.cells cur T.e fr)) (hl : news.length = m * T.sz) (hsrc : (Builtin.firstCells T.sz m (.slice src m c)).run P w = .ok news.toArray w) (h1 : ∀ u ∈ news, u.oneCell' = true)
    (hroom : sLen + m ≤ sCap) (hfit : sLen * T.sz + news.length ≤ cur.size) (hfr : free fr 0 cur.size) :
    (Builtin.append_ #[t, t] ty #[.slice (some ⟨g, 0, none⟩) sLen sCap, .slice src m c]).run P w = .ok (.slice (some ⟨g, 0, none⟩) (sLen + m) sCap) (w.setRow g (putCells cur (sLen * T.sz) news)) := by
  have hst := run_storeCells_fr (P := P) g (sLen * T.sz) T.e fr news 0 cur w hg (by simpa using hfit) (fun j _ h => hfr j (by omega) (by omega)) h1
  simp only [Nat.add_zero] at hst
  simp [Builtin.append_, run_underlying ht, hz.run, Builtin.lenOf, hroom, hsrc, add_addr, hst, putCells]

theorem read_first {src : Option Addr} {m c sz : Nat} {w : World} {vs : List Value} (hl : vs.length = m * sz) (h : match src with | some a => ∀ j u, vs[j]? = some u → w.cell? (a.add j) = some u | none => vs = []) :
    (Builtin.firstCells sz m (.slice src m c)).run P w = .ok vs.toArray w := by
  cases src with
  | none => simp only at h; subst h; rfl
  | some a => exact run_firstCells_some (P := P) w sz m a m c vs hl h

theorem Op_append0 {T : Ty α} {x y : Operand} {t : TypeId} {a : Option Nat} {cap k m c : Nat} {xs news : List α} {src : Option Addr} {z : Value} {R : List HP} (hx : ev E x = some (.slice (sl a) k cap)) (hy : ev E y = some (.slice src m c))
    (pk : Pick H (Row T a cap xs) R) (hk : xs.length = k) (hm : news.length = m) (hr : Reads s H src (T.flat news)) (ht : P.underlying t = some (.slice T.e)) (hz : Sz P T.e T.sz) (hzr : Zr P T.e z) (hzc : z.cells.size = T.sz) (hby : By P T.e T.bytes)
    (hb : (xs.length + m) * T.bytes ≤ 140737488355328) (hl : xs.length + m ≤ maxLen) :
    OpP P s n E H (.call { callee := .builtin .append, args := #[x, y], argTypes := #[t, t] }) ty fun v H' => ∃ a' cap', v = .slice (sl a') (xs ++ news).length cap' ∧ H' = Row T a' cap' (xs ++ news) :: R ∧ (a ≠ none → a' ≠ none) := by
  subst hk
  have hlx : (xs ++ news).length = xs.length + m := by simp [hm]
  rw [hlx]
  intro ac w he hs d pos af gd next Q hn
  have hfl : (T.flat news).length = m * T.sz := by rw [T.flat_len, hm]
  have hsrc := read_first (P := P) (c := c) hfl (hr w hs)
  obtain ⟨k1, k2, k3⟩ := Row_know pk w hs
  have fin : ∀ v w', (Builtin.append_ #[t, t] ty #[.slice (sl a) xs.length cap, .slice src m c]).run P w = .ok v w' → next (ac.put d v) w' →
      (⟨d, .call { callee := .builtin .append, args := #[x, y], argTypes := #[t, t] }, ty, pos, af, gd⟩ : Oper).wp P ac w next Q := by
    intro v w' hrun hnx
    unfold Oper.wp
    rw [run_call_builtin (xs := [x, y]) (vs := [.slice (sl a) xs.length cap, .slice src m c]) (by simp [he.ev hx, he.ev hy]) (r := .value v) (w' := w') (run_v hrun)]
    exact hnx
  by_cases hroom : xs.length + m ≤ cap
  · cases a with
    | none =>
      obtain ⟨rfl, rfl⟩ := k3 rfl
      have hm0 : m = 0 := by simpa using hroom
      subst hm0
      have hn0 : news = [] := by cases news <;> simp_all
      subst hn0
      have hrun : (Builtin.append_ #[t, t] ty #[.slice (sl none) ([] : List α).length 0, .slice src 0 c]).run P w = .ok (.slice none 0 0) w := by
        simp [Builtin.append_, sl, run_underlying ht, hz.run, Builtin.lenOf, hsrc, Ty.flat]
      refine fin _ _ hrun (hn _ _ _ ⟨none, 0, rfl, rfl, fun h => h⟩ ?_)
      exact hs.mono fun h x => by simpa [stars] using pk.out x
    | some g =>
      obtain ⟨sp, fr, c1, c2, c3, c4, hg, hs'⟩ := hs.row pk
      have hfx := T.flat_len xs
      have hmul : (xs.length + m) * T.sz ≤ cap * T.sz := Nat.mul_le_mul_right _ hroom
      rw [Nat.add_mul] at hmul
      have hrun := lits_append (ty := ty) (c := c) (sLen := xs.length) (sCap := cap) ht hz hg hfl hsrc (T.flat_one news) hroom (by simp; omega) (by simpa using c4)
      have hput : putCells (T.flat xs ++ sp).toArray (xs.length * T.sz) (T.flat news) = (T.flat (xs ++ news) ++ sp.drop (m * T.sz)).toArray := by
        unfold putCells
        have e1 : (T.flat xs ++ sp).take (xs.length * T.sz) = T.flat xs := by rw [← hfx]; simp
        have e2 : (T.flat xs ++ sp).drop (xs.length * T.sz + (T.flat news).length) = sp.drop (m * T.sz) := by
          rw [hfl, ← hfx, List.drop_append, List.drop_of_length_le (by omega)]
          simp
        simp only [e1, e2, T.flat_app]
      rw [hput] at hrun
      refine fin _ _ hrun (hn _ _ _ ⟨some g, cap, rfl, rfl, fun _ => by simp⟩ ?_)
      have hlen : (T.flat (xs ++ news)).length + (sp.drop (m * T.sz)).length = (T.flat xs).length + sp.length := by
        rw [T.flat_app, List.length_append, hfl, List.length_drop]; omega
      have S2 := Sat.upd hs' (w' := w.setRow g (T.flat (xs ++ news) ++ sp.drop (m * T.sz)).toArray) rfl ⟨rfl, Nat.le_refl _⟩ rfl (setRow_heap w g _ _ T.e fr hg) fun k hk _ => setRow_other w g k _ hk
      exact S2.mono fun _ z => sep_mono (Row_mk T g cap (xs ++ news) _ fr (by simp; omega) c2 (by rw [hlen]; exact c3) (by rw [hlen]; exact c4)) (fun _ y => y) z
  · have hm0 : 0 < m := by omega
    have hex : ∃ b, src = some b := by
      cases src with
      | none => have := hr w hs; simp only at this; rw [this] at hfl; have hp := Nat.mul_pos hm0 T.pos; rw [List.length_nil] at hfl; omega
      | some b => exact ⟨b, rfl⟩
    obtain ⟨b, rfl⟩ := hex
    have hrb := hr w hs
    obtain ⟨i, hi, hisz⟩ := hz.out
    have hib : i.bytes = T.bytes := by have := hby; simp [By, hi] at this; exact this
    have hiz : i.zero = some z := by have := hzr; simp [Zr, hi] at this; exact this
    have hgc1 : xs.length + m ≤ grownCap w (xs.length + m) cap T.e := grownCap_ge w _ _ _
    have hgc2 := grownCap_le_maxLen w (xs.length + m) cap T.e hl
    have h63 : ((xs.length + m : Nat) : Int) ≤ 9223372036854775807 := by unfold maxLen at hl; omega
    have hfit : Builtin.nextslicecap (xs.length + m) cap * i.bytes ≤ 281474976710656 := by rw [hib]; exact growslice_fits (by omega) hb
    have hrun : ∃ w', (Builtin.append_ #[t, t] ty #[.slice (sl a) xs.length cap, .slice (some b) m c]).run P w = .ok (.slice (some ⟨w.heap.size, 0, none⟩) (xs.length + m) (grownCap w (xs.length + m) cap T.e)) w' ∧
        w' = w.drew.alloc (.cells ((T.flat xs).toArray ++ (T.flat news).toArray ++ Builtin.zeroCells z.cells (grownCap w (xs.length + m) cap T.e - (xs.length + m))) T.e) := by
      cases a with
      | none =>
        obtain ⟨rfl, rfl⟩ := k3 rfl
        simp only [List.length_nil, Nat.zero_add] at *
        refine ⟨_, run_append_nil (P := P) (w := w) t ty T.e i z ht hi hiz b m c (T.flat news) (by rw [hisz]; exact hfl) hrb (by omega) (by omega) (by rw [hib]; omega), ?_⟩
        simp [Ty.flat]
      | some g =>
        obtain ⟨sp, fr, c1, c2, c3, c4, hg, hs'⟩ := hs.row pk
        have hro := Reads_row pk w hs
        exact ⟨_, run_append_grow (P := P) (w := w) t ty T.e i z ht hi hiz ⟨g, 0, none⟩ xs.length cap (T.flat xs) (by rw [hisz]; exact T.flat_len xs) hro b m c (T.flat news) (by rw [hisz]; exact hfl) hrb (by omega) h63 hfit, rfl⟩
    obtain ⟨w', hrun, rfl⟩ := hrun
    refine fin _ _ hrun (hn _ _ _ ⟨some w.heap.size, _, rfl, rfl, fun _ => by simp⟩ ?_)
    have hzl : (Builtin.zeroCells z.cells (grownCap w (xs.length + m) cap T.e - (xs.length + m))).toList.length = (grownCap w (xs.length + m) cap T.e - (xs.length + m)) * T.sz := by
      rw [Array.length_toList, size_zeroCells, hzc]
    have hfa : (T.flat (xs ++ news)).length = (xs.length + m) * T.sz := by rw [T.flat_len]; simp [hm]
    have hlen : (T.flat (xs ++ news)).length + (Builtin.zeroCells z.cells (grownCap w (xs.length + m) cap T.e - (xs.length + m))).toList.length = grownCap w (xs.length + m) cap T.e * T.sz := by
      rw [hzl, hfa, ← Nat.add_mul]; congr 1; omega
    have S1 : Sat s w.drew (stars R) := (hs.drop pk).drew (Nat.le_succ _)
    have S2 := S1.alloc (.cells (T.flat (xs ++ news) ++ (Builtin.zeroCells z.cells (grownCap w (xs.length + m) cap T.e - (xs.length + m))).toList).toArray T.e)
    have S3 : Sat s _ (sep (Row T (some w.heap.size) (grownCap w (xs.length + m) cap T.e) (xs ++ news)) (stars R)) :=
      S2.mono fun _ y => sep_mono (Row_mk T w.heap.size _ (xs ++ news) _ (0, 0) (by simp [hm]; exact hgc1) hgc2 (by rw [hlen]; exact Nat.le_refl _) (free_zero _ _)) (fun _ y => y) y
    have hcells : (T.flat (xs ++ news) ++ (Builtin.zeroCells z.cells (grownCap w (xs.length + m) cap T.e - (xs.length + m))).toList).toArray = (T.flat xs).toArray ++ (T.flat news).toArray ++ Builtin.zeroCells z.cells (grownCap w (xs.length + m) cap T.e - (xs.length + m)) := by
      apply Array.ext'
      simp [T.flat_app]
    rw [hcells] at S3
    exact S3

theorem Op_append {T : Ty α} {x y : Operand} {t : TypeId} {a : Option Nat} {cap k m c : Nat} {xs news : List α} {src : Option Addr} {z : Value} {R : List HP} (hx : ev E x = some (.slice (sl a) k cap)) (hy : ev E y = some (.slice src m c))
    (pk : Pick H (Row T a cap xs) R) (hk : xs.length = k) (hm : news.length = m) (hr : Reads s H src (T.flat news)) (ht : P.underlying t = some (.slice T.e)) (hz : Sz P T.e T.sz) (hzr : Zr P T.e z) (hzc : z.cells.size = T.sz) (hby : By P T.e T.bytes)
    (hb : (xs.length + m) * T.bytes ≤ 140737488355328) (hl : xs.length + m ≤ maxLen) :
    OpP P s n E H (.call { callee := .builtin .append, args := #[x, y], argTypes := #[t, t] }) ty fun v H' => ∃ a' cap', v = .slice (sl a') (xs ++ news).length cap' ∧ H' = Row T a' cap' (xs ++ news) :: R :=
  (Op_append0 hx hy pk hk hm hr ht hz hzr hzc hby hb hl).mono fun _ _ ⟨a', c', h1, h2, _⟩ => ⟨a', c', h1, h2⟩

/-- append to what isn't nil. -/
theorem Op_append_s {T : Ty α} {x y : Operand} {t : TypeId} {g cap k m c : Nat} {xs news : List α} {src : Option Addr} {z : Value} {R : List HP} (hx : ev E x = some (.slice (sl (some g)) k cap)) (hy : ev E y = some (.slice src m c))
    (pk : Pick H (Row T (some g) cap xs) R) (hk : xs.length = k) (hm : news.length = m) (hr : Reads s H src (T.flat news)) (ht : P.underlying t = some (.slice T.e)) (hz : Sz P T.e T.sz) (hzr : Zr P T.e z) (hzc : z.cells.size = T.sz) (hby : By P T.e T.bytes)
    (hb : (xs.length + m) * T.bytes ≤ 140737488355328) (hl : xs.length + m ≤ maxLen) :
    OpP P s n E H (.call { callee := .builtin .append, args := #[x, y], argTypes := #[t, t] }) ty fun v H' => ∃ g' cap', v = .slice (sl (some g')) (xs ++ news).length cap' ∧ H' = Row T (some g') cap' (xs ++ news) :: R :=
  (Op_append0 hx hy pk hk hm hr ht hz hzr hzc hby hb hl).mono fun _ _ ⟨a', c', h1, h2, h3⟩ => by
    cases a' with
    | none => exact absurd rfl (h3 (by simp))
    | some g' => exact ⟨g', c', h1, h2⟩

theorem Row_cut {T : Ty α} {g cap : Nat} {xs : List α} (k : Nat) (hk : k ≤ xs.length) : ∀ h, Row T (some g) cap xs h → Row T (some g) k (xs.take k) h := by
  rintro h ⟨sp, fr, c1, c2, c3, c4, c5⟩
  have e : T.flat xs ++ sp = T.flat (xs.take k) ++ (T.flat (xs.drop k) ++ sp) := by
    rw [← List.append_assoc, ← T.flat_app, List.take_append_drop]
  have hl : (T.flat (xs.take k)).length + (T.flat (xs.drop k) ++ sp).length = (T.flat xs).length + sp.length := by
    rw [← List.length_append, ← e, List.length_append]
  refine ⟨T.flat (xs.drop k) ++ sp, fr, by simp; omega, by omega, ?_, by rw [hl]; exact c4, ?_⟩
  · rw [hl]; exact Nat.le_trans (Nat.mul_le_mul_right _ (by omega)) c3
  · rw [← e]; exact c5

/-- append(xs[:k:k], ys...), where xs is not used any more. -/
theorem Op_append_cut {T : Ty α} {x y : Operand} {t : TypeId} {g cap k m c : Nat} {xs news : List α} {src : Option Addr} {z : Value} {R : List HP} (hx : ev E x = some (.slice (sl (some g)) k k)) (hy : ev E y = some (.slice src m c))
    (pk : Pick H (Row T (some g) cap xs) R) (hk : k ≤ xs.length) (hm : news.length = m) (hr : Reads s H src (T.flat news)) (ht : P.underlying t = some (.slice T.e)) (hz : Sz P T.e T.sz) (hzr : Zr P T.e z) (hzc : z.cells.size = T.sz) (hby : By P T.e T.bytes)
    (hb : (k + m) * T.bytes ≤ 140737488355328) (hl : k + m ≤ maxLen) :
    OpP P s n E H (.call { callee := .builtin .append, args := #[x, y], argTypes := #[t, t] }) ty fun v H' => ∃ a' cap', v = .slice (sl a') (xs.take k ++ news).length cap' ∧ H' = Row T a' cap' (xs.take k ++ news) :: R := by
  have hlk : (xs.take k).length = k := by simp; omega
  have hlx : (xs.take k ++ news).length = k + m := by simp [hm]; omega
  by_cases hm0 : m = 0
  · subst hm0
    have hn0 : news = [] := by cases news <;> simp_all
    subst hn0
    intro a w he hs
    have hs2 : Sat s w (stars (Row T (some g) k (xs.take k) :: R)) := (hs.pick pk).mono fun _ y => sep_mono (Row_cut k hk) (fun _ y => y) y
    have hr2 : Reads s (Row T (some g) k (xs.take k) :: R) src (T.flat ([] : List α)) := by
      intro w' _
      cases src with
      | none => rfl
      | some p => exact fun j u hj => by simp [Ty.flat] at hj
    exact Op_append (a := some g) (xs := xs.take k) hx hy .here hlk rfl hr2 ht hz hzr hzc hby (by rw [hlk]; exact hb) (by rw [hlk]; exact hl) a w he hs2
  · intro ac w he hs d pos af gd next Q hn
    have hfl : (T.flat news).length = m * T.sz := by rw [T.flat_len, hm]
    have hex : ∃ b, src = some b := by
      cases src with
      | none => have := hr w hs; simp only at this; rw [this] at hfl; have hp := Nat.mul_pos (Nat.pos_of_ne_zero hm0) T.pos; rw [List.length_nil] at hfl; omega
      | some b => exact ⟨b, rfl⟩
    obtain ⟨b, rfl⟩ := hex
    have hrb := hr w hs
    obtain ⟨i, hi, hisz⟩ := hz.out
    have hib : i.bytes = T.bytes := by have := hby; simp [By, hi] at this; exact this
    have hiz : i.zero = some z := by have := hzr; simp [Zr, hi] at this; exact this
    have hgc1 : k + m ≤ grownCap w (k + m) k T.e := grownCap_ge w _ _ _
    have hgc2 := grownCap_le_maxLen w (k + m) k T.e hl
    have h63 : ((k + m : Nat) : Int) ≤ 9223372036854775807 := by unfold maxLen at hl; omega
    have hfit : Builtin.nextslicecap (k + m) k * i.bytes ≤ 281474976710656 := by rw [hib]; exact growslice_fits (by omega) hb
    have hro := Reads_row pk w hs
    have hfk : (T.flat (xs.take k)).length = k * i.size := by rw [T.flat_len, hlk, hisz]
    have hrun := run_append_grow (P := P) (w := w) t ty T.e i z ht hi hiz ⟨g, 0, none⟩ k k (T.flat (xs.take k)) hfk (fun j v hj => hro j v (by
      rw [← T.flat_take] at hj
      have := (List.getElem?_eq_some_iff.1 hj).1
      rw [List.getElem?_take_of_lt (by rw [List.length_take] at this; omega)] at hj
      exact hj)) b m c (T.flat news) (by rw [hisz]; exact hfl) hrb (by omega) h63 hfit
    unfold Oper.wp
    rw [run_call_builtin (xs := [x, y]) (vs := [.slice (sl (some g)) k k, .slice (some b) m c]) (by simp [he.ev hx, he.ev hy]) (run_v hrun)]
    refine hn _ _ _ ⟨some w.heap.size, _, by rw [hlx]; rfl, rfl⟩ ?_
    have hzl : (Builtin.zeroCells z.cells (grownCap w (k + m) k T.e - (k + m))).toList.length = (grownCap w (k + m) k T.e - (k + m)) * T.sz := by
      rw [Array.length_toList, size_zeroCells, hzc]
    have hfa : (T.flat (xs.take k ++ news)).length = (k + m) * T.sz := by rw [T.flat_len, hlx]
    have hlen : (T.flat (xs.take k ++ news)).length + (Builtin.zeroCells z.cells (grownCap w (k + m) k T.e - (k + m))).toList.length = grownCap w (k + m) k T.e * T.sz := by
      rw [hzl, hfa, ← Nat.add_mul]; congr 1; omega
    have S1 : Sat s w.drew (stars R) := (hs.drop pk).drew (Nat.le_succ _)
    have S2 := S1.alloc (.cells (T.flat (xs.take k ++ news) ++ (Builtin.zeroCells z.cells (grownCap w (k + m) k T.e - (k + m))).toList).toArray T.e)
    have S3 : Sat s _ (sep (Row T (some w.heap.size) (grownCap w (k + m) k T.e) (xs.take k ++ news)) (stars R)) :=
      S2.mono fun _ y => sep_mono (Row_mk T w.heap.size _ (xs.take k ++ news) _ (0, 0) (by rw [hlx]; exact hgc1) hgc2 (by rw [hlen]; exact Nat.le_refl _) (free_zero _ _)) (fun _ y => y) y
    have hcells : (T.flat (xs.take k ++ news) ++ (Builtin.zeroCells z.cells (grownCap w (k + m) k T.e - (k + m))).toList).toArray = (T.flat (xs.take k)).toArray ++ (T.flat news).toArray ++ Builtin.zeroCells z.cells (grownCap w (k + m) k T.e - (k + m)) := by
      apply Array.ext'
      simp [T.flat_app]
    rw [hcells] at S3
    exact S3

/-- What x[l:] reads. -/
theorem Reads_low {H' : List HP} {T : Ty α} {g cap l z : Nat} {xs : List α} (pk : Pick H (Row T (some g) cap xs) H') (hl : l ≤ xs.length) (hz : z = T.sz) : Reads s H (some (lowAt g 0 cap l z)) (T.flat (xs.drop l)) := by
  subst hz
  by_cases hc : cap = l
  · intro w hs
    have hle := (Row_know pk w hs).1
    have : xs.drop l = [] := List.drop_of_length_le (by omega)
    rw [this]
    exact fun j u hj => by simp [Ty.flat] at hj
  · have := Reads_row_from (s := s) pk l (l * T.sz) (xs.drop l).length rfl
    rw [List.take_of_length_le (Nat.le_refl _)] at this
    simpa [lowAt, hc] using this

theorem Reads_take {H' : List HP} {T : Ty α} {a : Option Nat} {cap : Nat} {xs : List α} (k : Nat) (pk : Pick H (Row T a cap xs) H') : Reads s H (sl a) (T.flat (xs.take k)) := by
  intro w hs
  have h := Reads_row pk w hs
  cases a with
  | none =>
    obtain ⟨_, rfl⟩ := (Row_know pk w hs).2.2 rfl
    simp [sl, Ty.flat]
  | some g =>
    refine fun j u hj => h j u ?_
    rw [← T.flat_take] at hj
    have := (List.getElem?_eq_some_iff.1 hj).1
    rw [List.getElem?_take_of_lt (by rw [List.length_take] at this; omega)] at hj
    exact hj
end
end Go.Proofs.Ytbaecpddhdeapaa.SL
