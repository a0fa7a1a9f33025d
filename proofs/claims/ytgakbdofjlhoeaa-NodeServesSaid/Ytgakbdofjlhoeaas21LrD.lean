/- The data of package lru: a ring of things, a cache in memory. -/
import Derived.Test.YtgakbdofjlhoeaaSLM
namespace Go.Proofs.Ytgakbdofjlhoeaa.SL
open Go Go.RowKit

structure ItemV where
  ep : Int
  ix : Int
  th : Bool
  tx : ByteArray
  asOf : Int
structure It where
  key : ByteArray
  val : ItemV
  size : Int
structure Th where
  b : Nat
  it : It

abbrev ThP (t : Th) (later old : Option Nat) : HP := pt t.b (.cells #[.string t.it.key, .int .i64 t.it.val.ep, .int .i64 t.it.val.ix, .bool t.it.val.th, .string t.it.val.tx, .int .i64 t.it.val.asOf, .int .i64 t.it.size, .pointer (sl later), .pointer (sl old)] 120 (0, 0))
def hdO (L : List Th) (nx : Option Nat) : Option Nat := match L with | [] => nx | t :: _ => some t.b
def ltO (p : Option Nat) : List Th → Option Nat
  | [] => p
  | t :: l => ltO (some t.b) l
def Seg : Option Nat → List Th → Option Nat → List HP
  | _, [], _ => []
  | p, t :: l, nx => ThP t p (hdO l nx) :: Seg (some t.b) l nx
def SegP (p : Option Nat) (L : List Th) (nx : Option Nat) : HP := stars (Seg p L nx)

theorem hdO_app (A B : List Th) (nx : Option Nat) : hdO (A ++ B) nx = hdO A (hdO B nx) := by cases A <;> rfl
theorem ltO_app (p : Option Nat) : ∀ (A B : List Th), ltO p (A ++ B) = ltO (ltO p A) B
  | [], _ => rfl
  | t :: l, B => by simp only [List.cons_append, ltO]; exact ltO_app _ l B
theorem Seg_app : ∀ (A B : List Th) (p nx : Option Nat), Seg p (A ++ B) nx = Seg p A (hdO B nx) ++ Seg (ltO p A) B nx
  | [], B, p, nx => rfl
  | t :: l, B, p, nx => by simp only [List.cons_append, Seg, ltO, Seg_app l B, hdO_app]
theorem SegP_split {A B : List Th} {p nx : Option Nat} : Ent [SegP p (A ++ B) nx] [SegP p A (hdO B nx), SegP (ltO p A) B nx] := fun h hh => by
  have := sep_emp_out hh
  unfold SegP at this
  rw [Seg_app] at this
  exact sep_mono (fun _ y => y) (fun _ y => sep_emp y) (stars_append.1 this)
theorem SegP_join {A B : List Th} {p nx : Option Nat} : Ent [SegP p A (hdO B nx), SegP (ltO p A) B nx] [SegP p (A ++ B) nx] := fun h hh => by
  refine sep_emp ?_
  unfold SegP
  rw [Seg_app]
  exact stars_append.2 (sep_mono (fun _ y => y) (fun _ y => sep_emp_out y) hh)
theorem SegP_cons {t : Th} {l : List Th} {p nx : Option Nat} : Ent [SegP p (t :: l) nx] [ThP t p (hdO l nx), SegP (some t.b) l nx] := fun _ hh =>
  sep_mono (fun _ y => y) (fun _ y => sep_emp y) (sep_emp_out (p := SegP p (t :: l) nx) hh)
theorem SegP_push {t : Th} {l : List Th} {p nx : Option Nat} : Ent [ThP t p (hdO l nx), SegP (some t.b) l nx] [SegP p (t :: l) nx] := fun _ hh =>
  sep_emp (p := SegP p (t :: l) nx) (sep_mono (fun _ y => y) (fun _ y => sep_emp_out y) hh)
theorem SegP_nil {p nx : Option Nat} : Ent [] [SegP p [] nx] := fun _ hh => sep_emp (p := SegP p [] nx) hh
theorem SegP_last {u : Th} {A : List Th} {p nx : Option Nat} : Ent [SegP p (A ++ [u]) nx] [SegP p A (some u.b), ThP u (ltO p A) nx] := fun h hh => by
  have := SegP_split (B := [u]) h hh
  refine sep_mono (fun _ y => y) (fun q y => ?_) this
  have y2 := SegP_cons q y
  exact sep_mono (fun _ z => z) (fun q z => (sep_emp_out z : stars [] q)) y2
theorem SegP_addlast {u : Th} {A : List Th} {p nx : Option Nat} : Ent [SegP p A (some u.b), ThP u (ltO p A) nx] [SegP p (A ++ [u]) nx] := fun h hh => by
  refine SegP_join (B := [u]) h ?_
  refine sep_mono (fun _ y => y) (fun q y => ?_) hh
  refine SegP_push q ?_
  exact sep_mono (fun _ z => z) (fun q z => (SegP_nil q z)) y

/-! what a cache says -/
def szs (L : List It) : Int := (L.map (·.size)).sum
def keysOf (L : List It) : List ByteArray := L.map (·.key)
def itsOf (L : List Th) : List It := L.map (·.it)
def findK (k : ByteArray) (L : List It) : Option It := L.find? (fun t => decide (t.key = k))
def dropK (k : ByteArray) (L : List It) : List It := L.eraseP (fun t => decide (t.key = k))
/-- How many stay, when lim is the most. -/
def stay (lim : Int) (L : List It) : Nat → Nat
  | 0 => 0
  | j + 1 => if lim < szs (L.take (j + 1)) then stay lim L j else j + 1
def goneFrom (L : List It) (j : Nat) : List ByteArray := (keysOf (L.drop j)).reverse

theorem szs_cons (x : It) (L : List It) : szs (x :: L) = x.size + szs L := by simp [szs]
theorem szs_app (A B : List It) : szs (A ++ B) = szs A + szs B := by simp [szs]
theorem szs_nonneg {L : List It} (h : ∀ t ∈ L, 0 ≤ t.size) : 0 ≤ szs L := by
  induction L with
  | nil => simp [szs]
  | cons x l ih => rw [szs_cons]; have := h x (by simp); have := ih fun t ht => h t (by simp [ht]); omega
theorem stay_le (lim : Int) (L : List It) : ∀ j, stay lim L j ≤ j
  | 0 => Nat.le_refl _
  | j + 1 => by unfold stay; split; exact Nat.le_succ_of_le (stay_le lim L j); exact Nat.le_refl _
theorem stay_fits (lim : Int) (L : List It) (h0 : 0 ≤ lim) : ∀ j, szs (L.take (stay lim L j)) ≤ lim
  | 0 => by simpa [stay, szs] using h0
  | j + 1 => by unfold stay; split; exact stay_fits lim L h0 j; omega
theorem dropK_nodup {k : ByteArray} {L : List It} (h : (keysOf L).Nodup) : (keysOf (dropK k L)).Nodup := by
  exact List.Nodup.sublist ((List.eraseP_sublist).map _) h
theorem dropK_mem {k : ByteArray} {L : List It} {t : It} (h : t ∈ dropK k L) : t ∈ L := List.mem_of_mem_eraseP h
theorem dropK_szs {k : ByteArray} {L : List It} (h : ∀ t ∈ L, 0 ≤ t.size) : szs (dropK k L) ≤ szs L := by
  induction L with
  | nil => simp [dropK]
  | cons x l ih =>
    have hx := h x (by simp)
    have := ih fun t ht => h t (by simp [ht])
    simp only [dropK, List.eraseP_cons] at this ⊢
    cases decide (x.key = k)
    · simp only [cond_false, szs_cons]; omega
    · simp only [cond_true, szs_cons]; omega

/-- What holds of a cache's things. -/
structure LOk (L : List It) (room kept : Int) : Prop where
  pos : ∀ t ∈ L, 0 ≤ t.size
  kp : 0 ≤ kept
  fit : szs L + kept ≤ room
  top : room ≤ 9223372036854775807
  nd : (keysOf L).Nodup

theorem LOk.drop {L : List It} {room kept : Int} (h : LOk L room kept) (k : ByteArray) : LOk (dropK k L) room kept where
  pos := fun t ht => h.pos t (dropK_mem ht)
  kp := h.kp
  fit := by have := dropK_szs (k := k) h.pos; have := h.fit; omega
  top := h.top
  nd := dropK_nodup h.nd
theorem szs_take {L : List It} (h : ∀ t ∈ L, 0 ≤ t.size) (j : Nat) : szs (L.take j) ≤ szs L := by
  have e : szs L = szs (L.take j) + szs (L.drop j) := by rw [← szs_app, List.take_append_drop]
  have := szs_nonneg (L := L.drop j) fun t ht => h t (List.mem_of_mem_drop ht)
  omega
theorem LOk.take {L : List It} {room kept : Int} (h : LOk L room kept) (j : Nat) : LOk (L.take j) room kept where
  pos := fun t ht => h.pos t (List.mem_of_mem_take ht)
  kp := h.kp
  fit := by have := szs_take h.pos j; have := h.fit; omega
  top := h.top
  nd := List.Nodup.sublist ((List.take_sublist j L).map _) h.nd
theorem dropK_gone {k : ByteArray} {L : List It} (h : (keysOf L).Nodup) : k ∉ keysOf (dropK k L) := by
  induction L with
  | nil => simp [dropK, keysOf]
  | cons x l ih =>
    simp only [keysOf, List.map_cons, List.nodup_cons] at h
    by_cases hk : x.key = k
    · simp only [dropK, List.eraseP_cons, hk, decide_true, cond_true]
      exact hk ▸ h.1
    · have := ih h.2
      simp only [dropK, List.eraseP_cons, hk, decide_false, cond_false, keysOf, List.map_cons, List.mem_cons, not_or] at this ⊢
      exact ⟨Ne.symm hk, this⟩
/-- What Put does. -/
def putR (L : List It) (room kept : Int) (t : It) : List ByteArray × Bool × List It :=
  if t.size < 0 ∨ room - kept < t.size then ([], false, dropK t.key L)
  else (goneFrom (dropK t.key L) (stay (room - t.size - kept) (dropK t.key L) (dropK t.key L).length), true, t :: (dropK t.key L).take (stay (room - t.size - kept) (dropK t.key L) (dropK t.key L).length))
def resR (L : List It) (room kept n : Int) : List ByteArray × Bool × List It × Int :=
  if n < 0 ∨ room - kept < n then ([], false, L, kept)
  else (goneFrom L (stay (room - n - kept) L L.length), true, L.take (stay (room - n - kept) L L.length), kept + n)
def relR (kept n : Int) : Int := if 0 < n then kept - min n kept else kept
/-- What Get leaves. -/
def getR (L : List It) (k : ByteArray) : List It := match findK k L with
  | none => L
  | some t => t :: dropK k L
theorem keys_take {L : List It} {j : Nat} {k : ByteArray} (h : k ∈ keysOf (L.take j)) : k ∈ keysOf L := by
  obtain ⟨t, ht, e⟩ := List.mem_map.1 h
  exact List.mem_map.2 ⟨t, List.mem_of_mem_take ht, e⟩
theorem LOk.put {L : List It} {room kept : Int} (h : LOk L room kept) (t : It) : LOk (putR L room kept t).2.2 room kept := by
  unfold putR
  split
  · exact h.drop _
  · rename_i hn
    have h1 := h.drop t.key
    have h2 := h1.take (stay (room - t.size - kept) (dropK t.key L) (dropK t.key L).length)
    have h3 := stay_fits (room - t.size - kept) (dropK t.key L) (by omega) (dropK t.key L).length
    refine ⟨fun x hx => ?_, h.kp, ?_, h.top, ?_⟩
    · rcases List.mem_cons.1 hx with rfl | hx
      · omega
      · exact h2.pos x hx
    · rw [szs_cons]; omega
    · show (t.key :: keysOf _).Nodup
      rw [List.nodup_cons]
      exact ⟨fun hm => dropK_gone h.nd (keys_take hm), h2.nd⟩
theorem LOk.res {L : List It} {room kept : Int} (h : LOk L room kept) (n : Int) : LOk (resR L room kept n).2.2.1 room (resR L room kept n).2.2.2 := by
  unfold resR
  split
  · exact h
  · rename_i hn
    have h2 := h.take (stay (room - n - kept) L L.length)
    have h3 := stay_fits (room - n - kept) L (by omega) L.length
    have := h.kp
    exact ⟨h2.pos, by show 0 ≤ kept + n; omega, by show szs (L.take (stay (room - n - kept) L L.length)) + (kept + n) ≤ room; omega, h.top, h2.nd⟩
theorem LOk.rel {L : List It} {room kept : Int} (h : LOk L room kept) (n : Int) : LOk L room (relR kept n) := by
  have h1 := h.kp; have h2 := h.fit
  unfold relR
  split
  · exact ⟨h.pos, by omega, by omega, h.top, h.nd⟩
  · exact h
theorem szs_drop {L : List It} {k : ByteArray} {t : It} (h : findK k L = some t) : szs (dropK k L) + t.size = szs L := by
  induction L with
  | nil => simp [findK] at h
  | cons x l ih =>
    unfold findK at h
    rw [List.find?_cons] at h
    by_cases hk : x.key = k
    · simp only [hk, decide_true, Option.some.injEq] at h; subst h
      simp only [dropK, List.eraseP_cons, hk, decide_true, cond_true, szs_cons]; omega
    · simp only [hk, decide_false] at h
      have := ih h
      simp only [dropK, List.eraseP_cons, hk, decide_false, cond_false, szs_cons] at this ⊢; omega
theorem findK_key {L : List It} {k : ByteArray} {t : It} (h : findK k L = some t) : t.key = k ∧ t ∈ L := by
  have h1 := List.find?_some h
  exact ⟨by simpa using h1, List.mem_of_find?_eq_some h⟩
theorem LOk.get {L : List It} {room kept : Int} (h : LOk L room kept) (k : ByteArray) : LOk (getR L k) room kept := by
  unfold getR
  split
  · exact h
  · rename_i t hf
    have h1 := h.drop k
    have h2 := szs_drop hf
    have h3 := findK_key hf
    have := h.fit
    refine ⟨fun x hx => ?_, h.kp, by rw [szs_cons]; omega, h.top, ?_⟩
    · rcases List.mem_cons.1 hx with rfl | hx
      · exact h.pos x h3.2
      · exact h1.pos x hx
    · show (t.key :: keysOf _).Nodup
      rw [List.nodup_cons]
      exact ⟨h3.1 ▸ dropK_gone h.nd, h1.nd⟩
theorem LOk.nil {room kept : Int} (h1 : 0 ≤ kept) (h2 : kept ≤ room) (h3 : room ≤ 9223372036854775807) : LOk [] room kept := ⟨by simp, h1, by simpa [szs] using h2, h3, by simp [keysOf]⟩
/-! how long the lists grow -/
theorem dropK_len (k : ByteArray) (L : List It) : (dropK k L).length ≤ L.length := List.length_eraseP_le
theorem putR_len (L : List It) (room kept : Int) (t : It) : (putR L room kept t).2.2.length ≤ L.length + 1 := by
  have := dropK_len t.key L
  unfold putR
  split
  · simp only; omega
  · simp only [List.length_cons, List.length_take]; omega
theorem getR_len {L : List It} {k : ByteArray} : (getR L k).length ≤ L.length + 1 := by
  have := dropK_len k L
  unfold getR
  split
  · omega
  · simp; omega
theorem resR_len (L : List It) (room kept n : Int) : (resR L room kept n).2.2.1.length ≤ L.length := by
  unfold resR; split
  · simp
  · simp only [List.length_take]; omega

theorem itsOf_app (A B : List Th) : itsOf (A ++ B) = itsOf A ++ itsOf B := by simp [itsOf]
theorem itsOf_len (T : List Th) : (itsOf T).length = T.length := by simp [itsOf]
theorem goneFrom_at {T D : List Th} {j : Nat} (h : j = T.length) : goneFrom (itsOf (T ++ D)) j = (keysOf (itsOf D)).reverse := by
  subst h; unfold goneFrom; rw [itsOf_app, ← itsOf_len T, List.drop_left]
theorem take_at {T D : List Th} {j : Nat} (h : j = T.length) : (itsOf (T ++ D)).take j = itsOf T := by
  subst h; rw [itsOf_app, ← itsOf_len T, List.take_left]

def StrT : Ty ByteArray := { e := 9, sz := 1, bytes := 16, enc := fun b => [.string b], len := fun _ => rfl, one := fun x u h => by simp at h; subst h; rfl, pos := by decide }

/-- The map knows the things. -/
structure MapOf (kv : List (ByteArray × Value)) (L : List Th) : Prop where
  nd : (kv.map (·.1)).Nodup
  at_ : ∀ k, mget k kv = (L.find? (fun t => decide (t.it.key = k))).map fun t => Value.pointer (some ⟨t.b, 0, none⟩)

theorem mget_none {k : ByteArray} : ∀ {kv : List (ByteArray × Value)}, k ∉ kv.map (·.1) → mget k kv = none
  | [], _ => rfl
  | (x, v) :: l, h => by
    simp only [List.map_cons, List.mem_cons, not_or] at h
    simp only [mget, h.1, if_false]
    exact mget_none h.2
theorem mget_mdel {k k' : ByteArray} : ∀ {kv : List (ByteArray × Value)}, (kv.map (·.1)).Nodup → mget k' (mdel k kv) = if k' = k then none else mget k' kv
  | [], _ => by simp [mdel, mget]
  | (x, v) :: l, h => by
    simp only [List.map_cons, List.nodup_cons] at h
    by_cases hk : k = x
    · subst hk
      simp only [mdel, if_true, mget]
      by_cases h2 : k' = k
      · subst h2; simp [mget_none h.1]
      · simp [h2]
    · simp only [mdel, hk, if_false, mget]
      rw [mget_mdel h.2]
      by_cases h2 : k' = x
      · subst h2; simp [Ne.symm hk]
      · simp [h2]
theorem mget_mput {k k' : ByteArray} {u : Value} : ∀ {kv : List (ByteArray × Value)}, mget k' (mput k u kv) = if k' = k then some u else mget k' kv
  | [] => by simp [mput, mget]
  | (x, v) :: l => by
    by_cases hk : k = x
    · subst hk
      simp only [mput, if_true, mget]
      by_cases h2 : k' = k <;> simp [h2]
    · simp only [mput, hk, if_false, mget]
      rw [mget_mput]
      by_cases h2 : k' = x
      · subst h2; simp [Ne.symm hk]
      · simp [h2]
theorem mdel_keys {k : ByteArray} (kv : List (ByteArray × Value)) : List.Sublist ((mdel k kv).map (·.1)) (kv.map (·.1)) := by
  induction kv with
  | nil => exact .slnil
  | cons x l ih =>
    simp only [mdel]
    split
    · exact List.sublist_cons_self _ _
    · exact ih.cons_cons _
theorem mput_keys {k : ByteArray} {u : Value} : ∀ {kv : List (ByteArray × Value)}, (kv.map (·.1)).Nodup → ((mput k u kv).map (·.1)).Nodup ∧ ∀ x, x ∈ (mput k u kv).map (·.1) → x = k ∨ x ∈ kv.map (·.1)
  | [], _ => by simp [mput]
  | (x, v) :: l, h => by
    simp only [List.map_cons, List.nodup_cons] at h
    by_cases hk : k = x
    · subst hk; simp only [mput, if_true, List.map_cons, List.nodup_cons]
      exact ⟨h, fun x hx => .inr hx⟩
    · simp only [mput, hk, if_false, List.map_cons, List.nodup_cons]
      obtain ⟨i1, i2⟩ := mput_keys (k := k) (u := u) h.2
      refine ⟨⟨fun hx => ?_, i1⟩, fun y hy => ?_⟩
      · rcases i2 _ hx with e | e
        · exact hk e.symm
        · exact h.1 e
      · rcases List.mem_cons.1 hy with e | e
        · exact .inr (by simp [e])
        · rcases i2 _ e with e | e
          · exact .inl e
          · exact .inr (by simp [e])

theorem MapOf.find {kv : List (ByteArray × Value)} {L : List Th} (_h : MapOf kv L) {k : ByteArray} : (L.find? (fun t => decide (t.it.key = k))).isSome = (findK k (itsOf L)).isSome := by
  simp [findK, itsOf, List.find?_map, Function.comp_def]

/-- One of the things with its key: the things ahead of it have others. -/
theorem found {L : List Th} {k : ByteArray} {t : Th} (h : L.find? (fun t => decide (t.it.key = k)) = some t) : ∃ A B, L = A ++ t :: B ∧ t.it.key = k ∧ ∀ x ∈ A, x.it.key ≠ k := by
  obtain ⟨h1, A, B, h2, h3⟩ := List.find?_eq_some_iff_append.1 h
  exact ⟨A, B, h2, by simpa using h1, fun x hx => by simpa using h3 x hx⟩

theorem findT (k : ByteArray) (T : List Th) : findK k (itsOf T) = (T.find? (fun t => decide (t.it.key = k))).map (·.it) := by
  unfold findK itsOf; rw [List.find?_map]; rfl
theorem dropT {A B : List Th} {x : Th} (h : ∀ y ∈ A, y.it.key ≠ x.it.key) : dropK x.it.key (itsOf (A ++ x :: B)) = itsOf (A ++ B) := by
  unfold dropK itsOf
  rw [List.map_append, List.map_append, List.eraseP_append_right _ (fun y hy => by
    obtain ⟨z, hz, rfl⟩ := List.mem_map.1 hy
    simpa using h z hz)]
  simp
theorem drop_at {A B : List It} {t : It} (h : ∀ x ∈ A, x.key ≠ t.key) : dropK t.key (A ++ t :: B) = A ++ B := by
  unfold dropK
  rw [List.eraseP_append_right _ (fun x hx => by simpa using h x hx)]
  simp
theorem drop_none {L : List It} {k : ByteArray} (h : findK k L = none) : dropK k L = L := by
  unfold dropK; unfold findK at h
  rw [List.eraseP_of_forall_not]
  intro x hx
  have := List.find?_eq_none.1 h x hx
  simpa using this

theorem MapOf.cut {kv : List (ByteArray × Value)} {A B : List Th} {t : Th} (h : MapOf kv (A ++ t :: B)) (hnd : (keysOf (itsOf (A ++ t :: B))).Nodup) : MapOf (mdel t.it.key kv) (A ++ B) where
  nd := List.Nodup.sublist (mdel_keys kv) h.nd
  at_ := fun k => by
    rw [mget_mdel h.nd, h.at_]
    have hnd' : ((A ++ t :: B).map (fun t => t.it.key)).Nodup := by simpa [keysOf, itsOf, Function.comp_def] using hnd
    rw [List.map_append, List.map_cons, List.nodup_append] at hnd'
    obtain ⟨_, n2, n3⟩ := hnd'
    rw [List.nodup_cons] at n2
    by_cases hk : k = t.it.key
    · subst hk
      have : (A ++ B).find? (fun x => decide (x.it.key = t.it.key)) = none := by
        rw [List.find?_eq_none]
        intro x hx
        simp only [decide_eq_true_eq]
        intro e
        rcases List.mem_append.1 hx with hx | hx
        · exact n3 x.it.key (List.mem_map.2 ⟨x, hx, rfl⟩) t.it.key (by simp) e
        · exact n2.1 (List.mem_map.2 ⟨x, hx, e⟩)
      simp [this]
    · rw [if_neg hk]
      congr 1
      rw [List.find?_append, List.find?_append, List.find?_cons]
      simp [Ne.symm hk]
theorem MapOf.put {kv : List (ByteArray × Value)} {L : List Th} {t : Th} (h : MapOf kv L) : MapOf (mput t.it.key (.pointer (some ⟨t.b, 0, none⟩)) kv) (t :: L) where
  nd := (mput_keys h.nd).1
  at_ := fun k => by
    rw [mget_mput, h.at_, List.find?_cons]
    by_cases hk : k = t.it.key
    · subst hk; simp
    · simp [hk, Ne.symm hk]
theorem MapOf.turn {kv : List (ByteArray × Value)} {A B : List Th} {t : Th} (h : MapOf kv (A ++ t :: B)) (hA : ∀ x ∈ A, x.it.key ≠ t.it.key) : MapOf kv (t :: (A ++ B)) where
  nd := h.nd
  at_ := fun k => by
    rw [h.at_]
    congr 1
    rw [List.find?_append, List.find?_cons, List.find?_cons, List.find?_append]
    by_cases hk : t.it.key = k
    · subst hk
      have : A.find? (fun x => decide (x.it.key = t.it.key)) = none := by
        rw [List.find?_eq_none]; intro x hx; simpa using hA x hx
      simp [this]
    · simp [hk]
theorem MapOf.nil : MapOf [] [] := ⟨by simp, fun k => by simp [mget]⟩

theorem LOk.rng {A B : List Th} {x : Th} {room kept : Int} (hI : LOk (itsOf (A ++ x :: B)) room kept) : (-9223372036854775808 ≤ szs (itsOf (A ++ B)) ∧ szs (itsOf (A ++ B)) ≤ 9223372036854775807) ∧ (-9223372036854775808 ≤ szs (itsOf (x :: (A ++ B))) ∧ szs (itsOf (x :: (A ++ B))) ≤ 9223372036854775807) := by
  have h1 := szs_nonneg hI.pos
  have h2 := hI.fit
  have h3 := hI.kp
  have h4 := hI.top
  have h5 := hI.pos x.it (by simp [itsOf])
  have h6 := szs_nonneg (L := itsOf (A ++ B)) fun t ht => hI.pos t (by
    rw [itsOf_app] at ht ⊢
    rcases List.mem_append.1 ht with ht | ht
    · exact List.mem_append_left _ ht
    · exact List.mem_append_right _ (List.mem_cons_of_mem _ ht))
  have h7 : szs (itsOf (A ++ x :: B)) = szs (itsOf (A ++ B)) + x.it.size := by simp only [itsOf_app, szs_app, show itsOf (x :: B) = x.it :: itsOf B from rfl, szs_cons]; omega
  have h8 : szs (itsOf (x :: (A ++ B))) = szs (itsOf (A ++ B)) + x.it.size := by rw [show itsOf (x :: (A ++ B)) = x.it :: itsOf (A ++ B) from rfl, szs_cons]; omega
  omega
theorem szs_new (b : Nat) (key : ByteArray) (v : ItemV) (size : Int) (T : List Th) : szs (itsOf ((⟨b, ⟨key, v, size⟩⟩ : Th) :: T)) = size + szs (itsOf T) := by
  rw [show itsOf ((⟨b, ⟨key, v, size⟩⟩ : Th) :: T) = ⟨key, v, size⟩ :: itsOf T from rfl, szs_cons]
abbrev CacheC (g : Nat) (f l : Option Nat) (sum room kept : Int) (mv : Value) : HP := pt g (.cells #[.pointer (sl f), .pointer (sl l), .int .i64 sum, .int .i64 room, .int .i64 kept, mv] 103 (0, 0))
abbrev KS : KTy ByteArray := KStr 9
def CacheRaw (g m : Nat) (L : List Th) (room kept : Int) (kv : List (ByteArray × Value)) : List HP :=
  [CacheC g (hdO L none) (ltO none L) (szs (itsOf L)) room kept (.map (some m)), SegP none L none, Mp KS m kv]
/-- A cache. -/
def CacheP (g : Nat) (L : List It) (room kept : Int) : HP := fun h => ∃ m T kv, L = itsOf T ∧ MapOf kv T ∧ stars (CacheRaw g m T room kept kv) h
theorem CacheP_opens (g : Nat) (L : List It) (room kept : Int) : Opens (CacheP g L room kept) fun l => ∃ m T kv, L = itsOf T ∧ MapOf kv T ∧ l = CacheRaw g m T room kept kv := by
  rintro h ⟨m, T, kv, e, h1, hs⟩
  exact ⟨_, ⟨m, T, kv, e, h1, rfl⟩, hs⟩
theorem load_room {P : Program} {s : World} {H R : List HP} {t : TypeId} {g : Nat} {L : List It} {room kept : Int} (ht : P.underlying t = some (.int .i64)) (pk : Pick H (CacheP g L room kept) R) : LoadJ P s H t ⟨g, 3, none⟩ (.int .i64 room) :=
  load_opens (CacheP_opens _ _ _ _) pk (by rintro _ ⟨m, T, kv, _, _, rfl⟩; exact load_cell ht rfl .here (.s (.s (.s .z))))
theorem load_kept {P : Program} {s : World} {H R : List HP} {t : TypeId} {g : Nat} {L : List It} {room kept : Int} (ht : P.underlying t = some (.int .i64)) (pk : Pick H (CacheP g L room kept) R) : LoadJ P s H t ⟨g, 4, none⟩ (.int .i64 kept) :=
  load_opens (CacheP_opens _ _ _ _) pk (by rintro _ ⟨m, T, kv, _, _, rfl⟩; exact load_cell ht rfl .here (.s (.s (.s (.s .z)))))
theorem load_sum {P : Program} {s : World} {H R : List HP} {t : TypeId} {g : Nat} {L : List It} {room kept : Int} (ht : P.underlying t = some (.int .i64)) (pk : Pick H (CacheP g L room kept) R) : LoadJ P s H t ⟨g, 2, none⟩ (.int .i64 (szs L)) :=
  load_opens (CacheP_opens _ _ _ _) pk (by rintro _ ⟨m, T, kv, rfl, _, rfl⟩; exact load_cell ht rfl .here (.s (.s .z)))
theorem CacheP_close {g m : Nat} {T : List Th} {room kept : Int} {kv : List (ByteArray × Value)} (h1 : MapOf kv T) : Imp (CacheRaw g m T room kept kv) [CacheP g (itsOf T) room kept] := fun h hh =>
  ⟨h, fun _ _ x => x, sep_emp ⟨m, T, kv, rfl, h1, hh⟩⟩
end Go.Proofs.Ytgakbdofjlhoeaa.SL
