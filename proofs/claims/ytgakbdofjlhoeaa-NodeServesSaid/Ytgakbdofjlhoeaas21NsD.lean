/- NodeServes: the log, what was read of it, what holds of both nodes. -/
import Derived.Test.Ytgakbdofjlhoeaas21Fb
import Derived.Test.Ytgakbdofjlhoeaas21NfD
namespace Go.Proofs.Ytgakbdofjlhoeaa.SL
open Go Go.RowKit

abbrev GLog := List (ByteArray × ByteArray)
/-- What a key has behind the first n entries. -/
def atN (G : GLog) (key : ByteArray) : Nat → ItemV
  | 0 => zeroI
  | n + 1 => match G[n]? with
    | some e => if e.1 = key then ⟨1, ((n + 1 : Nat) : Int), true, e.2, 0⟩ else atN G key n
    | none => atN G key n
theorem atN_app (G : GLog) (e : ByteArray × ByteArray) (key : ByteArray) : ∀ n, n ≤ G.length → atN (G ++ [e]) key n = atN G key n
  | 0, _ => rfl
  | n + 1, h => by
    have ih := atN_app G e key n (by omega)
    simp only [atN, List.getElem?_append_left (show n < G.length by omega), ih]
theorem atN_skip (G : GLog) (key : ByteArray) (a : Nat) : ∀ w, a ≤ w → (∀ j, a ≤ j → j < w → ∀ e, G[j]? = some e → e.1 ≠ key) → atN G key w = atN G key a
  | 0, h, _ => by have : a = 0 := by omega
                  rw [this]
  | w + 1, h, hn => by
    by_cases hw : a = w + 1
    · rw [hw]
    · have ih := atN_skip G key a w (by omega) fun j h1 h2 => hn j h1 (by omega)
      simp only [atN]
      cases he : G[w]? with
      | none => simp only; exact ih
      | some e =>
        have := hn w (by omega) (by omega) e he
        simp only [this, if_false]; exact ih
theorem atN_end (G : GLog) (key : ByteArray) {n : Nat} (h : G.length ≤ n) : atN G key n = atN G key G.length :=
  atN_skip G key _ n h fun j h1 _ e he => by
    rw [List.getElem?_eq_none h1] at he; cases he
theorem atN_tx {G : GLog} (hs : ∀ e ∈ G, e.2.size ≤ 1000) (key : ByteArray) : ∀ n, (atN G key n).tx.size ≤ 1000
  | 0 => by show (ByteArray.size ⟨#[]⟩) ≤ 1000; decide
  | n + 1 => by
    have ih := atN_tx hs key n
    simp only [atN]
    split
    · rename_i e he
      split
      · exact hs e (List.mem_of_getElem? he)
      · exact ih
    · exact ih
def valAt (v : ItemV) (a : Int) : ItemV := { v with asOf := a }
theorem sameV_at (v : ItemV) (a : Int) : sameV (valAt v a) v = true := by simp [sameV, valAt]

def Good (G : GLog) (w : Nat) (L : List It) : Prop := ∀ t ∈ L, ∃ a : Nat, a ≤ G.length ∧ t.val = valAt (atN G t.key (max a w)) a
structure RdV where
  who : Int
  asOf : Nat
  key : ByteArray
  token : Int
  val : ItemV
structure RG (G : GLog) (r : RdV) : Prop where
  le : r.asOf ≤ G.length
  vl : r.val = atN G r.key r.asOf
  ks : r.key.size ≤ 1000
  wh : r.who = 0 ∨ r.who = 1
theorem RG.app {G : GLog} {r : RdV} (h : RG G r) (e : ByteArray × ByteArray) : RG (G ++ [e]) r :=
  ⟨by have := h.le; simp; omega, by rw [atN_app G e r.key _ h.le]; exact h.vl, h.ks, h.wh⟩
/-- What holds of one node. -/
structure NI (G : GLog) (w : Nat) (N : NodeS) (rs : List RdV) (who : Int) (k : Nat) : Prop where
  ok : NOk k N
  wl : w ≤ G.length
  good : Good G w N.items
  rd : ∀ r ∈ rs, r.who = who → r.token ≤ N.last ∧ ∀ x ∈ N.lease, x.1 = r.key → x.2.token = r.token → ∀ j, r.asOf ≤ j → j < w → ∀ e, G[j]? = some e → e.1 ≠ r.key

section
variable {G : GLog} {w : Nat} {N N' : NodeS} {rs : List RdV} {who : Int} {k k' : Nat}
theorem NI.mono (h : NI G w N rs who k) (ok' : NOk k' N') (hi : ∀ t ∈ N'.items, t ∈ N.items) (hl : N.last ≤ N'.last) (hx : ∀ x ∈ N'.lease, ∃ y ∈ N.lease, y.1 = x.1 ∧ y.2.token = x.2.token) : NI G w N' rs who k' where
  ok := ok'
  wl := h.wl
  good := fun t ht => h.good t (hi t ht)
  rd := fun r hr hw => by
    obtain ⟨h1, h2⟩ := h.rd r hr hw
    refine ⟨by omega, fun x hxm e1 e2 => ?_⟩
    obtain ⟨y, hy, f1, f2⟩ := hx x hxm
    exact h2 y hy (f1.trans e1) (f2.trans e2)
theorem NI.more (h : NI G w N rs who k) (hk : k ≤ k') : NI G w N rs who k' := { h with ok := h.ok.more hk }
theorem NI.app (h : NI G w N rs who k) (hr : ∀ r ∈ rs, RG G r) (e : ByteArray × ByteArray) : NI (G ++ [e]) w N rs who k where
  ok := h.ok
  wl := by have := h.wl; simp; omega
  good := fun t ht => by
    obtain ⟨a, h1, h2⟩ := h.good t ht
    have := h.wl
    exact ⟨a, by simp; omega, by rw [atN_app G e t.key _ (by omega)]; exact h2⟩
  rd := fun r hrm hw => by
    obtain ⟨h1, h2⟩ := h.rd r hrm hw
    have := h.wl
    exact ⟨h1, fun x hx e1 e2 j j1 j2 e' he' => h2 x hx e1 e2 j j1 j2 e' (by rwa [List.getElem?_append_left (by omega)] at he')⟩
theorem NI.read (h : NI G w N rs who k) {r : RdV} (hr : r.asOf = G.length) (ht : r.who = who → r.token ≤ N.last) : NI G w N (rs ++ [r]) who k where
  ok := h.ok
  wl := h.wl
  good := h.good
  rd := fun q hq hw => by
    rcases List.mem_append.1 hq with hq | hq
    · exact h.rd q hq hw
    · simp at hq; subst hq
      refine ⟨ht hw, fun x _ _ _ j j1 j2 => ?_⟩
      have := h.wl
      omega
theorem get_sub (key : ByteArray) (N : NodeS) : ∀ t ∈ (getN key N).2.items, t ∈ N.items := by
  unfold getN
  split
  · exact fun t h => h
  · split
    · rename_i t ht
      intro x hx
      rcases List.mem_cons.1 hx with rfl | hx
      · exact (findK_key ht).2
      · exact dropK_mem hx
    · exact fun t h => h
theorem NI.get (h : NI G w N rs who k) (key : ByteArray) : NI G w (getN key N).2 rs who (k + 1) := by
  have ho := h.ok.get key
  have hs := get_sub key N
  refine ⟨ho, h.wl, fun t ht => h.good t (hs t ht), fun r hr hw => ?_⟩
  obtain ⟨h1, h2⟩ := h.rd r hr hw
  unfold getN
  split
  · exact ⟨h1, h2⟩
  · split
    · exact ⟨h1, h2⟩
    · have hl := grantR_last key N.lease N.last
      refine ⟨by simp only; omega, fun x hx e1 e2 => ?_⟩
      simp only at hx
      unfold grantR at hx
      split at hx
      · exact h2 x hx e1 e2
      · cases hf : aget key N.lease with
        | some o => rw [hf] at hx; exact h2 x hx e1 e2
        | none =>
          rw [hf] at hx
          rcases List.mem_append.1 hx with hx | hx
          · exact h2 x hx e1 e2
          · simp at hx; subst hx
            simp only at e2; omega
theorem get_token (h : NOk k N) (key : ByteArray) : (getN key N).1.token ≤ (getN key N).2.last := by
  have h0 := h.l0
  unfold getN
  split
  · exact h0
  · split
    · exact h0
    · simp only
      unfold grantR
      split
      · exact h0
      · cases hf : aget key N.lease with
        | some o => exact h0
        | none => exact Int.le_refl _
theorem NI.hit (h : NI G w N rs who k) {key : ByteArray} (hk : (getN key N).1.kind = 1) : ∃ a : Nat, (getN key N).1.val.asOf = a ∧ a ≤ G.length ∧ sameV (getN key N).1.val (atN G key (max a w)) = true := by
  unfold getN at hk ⊢
  split
  · rename_i hm; rw [if_pos hm] at hk; simp at hk
  · rename_i hm
    rw [if_neg hm] at hk
    split
    · rename_i t ht
      have h2 := findK_key ht
      obtain ⟨a, h3, h4⟩ := h.good t h2.2
      refine ⟨a, by simp only; rw [h4]; rfl, h3, ?_⟩
      simp only
      rw [h4, h2.1]
      exact sameV_at _ _
    · rename_i ht; simp only [ht] at hk; simp at hk
theorem NI.peek (h : NI G w N rs who k) {key : ByteArray} (hk : (peekN key N).2 = true) : ∃ a : Nat, (peekN key N).1.asOf = a ∧ a ≤ G.length ∧ (peekN key N).1 = valAt (atN G key (max a w)) a := by
  unfold peekN at hk ⊢
  split
  · rename_i hm; rw [if_pos hm] at hk; simp at hk
  · rename_i hm
    rw [if_neg hm] at hk
    split
    · rename_i t ht
      have h2 := findK_key ht
      obtain ⟨a, h3, h4⟩ := h.good t h2.2
      refine ⟨a, by simp only; rw [h4]; rfl, h3, ?_⟩
      simp only
      rw [← h2.1]; exact h4
    · rename_i ht; simp only [ht] at hk; simp at hk
theorem putR_sub (L : List It) (room kept : Int) (t : It) : ∀ x ∈ (putR L room kept t).2.2, x ∈ L ∨ x = t := by
  intro x hx
  unfold putR at hx
  split at hx
  · exact .inl (dropK_mem hx)
  · rcases List.mem_cons.1 hx with rfl | hx
    · exact .inr rfl
    · exact .inl (dropK_mem (List.mem_of_mem_take hx))
theorem put_sub (key : ByteArray) (v : ItemV) (N : NodeS) : ∀ x ∈ (putN key v N).2.items, x ∈ N.items ∨ x = ⟨key, v, sizeI key v⟩ := by
  have h' : ∀ x ∈ (putN' key v N).2.items, x ∈ N.items ∨ x = ⟨key, v, sizeI key v⟩ := putR_sub _ _ _ _
  unfold putN
  split
  · split
    · exact fun x hx => .inl hx
    · exact h'
  · exact h'
theorem put_rest (key : ByteArray) (v : ItemV) (N : NodeS) : (putN key v N).2.lease = N.lease ∧ (putN key v N).2.last = N.last := by
  unfold putN
  split
  · split <;> exact ⟨rfl, rfl⟩
  · exact ⟨rfl, rfl⟩
theorem NI.put (h : NI G w N rs who k) {key : ByteArray} {a : Nat} {v : ItemV} (ha : a ≤ G.length) (hv : v = valAt (atN G key (max a w)) a) : NI G w (putN key v N).2 rs who (k + 1) := by
  have h3 := put_rest key v N
  refine ⟨h.ok.put key v, h.wl, fun t ht => ?_, fun r hr hw => ?_⟩
  · rcases put_sub key v N t ht with h1 | rfl
    · exact h.good t h1
    · exact ⟨a, ha, hv⟩
  · obtain ⟨h1, h2⟩ := h.rd r hr hw
    rw [h3.1, h3.2]
    exact ⟨h1, h2⟩
theorem use_mem {key : ByteArray} {token : Int} {L : List (ByteArray × One)} (h : (useR key token L).1 = true) : ∃ o, (key, o) ∈ L ∧ o.token = token := by
  have mem : ∀ (L : List (ByteArray × One)) o, aget key L = some o → (key, o) ∈ L := by
    intro L
    induction L with
    | nil => intro o h; cases h
    | cons x l ih =>
      intro o h
      simp only [aget] at h
      split at h
      · rename_i e; simp at h; subst h; simp [e]
      · exact List.mem_cons_of_mem _ (ih o h)
  unfold useR at h
  cases hf : aget key L with
  | none => rw [hf] at h; simp at h
  | some o =>
    rw [hf] at h
    simp only at h
    split at h
    · rename_i e; exact ⟨o, mem L o hf, e⟩
    · simp at h
theorem NI.fill (h : NI G w N rs who k) {r : RdV} (hr : r ∈ rs) (hw : r.who = who) (hg : RG G r) : NI G w (fillN r.key r.token (valAt r.val r.asOf) N).2 rs who (k + 1) := by
  unfold fillN
  split
  · rename_i hu
    obtain ⟨o, ho, ht⟩ := use_mem hu
    have hno := (h.rd r hr hw).2 (r.key, o) ho rfl ht
    have hsub : NI G w { N with lease := (useR r.key r.token N.lease).2 } rs who k :=
      h.mono (h.ok.used _ _) (fun t ht => ht) (Int.le_refl _) fun x hx => ⟨x, (useR_sub _ _ _).subset hx, rfl, rfl⟩
    refine hsub.put hg.le ?_
    rw [hg.vl]
    congr 1
    by_cases hle : w ≤ r.asOf
    · rw [Nat.max_eq_left hle]
    · rw [Nat.max_eq_right (by omega)]
      exact (atN_skip G r.key r.asOf w (by omega) hno).symm
  · exact h.more (Nat.le_succ _)
theorem find_unique {L : List It} (h : (keysOf L).Nodup) {t : It} (ht : t ∈ L) : findK t.key L = some t := by
  induction L with
  | nil => cases ht
  | cons x l ih =>
    simp only [keysOf, List.map_cons, List.nodup_cons] at h
    rcases List.mem_cons.1 ht with rfl | h2
    · simp [findK]
    · have hx : ¬ x.key = t.key := fun e => h.1 (e ▸ List.mem_map_of_mem (f := It.key) h2)
      rw [findK_cons hx]
      exact ih h.2 h2
theorem adel_gone {β : Type} {key : ByteArray} {L : List (ByteArray × β)} (h : (L.map (·.1)).Nodup) : ∀ x ∈ adel key L, x.1 ≠ key := by
  induction L with
  | nil => intro x hx; cases hx
  | cons y l ih =>
    rw [List.map_cons, List.nodup_cons] at h
    intro x hx
    simp only [adel] at hx
    split at hx
    · rename_i e
      intro e2
      exact h.1 (e ▸ e2 ▸ List.mem_map_of_mem (f := fun x : ByteArray × β => x.1) hx)
    · rename_i e
      rcases List.mem_cons.1 hx with rfl | hx
      · exact fun e2 => e e2.symm
      · exact ih h.2 x hx
theorem inv_sub (key : ByteArray) (index : Int) {L : List It} (h : (keysOf L).Nodup) : ∀ t ∈ invI key index L, t ∈ L ∧ (t.key = key → index ≤ t.val.asOf) := by
  intro t ht
  unfold invI at ht
  split at ht
  · rename_i u hu
    split at ht
    · refine ⟨dropK_mem ht, fun e => ?_⟩
      exact absurd (e ▸ List.mem_map_of_mem (f := It.key) ht) (dropK_gone h)
    · rename_i hle
      refine ⟨ht, fun e => ?_⟩
      have := find_unique h ht
      rw [e, hu] at this
      cases this
      omega
  · rename_i hu
    refine ⟨ht, fun e => ?_⟩
    have := find_unique h ht
    rw [e, hu] at this
    cases this
theorem NI.inv (h : NI G w N rs who k) {e : ByteArray × ByteArray} (he : G[w]? = some e) : NI G (w + 1) (invN e.1 ((w : Int) + 1) N) rs who k := by
  have hlt : w < G.length := (List.getElem?_eq_some_iff.1 he).1
  refine ⟨h.ok.inv e.1 _, hlt, fun t ht => ?_, fun r hr hw => ?_⟩
  · obtain ⟨h1, h2⟩ := inv_sub e.1 ((w : Int) + 1) h.ok.it.nd t ht
    obtain ⟨a, h3, h4⟩ := h.good t h1
    refine ⟨a, h3, ?_⟩
    rw [h4]
    congr 1
    by_cases hle : w + 1 ≤ a
    · rw [Nat.max_eq_left hle, Nat.max_eq_left (by omega)]
    · rw [Nat.max_eq_right (by omega), Nat.max_eq_right (by omega)]
      have hne : e.1 ≠ t.key := fun e2 => by
        have h5 := h2 e2.symm
        have h6 : t.val.asOf = a := by rw [h4]; rfl
        omega
      simp only [atN, he, hne, if_false]
  · obtain ⟨h1, h2⟩ := h.rd r hr hw
    refine ⟨h1, fun x hx e1 e2 j j1 j2 e' he' => ?_⟩
    have hx' : x ∈ adel e.1 N.lease := hx
    have hxm := (adel_sub e.1 N.lease).subset hx'
    by_cases hj : j < w
    · exact h2 x hxm e1 e2 j j1 hj e' he'
    · have : j = w := by omega
      subst this
      rw [he] at he'; cases he'
      exact fun e3 => adel_gone h.ok.ln x hx' (e1.trans e3.symm)
theorem NI.tick (h : NI G w N rs who k) : NI G w (tickN N) rs who k := h.mono h.ok.tick (fun t ht => ht) (Int.le_refl _) fun x hx => by
  obtain ⟨y, hy, e⟩ := List.mem_filterMap.1 hx
  unfold tickOne at e
  split at e
  · cases e
  · simp at e; subst e; exact ⟨y, hy, rfl, rfl⟩
theorem NI.flush (h : NI G w N rs who k) : NI G w (flushN N) rs who k := h.mono h.ok.flush (fun t ht => by cases ht) (Int.le_refl _) fun x hx => by cases hx
theorem NI.chill (h : NI G w N rs who k) (s : Int) : NI G w (coldN s N) rs who k := h.mono (h.ok.chill s) (fun t ht => ht) (Int.le_refl _) fun x hx => ⟨x, hx, rfl, rfl⟩
theorem NI.pass (h : NI G w N rs who k) (i : Int) : NI G w (passN i N) rs who k := h.mono (h.ok.pass i) (fun t ht => ht) (Int.le_refl _) fun x hx => ⟨x, hx, rfl, rfl⟩
theorem mark_rest (x : Mark) (N : NodeS) : (∀ t ∈ (markN x N).2.items, t ∈ N.items) ∧ (markN x N).2.lease = N.lease ∧ (markN x N).2.last = N.last := by
  unfold markN
  split
  · exact ⟨fun t h => h, rfl, rfl⟩
  · split
    · exact ⟨fun t h => h, rfl, rfl⟩
    · split
      · refine ⟨fun t ht => ?_, rfl, rfl⟩
        simp only at ht
        unfold resR at ht
        split at ht
        · exact ht
        · exact List.mem_of_mem_take ht
      · exact ⟨fun t h => h, rfl, rfl⟩
theorem NI.mark (h : NI G w N rs who k) (x : Mark) : NI G w (markN x N).2 rs who k := by
  obtain ⟨h1, h2, h3⟩ := mark_rest x N
  exact h.mono (h.ok.mark x) h1 (by rw [h3]; exact Int.le_refl _) fun y hy => ⟨y, by rw [h2] at hy; exact hy, rfl, rfl⟩
theorem NI.unmark (h : NI G w N rs who k) (x : Mark) : NI G w (unmarkN x N).2 rs who k := by
  have ho := h.ok.unmark x
  unfold unmarkN at ho ⊢
  split
  · rename_i hx; rw [if_pos hx] at ho
    exact h.mono ho (fun t ht => ht) (Int.le_refl _) fun y hy => ⟨y, hy, rfl, rfl⟩
  · exact h

/-! the cold one's tombstones -/
theorem aget_aput {key k : ByteArray} {u : Int} : ∀ {L : List (ByteArray × Int)}, aget k (aput key u L) = if k = key then some u else aget k L
  | [] => by simp [aput, aget]
  | (x, v) :: l => by
    simp only [aput]
    by_cases h : key = x
    · subst h
      simp only [if_true, aget]
      by_cases h2 : k = key <;> simp [h2]
    · simp only [h, if_false, aget]
      rw [aget_aput]
      by_cases h2 : k = x
      · subst h2; simp [Ne.symm h]
      · simp [h2]
theorem aget_app {key k : ByteArray} {u : Int} : ∀ {L : List (ByteArray × Int)}, aget k (L ++ [(key, u)]) = (aget k L).or (if k = key then some u else none)
  | [] => by simp [aget]
  | (x, v) :: l => by
    simp only [List.cons_append, aget]
    by_cases h2 : k = x
    · simp [h2]
    · simp only [h2, if_false]; exact aget_app
theorem aget_pass {k : ByteArray} {i n : Int} : ∀ {L : List (ByteArray × Int)}, aget k L = some n → ¬ n ≤ i → aget k (passL i L) = some n
  | [], h, _ => by cases h
  | (x, v) :: l, h, hn => by
    simp only [aget] at h
    unfold passL
    rw [List.filterMap_cons]
    by_cases h2 : k = x
    · rw [if_pos h2] at h; cases h
      simp only [passOne, hn, if_false]
      simp [aget, h2]
    · rw [if_neg h2] at h
      have ih := aget_pass h hn
      unfold passL at ih
      cases hp : passOne i (x, v) with
      | none => exact ih
      | some y =>
        have := passOne_key _ _ hp
        simp only at this
        obtain ⟨y1, y2⟩ := y
        simp only at this
        simp only [aget, this, h2, if_false]; exact ih
def TB (G : GLog) (w0 w1 s : Nat) (T : List (ByteArray × Int)) (F : Int) : Prop := ∀ j, s ≤ j → j < w1 → ∀ e, G[j]? = some e → (∃ n, aget e.1 T = some n ∧ (j : Int) + 1 ≤ n) ∨ (j : Int) + 1 ≤ F ∨ j + 1 ≤ w0
structure Cd (G : GLog) (w0 w1 s : Nat) (N : NodeS) : Prop where
  c : N.cold = true
  sn : N.since = s
  tb : TB G w0 w1 s N.tombs N.floor
variable {w0 w1 s : Nat}
theorem Cd.same (h : Cd G w0 w1 s N) (e : N'.cold = N.cold ∧ N'.since = N.since ∧ N'.tombs = N.tombs ∧ N'.floor = N.floor) : Cd G w0 w1 s N' := ⟨e.1.trans h.c, e.2.1.trans h.sn, by rw [e.2.2.1, e.2.2.2]; exact h.tb⟩
theorem Cd.app (h : Cd G w0 w1 s N) (hw : w1 ≤ G.length) (e : ByteArray × ByteArray) : Cd (G ++ [e]) w0 w1 s N := ⟨h.c, h.sn, fun j h1 h2 e' he' => h.tb j h1 h2 e' (by rwa [List.getElem?_append_left (by omega)] at he')⟩
theorem Cd.ahead (h : Cd G w0 w1 s N) : Cd G (w0 + 1) w1 s N := ⟨h.c, h.sn, fun j h1 h2 e he => by
  rcases h.tb j h1 h2 e he with x | x | x
  · exact .inl x
  · exact .inr (.inl x)
  · exact .inr (.inr (by omega))⟩
theorem noteR_some {key : ByteArray} {index : Int} {L : List (ByteArray × Int)} {floor : Int} (hi : ¬ index < 1) :
    (∀ k n, aget k L = some n → ∃ n', aget k (noteR key index 32 L floor).1 = some n' ∧ n ≤ n') ∧ floor ≤ (noteR key index 32 L floor).2 ∧
      ((∃ n, aget key (noteR key index 32 L floor).1 = some n ∧ index ≤ n) ∨ index ≤ (noteR key index 32 L floor).2) := by
  unfold noteR
  rw [if_neg hi]
  cases hf : aget key L with
  | some n =>
    refine ⟨fun k m hk => ?_, Int.le_refl _, .inl ⟨max n index, by simp only; rw [aget_aput]; simp, by omega⟩⟩
    simp only
    rw [aget_aput]
    by_cases h2 : k = key
    · subst h2; rw [hf] at hk; cases hk; exact ⟨max n index, by simp, by omega⟩
    · exact ⟨m, by simp [h2, hk], Int.le_refl _⟩
  | none =>
    simp only
    split
    · refine ⟨fun k m hk => ⟨m, by simp only; rw [aget_app, hk]; rfl, Int.le_refl _⟩, Int.le_refl _, .inl ⟨max 0 index, by simp only; rw [aget_app, hf]; simp, by omega⟩⟩
    · exact ⟨fun k m hk => ⟨m, hk, Int.le_refl _⟩, by simp only; omega, .inr (by simp only; omega)⟩
theorem Cd.inv (h : Cd G w0 w1 s N) {e : ByteArray × ByteArray} (he : G[w1]? = some e) : Cd G w0 (w1 + 1) s (invN e.1 ((w1 : Int) + 1) N) := by
  obtain ⟨n1, n2, n3⟩ := noteR_some (key := e.1) (index := (w1 : Int) + 1) (L := N.tombs) (floor := N.floor) (by omega)
  refine ⟨h.c, h.sn, fun j h1 h2 e' he' => ?_⟩
  simp only [invN, h.c, if_true]
  by_cases hj : j < w1
  · rcases h.tb j h1 hj e' he' with ⟨n, x1, x2⟩ | x | x
    · obtain ⟨n', y1, y2⟩ := n1 _ _ x1
      exact .inl ⟨n', y1, by omega⟩
    · exact .inr (.inl (by omega))
    · exact .inr (.inr x)
  · have : j = w1 := by omega
    subst this
    rw [he] at he'; cases he'
    rcases n3 with ⟨n, y1, y2⟩ | y
    · exact .inl ⟨n, y1, y2⟩
    · exact .inr (.inl y)
theorem Cd.pass (h : Cd G w0 w1 s N) : Cd G w0 w1 s (passN w0 N) := ⟨h.c, h.sn, fun j h1 h2 e he => by
  rcases h.tb j h1 h2 e he with ⟨n, x1, x2⟩ | x | x
  · by_cases hn : n ≤ (w0 : Int)
    · exact .inr (.inr (by omega))
    · exact .inl ⟨n, aget_pass x1 hn, x2⟩
  · by_cases hn : N.floor ≤ (w0 : Int)
    · exact .inr (.inr (by omega))
    · refine .inr (.inl ?_)
      show (j : Int) + 1 ≤ passF w0 N.floor
      unfold passF; rw [if_neg hn]; exact x
  · exact .inr (.inr x)⟩
theorem Cd.fresh (N : NodeS) : Cd G w0 w1 w1 (coldN w1 N) := ⟨rfl, rfl, fun j h1 h2 => by omega⟩
theorem get4 (key : ByteArray) (N : NodeS) : (getN key N).2.cold = N.cold ∧ (getN key N).2.since = N.since ∧ (getN key N).2.tombs = N.tombs ∧ (getN key N).2.floor = N.floor := by
  unfold getN
  split
  · exact ⟨rfl, rfl, rfl, rfl⟩
  · split <;> exact ⟨rfl, rfl, rfl, rfl⟩
theorem put4 (key : ByteArray) (v : ItemV) (N : NodeS) : (putN key v N).2.cold = N.cold ∧ (putN key v N).2.since = N.since ∧ (putN key v N).2.tombs = N.tombs ∧ (putN key v N).2.floor = N.floor := by
  unfold putN
  split
  · split <;> exact ⟨rfl, rfl, rfl, rfl⟩
  · exact ⟨rfl, rfl, rfl, rfl⟩
theorem fill4 (key : ByteArray) (t : Int) (v : ItemV) (N : NodeS) : (fillN key t v N).2.cold = N.cold ∧ (fillN key t v N).2.since = N.since ∧ (fillN key t v N).2.tombs = N.tombs ∧ (fillN key t v N).2.floor = N.floor := by
  unfold fillN
  split
  · exact put4 key v _
  · exact ⟨rfl, rfl, rfl, rfl⟩
theorem warm4 (key : ByteArray) (v : ItemV) (N : NodeS) : (warmN key v N).2.cold = N.cold ∧ (warmN key v N).2.since = N.since ∧ (warmN key v N).2.tombs = N.tombs ∧ (warmN key v N).2.floor = N.floor := by
  unfold warmN
  split
  · exact ⟨rfl, rfl, rfl, rfl⟩
  · split
    · exact ⟨rfl, rfl, rfl, rfl⟩
    · exact put4 key v N
theorem mark4 (x : Mark) (N : NodeS) : (markN x N).2.cold = N.cold ∧ (markN x N).2.since = N.since ∧ (markN x N).2.tombs = N.tombs ∧ (markN x N).2.floor = N.floor := by
  unfold markN
  split
  · exact ⟨rfl, rfl, rfl, rfl⟩
  · split
    · exact ⟨rfl, rfl, rfl, rfl⟩
    · split <;> exact ⟨rfl, rfl, rfl, rfl⟩
theorem unmark4 (x : Mark) (N : NodeS) : (unmarkN x N).2.cold = N.cold ∧ (unmarkN x N).2.since = N.since ∧ (unmarkN x N).2.tombs = N.tombs ∧ (unmarkN x N).2.floor = N.floor := by
  unfold unmarkN
  split <;> exact ⟨rfl, rfl, rfl, rfl⟩
theorem NI.warm (h : NI G w1 N rs who k) (hc : Cd G w0 w1 s N) {key : ByteArray} {a : Nat} {v : ItemV} (ha : a ≤ G.length) (h0 : w0 ≤ a) (hv : v = valAt (atN G key a) a) : NI G w1 (warmN key v N).2 rs who (k + 1) := by
  have hva : v.asOf = a := by rw [hv]; rfl
  unfold warmN
  split
  · exact h.more (Nat.le_succ _)
  · rename_i hno
    split
    · exact h.more (Nat.le_succ _)
    · refine h.put ha ?_
      rw [hv]
      congr 1
      by_cases hle : w1 ≤ a
      · rw [Nat.max_eq_left hle]
      · rw [Nat.max_eq_right (by omega)]
        refine (atN_skip G key a w1 (by omega) fun j j1 j2 e he e2 => hno ?_).symm
        by_cases hs : v.asOf < N.since
        · exact .inr (.inl hs)
        · have hsn := hc.sn
          refine .inr (.inr ?_)
          unfold allowsR
          rcases hc.tb j (by omega) j2 e he with ⟨n, x1, x2⟩ | x | x
          · rw [← e2, x1]
            have : ¬ n ≤ v.asOf := by omega
            simp [this]
          · have : ¬ N.floor ≤ v.asOf := by omega
            simp [this]
          · omega
end
/-- All that holds. -/
structure SAll (G : GLog) (w0 w1 s : Nat) (N0 N1 : NodeS) (rs : List RdV) (k : Nat) : Prop where
  n0 : NI G w0 N0 rs 0 k
  n1 : NI G w1 N1 rs 1 k
  cd : Cd G w0 w1 s N1
  ks : ∀ e ∈ G, e.1.size ≤ 1000
  ts : ∀ e ∈ G, e.2.size ≤ 1000
  gl : G.length ≤ k + 8
  rg : ∀ r ∈ rs, RG G r
  rl : rs.length ≤ k
section
variable {G : GLog} {w0 w1 s k : Nat} {N0 N1 : NodeS} {rs : List RdV}
theorem SAll.more (h : SAll G w0 w1 s N0 N1 rs k) : SAll G w0 w1 s N0 N1 rs (k + 1) := ⟨h.n0.more (Nat.le_succ _), h.n1.more (Nat.le_succ _), h.cd, h.ks, h.ts, by have := h.gl; omega, h.rg, Nat.le_succ_of_le h.rl⟩
theorem SAll.app (h : SAll G w0 w1 s N0 N1 rs k) {key text : ByteArray} (hk : key.size ≤ 1000) (ht : text.size ≤ 1000) : SAll (G ++ [(key, text)]) w0 w1 s N0 N1 rs (k + 1) where
  n0 := (h.n0.app h.rg _).more (Nat.le_succ _)
  n1 := (h.n1.app h.rg _).more (Nat.le_succ _)
  cd := h.cd.app h.n1.wl _
  ks := fun e he => by rcases List.mem_append.1 he with he | he; exact h.ks e he; simp at he; subst he; exact hk
  ts := fun e he => by rcases List.mem_append.1 he with he | he; exact h.ts e he; simp at he; subst he; exact ht
  gl := by have := h.gl; simp; omega
  rg := fun r hr => (h.rg r hr).app _
  rl := Nat.le_succ_of_le h.rl
/-- The first node goes on. -/
theorem SAll.set0 (h : SAll G w0 w1 s N0 N1 rs k) {N : NodeS} (hn : NI G w0 N rs 0 (k + 1)) : SAll G w0 w1 s N N1 rs (k + 1) := { h.more with n0 := hn }
theorem SAll.set1 (h : SAll G w0 w1 s N0 N1 rs k) {N : NodeS} (hn : NI G w1 N rs 1 (k + 1)) (e : N.cold = N1.cold ∧ N.since = N1.since ∧ N.tombs = N1.tombs ∧ N.floor = N1.floor) : SAll G w0 w1 s N0 N rs (k + 1) := { h.more with n1 := hn, cd := h.cd.same e }
theorem SAll.inv0 (h : SAll G w0 w1 s N0 N1 rs k) {e : ByteArray × ByteArray} (he : G[w0]? = some e) : SAll G (w0 + 1) w1 s (invN e.1 ((w0 : Int) + 1) N0) N1 rs (k + 1) := { h.more with n0 := (h.n0.inv he).more (Nat.le_succ _), cd := h.cd.ahead }
theorem SAll.inv1 (h : SAll G w0 w1 s N0 N1 rs k) {e : ByteArray × ByteArray} (he : G[w1]? = some e) : SAll G w0 (w1 + 1) s N0 (invN e.1 ((w1 : Int) + 1) N1) rs (k + 1) := { h.more with n1 := (h.n1.inv he).more (Nat.le_succ _), cd := h.cd.inv he }
theorem SAll.pass1 (h : SAll G w0 w1 s N0 N1 rs k) : SAll G w0 w1 s N0 (passN w0 N1) rs (k + 1) := { h.more with n1 := (h.n1.pass _).more (Nat.le_succ _), cd := h.cd.pass }
theorem SAll.flush1 (h : SAll G w0 w1 s N0 N1 rs k) : SAll G w0 w1 w1 N0 (coldN w1 (flushN N1)) rs (k + 1) := { h.more with n1 := (h.n1.flush.chill _).more (Nat.le_succ _), cd := .fresh _ }
theorem SAll.read (h : SAll G w0 w1 s N0 N1 rs (k + 1)) (hl : rs.length ≤ k) {r : RdV} (hr : r.asOf = G.length) (hv : r.val = atN G r.key G.length) (hk : r.key.size ≤ 1000) (hw : r.who = 0 ∧ r.token ≤ N0.last ∨ r.who = 1 ∧ r.token ≤ N1.last) : SAll G w0 w1 s N0 N1 (rs ++ [r]) (k + 1) where
  n0 := h.n0.read hr fun e => by rcases hw with x | x; exact x.2; omega
  n1 := h.n1.read hr fun e => by rcases hw with x | x; omega; exact x.2
  cd := h.cd
  ks := h.ks
  ts := h.ts
  gl := h.gl
  rg := fun q hq => by
    rcases List.mem_append.1 hq with hq | hq
    · exact h.rg q hq
    · simp at hq; subst hq; exact ⟨by omega, by rw [hr]; exact hv, hk, by rcases hw with x | x; exact .inl x.1; exact .inr x.1⟩
  rl := by simp; omega
end
/-- The log at the beginning. -/
def keyC (i : Nat) : UInt8 := UInt8.ofNat (97 + i % 3)
abbrev oldT : ByteArray := ⟨#[111, 108, 100]⟩
def startG : Nat → GLog
  | 0 => []
  | i + 1 => startG i ++ [(⟨#[keyC i]⟩, oldT)]
theorem startG_len : ∀ i, (startG i).length = i
  | 0 => rfl
  | i + 1 => by simp [startG, startG_len i]
theorem startG_sz : ∀ i, (∀ e ∈ startG i, e.1.size ≤ 1000 ∧ e.2.size ≤ 1000)
  | 0 => by simp [startG]
  | i + 1 => by
    intro e he
    rcases List.mem_append.1 he with he | he
    · exact startG_sz i e he
    · simp at he; subst he; exact ⟨by show (1 : Nat) ≤ 1000; omega, by show (3 : Nat) ≤ 1000; omega⟩
theorem keyC_val (i : Nat) : IntKind.u8.wrap (97 + (i : Int).tmod 3) = ((keyC i).toNat : Int) := by
  rw [Int.tmod_eq_emod_of_nonneg (by omega)]
  have h : (keyC i).toNat = 97 + i % 3 := by unfold keyC; rw [UInt8.toNat_ofNat']; omega
  rw [h]
  simp only [IntKind.wrap, IntKind.signed, IntKind.bits, Bool.false_and, Bool.false_eq_true, if_false]
  omega
theorem sStart (room : Int) (hr : room ≤ 9223372036854775807) (n : Nat) (hn : n ≤ 7) : SAll (startG n) 0 n n (newN room 0) (coldN n (newN room 0)) [] 0 := by
  have h0 := NOk.new room 0 hr
  have hl := startG_len n
  exact ⟨⟨h0, by omega, fun t ht => (by cases ht), fun r hr => (by cases hr)⟩, ⟨h0.chill _, by omega, fun t ht => (by cases ht), fun r hr => (by cases hr)⟩, .fresh _, fun e he => (startG_sz n e he).1, fun e he => (startG_sz n e he).2, by omega, fun r hr => (by cases hr), by simp⟩
/-! in memory -/
structure EntV where
  ix : Nat
  key : ByteArray
  tx : ByteArray
def EntT : Ty EntV := { e := 55, sz := 7, bytes := 72, enc := fun e => [.int .i64 1, .int .i64 e.ix, .int .i64 0, .int .i64 0, .string e.key, .bool false, .string e.tx], len := fun _ => rfl, one := fun x u h => by simp at h; rcases h with rfl | rfl | rfl | rfl | rfl | rfl | rfl <;> rfl, pos := by decide }
def RdT : Ty RdV := { e := 62, sz := 8, bytes := 80, enc := fun r => [.int .i64 r.who, .int .i64 r.asOf, .string r.key, .int .i64 r.token, .int .i64 r.val.ep, .int .i64 r.val.ix, .bool r.val.th, .string r.val.tx], len := fun _ => rfl, one := fun x u h => by simp at h; rcases h with rfl | rfl | rfl | rfl | rfl | rfl | rfl | rfl <;> rfl, pos := by decide }
def entsOf (G : GLog) : List EntV := G.zipIdx.map fun x => ⟨x.2 + 1, x.1.1, x.1.2⟩
theorem entsOf_len (G : GLog) : (entsOf G).length = G.length := by simp [entsOf]
theorem entsOf_app (G : GLog) (e : ByteArray × ByteArray) : entsOf (G ++ [e]) = entsOf G ++ [⟨G.length + 1, e.1, e.2⟩] := by simp [entsOf, List.zipIdx_append]
theorem entsOf_at {G : GLog} {j : Nat} {e : ByteArray × ByteArray} (h : G[j]? = some e) : (entsOf G)[j]? = some ⟨j + 1, e.1, e.2⟩ := by
  simp [entsOf, h]
abbrev LogC (g : Nat) (la : Option Nat) (n lc : Nat) : HP := pt g (.cells #[.slice (sl la) n lc] 50 (0, 0))
theorem pick_idx (x : Int) {n : Nat} (h : 0 < n) (hn : n ≤ 1000000) : ∃ q, q < n ∧ (IntKind.u64.wrap x).tmod (IntKind.u64.wrap (n : Int)) = (q : Int) := by
  have h1 : IntKind.u64.wrap (n : Int) = n := by
    simp only [IntKind.wrap, IntKind.signed, IntKind.bits, Bool.false_and, Bool.false_eq_true, if_false]; omega
  have h2 : 0 ≤ IntKind.u64.wrap x := by
    simp only [IntKind.wrap, IntKind.signed, IntKind.bits, Bool.false_and, Bool.false_eq_true, if_false]; omega
  refine ⟨((IntKind.u64.wrap x) % (n : Int)).toNat, ?_, ?_⟩
  · have := Int.emod_lt_of_pos (IntKind.u64.wrap x) (show (0 : Int) < n by omega)
    have := Int.emod_nonneg (IntKind.u64.wrap x) (show (n : Int) ≠ 0 by omega)
    omega
  · rw [h1, Int.tmod_eq_emod_of_nonneg h2]
    have := Int.emod_nonneg (IntKind.u64.wrap x) (show (n : Int) ≠ 0 by omega)
    omega
theorem wrap_len {n : Nat} (h : 0 < n) (hn : n ≤ 1000000) : IntKind.u64.wrap (n : Int) ≠ 0 := by
  simp only [IntKind.wrap, IntKind.signed, IntKind.bits, Bool.false_and, Bool.false_eq_true, if_false]; omega
structure WayV where
  k : Int
  who : Int
  i : Int
  key : ByteArray
  text : ByteArray
def WayV.enc (o : WayV) : List Value := [.int .i64 o.k, .int .i64 o.who, .int .i64 o.i, .string o.key, .string o.text]
/-- The script as it lies in the world W. -/
def WaysAt (W : World) (a : Option Addr) (ops : List WayV) : Prop := ∀ i o, ops[i]? = some o → ∃ p, a = some p ∧ (∀ j v, o.enc[j]? = some v → W.cell? ((p.add (i * 5)).add j) = some v)
end Go.Proofs.Ytgakbdofjlhoeaa.SL
