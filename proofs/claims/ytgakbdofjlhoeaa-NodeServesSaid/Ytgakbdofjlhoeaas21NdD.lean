/- The data of package node: a node in memory, and what its methods do. -/
import Derived.Test.Ytgakbdofjlhoeaas21MkW
import Derived.Test.Ytgakbdofjlhoeaas21HdW
import Derived.Test.Ytgakbdofjlhoeaas21LrZ
import Derived.Test.Ytgakbdofjlhoeaas21LsW
namespace Go.Proofs.Ytgakbdofjlhoeaa.SL
open Go Go.RowKit

structure NodeS where
  marks : List Mark
  items : List It
  room : Int
  kept : Int
  lease : List (ByteArray × One)
  last : Int
  tombs : List (ByteArray × Int)
  floor : Int
  cold : Bool
  since : Int
abbrev NdC (g a b c d : Nat) (cold : Bool) (since : Int) : HP := pt g (.cells #[.pointer (some ⟨a, 0, none⟩), .pointer (some ⟨b, 0, none⟩), .pointer (some ⟨c, 0, none⟩), .pointer (some ⟨d, 0, none⟩), .bool cold, .int .i64 since] 75 (0, 0))
abbrev NodeRaw (g a b c d : Nat) (N : NodeS) : List HP := [NdC g a b c d N.cold N.since, MarksP a 32 N.marks, CacheP b N.items N.room N.kept, LeaseP c 32 10 N.lease N.last, HoldP d 32 N.tombs N.floor]
/-- A node. -/
def NodeP (g : Nat) (N : NodeS) : HP := fun h => ∃ a b c d, stars (NodeRaw g a b c d N) h
theorem NodeP_opens (g : Nat) (N : NodeS) : Opens (NodeP g N) fun l => ∃ a b c d, l = NodeRaw g a b c d N := by
  rintro h ⟨a, b, c, d, hs⟩
  exact ⟨_, ⟨a, b, c, d, rfl⟩, hs⟩
theorem NodeP_close {g a b c d : Nat} {N : NodeS} : Imp (NodeRaw g a b c d N) [NodeP g N] := fun h hh =>
  ⟨h, fun _ _ x => x, sep_emp ⟨a, b, c, d, hh⟩⟩

def zeroI : ItemV := ⟨0, 0, false, ⟨#[]⟩, 0⟩
abbrev valV (v : ItemV) : Value := .agg #[.int .i64 v.ep, .int .i64 v.ix, .bool v.th, .string v.tx]
structure AnsV where
  kind : Int
  val : ItemV
  token : Int
abbrev ansV (a : AnsV) : Value := .agg #[.int .i64 a.kind, .int .i64 a.val.ep, .int .i64 a.val.ix, .bool a.val.th, .string a.val.tx, .int .i64 a.val.asOf, .int .i64 a.token]
def getN (key : ByteArray) (N : NodeS) : AnsV × NodeS :=
  if hasR key N.marks then (⟨2, zeroI, 0⟩, N) else match findK key N.items with
    | some t => (⟨1, t.val, 0⟩, { N with items := t :: dropK key N.items })
    | none => (⟨3, zeroI, (grantR key 32 10 N.lease N.last).1⟩, { N with lease := (grantR key 32 10 N.lease N.last).2.2.1, last := (grantR key 32 10 N.lease N.last).2.2.2 })
def peekN (key : ByteArray) (N : NodeS) : ItemV × Bool :=
  if hasR key N.marks then (zeroI, false) else match findK key N.items with
    | some t => (t.val, true)
    | none => (zeroI, false)
def sizeI (key : ByteArray) (v : ItemV) : Int := (key.size : Int) + (v.tx.size : Nat) + 32
def putN' (key : ByteArray) (v : ItemV) (N : NodeS) : Bool × NodeS :=
  ((putR N.items N.room N.kept ⟨key, v, sizeI key v⟩).2.1, { N with items := (putR N.items N.room N.kept ⟨key, v, sizeI key v⟩).2.2 })
def putN (key : ByteArray) (v : ItemV) (N : NodeS) : Bool × NodeS := match findK key N.items with
  | some t => if v.asOf ≤ t.val.asOf then (true, N) else putN' key v N
  | none => putN' key v N
def fillN (key : ByteArray) (token : Int) (v : ItemV) (N : NodeS) : Bool × NodeS :=
  if (useR key token N.lease).1 then putN key v { N with lease := (useR key token N.lease).2 } else (false, N)
def warmN (key : ByteArray) (v : ItemV) (N : NodeS) : Bool × NodeS :=
  if N.cold = false ∨ v.asOf < N.since ∨ allowsR key v.asOf N.tombs N.floor = false then (false, N) else match findK key N.items with
    | some _ => (false, N)
    | none => putN key v N
def invI (key : ByteArray) (index : Int) (L : List It) : List It := match findK key L with
  | some t => if t.val.asOf < index then dropK key L else L
  | none => L
def invN (key : ByteArray) (index : Int) (N : NodeS) : NodeS :=
  { N with items := invI key index N.items, lease := adel key N.lease, tombs := if N.cold then (noteR key index 32 N.tombs N.floor).1 else N.tombs, floor := if N.cold then (noteR key index 32 N.tombs N.floor).2 else N.floor }
def over (key : ByteArray) : Int := (key.size : Int) + 32
def markN (x : Mark) (N : NodeS) : Bool × NodeS :=
  if x ∈ N.marks then (true, N) else if (32 : Int) ≤ (N.marks.length : Int) then (false, N)
  else if (resR N.items N.room N.kept (over x.key)).2.1 then (true, { N with marks := N.marks ++ [x], items := (resR N.items N.room N.kept (over x.key)).2.2.1, kept := (resR N.items N.room N.kept (over x.key)).2.2.2 })
  else (false, N)
def unmarkN (x : Mark) (N : NodeS) : Bool × NodeS :=
  if x ∈ N.marks then (true, { N with marks := N.marks.erase x, kept := relR N.kept (over x.key) }) else (false, N)
def tickN (N : NodeS) : NodeS := { N with lease := N.lease.filterMap tickOne }
def flushN (N : NodeS) : NodeS := { N with items := [], lease := [], tombs := [], floor := 0 }
def purgeN (N : NodeS) : NodeS := { N with marks := [], items := [], kept := relR N.kept N.kept, lease := [], tombs := [], floor := 0, cold := false }
def coldN (since : Int) (N : NodeS) : NodeS := { N with tombs := [], floor := 0, cold := true, since := since }
def passN (index : Int) (N : NodeS) : NodeS := { N with tombs := passL index N.tombs, floor := passF index N.floor }
def warmedN (N : NodeS) : NodeS := { N with tombs := [], floor := 0, cold := false }
def newN (room tokens : Int) : NodeS := ⟨[], [], max room 0, 0, [], againR tokens, [], 0, false, 0⟩

/-- What holds of a node, behind k calls. -/
structure NOk (k : Nat) (N : NodeS) : Prop where
  it : LOk N.items N.room N.kept
  il : N.items.length ≤ k
  ln : (N.lease.map (·.1)).Nodup
  lb : ∀ x ∈ N.lease, 1 ≤ x.2.left ∧ x.2.left ≤ 10
  ll : N.lease.length ≤ 32
  l0 : 0 ≤ N.last
  l1 : N.last ≤ 9007199254740992 + (k : Int)
  mn : N.marks.Nodup
  ml : N.marks.length ≤ 32
  tn : (N.tombs.map (·.1)).Nodup
  tl : N.tombs.length ≤ 32
theorem NOk.more {k k' : Nat} {N : NodeS} (h : NOk k N) (hk : k ≤ k') : NOk k' N :=
  ⟨h.it, Nat.le_trans h.il hk, h.ln, h.lb, h.ll, h.l0, by have := h.l1; omega, h.mn, h.ml, h.tn, h.tl⟩
theorem grantR_len (key : ByteArray) (L : List (ByteArray × One)) (last : Int) (h : L.length ≤ 32) : (grantR key 32 10 L last).2.2.1.length ≤ 32 := by
  unfold grantR
  split
  · exact h
  · cases aget key L with
    | some o => exact h
    | none => simp only [List.length_append, List.length_singleton]; omega
theorem grantR_last (key : ByteArray) (L : List (ByteArray × One)) (last : Int) : last ≤ (grantR key 32 10 L last).2.2.2 ∧ (grantR key 32 10 L last).2.2.2 ≤ last + 1 := by
  unfold grantR
  split
  · simp only; omega
  · cases aget key L with
    | some o => simp only; omega
    | none => simp only; omega
theorem grantR_nd (key : ByteArray) (L : List (ByteArray × One)) (last : Int) (h : (L.map (·.1)).Nodup) : ((grantR key 32 10 L last).2.2.1.map (·.1)).Nodup := by
  unfold grantR
  split
  · exact h
  · cases hf : aget key L with
    | some o => exact h
    | none =>
      simp only [List.map_append, List.map_cons, List.map_nil, List.nodup_append]
      refine ⟨h, by simp, fun a ha b hb => ?_⟩
      simp at hb; subst hb
      exact fun e => aget_none hf (e ▸ ha)
theorem grantR_left (key : ByteArray) (L : List (ByteArray × One)) (last : Int) (h : ∀ x ∈ L, 1 ≤ x.2.left ∧ x.2.left ≤ 10) : ∀ x ∈ (grantR key 32 10 L last).2.2.1, 1 ≤ x.2.left ∧ x.2.left ≤ 10 := by
  unfold grantR
  split
  · exact h
  · cases hf : aget key L with
    | some o => exact h
    | none =>
      intro x hx
      rcases List.mem_append.1 hx with hx | hx
      · exact h x hx
      · simp at hx; subst hx; simp
theorem adel_sub {β : Type} (key : ByteArray) (L : List (ByteArray × β)) : List.Sublist (adel key L) L := by
  induction L with
  | nil => exact .slnil
  | cons x l ih =>
    simp only [adel]
    split
    · exact List.sublist_cons_self _ _
    · exact ih.cons_cons _
theorem useR_sub (key : ByteArray) (token : Int) (L : List (ByteArray × One)) : List.Sublist (useR key token L).2 L := by
  unfold useR
  cases aget key L with
  | none => exact List.Sublist.refl _
  | some o =>
    simp only
    split
    · exact adel_sub key L
    · exact List.Sublist.refl _
theorem NOk.get {k : Nat} {N : NodeS} (h : NOk k N) (key : ByteArray) : NOk (k + 1) (getN key N).2 := by
  unfold getN
  split
  · exact h.more (Nat.le_succ _)
  · split
    · rename_i t ht
      have h1 := h.it.get key
      have h2 := getR_len (L := N.items) (k := key)
      unfold getR at h1 h2; rw [ht] at h1 h2
      have := h.il
      exact { h.more (Nat.le_succ k) with it := h1, il := by simp only at h2 ⊢; omega }
    · have h1 := grantR_last key N.lease N.last
      have := h.l0; have := h.l1
      exact { h.more (Nat.le_succ k) with ln := grantR_nd _ _ _ h.ln, lb := grantR_left _ _ _ h.lb, ll := grantR_len _ _ _ h.ll, l0 := by simp only; omega, l1 := by simp only; omega }
theorem NOk.put' {k : Nat} {N : NodeS} (h : NOk k N) (key : ByteArray) (v : ItemV) : NOk (k + 1) (putN' key v N).2 := by
  have h1 := h.it.put ⟨key, v, sizeI key v⟩
  have h2 := putR_len N.items N.room N.kept ⟨key, v, sizeI key v⟩
  have := h.il
  exact { h.more (Nat.le_succ k) with it := h1, il := by simp only [putN']; omega }
theorem NOk.put {k : Nat} {N : NodeS} (h : NOk k N) (key : ByteArray) (v : ItemV) : NOk (k + 1) (putN key v N).2 := by
  unfold putN
  split
  · split
    · exact h.more (Nat.le_succ _)
    · exact h.put' key v
  · exact h.put' key v
theorem NOk.used {k : Nat} {N : NodeS} (h : NOk k N) (key : ByteArray) (token : Int) : NOk k { N with lease := (useR key token N.lease).2 } :=
  { h with ln := h.ln.sublist ((useR_sub key token N.lease).map _), lb := fun x hx => h.lb x ((useR_sub key token N.lease).subset hx), ll := Nat.le_trans (useR_sub key token N.lease).length_le h.ll }
theorem NOk.fill {k : Nat} {N : NodeS} (h : NOk k N) (key : ByteArray) (token : Int) (v : ItemV) : NOk (k + 1) (fillN key token v N).2 := by
  unfold fillN
  split
  · exact (h.used key token).put key v
  · exact h.more (Nat.le_succ _)
theorem NOk.warm {k : Nat} {N : NodeS} (h : NOk k N) (key : ByteArray) (v : ItemV) : NOk (k + 1) (warmN key v N).2 := by
  unfold warmN
  split
  · exact h.more (Nat.le_succ _)
  · split
    · exact h.more (Nat.le_succ _)
    · exact h.put key v
theorem noteR_ok {key : ByteArray} {index : Int} {L : List (ByteArray × Int)} {floor : Int} (h : (L.map (·.1)).Nodup) (hl : L.length ≤ 32) : ((noteR key index 32 L floor).1.map (·.1)).Nodup ∧ (noteR key index 32 L floor).1.length ≤ 32 := by
  have put : ∀ (u : Int) (L : List (ByteArray × Int)), (L.map (·.1)).Nodup → key ∈ L.map (·.1) → (aput key u L).map (·.1) = L.map (·.1) := by
    intro u L
    induction L with
    | nil => intro _ h; simp at h
    | cons x l ih =>
      intro hn hm
      simp only [aput]
      split
      · rename_i e; simp [e]
      · rename_i e
        simp only [List.map_cons, List.mem_cons] at hm
        simp only [List.map_cons]
        rw [ih (List.nodup_cons.1 hn).2 (hm.resolve_left e)]
  have some_mem : ∀ (L : List (ByteArray × Int)) n, aget key L = some n → key ∈ L.map (·.1) := by
    intro L
    induction L with
    | nil => intro n h; cases h
    | cons x l ih =>
      intro n h
      simp only [aget] at h
      split at h
      · rename_i e; simp [e]
      · simp only [List.map_cons, List.mem_cons]; exact .inr (ih n h)
  unfold noteR
  split
  · exact ⟨h, hl⟩
  · cases hf : aget key L with
    | some n =>
      simp only
      have := put (max n index) L h (some_mem L n hf)
      refine ⟨by rw [this]; exact h, ?_⟩
      have := congrArg List.length this
      simp only [List.length_map] at this
      omega
    | none =>
      simp only
      split
      · simp only [List.map_append, List.map_cons, List.map_nil, List.nodup_append, List.length_append, List.length_singleton]
        refine ⟨⟨h, by simp, fun a ha b hb => ?_⟩, by omega⟩
        simp at hb; subst hb
        exact fun e => aget_none hf (e ▸ ha)
      · exact ⟨h, hl⟩
theorem invI_ok {L : List It} {room kept : Int} (h : LOk L room kept) (key : ByteArray) (index : Int) : LOk (invI key index L) room kept ∧ (invI key index L).length ≤ L.length := by
  unfold invI
  split
  · split
    · exact ⟨h.drop key, dropK_len key L⟩
    · exact ⟨h, Nat.le_refl _⟩
  · exact ⟨h, Nat.le_refl _⟩
theorem NOk.inv {k : Nat} {N : NodeS} (h : NOk k N) (key : ByteArray) (index : Int) : NOk k (invN key index N) := by
  have h1 := invI_ok h.it key index
  have h2 := noteR_ok (key := key) (index := index) (floor := N.floor) h.tn h.tl
  refine { h with it := h1.1, il := Nat.le_trans h1.2 h.il, ln := h.ln.sublist ((adel_sub key N.lease).map _), lb := fun x hx => h.lb x ((adel_sub key N.lease).subset hx), ll := Nat.le_trans (adel_sub key N.lease).length_le h.ll, tn := ?_, tl := ?_ }
  · simp only [invN]; split
    · exact h2.1
    · exact h.tn
  · simp only [invN]; split
    · exact h2.2
    · exact h.tl
theorem NOk.mark {k : Nat} {N : NodeS} (h : NOk k N) (x : Mark) : NOk k (markN x N).2 := by
  unfold markN
  split
  · exact h
  · rename_i hx
    split
    · exact h
    · rename_i hl
      split
      · have h1 := h.it.res (over x.key)
        have h2 := resR_len N.items N.room N.kept (over x.key)
        have := h.il
        refine { h with it := h1, il := by simp only; omega, mn := ?_, ml := ?_ }
        · simp only [List.nodup_append]
          refine ⟨h.mn, by simp, fun a ha b hb => ?_⟩
          simp at hb; subst hb
          exact fun e => hx (e ▸ ha)
        · simp only [List.length_append, List.length_singleton]; omega
      · exact h
theorem NOk.unmark {k : Nat} {N : NodeS} (h : NOk k N) (x : Mark) : NOk k (unmarkN x N).2 := by
  unfold unmarkN
  split
  · exact { h with it := h.it.rel _, mn := h.mn.sublist List.erase_sublist, ml := Nat.le_trans List.erase_sublist.length_le h.ml }
  · exact h
theorem filterMap_keys {β : Type} {f : ByteArray × β → Option (ByteArray × β)} (hf : ∀ x y, f x = some y → y.1 = x.1) (L : List (ByteArray × β)) : List.Sublist ((L.filterMap f).map (·.1)) (L.map (·.1)) := by
  induction L with
  | nil => exact .slnil
  | cons x l ih =>
    rw [List.filterMap_cons]
    cases hx : f x with
    | none => exact ih.cons _
    | some y => simp only [List.map_cons, hf x y hx]; exact ih.cons_cons _
theorem NOk.tick {k : Nat} {N : NodeS} (h : NOk k N) : NOk k (tickN N) := by
  refine { h with ln := h.ln.sublist (filterMap_keys (fun _ _ => tickOne_key) N.lease), lb := fun x hx => ?_, ll := Nat.le_trans (List.length_filterMap_le _ _) h.ll }
  obtain ⟨y, hy, e⟩ := List.mem_filterMap.1 hx
  have := h.lb y hy
  unfold tickOne at e
  split at e
  · cases e
  · simp at e; subst e; simp only; omega
theorem NOk.flush {k : Nat} {N : NodeS} (h : NOk k N) : NOk k (flushN N) := by
  have h1 := szs_nonneg h.it.pos; have h2 := h.it.fit; have h3 := h.it.kp
  exact { h with it := LOk.nil h.it.kp (by simp only [flushN]; omega) h.it.top, il := by simp [flushN], ln := by simp [flushN], lb := by simp [flushN], ll := by simp [flushN], tn := by simp [flushN], tl := by simp [flushN] }
theorem relR_self {kept : Int} (h : 0 ≤ kept) : relR kept kept = 0 := by unfold relR; split <;> omega
theorem NOk.purge {k : Nat} {N : NodeS} (h : NOk k N) : NOk k (purgeN N) := by
  have h1 := szs_nonneg h.it.pos; have h2 := h.it.fit; have h3 := h.it.kp
  exact { h with it := LOk.nil (by simp only [purgeN, relR_self h3]; omega) (by simp only [purgeN, relR_self h3]; omega) h.it.top, il := by simp [purgeN], ln := by simp [purgeN], lb := by simp [purgeN], ll := by simp [purgeN], mn := by simp [purgeN], ml := by simp [purgeN], tn := by simp [purgeN], tl := by simp [purgeN] }
theorem NOk.chill {k : Nat} {N : NodeS} (h : NOk k N) (since : Int) : NOk k (coldN since N) := { h with tn := by simp [coldN], tl := by simp [coldN] }
theorem NOk.warmed {k : Nat} {N : NodeS} (h : NOk k N) : NOk k (warmedN N) := { h with tn := by simp [warmedN], tl := by simp [warmedN] }
theorem NOk.pass {k : Nat} {N : NodeS} (h : NOk k N) (index : Int) : NOk k (passN index N) :=
  { h with tn := h.tn.sublist (filterMap_keys passOne_key N.tombs), tl := Nat.le_trans (List.length_filterMap_le _ _) h.tl }
theorem againR_rng (t : Int) : 0 ≤ againR t ∧ againR t ≤ 9007199254740992 := by unfold againR; split <;> omega
theorem NOk.new (room tokens : Int) (hr : room ≤ 9223372036854775807) : NOk 0 (newN room tokens) := by
  have := againR_rng tokens
  exact ⟨LOk.nil (by simp [newN]) (by simp only [newN]; omega) (by simp only [newN]; omega), by simp [newN], by simp [newN], by simp [newN], by simp [newN], by simp only [newN]; omega, by simp only [newN]; omega, by simp [newN], by simp [newN], by simp [newN], by simp [newN]⟩
theorem NOk.last {k : Nat} {N : NodeS} (h : NOk k N) (hk : k ≤ 1000000) : 0 ≤ N.last ∧ N.last ≤ 9223372036854775806 := by have := h.l0; have := h.l1; omega
theorem useR_same {key : ByteArray} {token : Int} {L : List (ByteArray × One)} (h : ¬ (useR key token L).1 = true) : (useR key token L).2 = L := by
  unfold useR at h ⊢
  cases hf : aget key L with
  | none => rfl
  | some o =>
    rw [hf] at h
    simp only at h ⊢
    split
    · rename_i e; rw [if_pos e] at h; exact absurd rfl h
    · rfl
theorem setR_in {x : Mark} {limit : Int} {L : List Mark} (h : x ∈ L) : setR x limit L = (true, L) := by unfold setR; rw [if_pos h]
theorem setR_full {x : Mark} {limit : Int} {L : List Mark} (h : ¬ x ∈ L) (hl : limit ≤ (L.length : Int)) : setR x limit L = (false, L) := by unfold setR; rw [if_neg h, if_pos hl]
theorem setR_new {x : Mark} {limit : Int} {L : List Mark} (h : ¬ x ∈ L) (hl : ¬ limit ≤ (L.length : Int)) : setR x limit L = (true, L ++ [x]) := by unfold setR; rw [if_neg h, if_neg hl]
theorem mark_undo {x : Mark} {L : List Mark} (h : ¬ x ∈ L) : (if x ∈ L ++ [x] then (L ++ [x]).erase x else L ++ [x]) = L := by
  rw [if_pos (by simp), List.erase_append_right _ h]
  simp
theorem resR_no {L : List It} {room kept n : Int} (h : ¬ (resR L room kept n).2.1 = true) : resR L room kept n = ([], false, L, kept) := by
  unfold resR at h ⊢
  split
  · rfl
  · rename_i e; rw [if_neg e] at h; exact absurd rfl h
theorem keysOf_len (L : List It) : (keysOf L).length = L.length := by simp [keysOf]
abbrev lookV (N : NodeS) : Value := .agg #[.int .i64 (szs N.items + N.kept), .int .i64 (N.items.length : Nat), .int .i64 (N.marks.length : Nat), .int .i64 (N.lease.length : Nat), .int .i64 (N.tombs.length : Nat), .bool N.cold]
theorem inv_close {g a b c d : Nat} {N : NodeS} {key : ByteArray} {index : Int} {L : List It} {T : List (ByteArray × Int)} {F : Int} (h1 : L = invI key index N.items) (h2 : T = (invN key index N).tombs) (h3 : F = (invN key index N).floor) :
    Imp [NdC g a b c d N.cold N.since, MarksP a 32 N.marks, CacheP b L N.room N.kept, LeaseP c 32 10 (adel key N.lease) N.last, HoldP d 32 T F] [NodeP g (invN key index N)] := by
  subst h1 h2 h3
  exact NodeP_close (N := invN key index N)
end Go.Proofs.Ytgakbdofjlhoeaa.SL
