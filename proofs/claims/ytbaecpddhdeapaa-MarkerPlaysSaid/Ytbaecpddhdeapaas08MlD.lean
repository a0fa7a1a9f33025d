/- The laws of package marker. -/
import Derived.Test.Ytbaecpddhdeapaas08Fb
import Derived.Test.Ytbaecpddhdeapaas08MsU
namespace Go.Proofs.Ytbaecpddhdeapaa.SL
open Go Go.RowKit

structure OpM where
  k : Int
  key : ByteArray
  ses : Int
  req : Int
def OpM.enc (o : OpM) : List Value := [.int .i64 o.k, .string o.key, .int .i64 o.ses, .int .i64 o.req]
abbrev OpM.m (o : OpM) : Mark := ⟨o.key, o.ses, o.req⟩
/-- The script as it lies in the world W. -/
def OpsAt (W : World) (a : Option Addr) (ops : List OpM) : Prop := ∀ i o, ops[i]? = some o → ∃ p, a = some p ∧ (∀ j v, o.enc[j]? = some v → W.cell? ((p.add (i * 4)).add j) = some v)

/-! the document's example -/
abbrev kA : ByteArray := ⟨#[97]⟩
abbrev kB : ByteArray := ⟨#[98]⟩
def ma1 : List Mark := [⟨kA, 1, 5⟩]
def ma2 : List Mark := [⟨kA, 1, 5⟩, ⟨kA, 1, 7⟩]
def ma3 : List Mark := [⟨kA, 1, 7⟩]
theorem mae1 : setR ⟨kA, 1, 5⟩ 2 [] = (true, ma1) := by rfl
theorem mae2 : setR ⟨kA, 1, 7⟩ 2 ma1 = (true, ma2) := by rfl
theorem mae3 : setR ⟨kB, 1, 8⟩ 2 ma2 = (false, ma2) := by rfl
theorem mae4 : (if (⟨kA, 1, 6⟩ : Mark) ∈ ma2 then ma2.erase ⟨kA, 1, 6⟩ else ma2) = ma2 := by rfl
theorem mae5 : restR (uptoP kA 1 6) ma2 = ma3 := by rfl
theorem mae6 : hasR kA ma3 = true := by rfl
theorem mae7 : (if (⟨kA, 1, 7⟩ : Mark) ∈ ma3 then ma3.erase ⟨kA, 1, 7⟩ else ma3) = [] := by rfl
theorem mae8 : decide ((⟨kA, 1, 6⟩ : Mark) ∈ ma2) = false := by rfl
theorem mae9 : decide ((⟨kA, 1, 7⟩ : Mark) ∈ ma3) = true := by rfl

/-! what is kept -/
theorem set_nd {x : Mark} {lim : Int} {L : List Mark} (h : L.Nodup) : (setR x lim L).2.Nodup := by
  unfold setR
  split
  · exact h
  · rename_i hx
    split
    · exact h
    · simp only [List.nodup_append]
      refine ⟨h, by simp, fun a ha b hb => ?_⟩
      simp at hb; subst hb
      exact fun e => hx (e ▸ ha)
theorem set_in {x y : Mark} {lim : Int} {L : List Mark} (h : y ∈ L) : y ∈ (setR x lim L).2 := by
  unfold setR
  split
  · exact h
  · split
    · exact h
    · exact List.mem_append_left _ h
theorem set_len (x : Mark) (lim : Int) (L : List Mark) : (setR x lim L).2.length ≤ L.length + 1 := by
  unfold setR
  split
  · exact Nat.le_succ _
  · split
    · exact Nat.le_succ _
    · simp
theorem set_room {x : Mark} {lim : Int} {L : List Mark} (h : (L.length : Int) < lim) : setR x lim L = (true, if x ∈ L then L else L ++ [x]) := by
  unfold setR
  by_cases hx : x ∈ L
  · simp [hx]
  · simp only [hx, if_false]; rw [if_neg (by omega)]
theorem set_mem {x y : Mark} {lim : Int} {L : List Mark} (h : (L.length : Int) < lim) : y ∈ (setR x lim L).2 ↔ y ∈ L ∨ y = x := by
  rw [set_room h]
  by_cases hx : x ∈ L
  · simp only [hx, if_true]
    exact ⟨.inl, fun h2 => by rcases h2 with h2 | rfl; exact h2; exact hx⟩
  · simp [hx]
theorem clr_in {x y : Mark} {L : List Mark} (h : y ∈ L) (hne : y ≠ x) : y ∈ (if x ∈ L then L.erase x else L) := by
  split
  · exact (List.mem_erase_of_ne hne).2 h
  · exact h
theorem clr_nd {x : Mark} {L : List Mark} (h : L.Nodup) : (if x ∈ L then L.erase x else L).Nodup := by
  split
  · exact h.sublist List.erase_sublist
  · exact h
theorem clr_len (x : Mark) (L : List Mark) : (if x ∈ L then L.erase x else L).length ≤ L.length := by
  split
  · exact List.erase_sublist.length_le
  · exact Nat.le_refl _
theorem rest_in {p : Mark → Bool} {y : Mark} {L : List Mark} (h : y ∈ L) (hp : p y = false) : y ∈ restR p L := by unfold restR; rw [List.mem_filter]; exact ⟨h, by simp [hp]⟩
theorem rest_nd {p : Mark → Bool} {L : List Mark} (h : L.Nodup) : (restR p L).Nodup := h.filter _
theorem rest_len (p : Mark → Bool) (L : List Mark) : (restR p L).length ≤ L.length := List.length_filter_le _ _
theorem hasR_mem {x : Mark} {L : List Mark} (h : x ∈ L) : hasR x.key L = true := by
  unfold hasR; rw [List.any_eq_true]; exact ⟨x, h, by simp⟩
/-- What of MarkerStays holds on the way. -/
structure StI (x : Mark) (i : Nat) (L : List Mark) : Prop where
  mem : x ∈ L
  nd : L.Nodup
  len : L.length ≤ i + 1
theorem StI.set {x y : Mark} {i : Nat} {L : List Mark} (h : StI x i L) : StI x (i + 1) (setR y 1000 L).2 := ⟨set_in h.mem, set_nd h.nd, by have := set_len y 1000 L; have := h.len; omega⟩
theorem StI.clr {x y : Mark} {i : Nat} {L : List Mark} (h : StI x i L) (hne : x ≠ y) : StI x (i + 1) (if y ∈ L then L.erase y else L) := ⟨clr_in h.mem hne, clr_nd h.nd, by have := clr_len y L; have := h.len; omega⟩
theorem StI.rest {x : Mark} {i : Nat} {L : List Mark} (h : StI x i L) {p : Mark → Bool} (hp : p x = false) : StI x (i + 1) (restR p L) := ⟨rest_in h.mem hp, rest_nd h.nd, by have := rest_len p L; have := h.len; omega⟩
theorem StI.more {x : Mark} {i : Nat} {L : List Mark} (h : StI x i L) : StI x (i + 1) L := ⟨h.mem, h.nd, by have := h.len; omega⟩
/-- Marks set one behind the other. -/
structure SetI (s : List Mark) (i : Nat) (L : List Mark) : Prop where
  nd : L.Nodup
  len : L.length ≤ i
  mem : ∀ m, m ∈ L ↔ m ∈ s
theorem SetI.nil : SetI [] 0 [] := ⟨by simp, by simp, by simp⟩
theorem SetI.set {s : List Mark} {i : Nat} {L : List Mark} (h : SetI s i L) (hi : i < 1000) (x : Mark) {s' : List Mark} (hs : ∀ m, m ∈ s' ↔ m ∈ s ∨ m = x) : SetI s' (i + 1) (setR x 1000 L).2 := by
  have hl : (L.length : Int) < 1000 := by have := h.len; omega
  exact ⟨set_nd h.nd, by have := set_len x 1000 L; have := h.len; omega, fun m => by rw [set_mem hl, hs m, h.mem m]⟩
theorem SetI.ok {s : List Mark} {i : Nat} {L : List Mark} (h : SetI s i L) (hi : i < 1000) (x : Mark) : (setR x 1000 L).1 = true := by rw [set_room (by have := h.len; omega)]
theorem SetI.perm {s : List Mark} {i j : Nat} {A B : List Mark} (ha : SetI s i A) (hb : SetI s j B) : A.Perm B := (List.perm_ext_iff_of_nodup ha.nd hb.nd).2 fun m => (ha.mem m).trans (hb.mem m).symm
def msOf (ops : List OpM) : List Mark := ops.map OpM.m
theorem ms_take {ops : List OpM} {i : Nat} {o : OpM} (h : ops[i]? = some o) (m : Mark) : m ∈ msOf (ops.take (i + 1)) ↔ m ∈ msOf (ops.take i) ∨ m = o.m := by
  unfold msOf; rw [List.take_add_one, h]; simp
theorem ms_drop {ops : List OpM} {i : Nat} {o : OpM} (h : ops[i]? = some o) (m : Mark) : m ∈ msOf (ops.drop i) ↔ m ∈ msOf (ops.drop (i + 1)) ∨ m = o.m := by
  have hlt := (List.getElem?_eq_some_iff.1 h).1
  unfold msOf; rw [List.drop_eq_getElem_cons hlt, (List.getElem?_eq_some_iff.1 h).2]
  simp only [List.map_cons, List.mem_cons]
  exact Or.comm
theorem filter_sort {p : Mark → Bool} {L : List Mark} (h : L.Nodup) : sortM (restR p L) = (sortM L).filter fun m => !p m :=
  (sortM_of ((sortM_perm L).filter _) ((sortM_up h).filter _)).symm
theorem rest_plus (p : Mark → Bool) (L : List Mark) : ((sortM L).filter fun m => !p m).length = (restR p L).length := ((sortM_perm L).filter _).length_eq
theorem ahead_at {L : List Mark} (h : L.Nodup) {i : Nat} {p q : Mark} (hp : (sortM L)[i]? = some p) (hq : (sortM L)[i + 1]? = some q) : Ahead p q := by
  have h1 := sortM_up h
  have e1 := (List.getElem?_eq_some_iff.1 hp)
  have e2 := (List.getElem?_eq_some_iff.1 hq)
  have := List.pairwise_iff_getElem.1 h1 i (i + 1) e1.1 e2.1 (Nat.lt_succ_self i)
  rw [e1.2, e2.2] at this
  exact this
theorem notLess {a b : ByteArray} (h : ¬ kl a < kl b) : Op.bytesLess a.data.toList b.data.toList = false := by rw [bytesLess_eq]; simpa using h
theorem EqJ_markSelf (m : Mark) : EqJ Try.prog 10000 34 (markV m) (markV m) true := by have := EqJ_mark m m; simpa using this
end Go.Proofs.Ytbaecpddhdeapaa.SL
