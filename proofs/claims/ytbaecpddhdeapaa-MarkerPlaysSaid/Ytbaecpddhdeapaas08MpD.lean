/- The document's answer for markers: a list in order. -/
import Derived.Test.Ytbaecpddhdeapaas08Fb
import Derived.Test.Ytbaecpddhdeapaas08MlA
namespace Go.Proofs.Ytbaecpddhdeapaa.SL
open Go Go.RowKit

def RkT : Ty Mark := { e := 46, sz := 3, bytes := 32, enc := fun x => [.string x.key, .int .i64 x.ses, .int .i64 x.req], len := fun _ => rfl, one := fun x u h => by simp at h; rcases h with rfl | rfl | rfl <;> rfl, pos := by decide }
abbrev RTabC (g : Nat) (a : Option Nat) (n cap : Nat) (lim : Int) : HP := pt g (.cells #[.slice (sl a) n cap, .int .i64 lim] 45 (0, 0))
theorem EqJ_markR (a b : Mark) : EqJ Try.prog 10000 46 (markV a) (markV b) (decide (a = b)) :=
  (EqJ_struct Try.underlying46 (by kernel_rfl) (.cons rfl (PartJ_cell Try.underlying9 rfl .z) (PartJ_cell Try.underlying9 rfl .z) (EqJ_str Try.underlying9)
    (.cons rfl (PartJ_cell Try.underlying3 rfl (.s .z)) (PartJ_cell Try.underlying3 rfl (.s .z)) (EqJ_int Try.underlying3)
      (.cons rfl (PartJ_cell Try.underlying3 rfl (.s (.s .z))) (PartJ_cell Try.underlying3 rfl (.s (.s .z))) (EqJ_int Try.underlying3) .nil)))).to (by
    cases a; cases b
    rw [Bool.eq_iff_iff]
    simp)
def lessB (x y : Mark) : Bool := if x.key ≠ y.key then Op.bytesLess x.key.data.toList y.key.data.toList else if x.ses ≠ y.ses then decide (x.ses < y.ses) else decide (x.req < y.req)
theorem lessB_iff (x y : Mark) : lessB x y = true ↔ Ahead x y := by
  unfold lessB Ahead
  by_cases hk : x.key = y.key
  · rw [if_neg (by simpa using hk)]
    by_cases hs : x.ses = y.ses
    · rw [if_neg (by simpa using hs)]
      simp [hk, hs, List.lt_irrefl]
    · rw [if_pos hs]
      simp [hk, hs, List.lt_irrefl]
  · rw [if_pos hk, bytesLess_eq]
    simp [hk]
theorem sortM_nil : sortM [] = [] := by simp [sortM]
theorem lessB_false {x y : Mark} : lessB x y = false ↔ ¬ Ahead x y := by rw [← lessB_iff]; simp
/-- How many come ahead. -/
def posR (m : Mark) (A : List Mark) : Nat := (A.takeWhile fun x => lessB x m).length
def rsetR (m : Mark) (lim : Int) (A : List Mark) : Bool × List Mark :=
  if A[posR m A]? = some m then (true, A) else if lim ≤ (A.length : Int) then (false, A) else (true, A.take (posR m A) ++ [m] ++ A.drop (posR m A))
theorem posR_le (m : Mark) (A : List Mark) : posR m A ≤ A.length := (List.takeWhile_sublist _).length_le
theorem posR_more {m x : Mark} : ∀ {A : List Mark} {i : Nat}, i ≤ posR m A → A[i]? = some x → lessB x m = true → i + 1 ≤ posR m A
  | [], i, _, hx, _ => by simp at hx
  | y :: l, 0, _, hx, hl => by simp at hx; subst hx; simp [posR, hl]
  | y :: l, i + 1, h, hx, hl => by
    unfold posR at h ⊢
    rw [List.takeWhile_cons] at h ⊢
    split
    · rename_i hy
      rw [if_pos hy] at h
      simp only [List.length_cons] at h ⊢
      have := posR_more (m := m) (A := l) (i := i) (by unfold posR; omega) (by simpa using hx) hl
      unfold posR at this; omega
    · rename_i hy; rw [if_neg hy] at h; simp at h
theorem posR_stop {m x : Mark} : ∀ {A : List Mark} {i : Nat}, i ≤ posR m A → A[i]? = some x → lessB x m = false → i = posR m A
  | [], i, _, hx, _ => by simp at hx
  | y :: l, 0, _, hx, hl => by simp at hx; subst hx; simp [posR, hl]
  | y :: l, i + 1, h, hx, hl => by
    unfold posR at h ⊢
    rw [List.takeWhile_cons] at h ⊢
    split
    · rename_i hy
      rw [if_pos hy] at h
      simp only [List.length_cons] at h ⊢
      have := posR_stop (m := m) (A := l) (i := i) (by unfold posR; omega) (by simpa using hx) hl
      unfold posR at this; omega
    · rename_i hy; rw [if_neg hy] at h; simp at h
theorem tw_take (m : Mark) : ∀ A : List Mark, A.take (posR m A) = A.takeWhile fun x => lessB x m
  | [] => rfl
  | y :: l => by
    have ih := tw_take m l
    unfold posR at ih ⊢
    rw [List.takeWhile_cons]
    split
    · simp [ih]
    · simp
theorem tw_mem {p : Mark → Bool} {x : Mark} : ∀ {A : List Mark}, x ∈ A.takeWhile p → p x = true
  | [], h => by simp at h
  | y :: l, h => by
    rw [List.takeWhile_cons] at h
    split at h
    · rename_i hy
      rcases List.mem_cons.1 h with rfl | h
      · exact hy
      · exact tw_mem h
    · simp at h
/-- The list with a marker more. -/
theorem rset_sort {m : Mark} {lim : Int} {L : List Mark} (hn : L.Nodup) : rsetR m lim (sortM L) = ((setR m lim L).1, sortM (setR m lim L).2) := by
  have hup := sortM_up hn
  have hlen := sortM_len L
  have hlow : ∀ x ∈ (sortM L).take (posR m (sortM L)), Ahead x m := by
    rw [tw_take]
    intro x hx
    exact (lessB_iff x m).1 (tw_mem (p := fun x => lessB x m) hx)
  have hhigh : ∀ x ∈ (sortM L).drop (posR m (sortM L)), ¬ Ahead x m := by
    intro x hx h
    obtain ⟨j, hj⟩ := List.getElem?_of_mem hx
    rw [List.getElem?_drop] at hj
    have hjl := (List.getElem?_eq_some_iff.1 hj)
    have hjl1 := hjl.1
    obtain ⟨y, hy⟩ : ∃ y, (sortM L)[posR m (sortM L)]? = some y := ⟨_, List.getElem?_eq_getElem (by omega)⟩
    have hya : Ahead y m := by
      cases j with
      | zero => rw [Nat.add_zero] at hj; rw [hj] at hy; cases hy; exact h
      | succ j =>
        have h2 := List.pairwise_iff_getElem.1 hup (posR m (sortM L)) (posR m (sortM L) + (j + 1)) (by omega) hjl.1 (by omega)
        have e1 := (List.getElem?_eq_some_iff.1 hy).2
        rw [e1, hjl.2] at h2
        exact h2.trans h
    have := posR_more (Nat.le_refl _) hy ((lessB_iff y m).2 hya)
    omega
  have hsplit : (sortM L) = (sortM L).take (posR m (sortM L)) ++ (sortM L).drop (posR m (sortM L)) := (List.take_append_drop _ _).symm
  unfold rsetR setR
  by_cases hm : m ∈ L
  · rw [if_pos hm]
    have hms : m ∈ sortM L := sortM_mem.2 hm
    rw [hsplit] at hms
    have hd : m ∈ (sortM L).drop (posR m (sortM L)) := by
      rcases List.mem_append.1 hms with h | h
      · exact absurd (hlow m h) (Ahead.irrefl m)
      · exact h
    have hat : (sortM L)[posR m (sortM L)]? = some m := by
      obtain ⟨j, hj⟩ := List.getElem?_of_mem hd
      rw [List.getElem?_drop] at hj
      cases j with
      | zero => simpa using hj
      | succ j =>
        exfalso
        have hjl := (List.getElem?_eq_some_iff.1 hj)
        have hjl1 := hjl.1
        have h2 := List.pairwise_iff_getElem.1 hup (posR m (sortM L)) (posR m (sortM L) + (j + 1)) (by omega) hjl.1 (by omega)
        rw [hjl.2] at h2
        refine hhigh _ ?_ h2
        rw [List.mem_iff_getElem?]
        exact ⟨0, by rw [List.getElem?_drop, Nat.add_zero]; exact List.getElem?_eq_getElem (by omega)⟩
    rw [if_pos hat]
  · rw [if_neg hm]
    have hat : ¬ (sortM L)[posR m (sortM L)]? = some m := fun h => hm (sortM_mem.1 (List.mem_of_getElem? h))
    rw [if_neg hat, hlen]
    split
    · rfl
    · simp only [Prod.mk.injEq, true_and]
      refine sortM_of ?_ ?_
      · have h1 : ((sortM L).take (posR m (sortM L)) ++ [m] ++ (sortM L).drop (posR m (sortM L))).Perm (m :: sortM L) := by
          rw [List.append_assoc]
          show ((sortM L).take (posR m (sortM L)) ++ m :: (sortM L).drop (posR m (sortM L))).Perm _
          refine (List.perm_middle (a := m)).trans ?_
          rw [List.take_append_drop]
        refine h1.trans ?_
        refine ((sortM_perm L).cons m).trans ?_
        exact (List.perm_append_comm (l₁ := [m]) (l₂ := L))
      · rw [hsplit] at hup
        rw [List.append_assoc, List.pairwise_append]
        rw [List.pairwise_append] at hup
        refine ⟨hup.1, ?_, ?_⟩
        · rw [List.singleton_append, List.pairwise_cons]
          refine ⟨fun x hx => ?_, hup.2.1⟩
          rcases Ahead.total m x with h | h | h
          · exact h
          · subst h; exact absurd (sortM_mem.1 (List.mem_of_mem_drop hx)) hm
          · exact absurd h (hhigh x hx)
        · intro x hx y hy
          rw [List.singleton_append, List.mem_cons] at hy
          rcases hy with rfl | hy
          · exact hlow x hx
          · exact hup.2.2 x hx y hy
theorem sort_erase {m : Mark} {L : List Mark} (hn : L.Nodup) : (sortM L).filter (fun x => !decide (x = m)) = sortM (if m ∈ L then L.erase m else L) := by
  have h1 : (if m ∈ L then L.erase m else L) = restR (fun x => decide (x = m)) L := by
    unfold restR
    by_cases hm : m ∈ L
    · rw [if_pos hm, List.Nodup.erase_eq_filter hn m]
      refine List.filter_congr fun x _ => ?_
      by_cases hx : x = m <;> simp [hx]
    · rw [if_neg hm]
      exact (List.filter_eq_self.2 fun x hx => by simp; exact fun e => hm (e ▸ hx)).symm
  rw [h1, filter_sort hn]
theorem erase_count {m : Mark} {L : List Mark} (hn : L.Nodup) : decide (m ∈ L) = decide (0 < ((sortM L).length : Int) - ((sortM L).filter (fun x => !decide (x = m))).length) := by
  rw [sort_erase hn, sortM_len, sortM_len, Bool.eq_iff_iff]
  simp only [decide_eq_true_eq]
  by_cases hm : m ∈ L
  · rw [if_pos hm, List.length_erase_of_mem hm]
    have := List.length_pos_of_mem hm
    simp only [hm, true_iff]; omega
  · rw [if_neg hm]; simp [hm]
theorem has_sort (key : ByteArray) (L : List Mark) : hasR key (sortM L) = hasR key L := by
  unfold hasR
  rw [Bool.eq_iff_iff, List.any_eq_true, List.any_eq_true]
  constructor
  · rintro ⟨x, hx, h⟩; exact ⟨x, sortM_mem.1 hx, h⟩
  · rintro ⟨x, hx, h⟩; exact ⟨x, sortM_mem.2 hx, h⟩
/-- What MarkerPlays keeps. -/
structure PlI (i : Nat) (L : List Mark) : Prop where
  nd : L.Nodup
  len : L.length ≤ i
theorem PlI.set {i : Nat} {L : List Mark} (h : PlI i L) (x : Mark) (lim : Int) : PlI (i + 1) (setR x lim L).2 := ⟨set_nd h.nd, by have := set_len x lim L; have := h.len; omega⟩
theorem PlI.clr {i : Nat} {L : List Mark} (h : PlI i L) (x : Mark) : PlI (i + 1) (if x ∈ L then L.erase x else L) := ⟨clr_nd h.nd, by have := clr_len x L; have := h.len; omega⟩
theorem PlI.rest {i : Nat} {L : List Mark} (h : PlI i L) (p : Mark → Bool) : PlI (i + 1) (restR p L) := ⟨rest_nd h.nd, by have := rest_len p L; have := h.len; omega⟩
theorem PlI.more {i : Nat} {L : List Mark} (h : PlI i L) : PlI (i + 1) L := ⟨h.nd, Nat.le_succ_of_le h.len⟩
theorem PlI.nil (i : Nat) : PlI i [] := ⟨by simp, by simp⟩
end Go.Proofs.Ytbaecpddhdeapaa.SL
