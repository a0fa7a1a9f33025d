/- Markers in order. -/
import Derived.Test.Ytbaecpddhdeapaas08Fb
import Derived.Test.YtbaecpddhdeapaaSLS
import Derived.Test.Ytbaecpddhdeapaas08MkW
import Derived.Ground.SlsfProg
import Derived.Shelf.Lay
namespace Go.Proofs.Ytbaecpddhdeapaa
open Go.Shelf Go.RowKit Go.Lib Go.Sort
shelf_lay_g SlLaysF0.n6 Slsf 6 at Try 21 as sortAt
end Go.Proofs.Ytbaecpddhdeapaa
namespace Go.Proofs.Ytbaecpddhdeapaa.SL
open Go Go.RowKit

def MkT : Ty Mark := { e := 34, sz := 3, bytes := 32, enc := fun x => [.string x.key, .int .i64 x.ses, .int .i64 x.req], len := fun _ => rfl, one := fun x u h => by simp at h; rcases h with rfl | rfl | rfl <;> rfl, pos := by decide }
def IntT : Ty Int := { e := 3, sz := 1, bytes := 8, enc := fun n => [.int .i64 n], len := fun _ => rfl, one := fun x u h => by simp at h; subst h; rfl, pos := by decide }
instance : Inhabited Mark := ⟨⟨⟨#[]⟩, 0, 0⟩⟩
theorem row_some {α : Type} {a : Option Nat} {cap : Nat} {xs : List α} (h : a = none → cap = 0 ∧ xs = []) (hx : xs ≠ []) : ∃ g, a = some g := by
  cases a with
  | none => exact absurd (h rfl).2 hx
  | some g => exact ⟨g, rfl⟩

def cmpB (a b : ByteArray) : Int := if Op.bytesLess a.data.toList b.data.toList = true then -1 else if Op.bytesLess b.data.toList a.data.toList = true then 1 else 0
def cmpI (a b : Int) : Int := if a < b then -1 else if b < a then 1 else 0
def orI : List Int → Int
  | [] => 0
  | x :: l => if x ≠ 0 then x else orI l
def cmpM (x y : Mark) : Int := orI [cmpB x.key y.key, cmpI x.ses y.ses, cmpI x.req y.req]
abbrev kl (a : ByteArray) : List UInt8 := a.data.toList
theorem kl_inj {a b : ByteArray} (h : kl a = kl b) : a = b := ByteArray.ext (Array.ext' h)
theorem cmpB_cases (a b : ByteArray) : (kl a < kl b ∧ cmpB a b = -1) ∨ (a = b ∧ cmpB a b = 0) ∨ (kl b < kl a ∧ cmpB a b = 1) := by
  unfold cmpB
  rw [bytesLess_eq, bytesLess_eq]
  simp only [decide_eq_true_eq]
  by_cases h1 : kl a < kl b
  · exact .inl ⟨h1, by rw [if_pos h1]⟩
  · rw [if_neg h1]
    by_cases h2 : kl b < kl a
    · exact .inr (.inr ⟨h2, by rw [if_pos h2]⟩)
    · refine .inr (.inl ⟨?_, by rw [if_neg h2]⟩)
      by_cases h3 : kl a = kl b
      · exact kl_inj h3
      · rcases lt_tri (kl a) (kl b) with h | h | h
        · exact absurd h h1
        · exact absurd h h3
        · exact absurd h h2
theorem cmpI_cases (a b : Int) : (a < b ∧ cmpI a b = -1) ∨ (a = b ∧ cmpI a b = 0) ∨ (b < a ∧ cmpI a b = 1) := by
  unfold cmpI
  by_cases h1 : a < b
  · exact .inl ⟨h1, by rw [if_pos h1]⟩
  · rw [if_neg h1]
    by_cases h2 : b < a
    · exact .inr (.inr ⟨h2, by rw [if_pos h2]⟩)
    · exact .inr (.inl ⟨by omega, by rw [if_neg h2]⟩)
/-- a comes ahead of b. -/
def Ahead (x y : Mark) : Prop := kl x.key < kl y.key ∨ (x.key = y.key ∧ (x.ses < y.ses ∨ (x.ses = y.ses ∧ x.req < y.req)))
theorem ltM_iff (x y : Mark) : ltOf cmpM x y = true ↔ Ahead x y := by
  unfold ltOf cmpM Ahead
  simp only [orI, decide_eq_true_eq]
  rcases cmpB_cases x.key y.key with ⟨h1, h2⟩ | ⟨h1, h2⟩ | ⟨h1, h2⟩
  · rw [h2]; simp [h1]
  · rw [h2, h1]
    rcases cmpI_cases x.ses y.ses with ⟨h3, h4⟩ | ⟨h3, h4⟩ | ⟨h3, h4⟩
    · rw [h4]; simp [h3]
    · rw [h4, h3]
      rcases cmpI_cases x.req y.req with ⟨h5, h6⟩ | ⟨h5, h6⟩ | ⟨h5, h6⟩
      · rw [h6]; simp [h5]
      · rw [h6, h5]; simp [List.lt_irrefl]
      · rw [h6]
        have : ¬ x.req < y.req := by omega
        simp [List.lt_irrefl, this]
    · rw [h4]
      have a1 : ¬ x.ses < y.ses := by omega
      have a2 : ¬ x.ses = y.ses := by omega
      simp [List.lt_irrefl, a1, a2]
  · rw [h2]
    have a1 : ¬ kl x.key < kl y.key := fun h => List.lt_asymm h h1
    have a2 : ¬ x.key = y.key := fun h => by rw [h] at h1; exact List.lt_irrefl _ h1
    simp [a1, a2]
theorem Ahead.irrefl (x : Mark) : ¬ Ahead x x := by
  rintro (h | ⟨_, h | ⟨_, h⟩⟩)
  · exact List.lt_irrefl _ h
  · omega
  · omega
theorem Ahead.trans {x y z : Mark} (h1 : Ahead x y) (h2 : Ahead y z) : Ahead x z := by
  rcases h1 with h1 | ⟨e1, h1⟩
  · rcases h2 with h2 | ⟨e2, _⟩
    · exact .inl (List.lt_trans h1 h2)
    · exact .inl (e2 ▸ h1)
  · rcases h2 with h2 | ⟨e2, h2⟩
    · exact .inl (e1 ▸ h2)
    · refine .inr ⟨e1.trans e2, ?_⟩
      rcases h1 with h1 | ⟨f1, h1⟩
      · rcases h2 with h2 | ⟨f2, _⟩
        · left; omega
        · left; omega
      · rcases h2 with h2 | ⟨f2, h2⟩
        · left; omega
        · right; omega
theorem Ahead.total (x y : Mark) : Ahead x y ∨ x = y ∨ Ahead y x := by
  rcases cmpB_cases x.key y.key with ⟨h1, _⟩ | ⟨h1, _⟩ | ⟨h1, _⟩
  · exact .inl (.inl h1)
  · rcases cmpI_cases x.ses y.ses with ⟨h3, _⟩ | ⟨h3, _⟩ | ⟨h3, _⟩
    · exact .inl (.inr ⟨h1, .inl h3⟩)
    · rcases cmpI_cases x.req y.req with ⟨h5, _⟩ | ⟨h5, _⟩ | ⟨h5, _⟩
      · exact .inl (.inr ⟨h1, .inr ⟨h3, h5⟩⟩)
      · refine .inr (.inl ?_); cases x; cases y; simp_all
      · exact .inr (.inr (.inr ⟨h1.symm, .inr ⟨h3.symm, h5⟩⟩))
    · exact .inr (.inr (.inr ⟨h1.symm, .inl h3⟩))
  · exact .inr (.inr (.inl h1))
theorem ltM_false {x y : Mark} : ltOf cmpM x y = false ↔ ¬ Ahead x y := by
  rw [← ltM_iff]; simp
theorem swoM : Go.Sort.SWO (ltOf cmpM) where
  irrefl x := ltM_false.2 (Ahead.irrefl x)
  trans x y z h1 h2 := (ltM_iff x z).2 (((ltM_iff x y).1 h1).trans ((ltM_iff y z).1 h2))
  ntrans x y z h1 h2 := by
    rw [ltM_false] at *
    intro h
    rcases Ahead.total x y with a | a | a
    · exact h1 a
    · subst a; exact h2 h
    · exact h2 (a.trans h)
theorem totM (x y : Mark) (h1 : ltOf cmpM x y = false) (h2 : ltOf cmpM y x = false) : x = y := by
  rw [ltM_false] at *
  rcases Ahead.total x y with a | a | a
  · exact absurd a h1
  · exact a
  · exact absurd a h2
/-- In order. -/
def sortM (L : List Mark) : List Mark := L.mergeSort fun x y => !(ltOf cmpM) y x
theorem sortM_perm (L : List Mark) : (sortM L).Perm L := List.mergeSort_perm _ _
theorem sortM_len (L : List Mark) : (sortM L).length = L.length := (sortM_perm L).length_eq
theorem sortM_le (L : List Mark) : (sortM L).Pairwise fun x y => (!(ltOf cmpM) y x) = true :=
  List.pairwise_mergeSort (fun a b c h1 h2 => by
    simp only [Bool.not_eq_true', ltM_false] at *
    intro h
    rcases Ahead.total b a with x | x | x
    · exact h1 x
    · subst x; exact h2 h
    · exact h2 (h.trans x)) (fun a b => by
    simp only [Bool.or_eq_true, Bool.not_eq_true', ltM_false]
    by_cases h : Ahead b a
    · exact .inr fun h2 => Ahead.irrefl _ (h.trans h2)
    · exact .inl h) L
theorem sortM_unique {A B : List Mark} (h : A.Perm B) : sortM A = sortM B := by
  refine List.Perm.eq_of_pairwise (le := fun x y => (!(ltOf cmpM) y x) = true) ?_ (sortM_le A) (sortM_le B) (((sortM_perm A).trans h).trans (sortM_perm B).symm)
  intro a b _ _ h1 h2
  simp only [Bool.not_eq_true'] at h1 h2
  exact totM a b h2 h1
theorem sortM_mem {L : List Mark} {x : Mark} : x ∈ sortM L ↔ x ∈ L := (sortM_perm L).mem_iff
theorem sortM_nd {L : List Mark} (h : L.Nodup) : (sortM L).Nodup := (sortM_perm L).nodup_iff.2 h
/-- Strictly rising. -/
theorem sortM_up {L : List Mark} (h : L.Nodup) : (sortM L).Pairwise Ahead := by
  have h1 := sortM_le L
  have h2 := sortM_nd h
  refine (h1.and h2).imp fun {a b} ⟨h3, h4⟩ => ?_
  simp only [Bool.not_eq_true', ltM_false] at h3
  rcases Ahead.total a b with x | x | x
  · exact x
  · exact absurd x h4
  · exact absurd x h3
/-- A list in order is what the sort makes of it. -/
theorem sortM_of {A L : List Mark} (h : A.Perm L) (hs : A.Pairwise Ahead) : A = sortM L := by
  refine List.Perm.eq_of_pairwise (le := fun x y => (!(ltOf cmpM) y x) = true) ?_ (hs.imp fun {a b} h => ?_) (sortM_le L) (h.trans (sortM_perm L).symm)
  · intro a b _ _ h1 h2
    simp only [Bool.not_eq_true'] at h1 h2
    exact totM a b h2 h1
  · simp only [Bool.not_eq_true', ltM_false]
    exact fun h2 => Ahead.irrefl _ (h.trans h2)
theorem erase_perm {β : Type} {A todo L : List β} {j : Nat} {k : β} (h : (A ++ todo).Perm L) (hj : todo[j]? = some k) : ((A ++ [k]) ++ todo.eraseIdx j).Perm L := by
  refine List.Perm.trans ?_ h
  have hlt := (List.getElem?_eq_some_iff.1 hj).1
  have e : todo = todo.take j ++ k :: todo.drop (j + 1) := by
    have h := List.take_append_drop j todo
    rw [List.drop_eq_getElem_cons hlt, (List.getElem?_eq_some_iff.1 hj).2] at h
    exact h.symm
  rw [List.append_assoc]
  refine List.Perm.append_left A ?_
  rw [List.eraseIdx_eq_take_drop_succ]
  conv => rhs; rw [e]
  show (k :: (todo.take j ++ todo.drop (j + 1))).Perm _
  exact List.perm_middle.symm
/-- Those that go. -/
def restR (p : Mark → Bool) (L : List Mark) : List Mark := L.filter fun m => !p m
def restI (p : Mark → Bool) (L : List Mark) (i : Nat) : List Mark := L.filter fun m => !(p m && decide (m ∈ (sortM L).take i))
theorem restI_zero (p : Mark → Bool) (L : List Mark) : restI p L 0 = L := by simp [restI]
theorem restI_all (p : Mark → Bool) (L : List Mark) : restI p L (sortM L).length = restR p L := by
  unfold restI restR
  refine List.filter_congr fun m hm => ?_
  have : m ∈ sortM L := sortM_mem.2 hm
  simp [List.take_length, this]
theorem take_mem {L : List Mark} {i : Nat} {m x : Mark} (hm : (sortM L)[i]? = some m) : x ∈ (sortM L).take (i + 1) ↔ x ∈ (sortM L).take i ∨ x = m := by
  rw [List.take_add_one, hm]; simp
theorem restI_keep {p : Mark → Bool} {L : List Mark} {i : Nat} {m : Mark} (hm : (sortM L)[i]? = some m) (hp : p m = false) : restI p L (i + 1) = restI p L i := by
  unfold restI
  refine List.filter_congr fun x _ => ?_
  by_cases hx : x = m
  · subst hx; simp [hp]
  · have : (x ∈ (sortM L).take (i + 1)) = (x ∈ (sortM L).take i) := by rw [take_mem hm]; simp [hx]
    simp [this]
theorem restI_go {p : Mark → Bool} {L : List Mark} {i : Nat} {m : Mark} (hn : L.Nodup) (hm : (sortM L)[i]? = some m) (hp : p m = true) : restI p L (i + 1) = (restI p L i).erase m := by
  unfold restI
  rw [List.Nodup.erase_eq_filter (List.Pairwise.filter _ hn) m, List.filter_filter]
  refine List.filter_congr fun x _ => ?_
  by_cases hx : x = m
  · subst hx
    have : x ∈ (sortM L).take (i + 1) := (take_mem hm).2 (.inr rfl)
    simp [hp, this]
  · have : (x ∈ (sortM L).take (i + 1)) = (x ∈ (sortM L).take i) := by rw [take_mem hm]; simp [hx]
    simp [this, hx]
theorem restI_in {p : Mark → Bool} {L : List Mark} {i : Nat} {m : Mark} (hn : L.Nodup) (hm : (sortM L)[i]? = some m) : m ∈ restI p L i := by
  unfold restI
  rw [List.mem_filter]
  refine ⟨sortM_mem.1 (List.mem_of_getElem? hm), ?_⟩
  have : ¬ m ∈ (sortM L).take i := by
    intro h
    obtain ⟨j, hj⟩ := List.getElem?_of_mem h
    have hjl : j < i := by have := (List.getElem?_eq_some_iff.1 hj).1; rw [List.length_take] at this; omega
    rw [List.getElem?_take_of_lt hjl] at hj
    have := (List.getElem?_inj (by exact (List.getElem?_eq_some_iff.1 hj).1) (sortM_nd hn)).1 (hj.trans hm.symm)
    omega
  simp [this]
end Go.Proofs.Ytbaecpddhdeapaa.SL
