/- The data of package lease: a table of leases in memory. -/
import Derived.Test.YtgakbdofjlhoeaaSLN
import Derived.Test.Ytgakbdofjlhoeaas21LrD
namespace Go.Proofs.Ytgakbdofjlhoeaa.SL
open Go Go.RowKit

structure One where
  token : Int
  left : Int
def oneV (o : One) : Value := .agg #[.int .i64 o.token, .int .i64 o.left]
abbrev LsC (g m : Nat) (limit ticks last : Int) : HP := pt g (.cells #[.int .i64 limit, .int .i64 ticks, .map (some m), .int .i64 last] 112 (0, 0))
/-- A table of leases. -/
def LeaseP (g : Nat) (limit ticks : Int) (L : List (ByteArray × One)) (last : Int) : HP := fun h => ∃ m, stars [LsC g m limit ticks last, Mp KS m (encL oneV L)] h
theorem LeaseP_opens (g : Nat) (limit ticks : Int) (L : List (ByteArray × One)) (last : Int) : Opens (LeaseP g limit ticks L last) fun l => ∃ m, l = [LsC g m limit ticks last, Mp KS m (encL oneV L)] := by
  rintro h ⟨m, hs⟩
  exact ⟨_, ⟨m, rfl⟩, hs⟩
theorem LeaseP_close {g m : Nat} {limit ticks last : Int} {L : List (ByteArray × One)} : Imp [LsC g m limit ticks last, Mp KS m (encL oneV L)] [LeaseP g limit ticks L last] := fun h hh =>
  ⟨h, fun _ _ x => x, sep_emp ⟨m, hh⟩⟩
theorem oneV_none {k : ByteArray} {L : List (ByteArray × One)} (h : aget k L = none) (z : Value) : (mget k (encL oneV L)).getD z = z := by rw [mget_enc, h]; rfl
theorem oneV_some {k : ByteArray} {L : List (ByteArray × One)} {o : One} (h : aget k L = some o) (z : Value) : (mget k (encL oneV L)).getD z = .agg #[.int .i64 o.token, .int .i64 o.left] := by rw [mget_enc, h]; rfl
theorem oneV_is {k : ByteArray} {L : List (ByteArray × One)} : (mget k (encL oneV L)).isSome = (aget k L).isSome := by rw [mget_enc]; cases aget k L <;> rfl
def useR (key : ByteArray) (token : Int) (L : List (ByteArray × One)) : Bool × List (ByteArray × One) := match aget key L with
  | none => (false, L)
  | some o => if o.token = token then (true, adel key L) else (false, L)
def grantR (key : ByteArray) (limit ticks : Int) (L : List (ByteArray × One)) (last : Int) : Int × Bool × List (ByteArray × One) × Int :=
  if limit ≤ (L.length : Int) then (0, false, L, last) else match aget key L with
    | some _ => (0, false, L, last)
    | none => (last + 1, true, L ++ [(key, ⟨last + 1, ticks⟩)], last + 1)
def againR (last : Int) : Int := if 0 ≤ last ∧ last ≤ 9007199254740992 then last else 0
def tickOne (x : ByteArray × One) : Option (ByteArray × One) := if x.2.left - 1 < 1 then none else some (x.1, ⟨x.2.token, x.2.left - 1⟩)
open Classical in
noncomputable def pend (todo : List ByteArray) (x : ByteArray × One) : Option (ByteArray × One) := if x.1 ∈ todo then some x else tickOne x
theorem tickOne_key {x y : ByteArray × One} (h : tickOne x = some y) : y.1 = x.1 := by
  unfold tickOne at h; split at h
  · cases h
  · simp at h; rw [← h]
theorem pend_key {todo : List ByteArray} {x y : ByteArray × One} (h : pend todo x = some y) : y.1 = x.1 := by
  unfold pend at h; split at h
  · simp at h; rw [h]
  · exact tickOne_key h
theorem pend_all (L : List (ByteArray × One)) : L.filterMap (pend (L.map (·.1))) = L := by
  have : ∀ l : List (ByteArray × One), (∀ x ∈ l, x.1 ∈ L.map (·.1)) → l.filterMap (pend (L.map (·.1))) = l := by
    intro l
    induction l with
    | nil => intro _; rfl
    | cons x l ih =>
      intro h
      have hx : pend (L.map (·.1)) x = some x := by unfold pend; rw [if_pos (h x (by simp))]
      rw [List.filterMap_cons, hx, ih fun y hy => h y (by simp [hy])]
  exact this L fun x hx => List.mem_map_of_mem hx
theorem pend_none (L : List (ByteArray × One)) : L.filterMap (pend []) = L.filterMap tickOne := by
  congr 1
  funext x
  unfold pend
  rw [if_neg (by simp)]
theorem erase_mem {todo : List ByteArray} {j : Nat} {k x : ByteArray} (hn : todo.Nodup) (hj : todo[j]? = some k) (hx : x ≠ k) : x ∈ todo.eraseIdx j ↔ x ∈ todo := by
  induction todo generalizing j with
  | nil => simp
  | cons y l ih =>
    cases j with
    | zero => simp at hj; subst hj; simp [hx]
    | succ j => simp only [List.eraseIdx_cons_succ, List.mem_cons]; rw [ih (List.nodup_cons.1 hn).2 (by simpa using hj)]
theorem erase_not {todo : List ByteArray} {j : Nat} {k : ByteArray} (hn : todo.Nodup) (hj : todo[j]? = some k) : k ∉ todo.eraseIdx j := by
  induction todo generalizing j with
  | nil => simp
  | cons y l ih =>
    rw [List.nodup_cons] at hn
    cases j with
    | zero => simp at hj; subst hj; simpa using hn.1
    | succ j =>
      have hj' : l[j]? = some k := by simpa using hj
      simp only [List.eraseIdx_cons_succ, List.mem_cons, not_or]
      exact ⟨fun e => hn.1 (e ▸ List.mem_of_getElem? hj'), ih hn.2 hj'⟩
theorem pend_else {todo : List ByteArray} {j : Nat} {k : ByteArray} (hn : todo.Nodup) (hj : todo[j]? = some k) : ∀ x : ByteArray × One, x.1 ≠ k → pend todo x = pend (todo.eraseIdx j) x := fun x hx => by
  unfold pend
  by_cases h : x.1 ∈ todo
  · rw [if_pos h, if_pos ((erase_mem hn hj hx).2 h)]
  · rw [if_neg h, if_neg (fun h2 => h ((erase_mem hn hj hx).1 h2))]
theorem pend_mem {todo : List ByteArray} {k : ByteArray} {o : One} {L : List (ByteArray × One)} (hk : k ∈ todo) (h : (k, o) ∈ L.filterMap (pend todo)) : (k, o) ∈ L := by
  obtain ⟨x, hx, e⟩ := List.mem_filterMap.1 h
  have := pend_key e
  simp only at this
  unfold pend at e
  rw [if_pos (this ▸ hk)] at e
  simp at e; rw [← e]; exact hx
theorem oneV_mem {k : ByteArray} {u : Value} {L : List (ByteArray × One)} (h : (k, u) ∈ encL oneV L) : ∃ o : One, u = oneV o ∧ (k, o) ∈ L := by
  obtain ⟨⟨k1, o⟩, hx, e⟩ := List.mem_map.1 h
  simp only [Prod.mk.injEq] at e
  exact ⟨o, e.2.symm, e.1 ▸ hx⟩
end Go.Proofs.Ytgakbdofjlhoeaa.SL
