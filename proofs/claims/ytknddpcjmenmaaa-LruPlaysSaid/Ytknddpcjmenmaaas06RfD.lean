/- The reference of layer 6 in memory. -/
import Derived.Test.Ytknddpcjmenmaaas06LrD
namespace Go.Proofs.Ytknddpcjmenmaaa.SL
open Go Go.RowKit
def ThT : Ty It := { e := 37, sz := 3, bytes := 32, enc := fun t => [.string t.key, .int .i64 t.size, .int .i64 t.val], len := fun _ => rfl, one := fun x u h => by simp at h; rcases h with rfl | rfl | rfl <;> rfl, pos := by decide }
abbrev RfC (g : Nat) (a : Option Nat) (m cap : Nat) (room kept : Int) : HP := pt g (.cells #[.slice (sl a) m cap, .int .i64 room, .int .i64 kept] 29 (0, 0))
def RCacheP (g : Nat) (L : List It) (room kept : Int) : HP := fun h => ∃ a cap, stars [RfC g a L.length cap room kept, Row ThT a cap L] h
theorem RCacheP_opens (g : Nat) (L : List It) (room kept : Int) : Opens (RCacheP g L room kept) fun l => ∃ a cap, l = [RfC g a L.length cap room kept, Row ThT a cap L] := by
  rintro h ⟨a, cap, hs⟩
  exact ⟨_, ⟨a, cap, rfl⟩, hs⟩
theorem RCacheP_close {g : Nat} {a : Option Nat} {m cap : Nat} {L : List It} {room kept : Int} (hm : m = L.length) : Imp [RfC g a m cap room kept, Row ThT a cap L] [RCacheP g L room kept] := fun h hh => by
  subst hm; exact ⟨h, fun _ _ x => x, sep_emp ⟨a, cap, hh⟩⟩
theorem sliceNil {a : Option Nat} {cap : Nat} {α : Type} {L : List α} (h : a = none → cap = 0 ∧ L = []) {i : Nat} {x : α} (hx : L[i]? = some x) : ∃ ga, a = some ga := by
  cases a with
  | none => obtain ⟨_, rfl⟩ := h rfl; simp at hx
  | some ga => exact ⟨ga, rfl⟩
theorem szs_step {L : List It} {i : Nat} {x : It} (h : L[i]? = some x) : szs (L.take (i + 1)) = szs (L.take i) + x.size := by
  rw [List.take_add_one, h, szs_app]; simp [szs]
theorem LOk.left {A B : List It} {room kept : Int} (h : LOk (A ++ B) room kept) : LOk A room kept := by
  have := h.take A.length
  rwa [List.take_left] at this
theorem foundI {L : List It} {k : ByteArray} {t : It} (h : findK k L = some t) : ∃ A B, L = A ++ t :: B ∧ t.key = k ∧ ∀ x ∈ A, x.key ≠ k := by
  obtain ⟨h1, A, B, h2, h3⟩ := List.find?_eq_some_iff_append.1 h
  exact ⟨A, B, h2, by simpa using h1, fun x hx => by simpa using h3 x hx⟩
theorem findK_none {L : List It} {k : ByteArray} (h : findK k L = none) : ∀ x ∈ L, x.key ≠ k := fun x hx => by
  have := List.find?_eq_none.1 h x hx
  simpa using this
theorem load_rroom {P : Program} {s : World} {H R : List HP} {t : TypeId} {g : Nat} {L : List It} {room kept : Int} (ht : P.underlying t = some (.int .i64)) (pk : Pick H (RCacheP g L room kept) R) : LoadJ P s H t ⟨g, 1, none⟩ (.int .i64 room) :=
  load_opens (RCacheP_opens _ _ _ _) pk (by rintro _ ⟨a, cap, rfl⟩; exact load_cell ht rfl .here (.s .z))
theorem load_rkept {P : Program} {s : World} {H R : List HP} {t : TypeId} {g : Nat} {L : List It} {room kept : Int} (ht : P.underlying t = some (.int .i64)) (pk : Pick H (RCacheP g L room kept) R) : LoadJ P s H t ⟨g, 2, none⟩ (.int .i64 kept) :=
  load_opens (RCacheP_opens _ _ _ _) pk (by rintro _ ⟨a, cap, rfl⟩; exact load_cell ht rfl .here (.s (.s .z)))
end Go.Proofs.Ytknddpcjmenmaaa.SL
