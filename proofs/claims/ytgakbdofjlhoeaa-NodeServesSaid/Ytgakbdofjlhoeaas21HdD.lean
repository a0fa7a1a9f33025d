/- The data of package holdoff: tombstones in memory. -/
import Derived.Test.YtgakbdofjlhoeaaSLR
import Derived.Test.Ytgakbdofjlhoeaas21LsD
namespace Go.Proofs.Ytgakbdofjlhoeaa.SL
open Go Go.RowKit

def intV (n : Int) : Value := .int .i64 n
abbrev HdC (g m : Nat) (limit floor : Int) : HP := pt g (.cells #[.int .i64 limit, .int .i64 floor, .map (some m)] 123 (0, 0))
/-- A table of tombstones. -/
def HoldP (g : Nat) (limit : Int) (L : List (ByteArray × Int)) (floor : Int) : HP := fun h => ∃ m, stars [HdC g m limit floor, Mp KS m (encL intV L)] h
theorem HoldP_opens (g : Nat) (limit : Int) (L : List (ByteArray × Int)) (floor : Int) : Opens (HoldP g limit L floor) fun l => ∃ m, l = [HdC g m limit floor, Mp KS m (encL intV L)] := by
  rintro h ⟨m, hs⟩
  exact ⟨_, ⟨m, rfl⟩, hs⟩
theorem HoldP_close {g m : Nat} {limit floor : Int} {L : List (ByteArray × Int)} : Imp [HdC g m limit floor, Mp KS m (encL intV L)] [HoldP g limit L floor] := fun h hh =>
  ⟨h, fun _ _ x => x, sep_emp ⟨m, hh⟩⟩
theorem intV_none {k : ByteArray} {L : List (ByteArray × Int)} (h : aget k L = none) (z : Value) : (mget k (encL intV L)).getD z = z := by rw [mget_enc, h]; rfl
theorem intV_some {k : ByteArray} {L : List (ByteArray × Int)} {n : Int} (h : aget k L = some n) (z : Value) : (mget k (encL intV L)).getD z = .int .i64 n := by rw [mget_enc, h]; rfl
theorem intV_is {k : ByteArray} {L : List (ByteArray × Int)} : (mget k (encL intV L)).isSome = (aget k L).isSome := by rw [mget_enc]; cases aget k L <;> rfl
def noteR (key : ByteArray) (index limit : Int) (L : List (ByteArray × Int)) (floor : Int) : List (ByteArray × Int) × Int :=
  if index < 1 then (L, floor) else match aget key L with
    | some n => (aput key (max n index) L, floor)
    | none => if (L.length : Int) < limit then (L ++ [(key, max 0 index)], floor) else (L, max floor index)
def allowsR (key : ByteArray) (asOf : Int) (L : List (ByteArray × Int)) (floor : Int) : Bool := decide (floor ≤ asOf) && match aget key L with
  | none => true
  | some n => decide (n ≤ asOf)
def passOne (index : Int) (x : ByteArray × Int) : Option (ByteArray × Int) := if x.2 ≤ index then none else some x
def passL (index : Int) (L : List (ByteArray × Int)) : List (ByteArray × Int) := L.filterMap (passOne index)
def passF (index floor : Int) : Int := if floor ≤ index then 0 else floor
theorem passOne_key {index : Int} : ∀ x y : ByteArray × Int, passOne index x = some y → y.1 = x.1 := fun x y h => by
  unfold passOne at h; split at h
  · cases h
  · simp at h; rw [h]
end Go.Proofs.Ytgakbdofjlhoeaa.SL
