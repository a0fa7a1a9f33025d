/- Drop, either way. -/
import Derived.Test.Ytgakbdofjlhoeaas21LrY
namespace Go.Proofs.Ytgakbdofjlhoeaa.SL
open Go Go.RowKit
theorem Drop_any (g : Nat) (L : List It) (room kept : Int) (hI : LOk L room kept) (key : ByteArray) : Spec Try.prog 43 #[.pointer (some ⟨g, 0, none⟩), .string key] [CacheP g L room kept] fun v C => v = .bool (findK key L).isSome ∧ C = [CacheP g (dropK key L) room kept] := by
  cases h : findK key L with
  | none => rw [drop_none h]; exact Drop_no g L room kept key h
  | some t => exact Drop_yes g L room kept hI key t h
end Go.Proofs.Ytgakbdofjlhoeaa.SL
