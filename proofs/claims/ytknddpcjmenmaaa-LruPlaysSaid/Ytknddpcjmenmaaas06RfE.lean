/- Drop of the reference, either way. -/
import Derived.Test.Ytknddpcjmenmaaas06RfW
namespace Go.Proofs.Ytknddpcjmenmaaa.SL
open Go Go.RowKit
theorem RDrop_any (g : Nat) (L : List It) (room kept : Int) (key : ByteArray) (hl : L.length ≤ 1000000) : Spec Try.prog 13 #[.pointer (some ⟨g, 0, none⟩), .string key] [RCacheP g L room kept] fun v C => v = .bool (findK key L).isSome ∧ C = [RCacheP g (dropK key L) room kept] := by
  cases h : findK key L with
  | none => rw [drop_none h]; exact RDrop_no g L room kept key (findK_none h)
  | some t =>
    obtain ⟨A, B, rfl, rfl, hA⟩ := foundI h
    rw [drop_at hA]
    exact RDrop_yes g A B t room kept hA hl
end Go.Proofs.Ytknddpcjmenmaaa.SL
