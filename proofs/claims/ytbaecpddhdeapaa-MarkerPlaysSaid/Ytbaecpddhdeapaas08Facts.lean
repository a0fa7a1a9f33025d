/- Closed facts on the types of the program. -/
import Derived.Test.YtbaecpddhdeapaaSLM
import Derived.Test.YtbaecpddhdeapaaProg
namespace Go.Proofs.Ytbaecpddhdeapaa.SL
open Go
theorem pl34 : ∀ w, Sem.run Try.prog (Array.mapM (fun (f : Field) => do pure (f.offset, ← sizeOf f.type)) (#[{ name := "Key", type := 9, offset := 0, embedded := false, tag := "", pkgPath := "", byteOffset := 0 }, { name := "Session", type := 3, offset := 1, embedded := false, tag := "", pkgPath := "", byteOffset := 16 }, { name := "Request", type := 3, offset := 2, embedded := false, tag := "", pkgPath := "", byteOffset := 24 }] : Array Field)) w = .ok (#[(0, 1), (1, 1), (2, 1)] : Array (Nat × Nat)) w := fun w => by kernel_rfl
theorem pl53 : ∀ w, Sem.run Try.prog (Array.mapM (fun (f : Field) => do pure (f.offset, ← sizeOf f.type)) (#[{ name := "limit", type := 3, offset := 0, embedded := false, tag := "", pkgPath := "meridian/marker", byteOffset := 0 }, { name := "at", type := 51, offset := 1, embedded := false, tag := "", pkgPath := "meridian/marker", byteOffset := 8 }] : Array Field)) w = .ok (#[(0, 1), (1, 1)] : Array (Nat × Nat)) w := fun w => by kernel_rfl
theorem sz3 : Sz Try.prog 3 1 := by unfold Sz; kernel_rfl
theorem sz9 : Sz Try.prog 9 1 := by unfold Sz; kernel_rfl
theorem sz34 : Sz Try.prog 34 3 := by unfold Sz; kernel_rfl
theorem sz51 : Sz Try.prog 51 1 := by unfold Sz; kernel_rfl
theorem zr4 : Zr Try.prog 4 ((Go.Value.bool false)) := by unfold Zr; kernel_rfl
theorem zr34 : Zr Try.prog 34 ((Go.Value.agg #[(Go.Value.string { data := #[] }), (Go.Value.int Go.IntKind.i64 0), (Go.Value.int Go.IntKind.i64 0)])) := by unfold Zr; kernel_rfl
theorem zr53 : Zr Try.prog 53 ((Go.Value.agg #[(Go.Value.int Go.IntKind.i64 0), (Go.Value.map none)])) := by unfold Zr; kernel_rfl
end Go.Proofs.Ytbaecpddhdeapaa.SL
