/- Closed facts on the types of the program, of the laws. -/
import Derived.Test.Ytbaecpddhdeapaas08Facts
namespace Go.Proofs.Ytbaecpddhdeapaa.SL
open Go
theorem by34 : By Try.prog 34 32 := by unfold By; kernel_rfl
theorem by46 : By Try.prog 46 32 := by unfold By; kernel_rfl
theorem pl45 : ∀ w, Sem.run Try.prog (Array.mapM (fun (f : Field) => do pure (f.offset, ← sizeOf f.type)) (#[{ name := "L", type := 43, offset := 0, embedded := false, tag := "", pkgPath := "", byteOffset := 0 }, { name := "Limit", type := 3, offset := 1, embedded := false, tag := "", pkgPath := "", byteOffset := 24 }] : Array Field)) w = .ok (#[(0, 1), (1, 1)] : Array (Nat × Nat)) w := fun w => by kernel_rfl
theorem pl46 : ∀ w, Sem.run Try.prog (Array.mapM (fun (f : Field) => do pure (f.offset, ← sizeOf f.type)) (#[{ name := "Key", type := 9, offset := 0, embedded := false, tag := "", pkgPath := "", byteOffset := 0 }, { name := "Session", type := 3, offset := 1, embedded := false, tag := "", pkgPath := "", byteOffset := 16 }, { name := "Request", type := 3, offset := 2, embedded := false, tag := "", pkgPath := "", byteOffset := 24 }] : Array Field)) w = .ok (#[(0, 1), (1, 1), (2, 1)] : Array (Nat × Nat)) w := fun w => by kernel_rfl
theorem sz29 : Sz Try.prog 29 4 := by unfold Sz; kernel_rfl
theorem sz43 : Sz Try.prog 43 1 := by unfold Sz; kernel_rfl
theorem sz46 : Sz Try.prog 46 3 := by unfold Sz; kernel_rfl
theorem zr3 : Zr Try.prog 3 ((Go.Value.int Go.IntKind.i64 0)) := by unfold Zr; kernel_rfl
theorem zr29 : Zr Try.prog 29 ((Go.Value.agg #[(Go.Value.int Go.IntKind.i64 0), (Go.Value.string { data := #[] }), (Go.Value.int Go.IntKind.i64 0), (Go.Value.int Go.IntKind.i64 0)])) := by unfold Zr; kernel_rfl
theorem zr45 : Zr Try.prog 45 ((Go.Value.agg #[(Go.Value.slice none 0 0), (Go.Value.int Go.IntKind.i64 0)])) := by unfold Zr; kernel_rfl
theorem zr46 : Zr Try.prog 46 ((Go.Value.agg #[(Go.Value.string { data := #[] }), (Go.Value.int Go.IntKind.i64 0), (Go.Value.int Go.IntKind.i64 0)])) := by unfold Zr; kernel_rfl
end Go.Proofs.Ytbaecpddhdeapaa.SL
