/- Closed facts on the types of the program. -/
import Derived.Test.YtknddpcjmenmaaaSLM
import Derived.Test.YtknddpcjmenmaaaProg
namespace Go.Proofs.Ytknddpcjmenmaaa.SL
open Go
theorem by9 : By Try.prog 9 16 := by unfold By; kernel_rfl
theorem by37 : By Try.prog 37 32 := by unfold By; kernel_rfl
theorem ko9 : KOk Try.prog (KStr 9) := KStr_ok Try.underlying9
theorem pl29 : ∀ w, Sem.run Try.prog (Array.mapM (fun (f : Field) => do pure (f.offset, ← sizeOf f.type)) (#[{ name := "L", type := 27, offset := 0, embedded := false, tag := "", pkgPath := "", byteOffset := 0 }, { name := "Room", type := 3, offset := 1, embedded := false, tag := "", pkgPath := "", byteOffset := 24 }, { name := "Kept", type := 3, offset := 2, embedded := false, tag := "", pkgPath := "", byteOffset := 32 }] : Array Field)) w = .ok (#[(0, 1), (1, 1), (2, 1)] : Array (Nat × Nat)) w := fun w => by kernel_rfl
theorem pl37 : ∀ w, Sem.run Try.prog (Array.mapM (fun (f : Field) => do pure (f.offset, ← sizeOf f.type)) (#[{ name := "Key", type := 9, offset := 0, embedded := false, tag := "", pkgPath := "", byteOffset := 0 }, { name := "Size", type := 3, offset := 1, embedded := false, tag := "", pkgPath := "", byteOffset := 16 }, { name := "N", type := 3, offset := 2, embedded := false, tag := "", pkgPath := "", byteOffset := 24 }] : Array Field)) w = .ok (#[(0, 1), (1, 1), (2, 1)] : Array (Nat × Nat)) w := fun w => by kernel_rfl
theorem pl53 : ∀ w, Sem.run Try.prog (Array.mapM (fun (f : Field) => do pure (f.offset, ← sizeOf f.type)) (#[{ name := "ring", type := 51, offset := 0, embedded := true, tag := "", pkgPath := "meridian/lru", byteOffset := 0 }, { name := "room", type := 3, offset := 3, embedded := false, tag := "", pkgPath := "meridian/lru", byteOffset := 24 }, { name := "kept", type := 3, offset := 4, embedded := false, tag := "", pkgPath := "meridian/lru", byteOffset := 32 }, { name := "at", type := 48, offset := 5, embedded := false, tag := "", pkgPath := "meridian/lru", byteOffset := 40 }] : Array Field)) w = .ok (#[(0, 3), (3, 1), (4, 1), (5, 1)] : Array (Nat × Nat)) w := fun w => by kernel_rfl
theorem pl56 : ∀ w, Sem.run Try.prog (Array.mapM (fun (f : Field) => do pure (f.offset, ← sizeOf f.type)) (#[{ name := "key", type := 9, offset := 0, embedded := false, tag := "", pkgPath := "meridian/lru", byteOffset := 0 }, { name := "value", type := 3, offset := 1, embedded := false, tag := "", pkgPath := "meridian/lru", byteOffset := 16 }, { name := "size", type := 3, offset := 2, embedded := false, tag := "", pkgPath := "meridian/lru", byteOffset := 24 }, { name := "later", type := 49, offset := 3, embedded := false, tag := "", pkgPath := "meridian/lru", byteOffset := 32 }, { name := "old", type := 49, offset := 4, embedded := false, tag := "", pkgPath := "meridian/lru", byteOffset := 40 }] : Array Field)) w = .ok (#[(0, 1), (1, 1), (2, 1), (3, 1), (4, 1)] : Array (Nat × Nat)) w := fun w => by kernel_rfl
theorem sz3 : Sz Try.prog 3 1 := by unfold Sz; kernel_rfl
theorem sz9 : Sz Try.prog 9 1 := by unfold Sz; kernel_rfl
theorem sz27 : Sz Try.prog 27 1 := by unfold Sz; kernel_rfl
theorem sz31 : Sz Try.prog 31 4 := by unfold Sz; kernel_rfl
theorem sz37 : Sz Try.prog 37 3 := by unfold Sz; kernel_rfl
theorem sz48 : Sz Try.prog 48 1 := by unfold Sz; kernel_rfl
theorem sz49 : Sz Try.prog 49 1 := by unfold Sz; kernel_rfl
theorem sz51 : Sz Try.prog 51 3 := by unfold Sz; kernel_rfl
theorem zr9 : Zr Try.prog 9 ((Go.Value.string { data := #[] })) := by unfold Zr; kernel_rfl
theorem zr29 : Zr Try.prog 29 ((Go.Value.agg #[(Go.Value.slice none 0 0), (Go.Value.int Go.IntKind.i64 0), (Go.Value.int Go.IntKind.i64 0)])) := by unfold Zr; kernel_rfl
theorem zr31 : Zr Try.prog 31 ((Go.Value.agg #[(Go.Value.int Go.IntKind.i64 0), (Go.Value.string { data := #[] }), (Go.Value.int Go.IntKind.i64 0), (Go.Value.int Go.IntKind.i64 0)])) := by unfold Zr; kernel_rfl
theorem zr37 : Zr Try.prog 37 ((Go.Value.agg #[(Go.Value.string { data := #[] }), (Go.Value.int Go.IntKind.i64 0), (Go.Value.int Go.IntKind.i64 0)])) := by unfold Zr; kernel_rfl
theorem zr49 : Zr Try.prog 49 ((Go.Value.pointer none)) := by unfold Zr; kernel_rfl
theorem zr53 : Zr Try.prog 53 ((Go.Value.agg #[(Go.Value.pointer none), (Go.Value.pointer none), (Go.Value.int Go.IntKind.i64 0), (Go.Value.int Go.IntKind.i64 0), (Go.Value.int Go.IntKind.i64 0), (Go.Value.map none)])) := by unfold Zr; kernel_rfl
theorem zr56 : Zr Try.prog 56 ((Go.Value.agg #[(Go.Value.string { data := #[] }), (Go.Value.int Go.IntKind.i64 0), (Go.Value.int Go.IntKind.i64 0), (Go.Value.pointer none), (Go.Value.pointer none)])) := by unfold Zr; kernel_rfl
end Go.Proofs.Ytknddpcjmenmaaa.SL
