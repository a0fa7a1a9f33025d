/- Closed facts on the types of the program, of the laws. -/
import Derived.Test.Ytgakbdofjlhoeaas21Facts
namespace Go.Proofs.Ytgakbdofjlhoeaa.SL
open Go
theorem by2 : By Try.prog 2 8 := by unfold By; kernel_rfl
theorem by55 : By Try.prog 55 72 := by unfold By; kernel_rfl
theorem by62 : By Try.prog 62 80 := by unfold By; kernel_rfl
theorem pl27 : ∀ w, Sem.run Try.prog (Array.mapM (fun (f : Field) => do pure (f.offset, ← sizeOf f.type)) (#[{ name := "Epoch", type := 3, offset := 0, embedded := false, tag := "", pkgPath := "", byteOffset := 0 }, { name := "Index", type := 3, offset := 1, embedded := false, tag := "", pkgPath := "", byteOffset := 8 }] : Array Field)) w = .ok (#[(0, 1), (1, 1)] : Array (Nat × Nat)) w := fun w => by kernel_rfl
theorem pl50 : ∀ w, Sem.run Try.prog (Array.mapM (fun (f : Field) => do pure (f.offset, ← sizeOf f.type)) (#[{ name := "l", type := 48, offset := 0, embedded := false, tag := "", pkgPath := "meridian/meridianlaw21", byteOffset := 0 }] : Array Field)) w = .ok (#[(0, 1)] : Array (Nat × Nat)) w := fun w => by kernel_rfl
theorem pl55 : ∀ w, Sem.run Try.prog (Array.mapM (fun (f : Field) => do pure (f.offset, ← sizeOf f.type)) (#[{ name := "At", type := 27, offset := 0, embedded := false, tag := "", pkgPath := "", byteOffset := 0 }, { name := "Session", type := 3, offset := 2, embedded := false, tag := "", pkgPath := "", byteOffset := 16 }, { name := "Request", type := 3, offset := 3, embedded := false, tag := "", pkgPath := "", byteOffset := 24 }, { name := "Key", type := 9, offset := 4, embedded := false, tag := "", pkgPath := "", byteOffset := 32 }, { name := "Del", type := 4, offset := 5, embedded := false, tag := "", pkgPath := "", byteOffset := 48 }, { name := "Text", type := 9, offset := 6, embedded := false, tag := "", pkgPath := "", byteOffset := 56 }] : Array Field)) w = .ok (#[(0, 2), (2, 1), (3, 1), (4, 1), (5, 1), (6, 1)] : Array (Nat × Nat)) w := fun w => by kernel_rfl
theorem pl62 : ∀ w, Sem.run Try.prog (Array.mapM (fun (f : Field) => do pure (f.offset, ← sizeOf f.type)) (#[{ name := "who", type := 3, offset := 0, embedded := false, tag := "", pkgPath := "meridian/meridianlaw21", byteOffset := 0 }, { name := "asOf", type := 3, offset := 1, embedded := false, tag := "", pkgPath := "meridian/meridianlaw21", byteOffset := 8 }, { name := "key", type := 9, offset := 2, embedded := false, tag := "", pkgPath := "meridian/meridianlaw21", byteOffset := 16 }, { name := "token", type := 2, offset := 3, embedded := false, tag := "", pkgPath := "meridian/meridianlaw21", byteOffset := 32 }, { name := "value", type := 29, offset := 4, embedded := false, tag := "", pkgPath := "meridian/meridianlaw21", byteOffset := 40 }] : Array Field)) w = .ok (#[(0, 1), (1, 1), (2, 1), (3, 1), (4, 4)] : Array (Nat × Nat)) w := fun w => by kernel_rfl
theorem sz5 : Sz Try.prog 5 1 := by unfold Sz; kernel_rfl
theorem sz24 : Sz Try.prog 24 1 := by unfold Sz; kernel_rfl
theorem sz27 : Sz Try.prog 27 2 := by unfold Sz; kernel_rfl
theorem sz46 : Sz Try.prog 46 2 := by unfold Sz; kernel_rfl
theorem sz48 : Sz Try.prog 48 1 := by unfold Sz; kernel_rfl
theorem sz55 : Sz Try.prog 55 7 := by unfold Sz; kernel_rfl
theorem sz58 : Sz Try.prog 58 5 := by unfold Sz; kernel_rfl
theorem sz62 : Sz Try.prog 62 8 := by unfold Sz; kernel_rfl
theorem zr2 : Zr Try.prog 2 ((Go.Value.int Go.IntKind.i64 0)) := by unfold Zr; kernel_rfl
theorem zr5 : Zr Try.prog 5 ((Go.Value.int Go.IntKind.u8 0)) := by unfold Zr; kernel_rfl
theorem zr27 : Zr Try.prog 27 ((Go.Value.agg #[(Go.Value.int Go.IntKind.i64 0), (Go.Value.int Go.IntKind.i64 0)])) := by unfold Zr; kernel_rfl
theorem zr46 : Zr Try.prog 46 ((Go.Value.agg #[(Go.Value.pointer none), (Go.Value.pointer none)])) := by unfold Zr; kernel_rfl
theorem zr50 : Zr Try.prog 50 ((Go.Value.agg #[(Go.Value.slice none 0 0)])) := by unfold Zr; kernel_rfl
theorem zr51 : Zr Try.prog 51 ((Go.Value.agg #[(Go.Value.int Go.IntKind.i64 0), (Go.Value.int Go.IntKind.i64 0)])) := by unfold Zr; kernel_rfl
theorem zr55 : Zr Try.prog 55 ((Go.Value.agg #[(Go.Value.int Go.IntKind.i64 0), (Go.Value.int Go.IntKind.i64 0), (Go.Value.int Go.IntKind.i64 0), (Go.Value.int Go.IntKind.i64 0), (Go.Value.string { data := #[] }), (Go.Value.bool false), (Go.Value.string { data := #[] })])) := by unfold Zr; kernel_rfl
theorem zr58 : Zr Try.prog 58 ((Go.Value.agg #[(Go.Value.int Go.IntKind.i64 0), (Go.Value.int Go.IntKind.i64 0), (Go.Value.int Go.IntKind.i64 0), (Go.Value.string { data := #[] }), (Go.Value.string { data := #[] })])) := by unfold Zr; kernel_rfl
theorem zr62 : Zr Try.prog 62 ((Go.Value.agg #[(Go.Value.int Go.IntKind.i64 0), (Go.Value.int Go.IntKind.i64 0), (Go.Value.string { data := #[] }), (Go.Value.int Go.IntKind.i64 0), (Go.Value.int Go.IntKind.i64 0), (Go.Value.int Go.IntKind.i64 0), (Go.Value.bool false), (Go.Value.string { data := #[] })])) := by unfold Zr; kernel_rfl
end Go.Proofs.Ytgakbdofjlhoeaa.SL
