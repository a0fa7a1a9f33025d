/- Closed facts on the types of the program. -/
import Derived.Test.YtblcdhcjamedgaaSLC
import Derived.Test.YtblcdhcjamedgaaProg
namespace Go.Proofs.Ytblcdhcjamedgaa.SL
open Go
theorem by5 : By Try.prog 5 1 := by unfold By; kernel_rfl
theorem by36 : By Try.prog 36 40 := by unfold By; kernel_rfl
theorem by60 : By Try.prog 60 48 := by unfold By; kernel_rfl
theorem pl29 : ∀ w, Sem.run Try.prog (Array.mapM (fun (f : Field) => do pure (f.offset, ← sizeOf f.type)) (#[{ name := "L", type := 27, offset := 0, embedded := false, tag := "", pkgPath := "", byteOffset := 0 }, { name := "Room", type := 3, offset := 1, embedded := false, tag := "", pkgPath := "", byteOffset := 24 }, { name := "Sent", type := 2, offset := 2, embedded := false, tag := "", pkgPath := "", byteOffset := 32 }] : Array Field)) w = .ok (#[(0, 1), (1, 1), (2, 1)] : Array (Nat × Nat)) w := fun w => by kernel_rfl
theorem pl36 : ∀ w, Sem.run Try.prog (Array.mapM (fun (f : Field) => do pure (f.offset, ← sizeOf f.type)) (#[{ name := "From", type := 3, offset := 0, embedded := false, tag := "", pkgPath := "", byteOffset := 0 }, { name := "To", type := 3, offset := 1, embedded := false, tag := "", pkgPath := "", byteOffset := 8 }, { name := "Text", type := 9, offset := 2, embedded := false, tag := "", pkgPath := "", byteOffset := 16 }, { name := "Turned", type := 4, offset := 3, embedded := false, tag := "", pkgPath := "", byteOffset := 32 }] : Array Field)) w = .ok (#[(0, 1), (1, 1), (2, 1), (3, 1)] : Array (Nat × Nat)) w := fun w => by kernel_rfl
theorem pl38 : ∀ w, Sem.run Try.prog (Array.mapM (fun (f : Field) => do pure (f.offset, ← sizeOf f.type)) (#[{ name := "From", type := 3, offset := 0, embedded := false, tag := "", pkgPath := "", byteOffset := 0 }, { name := "To", type := 3, offset := 1, embedded := false, tag := "", pkgPath := "", byteOffset := 8 }, { name := "Bytes", type := 30, offset := 2, embedded := false, tag := "", pkgPath := "", byteOffset := 16 }] : Array Field)) w = .ok (#[(0, 1), (1, 1), (2, 1)] : Array (Nat × Nat)) w := fun w => by kernel_rfl
theorem pl57 : ∀ w, Sem.run Try.prog (Array.mapM (fun (f : Field) => do pure (f.offset, ← sizeOf f.type)) (#[{ name := "room", type := 3, offset := 0, embedded := false, tag := "", pkgPath := "meridian/link", byteOffset := 0 }, { name := "l", type := 50, offset := 1, embedded := false, tag := "", pkgPath := "meridian/link", byteOffset := 8 }, { name := "sent", type := 55, offset := 2, embedded := false, tag := "", pkgPath := "meridian/link", byteOffset := 32 }] : Array Field)) w = .ok (#[(0, 1), (1, 1), (2, 1)] : Array (Nat × Nat)) w := fun w => by kernel_rfl
theorem pl60 : ∀ w, Sem.run Try.prog (Array.mapM (fun (f : Field) => do pure (f.offset, ← sizeOf f.type)) (#[{ name := "Packet", type := 38, offset := 0, embedded := true, tag := "", pkgPath := "", byteOffset := 0 }, { name := "turned", type := 4, offset := 3, embedded := false, tag := "", pkgPath := "meridian/link", byteOffset := 40 }] : Array Field)) w = .ok (#[(0, 3), (3, 1)] : Array (Nat × Nat)) w := fun w => by kernel_rfl
theorem sz2 : Sz Try.prog 2 1 := by unfold Sz; kernel_rfl
theorem sz3 : Sz Try.prog 3 1 := by unfold Sz; kernel_rfl
theorem sz4 : Sz Try.prog 4 1 := by unfold Sz; kernel_rfl
theorem sz5 : Sz Try.prog 5 1 := by unfold Sz; kernel_rfl
theorem sz9 : Sz Try.prog 9 1 := by unfold Sz; kernel_rfl
theorem sz27 : Sz Try.prog 27 1 := by unfold Sz; kernel_rfl
theorem sz30 : Sz Try.prog 30 1 := by unfold Sz; kernel_rfl
theorem sz32 : Sz Try.prog 32 7 := by unfold Sz; kernel_rfl
theorem sz36 : Sz Try.prog 36 4 := by unfold Sz; kernel_rfl
theorem sz38 : Sz Try.prog 38 3 := by unfold Sz; kernel_rfl
theorem sz50 : Sz Try.prog 50 1 := by unfold Sz; kernel_rfl
theorem sz55 : Sz Try.prog 55 1 := by unfold Sz; kernel_rfl
theorem sz60 : Sz Try.prog 60 4 := by unfold Sz; kernel_rfl
theorem zr5 : Zr Try.prog 5 ((Go.Value.int Go.IntKind.u8 0)) := by unfold Zr; kernel_rfl
theorem zr29 : Zr Try.prog 29 ((Go.Value.agg #[(Go.Value.slice none 0 0), (Go.Value.int Go.IntKind.i64 0), (Go.Value.int Go.IntKind.i64 0)])) := by unfold Zr; kernel_rfl
theorem zr32 : Zr Try.prog 32 ((Go.Value.agg #[(Go.Value.int Go.IntKind.i64 0), (Go.Value.int Go.IntKind.i64 0), (Go.Value.int Go.IntKind.i64 0), (Go.Value.int Go.IntKind.i64 0), (Go.Value.int Go.IntKind.i64 0), (Go.Value.int Go.IntKind.u8 0), (Go.Value.slice none 0 0)])) := by unfold Zr; kernel_rfl
theorem zr36 : Zr Try.prog 36 ((Go.Value.agg #[(Go.Value.int Go.IntKind.i64 0), (Go.Value.int Go.IntKind.i64 0), (Go.Value.string { data := #[] }), (Go.Value.bool false)])) := by unfold Zr; kernel_rfl
theorem zr38 : Zr Try.prog 38 ((Go.Value.agg #[(Go.Value.int Go.IntKind.i64 0), (Go.Value.int Go.IntKind.i64 0), (Go.Value.slice none 0 0)])) := by unfold Zr; kernel_rfl
theorem zr57 : Zr Try.prog 57 ((Go.Value.agg #[(Go.Value.int Go.IntKind.i64 0), (Go.Value.slice none 0 0), (Go.Value.int Go.IntKind.i64 0)])) := by unfold Zr; kernel_rfl
theorem zr60 : Zr Try.prog 60 ((Go.Value.agg #[(Go.Value.int Go.IntKind.i64 0), (Go.Value.int Go.IntKind.i64 0), (Go.Value.slice none 0 0), (Go.Value.bool false)])) := by unfold Zr; kernel_rfl
end Go.Proofs.Ytblcdhcjamedgaa.SL
