/- Closed facts on the types of the program, of the laws. -/
import Derived.Test.Ytbaecpddhdeapaas08Facts
namespace Go.Proofs.Ytbaecpddhdeapaa.SL
open Go
theorem by34 : By Try.prog 34 32 := by unfold By; kernel_rfl
theorem by46 : By Try.prog 46 32 := by unfold By; kernel_rfl
theorem sz29 : Sz Try.prog 29 4 := by unfold Sz; kernel_rfl
theorem sz43 : Sz Try.prog 43 1 := by unfold Sz; kernel_rfl
theorem sz46 : Sz Try.prog 46 3 := by unfold Sz; kernel_rfl
theorem zr3 : Zr Try.prog 3 ((Go.Value.int Go.IntKind.i64 0)) := by unfold Zr; kernel_rfl
theorem zr29 : Zr Try.prog 29 ((Go.Value.agg #[(Go.Value.int Go.IntKind.i64 0), (Go.Value.string { data := #[] }), (Go.Value.int Go.IntKind.i64 0), (Go.Value.int Go.IntKind.i64 0)])) := by unfold Zr; kernel_rfl
theorem zr46 : Zr Try.prog 46 ((Go.Value.agg #[(Go.Value.string { data := #[] }), (Go.Value.int Go.IntKind.i64 0), (Go.Value.int Go.IntKind.i64 0)])) := by unfold Zr; kernel_rfl
end Go.Proofs.Ytbaecpddhdeapaa.SL
