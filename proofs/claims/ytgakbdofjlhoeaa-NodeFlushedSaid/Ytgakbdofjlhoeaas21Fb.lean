/- Closed facts on the types of the program, of the laws. -/
import Derived.Test.Ytgakbdofjlhoeaas21Facts
namespace Go.Proofs.Ytgakbdofjlhoeaa.SL
open Go
theorem by2 : By Try.prog 2 8 := by unfold By; kernel_rfl
theorem sz27 : Sz Try.prog 27 2 := by unfold Sz; kernel_rfl
theorem zr2 : Zr Try.prog 2 ((Go.Value.int Go.IntKind.i64 0)) := by unfold Zr; kernel_rfl
end Go.Proofs.Ytgakbdofjlhoeaa.SL
