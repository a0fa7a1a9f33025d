/- The sort of markers. -/
import Derived.Test.Ytbaecpddhdeapaas08Fb
import Derived.Test.Ytbaecpddhdeapaas08MsW
namespace Go.Proofs.Ytbaecpddhdeapaa.SL
open Go Go.RowKit
theorem SortM_any (a : Option Nat) (cap : Nat) (xs : List Mark) (hl : xs.length ≤ 1000000) : Spec Try.prog 21 #[.slice (sl a) xs.length cap, .func (.func 22) #[] #[]] [Row MkT a cap xs] fun v C => v = .tuple #[] ∧ C = [Row MkT a cap (sortM xs)] :=
  Sort_spec sortAt MkT (isAgg_struct Try.underlying34) sz34.run cmpM swoM totM Try.func22 rfl (by rfl) (fun x y => Clos_any x y) a cap xs (by omega)
end Go.Proofs.Ytbaecpddhdeapaa.SL
