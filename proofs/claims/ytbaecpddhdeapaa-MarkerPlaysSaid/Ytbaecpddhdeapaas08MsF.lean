/- What the closures of Upto and Past have. -/
import Derived.Test.Ytbaecpddhdeapaas08Fb
import Derived.Test.Ytbaecpddhdeapaas08MsY
namespace Go.Proofs.Ytbaecpddhdeapaa.SL
open Go Go.RowKit
def CapU (b1 b2 b3 : Nat) (key : ByteArray) (ses req : Int) : HP := fun h => stars [pt b1 (.cells #[.string key] 9 (0, 0)), pt b2 (.cells #[.int .i64 ses] 3 (0, 0)), pt b3 (.cells #[.int .i64 req] 3 (0, 0))] h
theorem CapU_opens (b1 b2 b3 : Nat) (key : ByteArray) (ses req : Int) : Opens (CapU b1 b2 b3 key ses req) fun l => l = [pt b1 (.cells #[.string key] 9 (0, 0)), pt b2 (.cells #[.int .i64 ses] 3 (0, 0)), pt b3 (.cells #[.int .i64 req] 3 (0, 0))] := fun _ hh => ⟨_, rfl, hh⟩
theorem CapU_close {b1 b2 b3 : Nat} {key : ByteArray} {ses req : Int} : Imp [pt b1 (.cells #[.string key] 9 (0, 0)), pt b2 (.cells #[.int .i64 ses] 3 (0, 0)), pt b3 (.cells #[.int .i64 req] 3 (0, 0))] [CapU b1 b2 b3 key ses req] := fun h hh => ⟨h, fun _ _ x => x, sep_emp hh⟩
def CapP (b1 b2 : Nat) (ses req : Int) : HP := fun h => stars [pt b1 (.cells #[.int .i64 ses] 3 (0, 0)), pt b2 (.cells #[.int .i64 req] 3 (0, 0))] h
theorem CapP_opens (b1 b2 : Nat) (ses req : Int) : Opens (CapP b1 b2 ses req) fun l => l = [pt b1 (.cells #[.int .i64 ses] 3 (0, 0)), pt b2 (.cells #[.int .i64 req] 3 (0, 0))] := fun _ hh => ⟨_, rfl, hh⟩
theorem CapP_close {b1 b2 : Nat} {ses req : Int} : Imp [pt b1 (.cells #[.int .i64 ses] 3 (0, 0)), pt b2 (.cells #[.int .i64 req] 3 (0, 0))] [CapP b1 b2 ses req] := fun h hh => ⟨h, fun _ _ x => x, sep_emp hh⟩
def uptoP (key : ByteArray) (ses req : Int) (m : Mark) : Bool := decide (m.key = key) && (decide (m.ses = ses) && decide (m.req ≤ req))
def pastP (ses req : Int) (m : Mark) : Bool := decide (m.ses = ses) && decide (m.req ≤ req)
end Go.Proofs.Ytbaecpddhdeapaa.SL
