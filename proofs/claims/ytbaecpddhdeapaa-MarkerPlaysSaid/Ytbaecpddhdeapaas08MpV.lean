/- Contracts of a nil table. -/
import Derived.Test.Ytbaecpddhdeapaas08MpU
import Derived.Test.Ytbaecpddhdeapaas08Fb
namespace Go.Proofs.Ytbaecpddhdeapaa.SL
open Go Go.RowKit
set_option maxRecDepth 20000 in
theorem Upto_nil (key : ByteArray) (ses req : Int) : Spec Try.prog 13 #[.pointer none, .string key, .int .i64 ses, .int .i64 req] [] (fun v C => v = .int .i64 0 ∧ C = []) := by
 refine Spec_intro (n := 12) (args := [.pointer none, .string key, .int .i64 ses, .int .i64 req]) Try.func13 rfl rfl rfl fun s R => ?_
 refine CJ_app0 ?_
 refine CJ_env (E' := [(0, _), (1, _), (2, _), (3, _)]) (.cons rfl rfl (.cons rfl rfl (.cons rfl rfl (.cons rfl rfl .nil)))) ?_
 refine CJ_seq ?_
 refine CJ_region ?_
 refine RJ_p rfl (Op_box rfl) ?_
 rintro _ _ ⟨b5, rfl, rfl⟩
 refine RJ_p rfl (Op_box rfl) ?_
 rintro _ _ ⟨b6, rfl, rfl⟩
 refine RJ_p rfl (Op_box rfl) ?_
 rintro _ _ ⟨b7, rfl, rfl⟩
 refine RJ_q (Op_assign rfl) rfl ?_
 refine RJ_nil ?_
 refine NJ_then ?_
 refine CJ_env (E' := [(0, _), (5, _), (6, _), (7, _), (8, _)]) (.cons rfl rfl (.cons rfl rfl (.cons rfl rfl (.cons rfl rfl (.cons rfl rfl .nil))))) ?_
 refine CJ_seq ?_
 refine CJ_region ?_
 refine RJ_q (Op_move rfl) rfl ?_
 refine RJ_q (Op_makeFunc (vs := [_, _, _]) rfl) rfl ?_
 refine RJ_p rfl (Op_call (vs := [_, _]) Try.func26 rfl rfl (Those_nil 27 _) rfl (Imp.refl _)) ?_
 rintro _ _ ⟨_, ⟨rfl, rfl⟩, rfl⟩
 refine RJ_app0 ?_
 refine RJ_q (Op_assign rfl) rfl ?_
 refine RJ_nil ?_
 refine NJ_then ?_
 refine CJ_env (E' := [(8, _)]) (.cons rfl rfl .nil) ?_
 refine CJ_ret ?_
 refine NJ_ret (.inl rfl) Try.results13 (ResJ_tmp rfl ResJ_nil) ⟨rfl, rfl⟩ skk

set_option maxRecDepth 20000 in
theorem Past_nil (ses req : Int) : Spec Try.prog 14 #[.pointer none, .int .i64 ses, .int .i64 req] [] (fun v C => v = .int .i64 0 ∧ C = []) := by
 refine Spec_intro (n := 10) (args := [.pointer none, .int .i64 ses, .int .i64 req]) Try.func14 rfl rfl rfl fun s R => ?_
 refine CJ_app0 ?_
 refine CJ_env (E' := [(0, _), (1, _), (2, _)]) (.cons rfl rfl (.cons rfl rfl (.cons rfl rfl .nil))) ?_
 refine CJ_seq ?_
 refine CJ_region ?_
 refine RJ_p rfl (Op_box rfl) ?_
 rintro _ _ ⟨b4, rfl, rfl⟩
 refine RJ_p rfl (Op_box rfl) ?_
 rintro _ _ ⟨b5, rfl, rfl⟩
 refine RJ_q (Op_assign rfl) rfl ?_
 refine RJ_nil ?_
 refine NJ_then ?_
 refine CJ_env (E' := [(0, _), (4, _), (5, _), (6, _)]) (.cons rfl rfl (.cons rfl rfl (.cons rfl rfl (.cons rfl rfl .nil)))) ?_
 refine CJ_seq ?_
 refine CJ_region ?_
 refine RJ_q (Op_move rfl) rfl ?_
 refine RJ_q (Op_makeFunc (vs := [_, _]) rfl) rfl ?_
 refine RJ_p rfl (Op_call (vs := [_, _]) Try.func26 rfl rfl (Those_nil 28 _) rfl (Imp.refl _)) ?_
 rintro _ _ ⟨_, ⟨rfl, rfl⟩, rfl⟩
 refine RJ_app0 ?_
 refine RJ_q (Op_assign rfl) rfl ?_
 refine RJ_nil ?_
 refine NJ_then ?_
 refine CJ_env (E' := [(6, _)]) (.cons rfl rfl .nil) ?_
 refine CJ_ret ?_
 refine NJ_ret (.inl rfl) Try.results14 (ResJ_tmp rfl ResJ_nil) ⟨rfl, rfl⟩ skk
end Go.Proofs.Ytbaecpddhdeapaa.SL
