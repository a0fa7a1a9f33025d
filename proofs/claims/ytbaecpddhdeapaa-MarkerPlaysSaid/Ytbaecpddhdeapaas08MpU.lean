/- Contracts of a nil table. -/
import Derived.Test.Ytbaecpddhdeapaas08MpZ
import Derived.Test.Ytbaecpddhdeapaas08Fb
namespace Go.Proofs.Ytbaecpddhdeapaa.SL
open Go Go.RowKit
set_option maxRecDepth 20000 in
theorem Those_nil (f : FuncId) (cb : List Value) : Spec Try.prog 26 #[.pointer none, .func (.func f) #[] cb.toArray] [] (fun v C => v = .int .i64 0 ∧ C = []) := by
 refine Spec_intro (n := 27) (args := [.pointer none, .func (.func f) #[] cb.toArray]) Try.func26 rfl rfl rfl fun s R => ?_
 refine CJ_app0 ?_
 refine CJ_env (E' := [(0, _), (1, _)]) (.cons rfl rfl (.cons rfl rfl .nil)) ?_
 refine CJ_seq ?_
 refine CJ_region ?_
 refine RJ_q (Op_assign rfl) rfl ?_
 refine RJ_nil ?_
 refine NJ_then ?_
 refine CJ_env (E' := [(0, _), (1, _), (4, _)]) (.cons rfl rfl (.cons rfl rfl (.cons rfl rfl .nil))) ?_
 refine CJ_seq ?_
 refine CJ_region ?_
 refine RJ_q (Op_assign rfl) rfl ?_
 refine RJ_nil ?_
 refine NJ_then ?_
 refine CJ_env (E' := [(0, _), (1, _), (4, _), (5, _)]) (.cons rfl rfl (.cons rfl rfl (.cons rfl rfl (.cons rfl rfl .nil)))) ?_
 refine CJ_seq ?_
 refine CJ_seq ?_
 refine CJ_region ?_
 refine RJ_q (Op_move rfl) rfl ?_
 refine RJ_p rfl (Op_call (vs := [_]) Try.func10 rfl rfl (All_nil) rfl (Imp.refl _)) ?_
 rintro _ _ ⟨_, ⟨rfl, rfl⟩, rfl⟩
 refine RJ_app0 ?_
 rename_i R
 refine RJ_q (Op_len_slice rfl Try.underlying30) rfl ?_
 refine RJ_q (Op_move rfl) rfl ?_
 refine RJ_nil ?_
 refine NJ_then ?_
 refine CJ_env (E' := [(0, _), (1, _), (4, _), (5, _), (9, _), (10, _), (11, _)]) (.cons rfl rfl (.cons rfl rfl (.cons rfl rfl (.cons rfl rfl (.cons rfl rfl (.cons rfl rfl (.cons rfl rfl .nil))))))) ?_
 refine CJ_block ?_
 refine CJ_loop (fun E H mz => (True) ∧ E = [(5, .int .i64 0), (10, .int .i64 (0 : Nat)), (11, .int .i64 0)] ∧ H = [] ++ R ∧ mz = 0) (E' := [(5, .int .i64 0), (10, .int .i64 (0 : Nat)), (11, .int .i64 0)]) (H' := [] ++ R) (m := 0) ⟨trivial, rfl, rfl, rfl⟩ (.cons rfl rfl (.cons rfl rfl (.cons rfl rfl .nil))) skk ?_
 rintro _ _ _ ⟨_, rfl, rfl, rfl⟩
 refine CJ_app0 ?_
 refine CJ_seq ?_
 refine CJ_region ?_
 refine RJ_q (Op_lss rfl rfl) rfl ?_
 refine RJ_nil ?_
 refine NJ_then ?_
 refine CJ_env (E' := [(5, _), (10, _), (11, _), (12, _)]) (.cons rfl rfl (.cons rfl rfl (.cons rfl rfl (.cons rfl rfl .nil)))) ?_
 refine CJ_seq ?_
 refine CJ_else rfl (by rfl) ?_
 refine CJ_exit ?_
 refine NJ_then_x ?_
 refine NJ_then_x ?_
 refine NJ_blk_hit ?_
 refine NJ_then ?_
 refine CJ_env (E' := [(5, _)]) (.cons rfl rfl .nil) ?_
 refine CJ_seq ?_
 refine CJ_region ?_
 refine RJ_q (Op_move rfl) rfl ?_
 refine RJ_q (Op_assign rfl) rfl ?_
 refine RJ_nil ?_
 refine NJ_then ?_
 refine CJ_env (E' := [(4, _)]) (.cons rfl rfl .nil) ?_
 refine CJ_ret ?_
 refine NJ_ret (.inl rfl) Try.results26 (ResJ_tmp rfl ResJ_nil) ⟨rfl, rfl⟩ skk
end Go.Proofs.Ytbaecpddhdeapaa.SL
