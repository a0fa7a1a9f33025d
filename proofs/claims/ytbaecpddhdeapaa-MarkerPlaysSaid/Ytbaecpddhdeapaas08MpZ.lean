/- Contracts of a nil table. -/
import Derived.Test.Ytbaecpddhdeapaas08MpY
import Derived.Test.Ytbaecpddhdeapaas08Fb
namespace Go.Proofs.Ytbaecpddhdeapaa.SL
open Go Go.RowKit
set_option maxRecDepth 20000 in
theorem MkSet_nil (key : ByteArray) (ses req : Int) : Spec Try.prog 9 #[.pointer none, .string key, .int .i64 ses, .int .i64 req] [] (fun v C => v = .int .i64 4 ∧ C = []) := by
 refine Spec_intro (n := 43) (args := [.pointer none, .string key, .int .i64 ses, .int .i64 req]) Try.func9 rfl rfl rfl fun s R => ?_
 refine CJ_app0 ?_
 refine CJ_env (E' := [(0, _), (1, _), (2, _), (3, _)]) (.cons rfl rfl (.cons rfl rfl (.cons rfl rfl (.cons rfl rfl .nil)))) ?_
 refine CJ_seq ?_
 refine CJ_region ?_
 refine RJ_q (Op_assign rfl) rfl ?_
 refine RJ_nil ?_
 refine NJ_then ?_
 refine CJ_env (E' := [(0, _), (1, _), (2, _), (3, _), (8, _)]) (.cons rfl rfl (.cons rfl rfl (.cons rfl rfl (.cons rfl rfl (.cons rfl rfl .nil))))) ?_
 refine CJ_seq ?_
 refine CJ_region ?_
 refine RJ_q (Op_move rfl) rfl ?_
 refine RJ_q (Op_move rfl) rfl ?_
 refine RJ_q (Op_move rfl) rfl ?_
 refine RJ_q (Op_build (vs := [_, _, _]) (cells := [_, _, _]) Try.underlying34 zr34 rfl pl34 (by rfl)) rfl ?_
 refine RJ_p rfl (Op_alloc zr34) ?_
 rintro _ _ ⟨b9, rfl, rfl⟩
 refine RJ_d0 (Op_store (cs' := #[_, _, _]) rfl rfl sz34 (by rfl) (by simp [Value.cells, Value.oneCell']) rpp rfl (free_zero _ _) (by rfl)) ?_
 refine RJ_nil ?_
 refine NJ_then ?_
 refine CJ_env (E' := [(0, _), (8, _), (9, _)]) (.cons rfl rfl (.cons rfl rfl (.cons rfl rfl .nil))) ?_
 refine CJ_seq ?_
 refine CJ_block ?_
 refine CJ_seq ?_
 refine CJ_draw (.q 0 (.q 1 (.q 2 (.q 3 (.q 4 (.q 5 (.q 6 (.q 7 (.e 8 (.q 9 (.q 10 (.q 11 (.q 12 (.q 13 (.q 14 (.q 16 (.q 17 (.q 18 (.q 19 (.e 15 (.q 20 (.q 21 (.q 22 (.q 23 .done)))))))))))))))))))))))) (by kernel_rfl) (by kernel_rfl) (by kernel_rfl) ?_
 refine SJ_q rfl (want_none rfl) rfl (fun _ _ => Op_move rfl) ?_
 refine SJ_q rfl (want_none rfl) rfl (fun _ _ => Op_ptr_eq_nil rfl rfl Try.underlying24) ?_
 refine SJ_q rfl (want_none rfl) rfl (fun _ _ => Op_move rfl) ?_
 refine SJ_no (t := 17) true rfl rfl rfl rfl (by decide) rfl ?_
 refine SJ_no (t := 17) true rfl rfl rfl rfl (by decide) rfl ?_
 refine SJ_no (t := 17) true rfl rfl rfl rfl (by decide) rfl ?_
 refine SJ_no (t := 17) true rfl rfl rfl rfl (by decide) rfl ?_
 refine SJ_no (t := 17) true rfl rfl rfl rfl (by decide) rfl ?_
 refine SJ_no_e (t := 17) true (rd' := []) [] rfl rfl rfl rfl (by decide) rfl (by kernel_rfl) rfl trivial ?_
 refine SJ_no (t := 17) true rfl rfl rfl rfl (by decide) rfl ?_
 refine SJ_no (t := 17) true rfl rfl rfl rfl (by decide) rfl ?_
 refine SJ_nou (t := 25) rfl rfl rfl rfl ?_
 refine SJ_nou (t := 25) rfl rfl rfl rfl ?_
 refine SJ_nou (t := 25) rfl rfl rfl rfl ?_
 refine SJ_nou (t := 25) rfl rfl rfl rfl ?_
 refine SJ_nou (t := 25) rfl rfl rfl rfl ?_
 refine SJ_nou (t := 25) rfl rfl rfl rfl ?_
 refine SJ_nou (t := 25) rfl rfl rfl rfl ?_
 refine SJ_nou (t := 25) rfl rfl rfl rfl ?_
 refine SJ_nou_e (t := 25) (rd' := []) [] rfl rfl rfl rfl (by kernel_rfl) rfl trivial ?_
 refine SJ_nou (t := 25) rfl rfl rfl rfl ?_
 refine SJ_no (t := 17) true rfl rfl rfl rfl (by decide) rfl ?_
 refine SJ_q rfl (want_none rfl) rfl (fun _ _ => Op_pick_t rfl rfl rfl) ?_
 refine SJ_q rfl (want_none rfl) rfl (fun _ _ => Op_assign rfl) ?_
 refine SJ_done ?_
 refine NJ_then ?_
 refine CJ_env (E' := [(0, _), (8, _), (9, _), (14, _)]) (.cons rfl rfl (.cons rfl rfl (.cons rfl rfl (.cons rfl rfl .nil)))) ?_
 refine CJ_then rfl rfl ?_
 refine CJ_seq ?_
 refine CJ_region ?_
 refine RJ_q (Op_assign rfl) rfl ?_
 refine RJ_nil ?_
 refine NJ_then ?_
 refine CJ_env (E' := [(8, _)]) (.cons rfl rfl .nil) ?_
 refine CJ_ret ?_
 refine NJ_blk_r ?_
 refine NJ_then_r ?_
 refine NJ_ret (.inl rfl) Try.results9 (ResJ_tmp rfl ResJ_nil) ⟨rfl, rfl⟩ skk

set_option maxRecDepth 20000 in
theorem MkClear_nil (key : ByteArray) (ses req : Int) : Spec Try.prog 12 #[.pointer none, .string key, .int .i64 ses, .int .i64 req] [] (fun v C => v = .bool false ∧ C = []) := by
 refine Spec_intro (n := 30) (args := [.pointer none, .string key, .int .i64 ses, .int .i64 req]) Try.func12 rfl rfl rfl fun s R => ?_
 refine CJ_app0 ?_
 refine CJ_env (E' := [(0, _), (1, _), (2, _), (3, _)]) (.cons rfl rfl (.cons rfl rfl (.cons rfl rfl (.cons rfl rfl .nil)))) ?_
 refine CJ_seq ?_
 refine CJ_region ?_
 refine RJ_q (Op_assign rfl) rfl ?_
 refine RJ_nil ?_
 refine NJ_then ?_
 refine CJ_env (E' := [(0, _), (1, _), (2, _), (3, _), (8, _)]) (.cons rfl rfl (.cons rfl rfl (.cons rfl rfl (.cons rfl rfl (.cons rfl rfl .nil))))) ?_
 refine CJ_seq ?_
 refine CJ_region ?_
 refine RJ_q (Op_move rfl) rfl ?_
 refine RJ_q (Op_move rfl) rfl ?_
 refine RJ_q (Op_move rfl) rfl ?_
 refine RJ_q (Op_build (vs := [_, _, _]) (cells := [_, _, _]) Try.underlying34 zr34 rfl pl34 (by rfl)) rfl ?_
 refine RJ_p rfl (Op_alloc zr34) ?_
 rintro _ _ ⟨b9, rfl, rfl⟩
 refine RJ_d0 (Op_store (cs' := #[_, _, _]) rfl rfl sz34 (by rfl) (by simp [Value.cells, Value.oneCell']) rpp rfl (free_zero _ _) (by rfl)) ?_
 refine RJ_nil ?_
 refine NJ_then ?_
 refine CJ_env (E' := [(0, _), (8, _), (9, _)]) (.cons rfl rfl (.cons rfl rfl (.cons rfl rfl .nil))) ?_
 refine CJ_seq ?_
 refine CJ_seq ?_
 refine CJ_draw (.q 0 (.q 1 (.q 2 (.q 3 (.q 4 (.q 5 (.q 6 (.q 7 (.e 8 (.q 9 (.q 10 .done))))))))))) (by kernel_rfl) (by kernel_rfl) (by kernel_rfl) ?_
 refine SJ_q rfl (want_none rfl) rfl (fun _ _ => Op_move rfl) ?_
 refine SJ_q rfl (want_none rfl) rfl (fun _ _ => Op_ptr_eq_nil rfl rfl Try.underlying24) ?_
 refine SJ_q rfl (want_none rfl) rfl (fun _ _ => Op_move rfl) ?_
 refine SJ_no (t := 16) true rfl rfl rfl rfl (by decide) rfl ?_
 refine SJ_no (t := 16) true rfl rfl rfl rfl (by decide) rfl ?_
 refine SJ_no (t := 16) true rfl rfl rfl rfl (by decide) rfl ?_
 refine SJ_no (t := 16) true rfl rfl rfl rfl (by decide) rfl ?_
 refine SJ_no (t := 16) true rfl rfl rfl rfl (by decide) rfl ?_
 refine SJ_no_e (t := 16) true (rd' := []) [] rfl rfl rfl rfl (by decide) rfl (by kernel_rfl) rfl trivial ?_
 refine SJ_no (t := 16) true rfl rfl rfl rfl (by decide) rfl ?_
 refine SJ_q rfl (want_none rfl) rfl (fun _ _ => Op_pick_t rfl rfl rfl) ?_
 refine SJ_done ?_
 refine NJ_then ?_
 refine CJ_env (E' := [(0, _), (8, _), (9, _), (24, _)]) (.cons rfl rfl (.cons rfl rfl (.cons rfl rfl (.cons rfl rfl .nil)))) ?_
 refine CJ_then rfl rfl ?_
 refine CJ_seq ?_
 refine CJ_region ?_
 refine RJ_q (Op_assign rfl) rfl ?_
 refine RJ_nil ?_
 refine NJ_then ?_
 refine CJ_env (E' := [(8, _)]) (.cons rfl rfl .nil) ?_
 refine CJ_ret ?_
 refine NJ_then_r ?_
 refine NJ_ret (.inl rfl) Try.results12 (ResJ_tmp rfl ResJ_nil) ⟨rfl, rfl⟩ skk

set_option maxRecDepth 20000 in
theorem MkHas_nil (key : ByteArray) : Spec Try.prog 15 #[.pointer none, .string key] [] (fun v C => v = .bool false ∧ C = []) := by
 refine Spec_intro (n := 21) (args := [.pointer none, .string key]) Try.func15 rfl rfl rfl fun s R => ?_
 refine CJ_app0 ?_
 refine CJ_env (E' := [(0, _), (1, _)]) (.cons rfl rfl (.cons rfl rfl .nil)) ?_
 refine CJ_seq ?_
 refine CJ_region ?_
 refine RJ_q (Op_assign rfl) rfl ?_
 refine RJ_nil ?_
 refine NJ_then ?_
 refine CJ_env (E' := [(0, _), (1, _), (4, _)]) (.cons rfl rfl (.cons rfl rfl (.cons rfl rfl .nil))) ?_
 refine CJ_seq ?_
 refine CJ_seq ?_
 refine CJ_region ?_
 refine RJ_q (Op_move rfl) rfl ?_
 refine RJ_q (Op_ptr_eq_nil rfl rfl Try.underlying24) rfl ?_
 refine RJ_nil ?_
 refine NJ_then ?_
 refine CJ_env (E' := [(0, _), (1, _), (4, _), (7, _)]) (.cons rfl rfl (.cons rfl rfl (.cons rfl rfl (.cons rfl rfl .nil)))) ?_
 refine CJ_then rfl rfl ?_
 refine CJ_seq ?_
 refine CJ_region ?_
 refine RJ_q (Op_assign rfl) rfl ?_
 refine RJ_nil ?_
 refine NJ_then ?_
 refine CJ_env (E' := [(4, _)]) (.cons rfl rfl .nil) ?_
 refine CJ_ret ?_
 refine NJ_then_r ?_
 refine NJ_ret (.inl rfl) Try.results15 (ResJ_tmp rfl ResJ_nil) ⟨rfl, rfl⟩ skk

set_option maxRecDepth 20000 in
theorem MkLen_nil  : Spec Try.prog 11 #[.pointer none] [] (fun v C => v = .int .i64 0 ∧ C = []) := by
 refine Spec_intro (n := 10) (args := [.pointer none]) Try.func11 rfl rfl rfl fun s R => ?_
 refine CJ_app0 ?_
 refine CJ_env (E' := [(0, _)]) (.cons rfl rfl .nil) ?_
 refine CJ_seq ?_
 refine CJ_region ?_
 refine RJ_q (Op_assign rfl) rfl ?_
 refine RJ_nil ?_
 refine NJ_then ?_
 refine CJ_env (E' := [(0, _), (2, _)]) (.cons rfl rfl (.cons rfl rfl .nil)) ?_
 refine CJ_seq ?_
 refine CJ_seq ?_
 refine CJ_region ?_
 refine RJ_q (Op_move rfl) rfl ?_
 refine RJ_q (Op_ptr_eq_nil rfl rfl Try.underlying24) rfl ?_
 refine RJ_nil ?_
 refine NJ_then ?_
 refine CJ_env (E' := [(0, _), (2, _), (4, _)]) (.cons rfl rfl (.cons rfl rfl (.cons rfl rfl .nil))) ?_
 refine CJ_then rfl rfl ?_
 refine CJ_seq ?_
 refine CJ_region ?_
 refine RJ_q (Op_assign rfl) rfl ?_
 refine RJ_nil ?_
 refine NJ_then ?_
 refine CJ_env (E' := [(2, _)]) (.cons rfl rfl .nil) ?_
 refine CJ_ret ?_
 refine NJ_then_r ?_
 refine NJ_ret (.inl rfl) Try.results11 (ResJ_tmp rfl ResJ_nil) ⟨rfl, rfl⟩ skk

set_option maxRecDepth 20000 in
theorem MkDrop_nil  : Spec Try.prog 18 #[.pointer none] [] (fun v C => v = .tuple #[] ∧ C = []) := by
 refine Spec_intro (n := 8) (args := [.pointer none]) Try.func18 rfl rfl rfl fun s R => ?_
 refine CJ_app0 ?_
 refine CJ_env (E' := [(0, _)]) (.cons rfl rfl .nil) ?_
 refine CJ_seq ?_
 refine CJ_region ?_
 refine RJ_q (Op_move rfl) rfl ?_
 refine RJ_q (Op_ptr_ne_nil rfl rfl Try.underlying24) rfl ?_
 refine RJ_nil ?_
 refine NJ_then ?_
 refine CJ_env (E' := [(0, _), (3, _)]) (.cons rfl rfl (.cons rfl rfl .nil)) ?_
 refine CJ_else rfl rfl ?_
 refine CJ_skip ?_
 refine NJ_ret (.inr rfl) Try.results18 ResJ_nil ⟨rfl, rfl⟩ skk

set_option maxRecDepth 20000 in
theorem All_nil  : Spec Try.prog 10 #[.pointer none] [] (fun v C => v = .slice none 0 0 ∧ C = []) := by
 refine Spec_intro (n := 23) (args := [.pointer none]) Try.func10 rfl rfl rfl fun s R => ?_
 refine CJ_app0 ?_
 refine CJ_env (E' := [(0, _)]) (.cons rfl rfl .nil) ?_
 refine CJ_seq ?_
 refine CJ_region ?_
 refine RJ_q (Op_assign rfl) rfl ?_
 refine RJ_nil ?_
 refine NJ_then ?_
 refine CJ_env (E' := [(0, _), (2, _)]) (.cons rfl rfl (.cons rfl rfl .nil)) ?_
 refine CJ_seq ?_
 refine CJ_region ?_
 refine RJ_q (Op_assign rfl) rfl ?_
 refine RJ_nil ?_
 refine NJ_then ?_
 refine CJ_env (E' := [(0, _), (2, _), (3, _)]) (.cons rfl rfl (.cons rfl rfl (.cons rfl rfl .nil))) ?_
 refine CJ_seq ?_
 refine CJ_seq ?_
 refine CJ_region ?_
 refine RJ_q (Op_move rfl) rfl ?_
 refine RJ_q (Op_ptr_eq_nil rfl rfl Try.underlying24) rfl ?_
 refine RJ_nil ?_
 refine NJ_then ?_
 refine CJ_env (E' := [(0, _), (2, _), (3, _), (6, _)]) (.cons rfl rfl (.cons rfl rfl (.cons rfl rfl (.cons rfl rfl .nil)))) ?_
 refine CJ_then rfl rfl ?_
 refine CJ_seq ?_
 refine CJ_region ?_
 refine RJ_q (Op_assign rfl) rfl ?_
 refine RJ_nil ?_
 refine NJ_then ?_
 refine CJ_env (E' := [(2, _)]) (.cons rfl rfl .nil) ?_
 refine CJ_ret ?_
 refine NJ_then_r ?_
 refine NJ_ret (.inl rfl) Try.results10 (ResJ_tmp rfl ResJ_nil) ⟨rfl, rfl⟩ skk
end Go.Proofs.Ytbaecpddhdeapaa.SL
