/- Contracts of lru. -/
import Derived.Test.Ytgakbdofjlhoeaas21LrD
import Derived.Test.Ytgakbdofjlhoeaas21Facts
namespace Go.Proofs.Ytgakbdofjlhoeaa.SL
open Go Go.RowKit
set_option maxRecDepth 20000 in
theorem cut00 (g : Nat) (f l : Option Nat) (sum sum' room kept : Int) (mv : Value) (t : Th) (hs : sum - t.it.size = sum') (hr : -9223372036854775808 ≤ sum' ∧ sum' ≤ 9223372036854775807) : Spec Try.prog 53 #[.pointer (some ⟨g, 0, none⟩), .pointer (some ⟨t.b, 0, none⟩)] [CacheC g f l sum room kept mv, ThP t none none] (fun v C => v = .tuple #[] ∧ C = [CacheC g none none sum' room kept mv, ThP t none none]) := by
 subst hs
 refine Spec_intro (n := 65) (args := [.pointer (some ⟨g, 0, none⟩), .pointer (some ⟨t.b, 0, none⟩)]) Try.func53 rfl rfl rfl fun s R => ?_
 refine CJ_app2 ?_
 refine CJ_env (E' := [(0, _), (1, _)]) (.cons rfl rfl (.cons rfl rfl .nil)) ?_
 refine CJ_seq ?_
 refine CJ_seq ?_
 refine CJ_region ?_
 refine RJ_q (Op_move rfl) rfl ?_
 refine RJ_q (Op_nilCheck rfl) rfl ?_
 refine RJ_q (Op_fieldAddr (o' := 7) rfl Try.underlying120 rfl sz98 rfl rfl) rfl ?_
 refine RJ_q (Op_load rfl (load_cell Try.underlying98 rfl pkk (Nth.s (Nth.s (Nth.s (Nth.s (Nth.s (Nth.s (Nth.s Nth.z))))))))) rfl ?_
 refine RJ_q (Op_ptr_ne_nil rfl rfl Try.underlying98) rfl ?_
 refine RJ_nil ?_
 refine NJ_then ?_
 refine CJ_env (E' := [(0, _), (1, _), (8, _)]) (.cons rfl rfl (.cons rfl rfl (.cons rfl rfl .nil))) ?_
 refine CJ_else rfl rfl ?_
 refine CJ_region ?_
 refine RJ_q (Op_move rfl) rfl ?_
 refine RJ_q (Op_move rfl) rfl ?_
 refine RJ_q (Op_nilCheck rfl) rfl ?_
 refine RJ_q (Op_fieldAddr (o' := 8) rfl Try.underlying120 rfl sz98 rfl rfl) rfl ?_
 refine RJ_q (Op_load rfl (load_cell Try.underlying98 rfl pkk (Nth.s (Nth.s (Nth.s (Nth.s (Nth.s (Nth.s (Nth.s (Nth.s Nth.z)))))))))) rfl ?_
 refine RJ_q (Op_nilCheck rfl) rfl ?_
 refine RJ_q (Op_fieldAddr (o' := 0) rfl Try.underlying100 rfl sz98 rfl rfl) rfl ?_
 refine RJ_d0 (Op_store (cs' := #[_, _, _, _, _, _]) rfl rfl sz98 (by rfl) (by simp [Value.cells, Value.oneCell']) rpp rfl (free_zero _ _) (by rfl)) ?_
 refine RJ_nil ?_
 refine NJ_then ?_
 refine CJ_env (E' := [(0, _), (1, _)]) (.cons rfl rfl (.cons rfl rfl .nil)) ?_
 refine CJ_seq ?_
 refine CJ_seq ?_
 refine CJ_region ?_
 refine RJ_q (Op_move rfl) rfl ?_
 refine RJ_q (Op_nilCheck rfl) rfl ?_
 refine RJ_q (Op_fieldAddr (o' := 8) rfl Try.underlying120 rfl sz98 rfl rfl) rfl ?_
 refine RJ_q (Op_load rfl (load_cell Try.underlying98 rfl pkk (Nth.s (Nth.s (Nth.s (Nth.s (Nth.s (Nth.s (Nth.s (Nth.s Nth.z)))))))))) rfl ?_
 refine RJ_q (Op_ptr_ne_nil rfl rfl Try.underlying98) rfl ?_
 refine RJ_nil ?_
 refine NJ_then ?_
 refine CJ_env (E' := [(0, _), (1, _), (30, _)]) (.cons rfl rfl (.cons rfl rfl (.cons rfl rfl .nil))) ?_
 refine CJ_else rfl rfl ?_
 refine CJ_region ?_
 refine RJ_q (Op_move rfl) rfl ?_
 refine RJ_q (Op_move rfl) rfl ?_
 refine RJ_q (Op_nilCheck rfl) rfl ?_
 refine RJ_q (Op_fieldAddr (o' := 7) rfl Try.underlying120 rfl sz98 rfl rfl) rfl ?_
 refine RJ_q (Op_load rfl (load_cell Try.underlying98 rfl pkk (Nth.s (Nth.s (Nth.s (Nth.s (Nth.s (Nth.s (Nth.s Nth.z))))))))) rfl ?_
 refine RJ_q (Op_nilCheck rfl) rfl ?_
 refine RJ_q (Op_fieldAddr (o' := 1) rfl Try.underlying100 rfl sz98 rfl rfl) rfl ?_
 refine RJ_d0 (Op_store (cs' := #[_, _, _, _, _, _]) rfl rfl sz98 (by rfl) (by simp [Value.cells, Value.oneCell']) rpp rfl (free_zero _ _) (by rfl)) ?_
 refine RJ_nil ?_
 refine NJ_then ?_
 refine CJ_env (E' := [(0, _), (1, _)]) (.cons rfl rfl (.cons rfl rfl .nil)) ?_
 refine CJ_seq ?_
 refine CJ_region ?_
 refine RJ_q (Op_move rfl) rfl ?_
 refine RJ_q (Op_move rfl) rfl ?_
 refine RJ_q (Op_nilCheck rfl) rfl ?_
 refine RJ_q (Op_fieldAddr (o' := 7) rfl Try.underlying120 rfl sz98 rfl rfl) rfl ?_
 refine RJ_d0 (Op_store (cs' := #[_, _, _, _, _, _, _, _, _]) rfl rfl sz98 (by rfl) (by simp [Value.cells, Value.oneCell']) rpp rfl (free_zero _ _) (by rfl)) ?_
 refine RJ_q (Op_nilCheck rfl) rfl ?_
 refine RJ_q (Op_fieldAddr (o' := 8) rfl Try.underlying120 rfl sz98 rfl rfl) rfl ?_
 refine RJ_d0 (Op_store (cs' := #[_, _, _, _, _, _, _, _, _]) rfl rfl sz98 (by rfl) (by simp [Value.cells, Value.oneCell']) rpp rfl (free_zero _ _) (by rfl)) ?_
 refine RJ_nil ?_
 refine NJ_then ?_
 refine CJ_env (E' := [(0, _), (1, _)]) (.cons rfl rfl (.cons rfl rfl .nil)) ?_
 refine CJ_draw (.q 0 (.q 1 (.q 2 (.q 3 (.q 4 (.q 5 (.q 6 (.q 7 (.q 8 (.q 9 (.q 10 (.e 11 .done)))))))))))) (by kernel_rfl) (by kernel_rfl) (by kernel_rfl) ?_
 refine SJ_q rfl (want_none rfl) rfl (fun _ _ => Op_move rfl) ?_
 refine SJ_q rfl (want_none rfl) rfl (fun _ _ => Op_nilCheck rfl) ?_
 refine SJ_q rfl (want_none rfl) rfl (fun _ _ => Op_fieldAddr (o' := 2) rfl Try.underlying100 rfl sz3 rfl rfl) ?_
 refine SJ_load rfl (want_none rfl) rfl rfl (load_cell Try.underlying3 rfl pkk (Nth.s (Nth.s Nth.z))) ?_
 refine SJ_q rfl (want_none rfl) rfl (fun _ _ => Op_move rfl) ?_
 refine SJ_q rfl (want_none rfl) rfl (fun _ _ => Op_nilCheck rfl) ?_
 refine SJ_q rfl (want_none rfl) rfl (fun _ _ => Op_fieldAddr (o' := 6) rfl Try.underlying120 rfl sz3 rfl rfl) ?_
 refine SJ_load rfl (want_none rfl) rfl rfl (load_cell Try.underlying3 rfl pkk (Nth.s (Nth.s (Nth.s (Nth.s (Nth.s (Nth.s Nth.z))))))) ?_
 refine SJ_q rfl (want_none rfl) rfl (fun _ _ => Op_sub64 rfl rfl (by omega)) ?_
 refine SJ_q rfl (want_none rfl) rfl (fun _ _ => Op_nilCheck rfl) ?_
 refine SJ_q rfl (want_none rfl) rfl (fun _ _ => Op_fieldAddr (o' := 2) rfl Try.underlying100 rfl sz3 rfl rfl) ?_
 refine SJ_d0 (rd' := []) [] rfl (want_none rfl) (Op_store (cs' := #[_, _, _, _, _, _]) rfl rfl sz3 (by rfl) (by simp [Value.cells, Value.oneCell']) rpp rfl (free_zero _ _) (by rfl)) (by kernel_rfl) rfl trivial ?_
 refine SJ_done ?_
 refine NJ_ret (.inr rfl) Try.results53 ResJ_nil ⟨rfl, rfl⟩ (.k (e := (.k (e := skk))))

set_option maxRecDepth 20000 in
theorem cut01 (g : Nat) (f l : Option Nat) (sum sum' room kept : Int) (mv : Value) (t : Th) (y : Th) (vn : Option Nat) (hs : sum - t.it.size = sum') (hr : -9223372036854775808 ≤ sum' ∧ sum' ≤ 9223372036854775807) : Spec Try.prog 53 #[.pointer (some ⟨g, 0, none⟩), .pointer (some ⟨t.b, 0, none⟩)] [CacheC g f l sum room kept mv, ThP t none (some y.b), ThP y (some t.b) vn] (fun v C => v = .tuple #[] ∧ C = [CacheC g (some y.b) l sum' room kept mv, ThP t none none, ThP y none vn]) := by
 subst hs
 refine Spec_intro (n := 65) (args := [.pointer (some ⟨g, 0, none⟩), .pointer (some ⟨t.b, 0, none⟩)]) Try.func53 rfl rfl rfl fun s R => ?_
 refine CJ_app3 ?_
 refine CJ_env (E' := [(0, _), (1, _)]) (.cons rfl rfl (.cons rfl rfl .nil)) ?_
 refine CJ_seq ?_
 refine CJ_seq ?_
 refine CJ_region ?_
 refine RJ_q (Op_move rfl) rfl ?_
 refine RJ_q (Op_nilCheck rfl) rfl ?_
 refine RJ_q (Op_fieldAddr (o' := 7) rfl Try.underlying120 rfl sz98 rfl rfl) rfl ?_
 refine RJ_q (Op_load rfl (load_cell Try.underlying98 rfl pkk (Nth.s (Nth.s (Nth.s (Nth.s (Nth.s (Nth.s (Nth.s Nth.z))))))))) rfl ?_
 refine RJ_q (Op_ptr_ne_nil rfl rfl Try.underlying98) rfl ?_
 refine RJ_nil ?_
 refine NJ_then ?_
 refine CJ_env (E' := [(0, _), (1, _), (8, _)]) (.cons rfl rfl (.cons rfl rfl (.cons rfl rfl .nil))) ?_
 refine CJ_else rfl rfl ?_
 refine CJ_region ?_
 refine RJ_q (Op_move rfl) rfl ?_
 refine RJ_q (Op_move rfl) rfl ?_
 refine RJ_q (Op_nilCheck rfl) rfl ?_
 refine RJ_q (Op_fieldAddr (o' := 8) rfl Try.underlying120 rfl sz98 rfl rfl) rfl ?_
 refine RJ_q (Op_load rfl (load_cell Try.underlying98 rfl pkk (Nth.s (Nth.s (Nth.s (Nth.s (Nth.s (Nth.s (Nth.s (Nth.s Nth.z)))))))))) rfl ?_
 refine RJ_q (Op_nilCheck rfl) rfl ?_
 refine RJ_q (Op_fieldAddr (o' := 0) rfl Try.underlying100 rfl sz98 rfl rfl) rfl ?_
 refine RJ_d0 (Op_store (cs' := #[_, _, _, _, _, _]) rfl rfl sz98 (by rfl) (by simp [Value.cells, Value.oneCell']) rpp rfl (free_zero _ _) (by rfl)) ?_
 refine RJ_nil ?_
 refine NJ_then ?_
 refine CJ_env (E' := [(0, _), (1, _)]) (.cons rfl rfl (.cons rfl rfl .nil)) ?_
 refine CJ_seq ?_
 refine CJ_seq ?_
 refine CJ_region ?_
 refine RJ_q (Op_move rfl) rfl ?_
 refine RJ_q (Op_nilCheck rfl) rfl ?_
 refine RJ_q (Op_fieldAddr (o' := 8) rfl Try.underlying120 rfl sz98 rfl rfl) rfl ?_
 refine RJ_q (Op_load rfl (load_cell Try.underlying98 rfl pkk (Nth.s (Nth.s (Nth.s (Nth.s (Nth.s (Nth.s (Nth.s (Nth.s Nth.z)))))))))) rfl ?_
 refine RJ_q (Op_ptr_ne_nil rfl rfl Try.underlying98) rfl ?_
 refine RJ_nil ?_
 refine NJ_then ?_
 refine CJ_env (E' := [(0, _), (1, _), (30, _)]) (.cons rfl rfl (.cons rfl rfl (.cons rfl rfl .nil))) ?_
 refine CJ_then rfl rfl ?_
 refine CJ_draw (.q 0 (.q 1 (.q 2 (.q 3 (.q 4 (.q 5 (.q 6 (.q 7 (.q 8 (.q 9 (.e 10 .done))))))))))) (by kernel_rfl) (by kernel_rfl) (by kernel_rfl) ?_
 refine SJ_q rfl (want_none rfl) rfl (fun _ _ => Op_move rfl) ?_
 refine SJ_q rfl (want_none rfl) rfl (fun _ _ => Op_nilCheck rfl) ?_
 refine SJ_q rfl (want_none rfl) rfl (fun _ _ => Op_fieldAddr (o' := 8) rfl Try.underlying120 rfl sz98 rfl rfl) ?_
 refine SJ_load rfl (want_none rfl) rfl rfl (load_cell Try.underlying98 rfl pkk (Nth.s (Nth.s (Nth.s (Nth.s (Nth.s (Nth.s (Nth.s (Nth.s Nth.z))))))))) ?_
 refine SJ_q rfl (want_none rfl) rfl (fun _ _ => Op_move rfl) ?_
 refine SJ_q rfl (want_none rfl) rfl (fun _ _ => Op_nilCheck rfl) ?_
 refine SJ_q rfl (want_none rfl) rfl (fun _ _ => Op_fieldAddr (o' := 7) rfl Try.underlying120 rfl sz98 rfl rfl) ?_
 refine SJ_load rfl (want_none rfl) rfl rfl (load_cell Try.underlying98 rfl pkk (Nth.s (Nth.s (Nth.s (Nth.s (Nth.s (Nth.s (Nth.s Nth.z)))))))) ?_
 refine SJ_q rfl (want_none rfl) rfl (fun _ _ => Op_nilCheck rfl) ?_
 refine SJ_q rfl (want_none rfl) rfl (fun _ _ => Op_fieldAddr (o' := 7) rfl Try.underlying120 rfl sz98 rfl rfl) ?_
 refine SJ_d0 (rd' := []) [] rfl (want_none rfl) (Op_store (cs' := #[_, _, _, _, _, _, _, _, _]) rfl rfl sz98 (by rfl) (by simp [Value.cells, Value.oneCell']) rpp rfl (free_zero _ _) (by rfl)) (by kernel_rfl) rfl trivial ?_
 refine SJ_done ?_
 refine NJ_then ?_
 refine CJ_env (E' := [(0, _), (1, _)]) (.cons rfl rfl (.cons rfl rfl .nil)) ?_
 refine CJ_seq ?_
 refine CJ_region ?_
 refine RJ_q (Op_move rfl) rfl ?_
 refine RJ_q (Op_move rfl) rfl ?_
 refine RJ_q (Op_nilCheck rfl) rfl ?_
 refine RJ_q (Op_fieldAddr (o' := 7) rfl Try.underlying120 rfl sz98 rfl rfl) rfl ?_
 refine RJ_d0 (Op_store (cs' := #[_, _, _, _, _, _, _, _, _]) rfl rfl sz98 (by rfl) (by simp [Value.cells, Value.oneCell']) rpp rfl (free_zero _ _) (by rfl)) ?_
 refine RJ_q (Op_nilCheck rfl) rfl ?_
 refine RJ_q (Op_fieldAddr (o' := 8) rfl Try.underlying120 rfl sz98 rfl rfl) rfl ?_
 refine RJ_d0 (Op_store (cs' := #[_, _, _, _, _, _, _, _, _]) rfl rfl sz98 (by rfl) (by simp [Value.cells, Value.oneCell']) rpp rfl (free_zero _ _) (by rfl)) ?_
 refine RJ_nil ?_
 refine NJ_then ?_
 refine CJ_env (E' := [(0, _), (1, _)]) (.cons rfl rfl (.cons rfl rfl .nil)) ?_
 refine CJ_draw (.q 0 (.q 1 (.q 2 (.q 3 (.q 4 (.q 5 (.q 6 (.q 7 (.q 8 (.q 9 (.q 10 (.e 11 .done)))))))))))) (by kernel_rfl) (by kernel_rfl) (by kernel_rfl) ?_
 refine SJ_q rfl (want_none rfl) rfl (fun _ _ => Op_move rfl) ?_
 refine SJ_q rfl (want_none rfl) rfl (fun _ _ => Op_nilCheck rfl) ?_
 refine SJ_q rfl (want_none rfl) rfl (fun _ _ => Op_fieldAddr (o' := 2) rfl Try.underlying100 rfl sz3 rfl rfl) ?_
 refine SJ_load rfl (want_none rfl) rfl rfl (load_cell Try.underlying3 rfl pkk (Nth.s (Nth.s Nth.z))) ?_
 refine SJ_q rfl (want_none rfl) rfl (fun _ _ => Op_move rfl) ?_
 refine SJ_q rfl (want_none rfl) rfl (fun _ _ => Op_nilCheck rfl) ?_
 refine SJ_q rfl (want_none rfl) rfl (fun _ _ => Op_fieldAddr (o' := 6) rfl Try.underlying120 rfl sz3 rfl rfl) ?_
 refine SJ_load rfl (want_none rfl) rfl rfl (load_cell Try.underlying3 rfl pkk (Nth.s (Nth.s (Nth.s (Nth.s (Nth.s (Nth.s Nth.z))))))) ?_
 refine SJ_q rfl (want_none rfl) rfl (fun _ _ => Op_sub64 rfl rfl (by omega)) ?_
 refine SJ_q rfl (want_none rfl) rfl (fun _ _ => Op_nilCheck rfl) ?_
 refine SJ_q rfl (want_none rfl) rfl (fun _ _ => Op_fieldAddr (o' := 2) rfl Try.underlying100 rfl sz3 rfl rfl) ?_
 refine SJ_d0 (rd' := []) [] rfl (want_none rfl) (Op_store (cs' := #[_, _, _, _, _, _]) rfl rfl sz3 (by rfl) (by simp [Value.cells, Value.oneCell']) rpp rfl (free_zero _ _) (by rfl)) (by kernel_rfl) rfl trivial ?_
 refine SJ_done ?_
 refine NJ_ret (.inr rfl) Try.results53 ResJ_nil ⟨rfl, rfl⟩ (.k (e := (.k (e := (.k (e := skk))))))

set_option maxRecDepth 20000 in
theorem cut10 (g : Nat) (f l : Option Nat) (sum sum' room kept : Int) (mv : Value) (t : Th) (u : Th) (up : Option Nat) (hs : sum - t.it.size = sum') (hr : -9223372036854775808 ≤ sum' ∧ sum' ≤ 9223372036854775807) : Spec Try.prog 53 #[.pointer (some ⟨g, 0, none⟩), .pointer (some ⟨t.b, 0, none⟩)] [CacheC g f l sum room kept mv, ThP u up (some t.b), ThP t (some u.b) none] (fun v C => v = .tuple #[] ∧ C = [CacheC g f (some u.b) sum' room kept mv, ThP u up none, ThP t none none]) := by
 subst hs
 refine Spec_intro (n := 65) (args := [.pointer (some ⟨g, 0, none⟩), .pointer (some ⟨t.b, 0, none⟩)]) Try.func53 rfl rfl rfl fun s R => ?_
 refine CJ_app3 ?_
 refine CJ_env (E' := [(0, _), (1, _)]) (.cons rfl rfl (.cons rfl rfl .nil)) ?_
 refine CJ_seq ?_
 refine CJ_seq ?_
 refine CJ_region ?_
 refine RJ_q (Op_move rfl) rfl ?_
 refine RJ_q (Op_nilCheck rfl) rfl ?_
 refine RJ_q (Op_fieldAddr (o' := 7) rfl Try.underlying120 rfl sz98 rfl rfl) rfl ?_
 refine RJ_q (Op_load rfl (load_cell Try.underlying98 rfl pkk (Nth.s (Nth.s (Nth.s (Nth.s (Nth.s (Nth.s (Nth.s Nth.z))))))))) rfl ?_
 refine RJ_q (Op_ptr_ne_nil rfl rfl Try.underlying98) rfl ?_
 refine RJ_nil ?_
 refine NJ_then ?_
 refine CJ_env (E' := [(0, _), (1, _), (8, _)]) (.cons rfl rfl (.cons rfl rfl (.cons rfl rfl .nil))) ?_
 refine CJ_then rfl rfl ?_
 refine CJ_draw (.q 0 (.q 1 (.q 2 (.q 3 (.q 4 (.q 5 (.q 6 (.q 7 (.q 8 (.q 9 (.e 10 .done))))))))))) (by kernel_rfl) (by kernel_rfl) (by kernel_rfl) ?_
 refine SJ_q rfl (want_none rfl) rfl (fun _ _ => Op_move rfl) ?_
 refine SJ_q rfl (want_none rfl) rfl (fun _ _ => Op_nilCheck rfl) ?_
 refine SJ_q rfl (want_none rfl) rfl (fun _ _ => Op_fieldAddr (o' := 7) rfl Try.underlying120 rfl sz98 rfl rfl) ?_
 refine SJ_load rfl (want_none rfl) rfl rfl (load_cell Try.underlying98 rfl pkk (Nth.s (Nth.s (Nth.s (Nth.s (Nth.s (Nth.s (Nth.s Nth.z)))))))) ?_
 refine SJ_q rfl (want_none rfl) rfl (fun _ _ => Op_move rfl) ?_
 refine SJ_q rfl (want_none rfl) rfl (fun _ _ => Op_nilCheck rfl) ?_
 refine SJ_q rfl (want_none rfl) rfl (fun _ _ => Op_fieldAddr (o' := 8) rfl Try.underlying120 rfl sz98 rfl rfl) ?_
 refine SJ_load rfl (want_none rfl) rfl rfl (load_cell Try.underlying98 rfl pkk (Nth.s (Nth.s (Nth.s (Nth.s (Nth.s (Nth.s (Nth.s (Nth.s Nth.z))))))))) ?_
 refine SJ_q rfl (want_none rfl) rfl (fun _ _ => Op_nilCheck rfl) ?_
 refine SJ_q rfl (want_none rfl) rfl (fun _ _ => Op_fieldAddr (o' := 8) rfl Try.underlying120 rfl sz98 rfl rfl) ?_
 refine SJ_d0 (rd' := []) [] rfl (want_none rfl) (Op_store (cs' := #[_, _, _, _, _, _, _, _, _]) rfl rfl sz98 (by rfl) (by simp [Value.cells, Value.oneCell']) rpp rfl (free_zero _ _) (by rfl)) (by kernel_rfl) rfl trivial ?_
 refine SJ_done ?_
 refine NJ_then ?_
 refine CJ_env (E' := [(0, _), (1, _)]) (.cons rfl rfl (.cons rfl rfl .nil)) ?_
 refine CJ_seq ?_
 refine CJ_seq ?_
 refine CJ_region ?_
 refine RJ_q (Op_move rfl) rfl ?_
 refine RJ_q (Op_nilCheck rfl) rfl ?_
 refine RJ_q (Op_fieldAddr (o' := 8) rfl Try.underlying120 rfl sz98 rfl rfl) rfl ?_
 refine RJ_q (Op_load rfl (load_cell Try.underlying98 rfl pkk (Nth.s (Nth.s (Nth.s (Nth.s (Nth.s (Nth.s (Nth.s (Nth.s Nth.z)))))))))) rfl ?_
 refine RJ_q (Op_ptr_ne_nil rfl rfl Try.underlying98) rfl ?_
 refine RJ_nil ?_
 refine NJ_then ?_
 refine CJ_env (E' := [(0, _), (1, _), (30, _)]) (.cons rfl rfl (.cons rfl rfl (.cons rfl rfl .nil))) ?_
 refine CJ_else rfl rfl ?_
 refine CJ_region ?_
 refine RJ_q (Op_move rfl) rfl ?_
 refine RJ_q (Op_move rfl) rfl ?_
 refine RJ_q (Op_nilCheck rfl) rfl ?_
 refine RJ_q (Op_fieldAddr (o' := 7) rfl Try.underlying120 rfl sz98 rfl rfl) rfl ?_
 refine RJ_q (Op_load rfl (load_cell Try.underlying98 rfl pkk (Nth.s (Nth.s (Nth.s (Nth.s (Nth.s (Nth.s (Nth.s Nth.z))))))))) rfl ?_
 refine RJ_q (Op_nilCheck rfl) rfl ?_
 refine RJ_q (Op_fieldAddr (o' := 1) rfl Try.underlying100 rfl sz98 rfl rfl) rfl ?_
 refine RJ_d0 (Op_store (cs' := #[_, _, _, _, _, _]) rfl rfl sz98 (by rfl) (by simp [Value.cells, Value.oneCell']) rpp rfl (free_zero _ _) (by rfl)) ?_
 refine RJ_nil ?_
 refine NJ_then ?_
 refine CJ_env (E' := [(0, _), (1, _)]) (.cons rfl rfl (.cons rfl rfl .nil)) ?_
 refine CJ_seq ?_
 refine CJ_region ?_
 refine RJ_q (Op_move rfl) rfl ?_
 refine RJ_q (Op_move rfl) rfl ?_
 refine RJ_q (Op_nilCheck rfl) rfl ?_
 refine RJ_q (Op_fieldAddr (o' := 7) rfl Try.underlying120 rfl sz98 rfl rfl) rfl ?_
 refine RJ_d0 (Op_store (cs' := #[_, _, _, _, _, _, _, _, _]) rfl rfl sz98 (by rfl) (by simp [Value.cells, Value.oneCell']) rpp rfl (free_zero _ _) (by rfl)) ?_
 refine RJ_q (Op_nilCheck rfl) rfl ?_
 refine RJ_q (Op_fieldAddr (o' := 8) rfl Try.underlying120 rfl sz98 rfl rfl) rfl ?_
 refine RJ_d0 (Op_store (cs' := #[_, _, _, _, _, _, _, _, _]) rfl rfl sz98 (by rfl) (by simp [Value.cells, Value.oneCell']) rpp rfl (free_zero _ _) (by rfl)) ?_
 refine RJ_nil ?_
 refine NJ_then ?_
 refine CJ_env (E' := [(0, _), (1, _)]) (.cons rfl rfl (.cons rfl rfl .nil)) ?_
 refine CJ_draw (.q 0 (.q 1 (.q 2 (.q 3 (.q 4 (.q 5 (.q 6 (.q 7 (.q 8 (.q 9 (.q 10 (.e 11 .done)))))))))))) (by kernel_rfl) (by kernel_rfl) (by kernel_rfl) ?_
 refine SJ_q rfl (want_none rfl) rfl (fun _ _ => Op_move rfl) ?_
 refine SJ_q rfl (want_none rfl) rfl (fun _ _ => Op_nilCheck rfl) ?_
 refine SJ_q rfl (want_none rfl) rfl (fun _ _ => Op_fieldAddr (o' := 2) rfl Try.underlying100 rfl sz3 rfl rfl) ?_
 refine SJ_load rfl (want_none rfl) rfl rfl (load_cell Try.underlying3 rfl pkk (Nth.s (Nth.s Nth.z))) ?_
 refine SJ_q rfl (want_none rfl) rfl (fun _ _ => Op_move rfl) ?_
 refine SJ_q rfl (want_none rfl) rfl (fun _ _ => Op_nilCheck rfl) ?_
 refine SJ_q rfl (want_none rfl) rfl (fun _ _ => Op_fieldAddr (o' := 6) rfl Try.underlying120 rfl sz3 rfl rfl) ?_
 refine SJ_load rfl (want_none rfl) rfl rfl (load_cell Try.underlying3 rfl pkk (Nth.s (Nth.s (Nth.s (Nth.s (Nth.s (Nth.s Nth.z))))))) ?_
 refine SJ_q rfl (want_none rfl) rfl (fun _ _ => Op_sub64 rfl rfl (by omega)) ?_
 refine SJ_q rfl (want_none rfl) rfl (fun _ _ => Op_nilCheck rfl) ?_
 refine SJ_q rfl (want_none rfl) rfl (fun _ _ => Op_fieldAddr (o' := 2) rfl Try.underlying100 rfl sz3 rfl rfl) ?_
 refine SJ_d0 (rd' := []) [] rfl (want_none rfl) (Op_store (cs' := #[_, _, _, _, _, _]) rfl rfl sz3 (by rfl) (by simp [Value.cells, Value.oneCell']) rpp rfl (free_zero _ _) (by rfl)) (by kernel_rfl) rfl trivial ?_
 refine SJ_done ?_
 refine NJ_ret (.inr rfl) Try.results53 ResJ_nil ⟨rfl, rfl⟩ (.k (e := (.k (e := (.k (e := skk))))))

set_option maxRecDepth 20000 in
theorem cut11 (g : Nat) (f l : Option Nat) (sum sum' room kept : Int) (mv : Value) (t : Th) (u : Th) (up : Option Nat) (y : Th) (vn : Option Nat) (hs : sum - t.it.size = sum') (hr : -9223372036854775808 ≤ sum' ∧ sum' ≤ 9223372036854775807) : Spec Try.prog 53 #[.pointer (some ⟨g, 0, none⟩), .pointer (some ⟨t.b, 0, none⟩)] [CacheC g f l sum room kept mv, ThP u up (some t.b), ThP t (some u.b) (some y.b), ThP y (some t.b) vn] (fun v C => v = .tuple #[] ∧ C = [CacheC g f l sum' room kept mv, ThP u up (some y.b), ThP t none none, ThP y (some u.b) vn]) := by
 subst hs
 refine Spec_intro (n := 65) (args := [.pointer (some ⟨g, 0, none⟩), .pointer (some ⟨t.b, 0, none⟩)]) Try.func53 rfl rfl rfl fun s R => ?_
 refine CJ_app4 ?_
 refine CJ_env (E' := [(0, _), (1, _)]) (.cons rfl rfl (.cons rfl rfl .nil)) ?_
 refine CJ_seq ?_
 refine CJ_seq ?_
 refine CJ_region ?_
 refine RJ_q (Op_move rfl) rfl ?_
 refine RJ_q (Op_nilCheck rfl) rfl ?_
 refine RJ_q (Op_fieldAddr (o' := 7) rfl Try.underlying120 rfl sz98 rfl rfl) rfl ?_
 refine RJ_q (Op_load rfl (load_cell Try.underlying98 rfl pkk (Nth.s (Nth.s (Nth.s (Nth.s (Nth.s (Nth.s (Nth.s Nth.z))))))))) rfl ?_
 refine RJ_q (Op_ptr_ne_nil rfl rfl Try.underlying98) rfl ?_
 refine RJ_nil ?_
 refine NJ_then ?_
 refine CJ_env (E' := [(0, _), (1, _), (8, _)]) (.cons rfl rfl (.cons rfl rfl (.cons rfl rfl .nil))) ?_
 refine CJ_then rfl rfl ?_
 refine CJ_draw (.q 0 (.q 1 (.q 2 (.q 3 (.q 4 (.q 5 (.q 6 (.q 7 (.q 8 (.q 9 (.e 10 .done))))))))))) (by kernel_rfl) (by kernel_rfl) (by kernel_rfl) ?_
 refine SJ_q rfl (want_none rfl) rfl (fun _ _ => Op_move rfl) ?_
 refine SJ_q rfl (want_none rfl) rfl (fun _ _ => Op_nilCheck rfl) ?_
 refine SJ_q rfl (want_none rfl) rfl (fun _ _ => Op_fieldAddr (o' := 7) rfl Try.underlying120 rfl sz98 rfl rfl) ?_
 refine SJ_load rfl (want_none rfl) rfl rfl (load_cell Try.underlying98 rfl pkk (Nth.s (Nth.s (Nth.s (Nth.s (Nth.s (Nth.s (Nth.s Nth.z)))))))) ?_
 refine SJ_q rfl (want_none rfl) rfl (fun _ _ => Op_move rfl) ?_
 refine SJ_q rfl (want_none rfl) rfl (fun _ _ => Op_nilCheck rfl) ?_
 refine SJ_q rfl (want_none rfl) rfl (fun _ _ => Op_fieldAddr (o' := 8) rfl Try.underlying120 rfl sz98 rfl rfl) ?_
 refine SJ_load rfl (want_none rfl) rfl rfl (load_cell Try.underlying98 rfl pkk (Nth.s (Nth.s (Nth.s (Nth.s (Nth.s (Nth.s (Nth.s (Nth.s Nth.z))))))))) ?_
 refine SJ_q rfl (want_none rfl) rfl (fun _ _ => Op_nilCheck rfl) ?_
 refine SJ_q rfl (want_none rfl) rfl (fun _ _ => Op_fieldAddr (o' := 8) rfl Try.underlying120 rfl sz98 rfl rfl) ?_
 refine SJ_d0 (rd' := []) [] rfl (want_none rfl) (Op_store (cs' := #[_, _, _, _, _, _, _, _, _]) rfl rfl sz98 (by rfl) (by simp [Value.cells, Value.oneCell']) rpp rfl (free_zero _ _) (by rfl)) (by kernel_rfl) rfl trivial ?_
 refine SJ_done ?_
 refine NJ_then ?_
 refine CJ_env (E' := [(0, _), (1, _)]) (.cons rfl rfl (.cons rfl rfl .nil)) ?_
 refine CJ_seq ?_
 refine CJ_seq ?_
 refine CJ_region ?_
 refine RJ_q (Op_move rfl) rfl ?_
 refine RJ_q (Op_nilCheck rfl) rfl ?_
 refine RJ_q (Op_fieldAddr (o' := 8) rfl Try.underlying120 rfl sz98 rfl rfl) rfl ?_
 refine RJ_q (Op_load rfl (load_cell Try.underlying98 rfl pkk (Nth.s (Nth.s (Nth.s (Nth.s (Nth.s (Nth.s (Nth.s (Nth.s Nth.z)))))))))) rfl ?_
 refine RJ_q (Op_ptr_ne_nil rfl rfl Try.underlying98) rfl ?_
 refine RJ_nil ?_
 refine NJ_then ?_
 refine CJ_env (E' := [(0, _), (1, _), (30, _)]) (.cons rfl rfl (.cons rfl rfl (.cons rfl rfl .nil))) ?_
 refine CJ_then rfl rfl ?_
 refine CJ_draw (.q 0 (.q 1 (.q 2 (.q 3 (.q 4 (.q 5 (.q 6 (.q 7 (.q 8 (.q 9 (.e 10 .done))))))))))) (by kernel_rfl) (by kernel_rfl) (by kernel_rfl) ?_
 refine SJ_q rfl (want_none rfl) rfl (fun _ _ => Op_move rfl) ?_
 refine SJ_q rfl (want_none rfl) rfl (fun _ _ => Op_nilCheck rfl) ?_
 refine SJ_q rfl (want_none rfl) rfl (fun _ _ => Op_fieldAddr (o' := 8) rfl Try.underlying120 rfl sz98 rfl rfl) ?_
 refine SJ_load rfl (want_none rfl) rfl rfl (load_cell Try.underlying98 rfl pkk (Nth.s (Nth.s (Nth.s (Nth.s (Nth.s (Nth.s (Nth.s (Nth.s Nth.z))))))))) ?_
 refine SJ_q rfl (want_none rfl) rfl (fun _ _ => Op_move rfl) ?_
 refine SJ_q rfl (want_none rfl) rfl (fun _ _ => Op_nilCheck rfl) ?_
 refine SJ_q rfl (want_none rfl) rfl (fun _ _ => Op_fieldAddr (o' := 7) rfl Try.underlying120 rfl sz98 rfl rfl) ?_
 refine SJ_load rfl (want_none rfl) rfl rfl (load_cell Try.underlying98 rfl pkk (Nth.s (Nth.s (Nth.s (Nth.s (Nth.s (Nth.s (Nth.s Nth.z)))))))) ?_
 refine SJ_q rfl (want_none rfl) rfl (fun _ _ => Op_nilCheck rfl) ?_
 refine SJ_q rfl (want_none rfl) rfl (fun _ _ => Op_fieldAddr (o' := 7) rfl Try.underlying120 rfl sz98 rfl rfl) ?_
 refine SJ_d0 (rd' := []) [] rfl (want_none rfl) (Op_store (cs' := #[_, _, _, _, _, _, _, _, _]) rfl rfl sz98 (by rfl) (by simp [Value.cells, Value.oneCell']) rpp rfl (free_zero _ _) (by rfl)) (by kernel_rfl) rfl trivial ?_
 refine SJ_done ?_
 refine NJ_then ?_
 refine CJ_env (E' := [(0, _), (1, _)]) (.cons rfl rfl (.cons rfl rfl .nil)) ?_
 refine CJ_seq ?_
 refine CJ_region ?_
 refine RJ_q (Op_move rfl) rfl ?_
 refine RJ_q (Op_move rfl) rfl ?_
 refine RJ_q (Op_nilCheck rfl) rfl ?_
 refine RJ_q (Op_fieldAddr (o' := 7) rfl Try.underlying120 rfl sz98 rfl rfl) rfl ?_
 refine RJ_d0 (Op_store (cs' := #[_, _, _, _, _, _, _, _, _]) rfl rfl sz98 (by rfl) (by simp [Value.cells, Value.oneCell']) rpp rfl (free_zero _ _) (by rfl)) ?_
 refine RJ_q (Op_nilCheck rfl) rfl ?_
 refine RJ_q (Op_fieldAddr (o' := 8) rfl Try.underlying120 rfl sz98 rfl rfl) rfl ?_
 refine RJ_d0 (Op_store (cs' := #[_, _, _, _, _, _, _, _, _]) rfl rfl sz98 (by rfl) (by simp [Value.cells, Value.oneCell']) rpp rfl (free_zero _ _) (by rfl)) ?_
 refine RJ_nil ?_
 refine NJ_then ?_
 refine CJ_env (E' := [(0, _), (1, _)]) (.cons rfl rfl (.cons rfl rfl .nil)) ?_
 refine CJ_draw (.q 0 (.q 1 (.q 2 (.q 3 (.q 4 (.q 5 (.q 6 (.q 7 (.q 8 (.q 9 (.q 10 (.e 11 .done)))))))))))) (by kernel_rfl) (by kernel_rfl) (by kernel_rfl) ?_
 refine SJ_q rfl (want_none rfl) rfl (fun _ _ => Op_move rfl) ?_
 refine SJ_q rfl (want_none rfl) rfl (fun _ _ => Op_nilCheck rfl) ?_
 refine SJ_q rfl (want_none rfl) rfl (fun _ _ => Op_fieldAddr (o' := 2) rfl Try.underlying100 rfl sz3 rfl rfl) ?_
 refine SJ_load rfl (want_none rfl) rfl rfl (load_cell Try.underlying3 rfl pkk (Nth.s (Nth.s Nth.z))) ?_
 refine SJ_q rfl (want_none rfl) rfl (fun _ _ => Op_move rfl) ?_
 refine SJ_q rfl (want_none rfl) rfl (fun _ _ => Op_nilCheck rfl) ?_
 refine SJ_q rfl (want_none rfl) rfl (fun _ _ => Op_fieldAddr (o' := 6) rfl Try.underlying120 rfl sz3 rfl rfl) ?_
 refine SJ_load rfl (want_none rfl) rfl rfl (load_cell Try.underlying3 rfl pkk (Nth.s (Nth.s (Nth.s (Nth.s (Nth.s (Nth.s Nth.z))))))) ?_
 refine SJ_q rfl (want_none rfl) rfl (fun _ _ => Op_sub64 rfl rfl (by omega)) ?_
 refine SJ_q rfl (want_none rfl) rfl (fun _ _ => Op_nilCheck rfl) ?_
 refine SJ_q rfl (want_none rfl) rfl (fun _ _ => Op_fieldAddr (o' := 2) rfl Try.underlying100 rfl sz3 rfl rfl) ?_
 refine SJ_d0 (rd' := []) [] rfl (want_none rfl) (Op_store (cs' := #[_, _, _, _, _, _]) rfl rfl sz3 (by rfl) (by simp [Value.cells, Value.oneCell']) rpp rfl (free_zero _ _) (by rfl)) (by kernel_rfl) rfl trivial ?_
 refine SJ_done ?_
 refine NJ_ret (.inr rfl) Try.results53 ResJ_nil ⟨rfl, rfl⟩ (.k (e := (.k (e := (.k (e := (.k (e := skk))))))))

set_option maxRecDepth 20000 in
theorem push0 (g : Nat) (l o : Option Nat) (sum sum' room kept : Int) (mv : Value) (t : Th) (hs : sum + t.it.size = sum') (hr : -9223372036854775808 ≤ sum' ∧ sum' ≤ 9223372036854775807) : Spec Try.prog 54 #[.pointer (some ⟨g, 0, none⟩), .pointer (some ⟨t.b, 0, none⟩)] [CacheC g none l sum room kept mv, ThP t none o] (fun v C => v = .tuple #[] ∧ C = [CacheC g (some t.b) (some t.b) sum' room kept mv, ThP t none none]) := by
 subst hs
 refine Spec_intro (n := 42) (args := [.pointer (some ⟨g, 0, none⟩), .pointer (some ⟨t.b, 0, none⟩)]) Try.func54 rfl rfl rfl fun s R => ?_
 refine CJ_app2 ?_
 refine CJ_env (E' := [(0, _), (1, _)]) (.cons rfl rfl (.cons rfl rfl .nil)) ?_
 refine CJ_seq ?_
 refine CJ_region ?_
 refine RJ_q (Op_move rfl) rfl ?_
 refine RJ_q (Op_move rfl) rfl ?_
 refine RJ_q (Op_nilCheck rfl) rfl ?_
 refine RJ_q (Op_fieldAddr (o' := 0) rfl Try.underlying100 rfl sz98 rfl rfl) rfl ?_
 refine RJ_q (Op_load rfl (load_cell Try.underlying98 rfl pkk Nth.z)) rfl ?_
 refine RJ_q (Op_nilCheck rfl) rfl ?_
 refine RJ_q (Op_fieldAddr (o' := 8) rfl Try.underlying120 rfl sz98 rfl rfl) rfl ?_
 refine RJ_d0 (Op_store (cs' := #[_, _, _, _, _, _, _, _, _]) rfl rfl sz98 (by rfl) (by simp [Value.cells, Value.oneCell']) rpp rfl (free_zero _ _) (by rfl)) ?_
 refine RJ_nil ?_
 refine NJ_then ?_
 refine CJ_env (E' := [(0, _), (1, _)]) (.cons rfl rfl (.cons rfl rfl .nil)) ?_
 refine CJ_seq ?_
 refine CJ_seq ?_
 refine CJ_region ?_
 refine RJ_q (Op_move rfl) rfl ?_
 refine RJ_q (Op_nilCheck rfl) rfl ?_
 refine RJ_q (Op_fieldAddr (o' := 0) rfl Try.underlying100 rfl sz98 rfl rfl) rfl ?_
 refine RJ_q (Op_load rfl (load_cell Try.underlying98 rfl pkk Nth.z)) rfl ?_
 refine RJ_q (Op_ptr_ne_nil rfl rfl Try.underlying98) rfl ?_
 refine RJ_nil ?_
 refine NJ_then ?_
 refine CJ_env (E' := [(0, _), (1, _), (15, _)]) (.cons rfl rfl (.cons rfl rfl (.cons rfl rfl .nil))) ?_
 refine CJ_else rfl rfl ?_
 refine CJ_region ?_
 refine RJ_q (Op_move rfl) rfl ?_
 refine RJ_q (Op_move rfl) rfl ?_
 refine RJ_q (Op_nilCheck rfl) rfl ?_
 refine RJ_q (Op_fieldAddr (o' := 1) rfl Try.underlying100 rfl sz98 rfl rfl) rfl ?_
 refine RJ_d0 (Op_store (cs' := #[_, _, _, _, _, _]) rfl rfl sz98 (by rfl) (by simp [Value.cells, Value.oneCell']) rpp rfl (free_zero _ _) (by rfl)) ?_
 refine RJ_nil ?_
 refine NJ_then ?_
 refine CJ_env (E' := [(0, _), (1, _)]) (.cons rfl rfl (.cons rfl rfl .nil)) ?_
 refine CJ_seq ?_
 refine CJ_region ?_
 refine RJ_q (Op_move rfl) rfl ?_
 refine RJ_q (Op_move rfl) rfl ?_
 refine RJ_q (Op_nilCheck rfl) rfl ?_
 refine RJ_q (Op_fieldAddr (o' := 0) rfl Try.underlying100 rfl sz98 rfl rfl) rfl ?_
 refine RJ_d0 (Op_store (cs' := #[_, _, _, _, _, _]) rfl rfl sz98 (by rfl) (by simp [Value.cells, Value.oneCell']) rpp rfl (free_zero _ _) (by rfl)) ?_
 refine RJ_nil ?_
 refine NJ_then ?_
 refine CJ_env (E' := [(0, _), (1, _)]) (.cons rfl rfl (.cons rfl rfl .nil)) ?_
 refine CJ_draw (.q 0 (.q 1 (.q 2 (.q 3 (.q 4 (.q 5 (.q 6 (.q 7 (.q 8 (.q 9 (.q 10 (.e 11 .done)))))))))))) (by kernel_rfl) (by kernel_rfl) (by kernel_rfl) ?_
 refine SJ_q rfl (want_none rfl) rfl (fun _ _ => Op_move rfl) ?_
 refine SJ_q rfl (want_none rfl) rfl (fun _ _ => Op_nilCheck rfl) ?_
 refine SJ_q rfl (want_none rfl) rfl (fun _ _ => Op_fieldAddr (o' := 2) rfl Try.underlying100 rfl sz3 rfl rfl) ?_
 refine SJ_load rfl (want_none rfl) rfl rfl (load_cell Try.underlying3 rfl pkk (Nth.s (Nth.s Nth.z))) ?_
 refine SJ_q rfl (want_none rfl) rfl (fun _ _ => Op_move rfl) ?_
 refine SJ_q rfl (want_none rfl) rfl (fun _ _ => Op_nilCheck rfl) ?_
 refine SJ_q rfl (want_none rfl) rfl (fun _ _ => Op_fieldAddr (o' := 6) rfl Try.underlying120 rfl sz3 rfl rfl) ?_
 refine SJ_load rfl (want_none rfl) rfl rfl (load_cell Try.underlying3 rfl pkk (Nth.s (Nth.s (Nth.s (Nth.s (Nth.s (Nth.s Nth.z))))))) ?_
 refine SJ_q rfl (want_none rfl) rfl (fun _ _ => Op_add64 rfl rfl (by omega)) ?_
 refine SJ_q rfl (want_none rfl) rfl (fun _ _ => Op_nilCheck rfl) ?_
 refine SJ_q rfl (want_none rfl) rfl (fun _ _ => Op_fieldAddr (o' := 2) rfl Try.underlying100 rfl sz3 rfl rfl) ?_
 refine SJ_d0 (rd' := []) [] rfl (want_none rfl) (Op_store (cs' := #[_, _, _, _, _, _]) rfl rfl sz3 (by rfl) (by simp [Value.cells, Value.oneCell']) rpp rfl (free_zero _ _) (by rfl)) (by kernel_rfl) rfl trivial ?_
 refine SJ_done ?_
 refine NJ_ret (.inr rfl) Try.results54 ResJ_nil ⟨rfl, rfl⟩ (.k (e := (.k (e := skk))))

set_option maxRecDepth 20000 in
theorem push1 (g : Nat) (l o : Option Nat) (sum sum' room kept : Int) (mv : Value) (t : Th) (y : Th) (vn : Option Nat) (hs : sum + t.it.size = sum') (hr : -9223372036854775808 ≤ sum' ∧ sum' ≤ 9223372036854775807) : Spec Try.prog 54 #[.pointer (some ⟨g, 0, none⟩), .pointer (some ⟨t.b, 0, none⟩)] [CacheC g (some y.b) l sum room kept mv, ThP t none o, ThP y none vn] (fun v C => v = .tuple #[] ∧ C = [CacheC g (some t.b) l sum' room kept mv, ThP t none (some y.b), ThP y (some t.b) vn]) := by
 subst hs
 refine Spec_intro (n := 42) (args := [.pointer (some ⟨g, 0, none⟩), .pointer (some ⟨t.b, 0, none⟩)]) Try.func54 rfl rfl rfl fun s R => ?_
 refine CJ_app3 ?_
 refine CJ_env (E' := [(0, _), (1, _)]) (.cons rfl rfl (.cons rfl rfl .nil)) ?_
 refine CJ_seq ?_
 refine CJ_region ?_
 refine RJ_q (Op_move rfl) rfl ?_
 refine RJ_q (Op_move rfl) rfl ?_
 refine RJ_q (Op_nilCheck rfl) rfl ?_
 refine RJ_q (Op_fieldAddr (o' := 0) rfl Try.underlying100 rfl sz98 rfl rfl) rfl ?_
 refine RJ_q (Op_load rfl (load_cell Try.underlying98 rfl pkk Nth.z)) rfl ?_
 refine RJ_q (Op_nilCheck rfl) rfl ?_
 refine RJ_q (Op_fieldAddr (o' := 8) rfl Try.underlying120 rfl sz98 rfl rfl) rfl ?_
 refine RJ_d0 (Op_store (cs' := #[_, _, _, _, _, _, _, _, _]) rfl rfl sz98 (by rfl) (by simp [Value.cells, Value.oneCell']) rpp rfl (free_zero _ _) (by rfl)) ?_
 refine RJ_nil ?_
 refine NJ_then ?_
 refine CJ_env (E' := [(0, _), (1, _)]) (.cons rfl rfl (.cons rfl rfl .nil)) ?_
 refine CJ_seq ?_
 refine CJ_seq ?_
 refine CJ_region ?_
 refine RJ_q (Op_move rfl) rfl ?_
 refine RJ_q (Op_nilCheck rfl) rfl ?_
 refine RJ_q (Op_fieldAddr (o' := 0) rfl Try.underlying100 rfl sz98 rfl rfl) rfl ?_
 refine RJ_q (Op_load rfl (load_cell Try.underlying98 rfl pkk Nth.z)) rfl ?_
 refine RJ_q (Op_ptr_ne_nil rfl rfl Try.underlying98) rfl ?_
 refine RJ_nil ?_
 refine NJ_then ?_
 refine CJ_env (E' := [(0, _), (1, _), (15, _)]) (.cons rfl rfl (.cons rfl rfl (.cons rfl rfl .nil))) ?_
 refine CJ_then rfl rfl ?_
 refine CJ_region ?_
 refine RJ_q (Op_move rfl) rfl ?_
 refine RJ_q (Op_nilCheck rfl) rfl ?_
 refine RJ_q (Op_fieldAddr (o' := 0) rfl Try.underlying100 rfl sz98 rfl rfl) rfl ?_
 refine RJ_q (Op_load rfl (load_cell Try.underlying98 rfl pkk Nth.z)) rfl ?_
 refine RJ_q (Op_move rfl) rfl ?_
 refine RJ_q (Op_nilCheck rfl) rfl ?_
 refine RJ_q (Op_fieldAddr (o' := 7) rfl Try.underlying120 rfl sz98 rfl rfl) rfl ?_
 refine RJ_d0 (Op_store (cs' := #[_, _, _, _, _, _, _, _, _]) rfl rfl sz98 (by rfl) (by simp [Value.cells, Value.oneCell']) rpp rfl (free_zero _ _) (by rfl)) ?_
 refine RJ_nil ?_
 refine NJ_then ?_
 refine CJ_env (E' := [(0, _), (1, _)]) (.cons rfl rfl (.cons rfl rfl .nil)) ?_
 refine CJ_seq ?_
 refine CJ_region ?_
 refine RJ_q (Op_move rfl) rfl ?_
 refine RJ_q (Op_move rfl) rfl ?_
 refine RJ_q (Op_nilCheck rfl) rfl ?_
 refine RJ_q (Op_fieldAddr (o' := 0) rfl Try.underlying100 rfl sz98 rfl rfl) rfl ?_
 refine RJ_d0 (Op_store (cs' := #[_, _, _, _, _, _]) rfl rfl sz98 (by rfl) (by simp [Value.cells, Value.oneCell']) rpp rfl (free_zero _ _) (by rfl)) ?_
 refine RJ_nil ?_
 refine NJ_then ?_
 refine CJ_env (E' := [(0, _), (1, _)]) (.cons rfl rfl (.cons rfl rfl .nil)) ?_
 refine CJ_draw (.q 0 (.q 1 (.q 2 (.q 3 (.q 4 (.q 5 (.q 6 (.q 7 (.q 8 (.q 9 (.q 10 (.e 11 .done)))))))))))) (by kernel_rfl) (by kernel_rfl) (by kernel_rfl) ?_
 refine SJ_q rfl (want_none rfl) rfl (fun _ _ => Op_move rfl) ?_
 refine SJ_q rfl (want_none rfl) rfl (fun _ _ => Op_nilCheck rfl) ?_
 refine SJ_q rfl (want_none rfl) rfl (fun _ _ => Op_fieldAddr (o' := 2) rfl Try.underlying100 rfl sz3 rfl rfl) ?_
 refine SJ_load rfl (want_none rfl) rfl rfl (load_cell Try.underlying3 rfl pkk (Nth.s (Nth.s Nth.z))) ?_
 refine SJ_q rfl (want_none rfl) rfl (fun _ _ => Op_move rfl) ?_
 refine SJ_q rfl (want_none rfl) rfl (fun _ _ => Op_nilCheck rfl) ?_
 refine SJ_q rfl (want_none rfl) rfl (fun _ _ => Op_fieldAddr (o' := 6) rfl Try.underlying120 rfl sz3 rfl rfl) ?_
 refine SJ_load rfl (want_none rfl) rfl rfl (load_cell Try.underlying3 rfl pkk (Nth.s (Nth.s (Nth.s (Nth.s (Nth.s (Nth.s Nth.z))))))) ?_
 refine SJ_q rfl (want_none rfl) rfl (fun _ _ => Op_add64 rfl rfl (by omega)) ?_
 refine SJ_q rfl (want_none rfl) rfl (fun _ _ => Op_nilCheck rfl) ?_
 refine SJ_q rfl (want_none rfl) rfl (fun _ _ => Op_fieldAddr (o' := 2) rfl Try.underlying100 rfl sz3 rfl rfl) ?_
 refine SJ_d0 (rd' := []) [] rfl (want_none rfl) (Op_store (cs' := #[_, _, _, _, _, _]) rfl rfl sz3 (by rfl) (by simp [Value.cells, Value.oneCell']) rpp rfl (free_zero _ _) (by rfl)) (by kernel_rfl) rfl trivial ?_
 refine SJ_done ?_
 refine NJ_ret (.inr rfl) Try.results54 ResJ_nil ⟨rfl, rfl⟩ (.k (e := (.k (e := (.k (e := skk))))))
end Go.Proofs.Ytgakbdofjlhoeaa.SL
