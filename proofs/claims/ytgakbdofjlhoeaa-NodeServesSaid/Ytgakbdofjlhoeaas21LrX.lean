/- Contracts of lru. -/
import Derived.Test.Ytgakbdofjlhoeaas21LrC
import Derived.Test.Ytgakbdofjlhoeaas21Facts
namespace Go.Proofs.Ytgakbdofjlhoeaa.SL
open Go Go.RowKit
set_option maxRecDepth 20000 in
theorem take_any (g m : Nat) (A B : List Th) (t : Th) (room kept : Int) (kv : List (ByteArray × Value)) (hr : -9223372036854775808 ≤ szs (itsOf (A ++ B)) ∧ szs (itsOf (A ++ B)) ≤ 9223372036854775807) : Spec Try.prog 58 #[.pointer (some ⟨g, 0, none⟩), .pointer (some ⟨t.b, 0, none⟩)] [CacheC g (hdO (A ++ t :: B) none) (ltO none (A ++ t :: B)) (szs (itsOf (A ++ t :: B))) room kept (.map (some m)), SegP none (A ++ t :: B) none, Mp KS m kv] (fun v C => v = .tuple #[] ∧ C = [CacheC g (hdO (A ++ B) none) (ltO none (A ++ B)) (szs (itsOf (A ++ B))) room kept (.map (some m)), SegP none (A ++ B) none, Mp KS m (mdel t.it.key kv)]) := by
 refine Spec_intro (n := 17) (args := [.pointer (some ⟨g, 0, none⟩), .pointer (some ⟨t.b, 0, none⟩)]) Try.func58 rfl rfl rfl fun s R => ?_
 refine CJ_app3 ?_
 refine CJ_env (E' := [(0, _), (1, _)]) (.cons rfl rfl (.cons rfl rfl .nil)) ?_
 refine CJ_seq ?_
 refine CJ_region ?_
 refine RJ_q (Op_move rfl) rfl ?_
 refine RJ_q (Op_nilCheck rfl) rfl ?_
 refine RJ_q (Op_fieldAddr (o' := 0) rfl Try.underlying103 rfl sz100 rfl rfl) rfl ?_
 refine RJ_q (Op_move rfl) rfl ?_
 refine RJ_p rfl (Op_call (vs := [_, _]) Try.func53 rfl rfl (cut_any g A B t (szs (itsOf (A ++ t :: B))) (szs (itsOf (A ++ B))) room kept _ (by simp only [itsOf_app, szs_app, show itsOf (t :: B) = t.it :: itsOf B from rfl, szs_cons]; omega) hr) rfl (.k (e := (.k (e := (Imp.refl _)))))) ?_
 rintro _ _ ⟨_, ⟨rfl, rfl⟩, rfl⟩
 refine RJ_app3 ?_
 refine RJ_nil ?_
 refine NJ_then ?_
 refine CJ_env (E' := [(0, _), (1, _)]) (.cons rfl rfl (.cons rfl rfl .nil)) ?_
 refine CJ_draw (.q 0 (.q 1 (.q 2 (.q 3 (.q 4 (.q 5 (.q 6 (.q 7 (.e 8 .done))))))))) (by kernel_rfl) (by kernel_rfl) (by kernel_rfl) ?_
 refine SJ_q rfl (want_none rfl) rfl (fun _ _ => Op_move rfl) ?_
 refine SJ_q rfl (want_none rfl) rfl (fun _ _ => Op_nilCheck rfl) ?_
 refine SJ_q rfl (want_none rfl) rfl (fun _ _ => Op_fieldAddr (o' := 5) rfl Try.underlying103 rfl sz101 rfl rfl) ?_
 refine SJ_load rfl (want_none rfl) rfl rfl (load_cell Try.underlying101 rfl pkk (Nth.s (Nth.s (Nth.s (Nth.s (Nth.s Nth.z)))))) ?_
 refine SJ_q rfl (want_none rfl) rfl (fun _ _ => Op_move rfl) ?_
 refine SJ_q rfl (want_none rfl) rfl (fun _ _ => Op_nilCheck rfl) ?_
 refine SJ_q rfl (want_none rfl) rfl (fun _ _ => Op_fieldAddr (o' := 0) rfl Try.underlying120 rfl sz9 rfl rfl) ?_
 refine SJ_load rfl (want_none rfl) rfl rfl (load_cell Try.underlying9 rfl pkk Nth.z) ?_
 refine SJ_d0 (rd' := []) [] rfl (want_none rfl) (Op_delete (K := KStr 9) rfl rfl Try.underlying101 ko9 pkk) (by kernel_rfl) rfl trivial ?_
 refine SJ_done ?_
 refine NJ_ret (.inr rfl) Try.results58 ResJ_nil ⟨rfl, rfl⟩ (.k (e := (.k (e := (.k (e := skk))))))
end Go.Proofs.Ytgakbdofjlhoeaa.SL
