/- Contracts of marker, Upto and Past. -/
import Derived.Test.Ytbaecpddhdeapaas08MsZ
import Derived.Test.Ytbaecpddhdeapaas08Fb
namespace Go.Proofs.Ytbaecpddhdeapaa.SL
open Go Go.RowKit
set_option maxRecDepth 20000 in
theorem Upto_any (g : Nat) (limit : Int) (L : List Mark) (hN : L.Nodup) (hl : L.length ≤ 1000000) (key : ByteArray) (ses req : Int) : Spec Try.prog 13 #[.pointer (some ⟨g, 0, none⟩), .string key, .int .i64 ses, .int .i64 req] [MarksP g limit L] (fun v C => v = .int .i64 ((L.length : Int) - (restR (uptoP key ses req) L).length) ∧ C = [MarksP g limit (restR (uptoP key ses req) L)]) := by
 refine Spec_intro (n := 12) (args := [.pointer (some ⟨g, 0, none⟩), .string key, .int .i64 ses, .int .i64 req]) Try.func13 rfl rfl rfl fun s R => ?_
 refine CJ_app1 ?_
 refine CJ_env (E' := [(0, _), (1, _), (2, _), (3, _)]) (.cons rfl rfl (.cons rfl rfl (.cons rfl rfl (.cons rfl rfl .nil)))) ?_
 refine CJ_seq ?_
 refine CJ_region ?_
 refine RJ_p rfl (Op_box rfl) ?_
 rintro _ _ ⟨b5, rfl, rfl⟩
 refine RJ_p rfl (Op_box rfl) ?_
 rintro _ _ ⟨b6, rfl, rfl⟩
 refine RJ_p rfl (Op_box rfl) ?_
 rintro _ _ ⟨b7, rfl, rfl⟩
 refine RJ_q (Op_assign rfl) rfl ?_
 refine RJ_nil ?_
 refine NJ_then ?_
 refine CJ_env (E' := [(0, _), (5, _), (6, _), (7, _), (8, _)]) (.cons rfl rfl (.cons rfl rfl (.cons rfl rfl (.cons rfl rfl (.cons rfl rfl .nil))))) ?_
 refine CJ_seq ?_
 refine CJ_region ?_
 refine RJ_q (Op_move rfl) rfl ?_
 refine RJ_q (Op_makeFunc (vs := [_, _, _]) rfl) rfl ?_
 refine RJ_p rfl (Op_call (vs := [_, _]) Try.func26 rfl rfl (Those_any g limit L hN hl 27 _ _ (CapU b5 b6 b7 key ses req) (uptoP key ses req) Try.func27 rfl (by rfl) (fun m => UptoC_any b5 b6 b7 key ses req m)) rfl (.swap (C := [pt b5 (.cells #[.string key] 9 (0, 0)), pt b6 (.cells #[.int .i64 ses] 3 (0, 0)), pt b7 (.cells #[.int .i64 req] 3 (0, 0))]) (.k (e := (.k (e := (.k (e := (Imp.refl _))))))) CapU_close (.k (e := (.k (e := (Imp.refl _))))))) ?_
 rintro _ _ ⟨_, ⟨rfl, rfl⟩, rfl⟩
 refine RJ_app2 ?_
 refine RJ_q (Op_assign rfl) rfl ?_
 refine RJ_nil ?_
 refine NJ_then ?_
 refine CJ_env (E' := [(8, _)]) (.cons rfl rfl .nil) ?_
 refine CJ_ret ?_
 refine NJ_ret (.inl rfl) Try.results13 (ResJ_tmp rfl ResJ_nil) ⟨rfl, rfl⟩ (.k (e := skk))

set_option maxRecDepth 20000 in
theorem Past_any (g : Nat) (limit : Int) (L : List Mark) (hN : L.Nodup) (hl : L.length ≤ 1000000) (ses req : Int) : Spec Try.prog 14 #[.pointer (some ⟨g, 0, none⟩), .int .i64 ses, .int .i64 req] [MarksP g limit L] (fun v C => v = .int .i64 ((L.length : Int) - (restR (pastP ses req) L).length) ∧ C = [MarksP g limit (restR (pastP ses req) L)]) := by
 refine Spec_intro (n := 10) (args := [.pointer (some ⟨g, 0, none⟩), .int .i64 ses, .int .i64 req]) Try.func14 rfl rfl rfl fun s R => ?_
 refine CJ_app1 ?_
 refine CJ_env (E' := [(0, _), (1, _), (2, _)]) (.cons rfl rfl (.cons rfl rfl (.cons rfl rfl .nil))) ?_
 refine CJ_seq ?_
 refine CJ_region ?_
 refine RJ_p rfl (Op_box rfl) ?_
 rintro _ _ ⟨b4, rfl, rfl⟩
 refine RJ_p rfl (Op_box rfl) ?_
 rintro _ _ ⟨b5, rfl, rfl⟩
 refine RJ_q (Op_assign rfl) rfl ?_
 refine RJ_nil ?_
 refine NJ_then ?_
 refine CJ_env (E' := [(0, _), (4, _), (5, _), (6, _)]) (.cons rfl rfl (.cons rfl rfl (.cons rfl rfl (.cons rfl rfl .nil)))) ?_
 refine CJ_seq ?_
 refine CJ_region ?_
 refine RJ_q (Op_move rfl) rfl ?_
 refine RJ_q (Op_makeFunc (vs := [_, _]) rfl) rfl ?_
 refine RJ_p rfl (Op_call (vs := [_, _]) Try.func26 rfl rfl (Those_any g limit L hN hl 28 _ _ (CapP b4 b5 ses req) (pastP ses req) Try.func28 rfl (by rfl) (fun m => PastC_any b4 b5 ses req m)) rfl (.swap (C := [pt b4 (.cells #[.int .i64 ses] 3 (0, 0)), pt b5 (.cells #[.int .i64 req] 3 (0, 0))]) (.k (e := (.k (e := (Imp.refl _))))) CapP_close (.k (e := (.k (e := (Imp.refl _))))))) ?_
 rintro _ _ ⟨_, ⟨rfl, rfl⟩, rfl⟩
 refine RJ_app2 ?_
 refine RJ_q (Op_assign rfl) rfl ?_
 refine RJ_nil ?_
 refine NJ_then ?_
 refine CJ_env (E' := [(6, _)]) (.cons rfl rfl .nil) ?_
 refine CJ_ret ?_
 refine NJ_ret (.inl rfl) Try.results14 (ResJ_tmp rfl ResJ_nil) ⟨rfl, rfl⟩ (.k (e := skk))
end Go.Proofs.Ytbaecpddhdeapaa.SL
