/- Contracts of the example. -/
import Derived.Test.Ytbaecpddhdeapaas08MlD
import Derived.Test.Ytbaecpddhdeapaas08Fb
namespace Go.Proofs.Ytbaecpddhdeapaa.SL
open Go Go.RowKit
set_option maxRecDepth 20000 in
theorem awake_any  : Spec Try.prog 7 #[] [] (fun v C => v = .bool true ∧ C = []) := by
 refine Spec_intro (n := 39) (args := []) Try.func7 rfl rfl rfl fun s R => ?_
 refine CJ_app0 ?_
 refine CJ_env (E' := []) .nil ?_
 refine CJ_seq ?_
 refine CJ_region ?_
 refine RJ_q (Op_assign rfl) rfl ?_
 refine RJ_nil ?_
 refine NJ_then ?_
 refine CJ_env (E' := [(0, _)]) (.cons rfl rfl .nil) ?_
 refine CJ_seq ?_
 refine CJ_region ?_
 refine RJ_p rfl (Op_call (vs := [_]) Try.func8 rfl rfl (MkNew_any 2) rfl (Imp.refl _)) ?_
 rintro _ _ ⟨_, ⟨g, rfl, rfl⟩, rfl⟩
 refine RJ_app1 ?_
 refine RJ_q (Op_assign rfl) rfl ?_
 refine RJ_nil ?_
 refine NJ_then ?_
 refine CJ_env (E' := [(0, _), (1, _)]) (.cons rfl rfl (.cons rfl rfl .nil)) ?_
 refine CJ_seq ?_
 refine CJ_region ?_
 refine RJ_q (Op_move rfl) rfl ?_
 refine RJ_p rfl (Op_call (vs := [_, _, _, _]) Try.func9 rfl rfl (MkSet_any g 2 [] kA 1 5) rfl (.k (e := (Imp.refl _)))) ?_
 rintro _ _ ⟨_, ⟨rfl, rfl⟩, rfl⟩
 refine RJ_app1 ?_
 rw [mae1]
 refine RJ_q (Op_eql rfl rfl) rfl ?_
 refine RJ_q (Op_move rfl) rfl ?_
 refine RJ_yes (t := 6) rfl rfl (by rfl) ?_
 refine RJ_q (Op_move rfl) rfl ?_
 refine RJ_yes (t := 6) rfl rfl (by rfl) ?_
 refine RJ_p rfl (Op_call (vs := [_, _, _, _]) Try.func9 rfl rfl (MkSet_any g 2 ma1 kA 1 7) rfl (.k (e := (Imp.refl _)))) ?_
 rintro _ _ ⟨_, ⟨rfl, rfl⟩, rfl⟩
 refine RJ_app1 ?_
 rw [mae2]
 refine RJ_yes (t := 6) rfl rfl (by rfl) ?_
 refine RJ_q (Op_eql rfl rfl) rfl ?_
 refine RJ_q (Op_pick_t rfl (by rfl) rfl) rfl ?_
 refine RJ_q (Op_move rfl) rfl ?_
 refine RJ_yes (t := 11) rfl rfl (by rfl) ?_
 refine RJ_q (Op_move rfl) rfl ?_
 refine RJ_yes (t := 11) rfl rfl (by rfl) ?_
 refine RJ_p rfl (Op_call (vs := [_, _, _, _]) Try.func9 rfl rfl (MkSet_any g 2 ma2 kB 1 8) rfl (.k (e := (Imp.refl _)))) ?_
 rintro _ _ ⟨_, ⟨rfl, rfl⟩, rfl⟩
 refine RJ_app1 ?_
 rw [mae3]
 refine RJ_yes (t := 11) rfl rfl (by rfl) ?_
 refine RJ_q (Op_eql rfl rfl) rfl ?_
 refine RJ_q (Op_pick_t rfl (by rfl) rfl) rfl ?_
 refine RJ_q (Op_move rfl) rfl ?_
 refine RJ_yes (t := 16) rfl rfl (by rfl) ?_
 refine RJ_q (Op_move rfl) rfl ?_
 refine RJ_yes (t := 16) rfl rfl (by rfl) ?_
 refine RJ_p rfl (Op_call (vs := [_, _, _, _]) Try.func12 rfl rfl (MkClear_any g 2 ma2 kA 1 6) rfl (.k (e := (Imp.refl _)))) ?_
 rintro _ _ ⟨_, ⟨rfl, rfl⟩, rfl⟩
 refine RJ_app1 ?_
 rw [mae4, mae8]
 refine RJ_yes (t := 16) rfl rfl (by rfl) ?_
 refine RJ_q (Op_not rfl) rfl ?_
 refine RJ_q (Op_pick_t rfl (by rfl) rfl) rfl ?_
 refine RJ_q (Op_move rfl) rfl ?_
 refine RJ_yes (t := 21) rfl rfl (by rfl) ?_
 refine RJ_q (Op_move rfl) rfl ?_
 refine RJ_yes (t := 21) rfl rfl (by rfl) ?_
 refine RJ_p rfl (Op_call (vs := [_, _, _, _]) Try.func13 rfl rfl (Upto_any g 2 ma2 (by decide) (by decide) kA 1 6) rfl (.k (e := (Imp.refl _)))) ?_
 rintro _ _ ⟨_, ⟨rfl, rfl⟩, rfl⟩
 refine RJ_app1 ?_
 rw [mae5]
 refine RJ_yes (t := 21) rfl rfl (by rfl) ?_
 refine RJ_q (Op_eql rfl rfl) rfl ?_
 refine RJ_q (Op_pick_t rfl (by rfl) rfl) rfl ?_
 refine RJ_q (Op_move rfl) rfl ?_
 refine RJ_yes (t := 26) rfl rfl (by rfl) ?_
 refine RJ_q (Op_move rfl) rfl ?_
 refine RJ_yes (t := 26) rfl rfl (by rfl) ?_
 refine RJ_p rfl (Op_call (vs := [_, _]) Try.func15 rfl rfl (MkHas_any g 2 ma3 kA) rfl (.k (e := (Imp.refl _)))) ?_
 rintro _ _ ⟨_, ⟨rfl, rfl⟩, rfl⟩
 refine RJ_app1 ?_
 rw [mae6]
 refine RJ_q (Op_pick_t rfl (by rfl) rfl) rfl ?_
 refine RJ_q (Op_move rfl) rfl ?_
 refine RJ_yes (t := 30) rfl rfl rfl ?_
 refine RJ_q (Op_move rfl) rfl ?_
 refine RJ_yes (t := 30) rfl rfl rfl ?_
 refine RJ_p rfl (Op_call (vs := [_, _, _, _]) Try.func12 rfl rfl (MkClear_any g 2 ma3 kA 1 7) rfl (.k (e := (Imp.refl _)))) ?_
 rintro _ _ ⟨_, ⟨rfl, rfl⟩, rfl⟩
 refine RJ_app1 ?_
 rw [mae7, mae9]
 refine RJ_q (Op_pick_t rfl rfl rfl) rfl ?_
 refine RJ_q (Op_move rfl) rfl ?_
 refine RJ_yes (t := 34) rfl rfl rfl ?_
 refine RJ_q (Op_move rfl) rfl ?_
 refine RJ_yes (t := 34) rfl rfl rfl ?_
 refine RJ_p rfl (Op_call (vs := [_]) Try.func11 rfl rfl (MkLen_any g 2 []) rfl (.k (e := (Imp.refl _)))) ?_
 rintro _ _ ⟨_, ⟨rfl, rfl⟩, rfl⟩
 refine RJ_app1 ?_
 refine RJ_yes (t := 34) rfl rfl rfl ?_
 refine RJ_q (Op_eql rfl rfl) rfl ?_
 refine RJ_q (Op_pick_t rfl rfl rfl) rfl ?_
 refine RJ_q (Op_assign rfl) rfl ?_
 refine RJ_nil ?_
 refine NJ_then ?_
 refine CJ_env (E' := [(0, _)]) (.cons rfl rfl .nil) ?_
 refine CJ_ret ?_
 refine NJ_ret (.inl rfl) Try.results7 (ResJ_tmp rfl ResJ_nil) ⟨rfl, rfl⟩ skk
end Go.Proofs.Ytbaecpddhdeapaa.SL
