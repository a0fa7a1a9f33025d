/- Contracts of the laws. -/
import Derived.Test.Ytgakbdofjlhoeaas21NlD
import Derived.Test.Ytgakbdofjlhoeaas21Fb
namespace Go.Proofs.Ytgakbdofjlhoeaa.SL
open Go Go.RowKit
set_option maxRecDepth 20000 in
theorem awake_any  : Spec Try.prog 6 #[] [] (fun v C => v = .bool true ∧ C = []) := by
 refine Spec_intro (n := 65) (args := []) Try.func6 rfl rfl rfl fun s R => ?_
 refine CJ_app0 ?_
 refine CJ_env (E' := []) .nil ?_
 refine CJ_seq ?_
 refine CJ_region ?_
 refine RJ_q (Op_assign rfl) rfl ?_
 refine RJ_nil ?_
 refine NJ_then ?_
 refine CJ_env (E' := [(0, _)]) (.cons rfl rfl .nil) ?_
 refine CJ_seq ?_
 refine CJ_region ?_
 refine RJ_p rfl (Op_call (vs := [_]) Try.func7 rfl rfl (NdNew_any 1000) rfl (Imp.refl _)) ?_
 rintro _ _ ⟨_, ⟨g, rfl, rfl⟩, rfl⟩
 refine RJ_app1 ?_
 refine RJ_q (Op_assign rfl) rfl ?_
 refine RJ_nil ?_
 refine NJ_then ?_
 refine CJ_env (E' := [(0, _), (1, _)]) (.cons rfl rfl (.cons rfl rfl .nil)) ?_
 refine CJ_seq ?_
 refine CJ_region ?_
 refine RJ_q (Op_move rfl) rfl ?_
 refine RJ_p rfl (Op_call (vs := [_, _]) Try.func8 rfl rfl (NdGet_any g _ 0 awo0 (by decide) keyA) rfl (.k (e := (Imp.refl _)))) ?_
 rintro _ _ ⟨_, ⟨rfl, rfl⟩, rfl⟩
 refine RJ_app1 ?_
 rw [awe1]
 refine RJ_p rfl (Op_alloc zr31) ?_
 rintro _ _ ⟨b2, rfl, rfl⟩
 refine RJ_d0 (Op_store (cs' := #[_, _, _, _, _, _, _]) rfl rfl sz31 (by rfl) (by simp [Value.cells, Value.oneCell']) rpp rfl (free_zero _ _) (by rfl)) ?_
 refine RJ_nil ?_
 refine NJ_then ?_
 refine CJ_env (E' := [(0, _), (1, _), (2, _)]) (.cons rfl rfl (.cons rfl rfl (.cons rfl rfl .nil))) ?_
 refine CJ_seq ?_
 refine CJ_region ?_
 refine RJ_q (Op_move rfl) rfl ?_
 refine RJ_q (Op_fieldAddr (o' := 6) rfl Try.underlying31 rfl sz2 rfl rfl) rfl ?_
 refine RJ_q (Op_load rfl (load_cell Try.underlying2 rfl pkk (Nth.s (Nth.s (Nth.s (Nth.s (Nth.s (Nth.s Nth.z)))))))) rfl ?_
 refine RJ_q (Op_build (vs := [_, _]) (cells := [_, _, _, _]) Try.underlying29 zr29 rfl pl29 (by rfl)) rfl ?_
 refine RJ_p rfl (Op_call (vs := [_, _, _, _, _]) Try.func9 rfl rfl (NdFill_any g aw1 1 awo1 (by decide) keyA 1 itemA (by decide) (by decide)) rfl (.k (e := (Imp.refl _)))) ?_
 rintro _ _ ⟨_, ⟨rfl, rfl⟩, rfl⟩
 refine RJ_app1 ?_
 rw [awe2]
 refine RJ_q (Op_assign rfl) rfl ?_
 refine RJ_nil ?_
 refine NJ_then ?_
 refine CJ_env (E' := [(0, _), (1, _), (2, _), (3, _)]) (.cons rfl rfl (.cons rfl rfl (.cons rfl rfl (.cons rfl rfl .nil)))) ?_
 refine CJ_seq ?_
 refine CJ_region ?_
 refine RJ_q (Op_move rfl) rfl ?_
 refine RJ_p rfl (Op_call (vs := [_, _]) Try.func8 rfl rfl (NdGet_any g aw2 2 awo2 (by decide) keyA) rfl (.k (e := (Imp.refl _)))) ?_
 rintro _ _ ⟨_, ⟨rfl, rfl⟩, rfl⟩
 refine RJ_app1 ?_
 rw [awe3]
 refine RJ_p rfl (Op_alloc zr31) ?_
 rintro _ _ ⟨b4, rfl, rfl⟩
 refine RJ_d0 (Op_store (cs' := #[_, _, _, _, _, _, _]) rfl rfl sz31 (by rfl) (by simp [Value.cells, Value.oneCell']) rpp rfl (free_zero _ _) (by rfl)) ?_
 refine RJ_nil ?_
 refine NJ_then ?_
 refine CJ_env (E' := [(0, _), (1, _), (2, _), (3, _), (4, _)]) (.cons rfl rfl (.cons rfl rfl (.cons rfl rfl (.cons rfl rfl (.cons rfl rfl .nil))))) ?_
 refine CJ_seq ?_
 refine CJ_region ?_
 refine RJ_q (Op_move rfl) rfl ?_
 refine RJ_p rfl (Op_call (vs := [_, _, _]) Try.func17 rfl rfl (NdInv_any g aw2 2 awo2 (by decide) keyA 4) rfl (.k (e := (Imp.refl _)))) ?_
 rintro _ _ ⟨_, ⟨rfl, rfl⟩, rfl⟩
 refine RJ_app1 ?_
 rw [awe4]
 refine RJ_nil ?_
 refine NJ_then ?_
 refine CJ_env (E' := [(0, _), (1, _), (2, _), (3, _), (4, _)]) (.cons rfl rfl (.cons rfl rfl (.cons rfl rfl (.cons rfl rfl (.cons rfl rfl .nil))))) ?_
 refine CJ_seq ?_
 refine CJ_region ?_
 refine RJ_q (Op_move rfl) rfl ?_
 refine RJ_p rfl (Op_call (vs := [_, _]) Try.func8 rfl rfl (NdGet_any g aw3 2 awo3 (by decide) keyA) rfl (.k (e := (Imp.refl _)))) ?_
 rintro _ _ ⟨_, ⟨rfl, rfl⟩, rfl⟩
 refine RJ_app1 ?_
 rw [awe5]
 refine RJ_p rfl (Op_alloc zr31) ?_
 rintro _ _ ⟨b5, rfl, rfl⟩
 refine RJ_d0 (Op_store (cs' := #[_, _, _, _, _, _, _]) rfl rfl sz31 (by rfl) (by simp [Value.cells, Value.oneCell']) rpp rfl (free_zero _ _) (by rfl)) ?_
 refine RJ_nil ?_
 refine NJ_then ?_
 refine CJ_env (E' := [(0, _), (1, _), (2, _), (3, _), (4, _), (5, _)]) (.cons rfl rfl (.cons rfl rfl (.cons rfl rfl (.cons rfl rfl (.cons rfl rfl (.cons rfl rfl .nil)))))) ?_
 refine CJ_seq ?_
 refine CJ_region ?_
 refine RJ_q (Op_move rfl) rfl ?_
 refine RJ_p rfl (Op_call (vs := [_, _, _, _]) Try.func10 rfl rfl (NdMark_any g aw4 3 awo4 (by decide) keyA 1 1 (by decide)) rfl (.k (e := (Imp.refl _)))) ?_
 rintro _ _ ⟨_, ⟨rfl, rfl⟩, rfl⟩
 refine RJ_app1 ?_
 rw [awe6]
 refine RJ_q (Op_assign rfl) rfl ?_
 refine RJ_nil ?_
 refine NJ_then ?_
 refine CJ_env (E' := [(0, _), (1, _), (2, _), (3, _), (4, _), (5, _), (6, _)]) (.cons rfl rfl (.cons rfl rfl (.cons rfl rfl (.cons rfl rfl (.cons rfl rfl (.cons rfl rfl (.cons rfl rfl .nil))))))) ?_
 refine CJ_seq ?_
 refine CJ_region ?_
 refine RJ_q (Op_fieldAddr (o' := 0) rfl Try.underlying31 rfl sz3 rfl rfl) rfl ?_
 refine RJ_q (Op_load rfl (load_cell Try.underlying3 rfl pkk Nth.z)) rfl ?_
 refine RJ_q (Op_eql rfl rfl) rfl ?_
 refine RJ_q (Op_move rfl) rfl ?_
 refine RJ_yes (t := 26) rfl rfl (by rfl) ?_
 refine RJ_q (Op_fieldAddr (o' := 6) rfl Try.underlying31 rfl sz2 rfl rfl) rfl ?_
 refine RJ_yes (t := 26) rfl rfl (by rfl) ?_
 refine RJ_q (Op_load rfl (load_cell Try.underlying2 rfl pkk (Nth.s (Nth.s (Nth.s (Nth.s (Nth.s (Nth.s Nth.z)))))))) rfl ?_
 refine RJ_yes (t := 26) rfl rfl (by rfl) ?_
 refine RJ_q (Op_eql rfl rfl) rfl ?_
 refine RJ_q (Op_pick_t rfl (by rfl) rfl) rfl ?_
 refine RJ_q (Op_move rfl) rfl ?_
 refine RJ_yes (t := 31) rfl rfl (by rfl) ?_
 refine RJ_q (Op_move rfl) rfl ?_
 refine RJ_q (Op_pick_t rfl (by rfl) rfl) rfl ?_
 refine RJ_q (Op_move rfl) rfl ?_
 refine RJ_yes (t := 34) rfl rfl (by rfl) ?_
 refine RJ_q (Op_fieldAddr (o' := 0) rfl Try.underlying31 rfl sz3 rfl rfl) rfl ?_
 refine RJ_yes (t := 34) rfl rfl (by rfl) ?_
 refine RJ_q (Op_load rfl (load_cell Try.underlying3 rfl pkk Nth.z)) rfl ?_
 refine RJ_yes (t := 34) rfl rfl (by rfl) ?_
 refine RJ_q (Op_eql rfl rfl) rfl ?_
 refine RJ_q (Op_pick_t rfl (by rfl) rfl) rfl ?_
 refine RJ_q (Op_move rfl) rfl ?_
 refine RJ_yes (t := 39) rfl rfl (by rfl) ?_
 refine RJ_q (Op_fieldAddr (o' := 5) rfl Try.underlying31 rfl sz3 rfl rfl) rfl ?_
 refine RJ_yes (t := 39) rfl rfl (by rfl) ?_
 refine RJ_q (Op_load rfl (load_cell Try.underlying3 rfl pkk (Nth.s (Nth.s (Nth.s (Nth.s (Nth.s Nth.z))))))) rfl ?_
 refine RJ_yes (t := 39) rfl rfl (by rfl) ?_
 refine RJ_q (Op_eql rfl rfl) rfl ?_
 refine RJ_q (Op_pick_t rfl (by rfl) rfl) rfl ?_
 refine RJ_q (Op_move rfl) rfl ?_
 refine RJ_yes (t := 44) rfl rfl (by rfl) ?_
 refine RJ_q (Op_fieldAddr (o' := 1) rfl Try.underlying31 rfl sz29 rfl rfl) rfl ?_
 refine RJ_yes (t := 44) rfl rfl (by rfl) ?_
 refine RJ_q (Op_fieldAddr (o' := 4) rfl Try.underlying29 rfl sz9 rfl rfl) rfl ?_
 refine RJ_yes (t := 44) rfl rfl (by rfl) ?_
 refine RJ_q (Op_load rfl (load_cell Try.underlying9 rfl pkk (Nth.s (Nth.s (Nth.s (Nth.s Nth.z)))))) rfl ?_
 refine RJ_yes (t := 44) rfl rfl (by rfl) ?_
 refine RJ_q (Op_str_eql rfl rfl) rfl ?_
 refine RJ_q (Op_pick_t rfl (by rfl) rfl) rfl ?_
 refine RJ_q (Op_move rfl) rfl ?_
 refine RJ_yes (t := 50) rfl rfl (by rfl) ?_
 refine RJ_q (Op_fieldAddr (o' := 0) rfl Try.underlying31 rfl sz3 rfl rfl) rfl ?_
 refine RJ_yes (t := 50) rfl rfl (by rfl) ?_
 refine RJ_q (Op_load rfl (load_cell Try.underlying3 rfl pkk Nth.z)) rfl ?_
 refine RJ_yes (t := 50) rfl rfl (by rfl) ?_
 refine RJ_q (Op_eql rfl rfl) rfl ?_
 refine RJ_q (Op_pick_t rfl (by rfl) rfl) rfl ?_
 refine RJ_q (Op_move rfl) rfl ?_
 refine RJ_yes (t := 55) rfl rfl (by rfl) ?_
 refine RJ_q (Op_move rfl) rfl ?_
 refine RJ_yes (t := 55) rfl rfl (by rfl) ?_
 refine RJ_q (Op_eql rfl rfl) rfl ?_
 refine RJ_q (Op_pick_t rfl (by rfl) rfl) rfl ?_
 refine RJ_q (Op_move rfl) rfl ?_
 refine RJ_yes (t := 59) rfl rfl (by rfl) ?_
 refine RJ_q (Op_move rfl) rfl ?_
 refine RJ_yes (t := 59) rfl rfl (by rfl) ?_
 refine RJ_p rfl (Op_call (vs := [_, _]) Try.func8 rfl rfl (NdGet_any g aw5 3 awo5 (by decide) keyA) rfl (.k (e := (Imp.refl _)))) ?_
 rintro _ _ ⟨_, ⟨rfl, rfl⟩, rfl⟩
 refine RJ_app1 ?_
 rw [awe7]
 refine RJ_yes (t := 59) rfl rfl (by rfl) ?_
 refine RJ_q (Op_field rfl Try.underlying31 rfl (PartJ_cell Try.underlying3 rfl Nth.z)) rfl ?_
 refine RJ_yes (t := 59) rfl rfl (by rfl) ?_
 refine RJ_q (Op_eql rfl rfl) rfl ?_
 refine RJ_q (Op_pick_t rfl (by rfl) rfl) rfl ?_
 refine RJ_q (Op_assign rfl) rfl ?_
 refine RJ_nil ?_
 refine NJ_then ?_
 refine CJ_env (E' := [(0, _)]) (.cons rfl rfl .nil) ?_
 refine CJ_ret ?_
 refine NJ_ret (.inl rfl) Try.results6 (ResJ_tmp rfl ResJ_nil) ⟨rfl, rfl⟩ skk

set_option maxRecDepth 20000 in
set_option maxHeartbeats 4000000 in
theorem NodeMarked_any (W : World) (key : ByteArray) (a : Option Addr) (cap : Nat) (l : List ByteArray) (ses : Int) (hS : StrsAt W a l) (hl : l.length ≤ 9223372036854775807) : Spec Try.prog 3 #[.string key, .slice a l.length cap, .int .i64 ses] [old W] (fun v C => v = .bool true ∧ C = [old W]) := by
 refine Spec_intro (n := 141) (args := [.string key, .slice a l.length cap, .int .i64 ses]) Try.func3 rfl rfl rfl fun s R => ?_
 refine CJ_app1 ?_
 refine CJ_env (E' := [(0, _), (1, _), (2, _)]) (.cons rfl rfl (.cons rfl rfl (.cons rfl rfl .nil))) ?_
 refine CJ_seq ?_
 refine CJ_region ?_
 refine RJ_q (Op_assign rfl) rfl ?_
 refine RJ_nil ?_
 refine NJ_then ?_
 refine CJ_env (E' := [(0, _), (1, _), (2, _), (6, _)]) (.cons rfl rfl (.cons rfl rfl (.cons rfl rfl (.cons rfl rfl .nil)))) ?_
 refine CJ_seq ?_
 refine CJ_seq ?_
 refine CJ_region ?_
 refine RJ_p rfl (Op_call (vs := []) Try.func6 rfl rfl (awake_any) rfl (Imp.refl _)) ?_
 rintro _ _ ⟨_, ⟨rfl, rfl⟩, rfl⟩
 refine RJ_app0 ?_
 refine RJ_q (Op_not rfl) rfl ?_
 refine RJ_nil ?_
 refine NJ_then ?_
 refine CJ_env (E' := [(0, _), (1, _), (2, _), (6, _), (18, _)]) (.cons rfl rfl (.cons rfl rfl (.cons rfl rfl (.cons rfl rfl (.cons rfl rfl .nil))))) ?_
 refine CJ_else rfl rfl ?_
 refine CJ_skip ?_
 refine NJ_then ?_
 refine CJ_env (E' := [(0, _), (1, _), (2, _), (6, _)]) (.cons rfl rfl (.cons rfl rfl (.cons rfl rfl (.cons rfl rfl .nil)))) ?_
 refine CJ_seq ?_
 refine CJ_seq ?_
 refine CJ_region ?_
 refine RJ_q (Op_move rfl) rfl ?_
 refine RJ_q (Op_len_str rfl Try.underlying9) rfl ?_
 refine RJ_q (Op_gtr rfl rfl) rfl ?_
 by_cases hk0 : 1000 < (key.size : Int)
 ·skip
  refine RJ_q (Op_move rfl) rfl ?_
  refine RJ_no (t := 22) true rfl rfl (decide_eq_true hk0) (by decide) rfl ?_
  refine RJ_no (t := 22) true rfl rfl (decide_eq_true hk0) (by decide) rfl ?_
  refine RJ_no (t := 22) true rfl rfl (decide_eq_true hk0) (by decide) rfl ?_
  refine RJ_q (Op_pick_t rfl (decide_eq_true hk0) rfl) rfl ?_
  refine RJ_nil ?_
  refine NJ_then ?_
  refine CJ_env (E' := [(0, _), (1, _), (2, _), (6, _), (26, _)]) (.cons rfl rfl (.cons rfl rfl (.cons rfl rfl (.cons rfl rfl (.cons rfl rfl .nil))))) ?_
  refine CJ_then rfl rfl ?_
  refine CJ_seq ?_
  refine CJ_region ?_
  refine RJ_q (Op_assign rfl) rfl ?_
  refine RJ_nil ?_
  refine NJ_then ?_
  refine CJ_env (E' := [(6, _)]) (.cons rfl rfl .nil) ?_
  refine CJ_ret ?_
  refine NJ_then_r ?_
  refine NJ_ret (.inl rfl) Try.results3 (ResJ_tmp rfl ResJ_nil) ⟨rfl, rfl⟩ (.k (e := skk))
 ·skip
  refine RJ_q (Op_move rfl) rfl ?_
  refine RJ_yes (t := 22) rfl rfl (decide_eq_false hk0) ?_
  refine RJ_q (Op_move rfl) rfl ?_
  refine RJ_yes (t := 22) rfl rfl (decide_eq_false hk0) ?_
  refine RJ_q (Op_len_slice rfl Try.underlying22) rfl ?_
  refine RJ_yes (t := 22) rfl rfl (decide_eq_false hk0) ?_
  refine RJ_q (Op_gtr rfl rfl) rfl ?_
  by_cases hl4 : 40 < (l.length : Int)
  ·skip
   refine RJ_q (Op_pick_f rfl (decide_eq_false hk0) rfl) rfl ?_
   refine RJ_nil ?_
   refine NJ_then ?_
   refine CJ_env (E' := [(0, _), (1, _), (2, _), (6, _), (26, _)]) (.cons rfl rfl (.cons rfl rfl (.cons rfl rfl (.cons rfl rfl (.cons rfl rfl .nil))))) ?_
   refine CJ_then rfl (decide_eq_true hl4) ?_
   refine CJ_seq ?_
   refine CJ_region ?_
   refine RJ_q (Op_assign rfl) rfl ?_
   refine RJ_nil ?_
   refine NJ_then ?_
   refine CJ_env (E' := [(6, _)]) (.cons rfl rfl .nil) ?_
   refine CJ_ret ?_
   refine NJ_then_r ?_
   refine NJ_ret (.inl rfl) Try.results3 (ResJ_tmp rfl ResJ_nil) ⟨rfl, rfl⟩ (.k (e := skk))
  ·skip
   have hks : key.size ≤ 1000 := by omega
   refine RJ_q (Op_pick_f rfl (decide_eq_false hk0) rfl) rfl ?_
   refine RJ_nil ?_
   refine NJ_then ?_
   refine CJ_env (E' := [(0, _), (1, _), (2, _), (6, _), (26, _)]) (.cons rfl rfl (.cons rfl rfl (.cons rfl rfl (.cons rfl rfl (.cons rfl rfl .nil))))) ?_
   refine CJ_else rfl (decide_eq_false hl4) ?_
   refine CJ_skip ?_
   refine NJ_then ?_
   refine CJ_env (E' := [(0, _), (1, _), (2, _), (6, _)]) (.cons rfl rfl (.cons rfl rfl (.cons rfl rfl (.cons rfl rfl .nil)))) ?_
   refine CJ_seq ?_
   refine CJ_region ?_
   refine RJ_p rfl (Op_call (vs := [_]) Try.func7 rfl rfl (NdNew_any 100000) rfl (Imp.refl _)) ?_
   rintro _ _ ⟨_, ⟨g, rfl, rfl⟩, rfl⟩
   refine RJ_app1 ?_
   refine RJ_q (Op_assign rfl) rfl ?_
   refine RJ_nil ?_
   refine NJ_then ?_
   refine CJ_env (E' := [(0, _), (1, _), (2, _), (6, _), (7, _)]) (.cons rfl rfl (.cons rfl rfl (.cons rfl rfl (.cons rfl rfl (.cons rfl rfl .nil))))) ?_
   refine CJ_seq ?_
   refine CJ_region ?_
   refine RJ_q (Op_move rfl) rfl ?_
   refine RJ_q (Op_move rfl) rfl ?_
   refine RJ_p rfl (Op_call (vs := [_, _]) Try.func8 rfl rfl (NdGet_any g _ 0 mNo0 (by decide) key) rfl (.k (e := (Imp.refl _)))) ?_
   rintro _ _ ⟨_, ⟨rfl, rfl⟩, rfl⟩
   refine RJ_app1 ?_
   rw [mNe1]
   refine RJ_p rfl (Op_alloc zr31) ?_
   rintro _ _ ⟨b8, rfl, rfl⟩
   refine RJ_d0 (Op_store (cs' := #[_, _, _, _, _, _, _]) rfl rfl sz31 (by rfl) (by simp [Value.cells, Value.oneCell']) rpp rfl (free_zero _ _) (by rfl)) ?_
   refine RJ_nil ?_
   refine NJ_then ?_
   refine CJ_env (E' := [(0, _), (1, _), (2, _), (6, _), (7, _), (8, _)]) (.cons rfl rfl (.cons rfl rfl (.cons rfl rfl (.cons rfl rfl (.cons rfl rfl (.cons rfl rfl .nil)))))) ?_
   refine CJ_seq ?_
   refine CJ_seq ?_
   refine CJ_region ?_
   refine RJ_q (Op_move rfl) rfl ?_
   refine RJ_q (Op_move rfl) rfl ?_
   refine RJ_q (Op_fieldAddr (o' := 6) rfl Try.underlying31 rfl sz2 rfl rfl) rfl ?_
   refine RJ_q (Op_load rfl (load_cell Try.underlying2 rfl pkk (Nth.s (Nth.s (Nth.s (Nth.s (Nth.s (Nth.s Nth.z)))))))) rfl ?_
   refine RJ_q (Op_build (vs := [_, _]) (cells := [_, _, _, _]) Try.underlying29 zr29 rfl pl29 (by rfl)) rfl ?_
   refine RJ_p rfl (Op_call (vs := [_, _, _, _, _]) Try.func9 rfl rfl (NdFill_any g (mN1 key) 1 (mNo1 key) (by decide) key 1 itemX (by omega) (by decide)) rfl (.k (e := (Imp.refl _)))) ?_
   rintro _ _ ⟨_, ⟨rfl, rfl⟩, rfl⟩
   refine RJ_app1 ?_
   rw [mNe2 hks]
   refine RJ_q (Op_not rfl) rfl ?_
   refine RJ_q (Op_move rfl) rfl ?_
   refine RJ_yes (t := 38) rfl rfl rfl ?_
   refine RJ_q (Op_move rfl) rfl ?_
   refine RJ_yes (t := 38) rfl rfl rfl ?_
   refine RJ_q (Op_move rfl) rfl ?_
   refine RJ_yes (t := 38) rfl rfl rfl ?_
   refine RJ_q (Op_move rfl) rfl ?_
   refine RJ_yes (t := 38) rfl rfl rfl ?_
   refine RJ_p rfl (Op_call (vs := [_, _, _, _]) Try.func10 rfl rfl (NdMark_any g (mN2 key) 2 (mNo2 hks) (by decide) key ses 5 (by omega)) rfl (.k (e := (Imp.refl _)))) ?_
   rintro _ _ ⟨_, ⟨rfl, rfl⟩, rfl⟩
   refine RJ_app1 ?_
   rw [mNe3 hks]
   refine RJ_yes (t := 38) rfl rfl rfl ?_
   refine RJ_q (Op_neq rfl rfl) rfl ?_
   refine RJ_q (Op_pick_f rfl rfl rfl) rfl ?_
   refine RJ_nil ?_
   refine NJ_then ?_
   refine CJ_env (E' := [(0, _), (1, _), (2, _), (6, _), (7, _), (44, _)]) (.cons rfl rfl (.cons rfl rfl (.cons rfl rfl (.cons rfl rfl (.cons rfl rfl (.cons rfl rfl .nil)))))) ?_
   refine CJ_else rfl (by rfl) ?_
   refine CJ_skip ?_
   refine NJ_then ?_
   refine CJ_env (E' := [(0, _), (1, _), (2, _), (6, _), (7, _)]) (.cons rfl rfl (.cons rfl rfl (.cons rfl rfl (.cons rfl rfl (.cons rfl rfl .nil))))) ?_
   refine CJ_seq ?_
   refine CJ_seq ?_
   refine CJ_region ?_
   refine RJ_q (Op_move rfl) rfl ?_
   refine RJ_q (Op_len_slice rfl Try.underlying22) rfl ?_
   refine RJ_q (Op_move rfl) rfl ?_
   refine RJ_nil ?_
   refine NJ_then ?_
   refine CJ_env (E' := [(0, _), (1, _), (2, _), (6, _), (7, _), (46, _), (47, _)]) (.cons rfl rfl (.cons rfl rfl (.cons rfl rfl (.cons rfl rfl (.cons rfl rfl (.cons rfl rfl (.cons rfl rfl .nil))))))) ?_
   refine CJ_block ?_
   refine CJ_loop (fun E H m => ∃ (i : Nat) (N : NodeS), (i ≤ l.length ∧ MInv key ses i N) ∧ E = [(0, .string key), (1, .slice a l.length cap), (2, .int .i64 ses), (7, .pointer (some ⟨g, 0, none⟩)), (46, .int .i64 (l.length : Nat)), (47, .int .i64 (i : Nat))] ∧ H = [NodeP g N, old W] ++ R ∧ m = l.length - i) (E' := [(0, .string key), (1, .slice a l.length cap), (2, .int .i64 ses), (7, .pointer (some ⟨g, 0, none⟩)), (46, .int .i64 (l.length : Nat)), (47, .int .i64 (0 : Nat))]) (H' := [NodeP g (mN3 key ses), old W] ++ R) (m := l.length - 0) ⟨0, _, ⟨Nat.zero_le _, mStart hks ses⟩, rfl, rfl, rfl⟩ (.cons rfl rfl (.cons rfl rfl (.cons rfl rfl (.cons rfl rfl (.cons rfl rfl (.cons rfl rfl .nil)))))) (.k (e := (.k (e := skk)))) ?_
   rintro _ _ _ ⟨i, N, ⟨hil, hM⟩, rfl, rfl, rfl⟩
   refine CJ_app2 ?_
   refine CJ_seq ?_
   refine CJ_region ?_
   refine RJ_q (Op_lss rfl rfl) rfl ?_
   by_cases hi : (i : Int) < l.length
   ·skip
    have hlti : i < l.length := by omega
    obtain ⟨b, hb⟩ : ∃ b, l[i]? = some b := ⟨l[i], List.getElem?_eq_getElem hlti⟩
    obtain ⟨pa, hpa, hcell⟩ := hS i b hb
    refine RJ_nil ?_
    refine NJ_then ?_
    refine CJ_env (E' := [(0, _), (1, _), (2, _), (7, _), (46, _), (47, _), (48, _)]) (.cons rfl rfl (.cons rfl rfl (.cons rfl rfl (.cons rfl rfl (.cons rfl rfl (.cons rfl rfl (.cons rfl rfl .nil))))))) ?_
    refine CJ_seq ?_
    refine CJ_then rfl (decide_eq_true hi) ?_
    refine CJ_skip ?_
    refine NJ_then ?_
    refine CJ_env (E' := [(0, _), (1, _), (2, _), (7, _), (46, _), (47, _)]) (.cons rfl rfl (.cons rfl rfl (.cons rfl rfl (.cons rfl rfl (.cons rfl rfl (.cons rfl rfl .nil)))))) ?_
    refine CJ_seq ?_
    refine CJ_block ?_
    refine CJ_seq ?_
    refine CJ_region ?_
    refine RJ_q (Op_move rfl) rfl ?_
    refine RJ_q (Op_assign rfl) rfl ?_
    refine RJ_nil ?_
    refine NJ_then ?_
    refine CJ_env (E' := [(0, _), (1, _), (2, _), (7, _), (9, _), (46, _), (47, _)]) (.cons rfl rfl (.cons rfl rfl (.cons rfl rfl (.cons rfl rfl (.cons rfl rfl (.cons rfl rfl (.cons rfl rfl .nil))))))) ?_
    refine CJ_seq ?_
    refine CJ_seq ?_
    refine CJ_region ?_
    refine RJ_q (Op_move rfl) rfl ?_
    refine RJ_q (Op_move rfl) rfl ?_
    refine RJ_q (Op_indexOld rfl hpa rfl Try.underlying22 sz9 hlti) rfl ?_
    refine RJ_q (Op_load rfl (load_old Try.underlying9 rfl pkk hcell)) rfl ?_
    refine RJ_q (Op_len_str rfl Try.underlying9) rfl ?_
    refine RJ_q (Op_gtr rfl rfl) rfl ?_
    by_cases hb1 : 1000 < (b.size : Int)
    ·skip
     refine RJ_nil ?_
     refine NJ_then ?_
     refine CJ_env (E' := [(0, _), (1, _), (2, _), (7, _), (9, _), (46, _), (47, _), (55, _)]) (.cons rfl rfl (.cons rfl rfl (.cons rfl rfl (.cons rfl rfl (.cons rfl rfl (.cons rfl rfl (.cons rfl rfl (.cons rfl rfl .nil)))))))) ?_
     refine CJ_then rfl (decide_eq_true hb1) ?_
     refine CJ_seq ?_
     refine CJ_region ?_
     refine RJ_q (Op_assign rfl) rfl ?_
     refine RJ_nil ?_
     refine NJ_then ?_
     refine CJ_env (E' := [(6, _)]) (.cons rfl rfl .nil) ?_
     refine CJ_ret ?_
     refine NJ_then_r ?_
     refine NJ_blk_r ?_
     refine NJ_then_r ?_
     refine NJ_then_r ?_
     refine NJ_blk_r ?_
     refine NJ_then_r ?_
     refine NJ_ret (.inl rfl) Try.results3 (ResJ_tmp rfl ResJ_nil) ⟨rfl, rfl⟩ (.k (e := skk))
    ·skip
     refine RJ_nil ?_
     refine NJ_then ?_
     refine CJ_env (E' := [(0, _), (1, _), (2, _), (7, _), (9, _), (46, _), (47, _), (55, _)]) (.cons rfl rfl (.cons rfl rfl (.cons rfl rfl (.cons rfl rfl (.cons rfl rfl (.cons rfl rfl (.cons rfl rfl (.cons rfl rfl .nil)))))))) ?_
     refine CJ_else rfl (decide_eq_false hb1) ?_
     refine CJ_skip ?_
     refine NJ_then ?_
     refine CJ_env (E' := [(0, _), (1, _), (2, _), (7, _), (9, _), (46, _), (47, _)]) (.cons rfl rfl (.cons rfl rfl (.cons rfl rfl (.cons rfl rfl (.cons rfl rfl (.cons rfl rfl (.cons rfl rfl .nil))))))) ?_
     refine CJ_seq ?_
     by_cases hk : b = key
     ·skip
      refine CJ_region ?_
      refine RJ_q (Op_move rfl) rfl ?_
      refine RJ_q (Op_move rfl) rfl ?_
      refine RJ_q (Op_move rfl) rfl ?_
      refine RJ_q (Op_indexOld rfl hpa rfl Try.underlying22 sz9 hlti) rfl ?_
      refine RJ_q (Op_load rfl (load_old Try.underlying9 rfl pkk hcell)) rfl ?_
      refine RJ_p rfl (Op_call (vs := [_, _]) Try.func8 rfl rfl (NdGet_any g N (2 * i + 5) hM.ok (by omega) b) rfl (.k (e := (Imp.refl _)))) ?_
      rintro _ _ ⟨_, ⟨rfl, rfl⟩, rfl⟩
      refine RJ_app1 ?_
      rw [hM.get_key hk]
      refine RJ_p rfl (Op_alloc zr31) ?_
      rintro _ _ ⟨b10, rfl, rfl⟩
      refine RJ_d0 (Op_store (cs' := #[_, _, _, _, _, _, _]) rfl rfl sz31 (by rfl) (by simp [Value.cells, Value.oneCell']) rpp rfl (free_zero _ _) (by rfl)) ?_
      refine RJ_nil ?_
      refine NJ_then ?_
      refine CJ_env (E' := [(0, _), (1, _), (2, _), (7, _), (9, _), (10, _), (46, _), (47, _)]) (.cons rfl rfl (.cons rfl rfl (.cons rfl rfl (.cons rfl rfl (.cons rfl rfl (.cons rfl rfl (.cons rfl rfl (.cons rfl rfl .nil)))))))) ?_
      refine CJ_seq ?_
      refine CJ_seq ?_
      refine CJ_region ?_
      refine RJ_q (Op_move rfl) rfl ?_
      refine RJ_q (Op_move rfl) rfl ?_
      refine RJ_q (Op_indexOld rfl hpa rfl Try.underlying22 sz9 hlti) rfl ?_
      refine RJ_q (Op_load rfl (load_old Try.underlying9 rfl pkk hcell)) rfl ?_
      refine RJ_q (Op_move rfl) rfl ?_
      refine RJ_q (Op_str_neq rfl rfl) rfl ?_
      refine RJ_nil ?_
      refine NJ_then ?_
      refine CJ_env (E' := [(0, _), (1, _), (2, _), (7, _), (9, _), (10, _), (46, _), (47, _), (67, _)]) (.cons rfl rfl (.cons rfl rfl (.cons rfl rfl (.cons rfl rfl (.cons rfl rfl (.cons rfl rfl (.cons rfl rfl (.cons rfl rfl (.cons rfl rfl .nil))))))))) ?_
      refine CJ_else rfl (by simp [hk]) ?_
      refine CJ_skip ?_
      refine NJ_then ?_
      refine CJ_env (E' := [(0, _), (1, _), (2, _), (7, _), (9, _), (10, _), (46, _), (47, _)]) (.cons rfl rfl (.cons rfl rfl (.cons rfl rfl (.cons rfl rfl (.cons rfl rfl (.cons rfl rfl (.cons rfl rfl (.cons rfl rfl .nil)))))))) ?_
      refine CJ_seq ?_
      refine CJ_region ?_
      refine RJ_q (Op_move rfl) rfl ?_
      refine RJ_q (Op_move rfl) rfl ?_
      refine RJ_q (Op_move rfl) rfl ?_
      refine RJ_q (Op_indexOld rfl hpa rfl Try.underlying22 sz9 hlti) rfl ?_
      refine RJ_q (Op_load rfl (load_old Try.underlying9 rfl pkk hcell)) rfl ?_
      refine RJ_q (Op_move rfl) rfl ?_
      refine RJ_q (Op_move rfl) rfl ?_
      refine RJ_q (Op_rem rfl rfl (by decide)) rfl ?_
      refine RJ_p rfl (Op_call (vs := [_, _, _, _]) Try.func11 rfl rfl (NdUnmark_any g N (2 * i + 5) hM.ok (by omega) b ses _ (by omega)) rfl (.k (e := (Imp.refl _)))) ?_
      rintro _ _ ⟨_, ⟨rfl, rfl⟩, rfl⟩
      refine RJ_app1 ?_
      rw [hM.unmark b (tmod5 i)]
      refine RJ_nil ?_
      refine NJ_then ?_
      refine CJ_env (E' := [(0, _), (1, _), (2, _), (7, _), (9, _), (10, _), (46, _), (47, _)]) (.cons rfl rfl (.cons rfl rfl (.cons rfl rfl (.cons rfl rfl (.cons rfl rfl (.cons rfl rfl (.cons rfl rfl (.cons rfl rfl .nil)))))))) ?_
      refine CJ_seq ?_
      refine CJ_region ?_
      refine RJ_q (Op_move rfl) rfl ?_
      refine RJ_q (Op_move rfl) rfl ?_
      refine RJ_p rfl (Op_call (vs := [_, _]) Try.func12 rfl rfl (NdPeek_any g N key) rfl (.k (e := (Imp.refl _)))) ?_
      rintro _ _ ⟨_, ⟨rfl, rfl⟩, rfl⟩
      refine RJ_app1 ?_
      rw [hM.peek_key]
      refine RJ_q (Op_move rfl) rfl ?_
      refine RJ_q (Op_extract rfl rfl) rfl ?_
      refine RJ_q (Op_extract rfl rfl) rfl ?_
      refine RJ_q (Op_extract rfl rfl) rfl ?_
      refine RJ_p rfl (Op_alloc zr29) ?_
      rintro _ _ ⟨b11, rfl, rfl⟩
      refine RJ_d0 (Op_store (cs' := #[_, _, _, _]) rfl rfl sz29 (by rfl) (by simp [Value.cells, Value.oneCell']) rpp rfl (free_zero _ _) (by rfl)) ?_
      refine RJ_q (Op_assign rfl) rfl ?_
      refine RJ_q (Op_assign rfl) rfl ?_
      refine RJ_nil ?_
      refine NJ_then ?_
      refine CJ_env (E' := [(0, _), (1, _), (2, _), (7, _), (9, _), (10, _), (13, _), (46, _), (47, _)]) (.cons rfl rfl (.cons rfl rfl (.cons rfl rfl (.cons rfl rfl (.cons rfl rfl (.cons rfl rfl (.cons rfl rfl (.cons rfl rfl (.cons rfl rfl .nil))))))))) ?_
      refine CJ_seq ?_
      refine CJ_draw (.q 0 (.q 1 (.q 2 (.q 3 (.q 4 (.q 5 (.q 6 (.q 7 (.q 8 (.q 9 (.q 10 (.q 11 (.q 12 (.q 13 (.q 14 (.q 15 (.q 17 (.e 16 (.q 18 (.q 19 .done)))))))))))))))))))) (by kernel_rfl) (by kernel_rfl) (by kernel_rfl) ?_
      refine SJ_q rfl (want_none rfl) rfl (fun _ _ => Op_fieldAddr (o' := 0) rfl Try.underlying31 rfl sz3 rfl rfl) ?_
      refine SJ_load rfl (want_none rfl) rfl rfl (load_cell Try.underlying3 rfl pkk Nth.z) ?_
      refine SJ_q rfl (want_none rfl) rfl (fun _ _ => Op_eql rfl rfl) ?_
      refine SJ_q rfl (want_none rfl) rfl (fun _ _ => Op_move rfl) ?_
      refine SJ_q rfl (want_none rfl) rfl (fun _ _ => Op_move rfl) ?_
      refine SJ_q rfl (want_none rfl) rfl (fun _ _ => Op_indexOld rfl hpa rfl Try.underlying22 sz9 hlti) ?_
      refine SJ_load rfl (want_none rfl) rfl rfl (load_old Try.underlying9 rfl pkk hcell) ?_
      refine SJ_q rfl (want_none rfl) rfl (fun _ _ => Op_move rfl) ?_
      refine SJ_q rfl (want_none rfl) rfl (fun _ _ => Op_str_eql rfl rfl) ?_
      refine SJ_q rfl (want_none rfl) rfl (fun _ _ => Op_neqb rfl rfl Try.underlying4) ?_
      refine SJ_q rfl (want_none rfl) rfl (fun _ _ => Op_move rfl) ?_
      refine SJ_q rfl (want_yes (t := 108) rfl rfl rfl (by simp [hk])) rfl (fun _ _ => Op_move rfl) ?_
      refine SJ_q rfl (want_none rfl) rfl (fun _ _ => Op_pick_f rfl (by simp [hk]) rfl) ?_
      refine SJ_q rfl (want_none rfl) rfl (fun _ _ => Op_move rfl) ?_
      refine SJ_q rfl (want_yes (t := 111) rfl rfl rfl rfl) rfl (fun _ _ => Op_move rfl) ?_
      refine SJ_q rfl (want_yes (t := 111) rfl rfl rfl rfl) rfl (fun _ _ => Op_move rfl) ?_
      refine SJ_q rfl (want_yes (t := 111) rfl rfl rfl rfl) rfl (fun _ _ => Op_build (vs := [_]) (cells := [_, _, _, _, _, _, _]) Try.underlying31 zr31 rfl pl31 (by rfl)) ?_
      refine SJ_p (rd' := []) [] rfl (want_yes (t := 111) rfl rfl rfl rfl) rfl (Op_call (vs := [_, _]) Try.func8 rfl rfl (NdGet_any g N (2 * i + 5) hM.ok (by omega) key) rfl (.k (e := (Imp.refl _)))) (by kernel_rfl) rfl ?_
      rintro _ _ ⟨_, ⟨rfl, rfl⟩, rfl⟩
      refine OS_app1 ?_
      refine ⟨trivial, ?_⟩
      rw [hM.get_key rfl]
      refine SJ_q rfl (want_yes (t := 111) rfl rfl rfl rfl) rfl (fun _ _ => Op_struct_neq rfl rfl (by kernel_rfl) (EqJ_ans ⟨2, zeroI, 0⟩ ⟨2, zeroI, 0⟩)) ?_
      refine SJ_q rfl (want_none rfl) rfl (fun _ _ => Op_pick_f rfl rfl rfl) ?_
      refine SJ_done ?_
      refine NJ_then ?_
      refine CJ_env (E' := [(0, _), (1, _), (2, _), (7, _), (46, _), (47, _), (117, _)]) (.cons rfl rfl (.cons rfl rfl (.cons rfl rfl (.cons rfl rfl (.cons rfl rfl (.cons rfl rfl (.cons rfl rfl .nil))))))) ?_
      refine CJ_else rfl (by simp [sameA_self]) ?_
      refine CJ_skip ?_
      refine NJ_blk ?_
      refine NJ_then ?_
      refine CJ_env (E' := [(0, _), (1, _), (2, _), (7, _), (46, _), (47, _)]) (.cons rfl rfl (.cons rfl rfl (.cons rfl rfl (.cons rfl rfl (.cons rfl rfl (.cons rfl rfl .nil)))))) ?_
      refine CJ_region ?_
      refine RJ_q (Op_addN (i + 1) rfl rfl (by omega) (by omega)) rfl ?_
      refine RJ_q (Op_move rfl) rfl ?_
      refine RJ_nil ?_
      refine NJ_back ⟨i + 1, N, ⟨by omega, hM.more⟩, rfl, rfl, rfl⟩ (by omega) (.cons rfl (by first | rfl | (simp; done)) (.cons rfl (by first | rfl | (simp; done)) (.cons rfl (by first | rfl | (simp; done)) (.cons rfl (by first | rfl | (simp; done)) (.cons rfl (by first | rfl | (simp; done)) (.cons rfl (by first | rfl | (simp; done)) .nil)))))) (.k (e := (.k (e := skk))))
     ·skip
      refine CJ_region ?_
      refine RJ_q (Op_move rfl) rfl ?_
      refine RJ_q (Op_move rfl) rfl ?_
      refine RJ_q (Op_move rfl) rfl ?_
      refine RJ_q (Op_indexOld rfl hpa rfl Try.underlying22 sz9 hlti) rfl ?_
      refine RJ_q (Op_load rfl (load_old Try.underlying9 rfl pkk hcell)) rfl ?_
      refine RJ_p rfl (Op_call (vs := [_, _]) Try.func8 rfl rfl (NdGet_any g N (2 * i + 5) hM.ok (by omega) b) rfl (.k (e := (Imp.refl _)))) ?_
      rintro _ _ ⟨_, ⟨rfl, rfl⟩, rfl⟩
      refine RJ_app1 ?_
      obtain ⟨hM1, hkind⟩ := hM.get hk
      refine RJ_p rfl (Op_alloc zr31) ?_
      rintro _ _ ⟨b10, rfl, rfl⟩
      refine RJ_d0 (Op_store (cs' := #[_, _, _, _, _, _, _]) rfl rfl sz31 (by rfl) (by simp [Value.cells, Value.oneCell']) rpp rfl (free_zero _ _) (by rfl)) ?_
      refine RJ_nil ?_
      refine NJ_then ?_
      refine CJ_env (E' := [(0, _), (1, _), (2, _), (7, _), (9, _), (10, _), (46, _), (47, _)]) (.cons rfl rfl (.cons rfl rfl (.cons rfl rfl (.cons rfl rfl (.cons rfl rfl (.cons rfl rfl (.cons rfl rfl (.cons rfl rfl .nil)))))))) ?_
      refine CJ_seq ?_
      refine CJ_seq ?_
      refine CJ_region ?_
      refine RJ_q (Op_move rfl) rfl ?_
      refine RJ_q (Op_move rfl) rfl ?_
      refine RJ_q (Op_indexOld rfl hpa rfl Try.underlying22 sz9 hlti) rfl ?_
      refine RJ_q (Op_load rfl (load_old Try.underlying9 rfl pkk hcell)) rfl ?_
      refine RJ_q (Op_move rfl) rfl ?_
      refine RJ_q (Op_str_neq rfl rfl) rfl ?_
      refine RJ_nil ?_
      refine NJ_then ?_
      refine CJ_env (E' := [(0, _), (1, _), (2, _), (7, _), (9, _), (10, _), (46, _), (47, _), (67, _)]) (.cons rfl rfl (.cons rfl rfl (.cons rfl rfl (.cons rfl rfl (.cons rfl rfl (.cons rfl rfl (.cons rfl rfl (.cons rfl rfl (.cons rfl rfl .nil))))))))) ?_
      refine CJ_then rfl (by simp [hk]) ?_
      refine CJ_draw (.q 0 (.q 1 (.q 2 (.q 3 (.q 4 (.q 5 (.q 6 (.q 7 (.q 8 (.q 9 (.q 10 (.q 11 (.q 12 (.e 13 .done)))))))))))))) (by kernel_rfl) (by kernel_rfl) (by kernel_rfl) ?_
      refine SJ_q rfl (want_none rfl) rfl (fun _ _ => Op_move rfl) ?_
      refine SJ_q rfl (want_none rfl) rfl (fun _ _ => Op_move rfl) ?_
      refine SJ_q rfl (want_none rfl) rfl (fun _ _ => Op_move rfl) ?_
      refine SJ_q rfl (want_none rfl) rfl (fun _ _ => Op_indexOld rfl hpa rfl Try.underlying22 sz9 hlti) ?_
      refine SJ_load rfl (want_none rfl) rfl rfl (load_old Try.underlying9 rfl pkk hcell) ?_
      refine SJ_q rfl (want_none rfl) rfl (fun _ _ => Op_fieldAddr (o' := 6) rfl Try.underlying31 rfl sz2 rfl rfl) ?_
      refine SJ_load rfl (want_none rfl) rfl rfl (load_cell Try.underlying2 rfl pkk (Nth.s (Nth.s (Nth.s (Nth.s (Nth.s (Nth.s Nth.z))))))) ?_
      refine SJ_q rfl (want_none rfl) rfl (fun _ _ => Op_move rfl) ?_
      refine SJ_q rfl (want_none rfl) rfl (fun _ _ => Op_move rfl) ?_
      refine SJ_q rfl (want_none rfl) rfl (fun _ _ => Op_indexOld rfl hpa rfl Try.underlying22 sz9 hlti) ?_
      refine SJ_load rfl (want_none rfl) rfl rfl (load_old Try.underlying9 rfl pkk hcell) ?_
      refine SJ_q rfl (want_none rfl) rfl (fun _ _ => Op_build (vs := [_, _]) (cells := [_, _, _, _]) Try.underlying29 zr29 rfl pl29 (by rfl)) ?_
      refine SJ_q rfl (want_none rfl) rfl (fun _ _ => Op_move rfl) ?_
      refine SJ_p (rd' := []) [] rfl (want_none rfl) rfl (Op_call (vs := [_, _, _, _, _]) Try.func9 rfl rfl (NdFill_any g (getN b N).2 (2 * i + 6) hM1.ok (by omega) b (getN b N).1.token ⟨0, 0, true, b, i⟩ (by omega) (by show b.size ≤ 10000; omega)) rfl (.k (e := (Imp.refl _)))) (by kernel_rfl) rfl ?_
      rintro _ _ ⟨_, ⟨rfl, rfl⟩, rfl⟩
      refine OS_app1 ?_
      refine ⟨trivial, ?_⟩
      have hM2 := hM1.fill (by omega) hk (by omega) (getN b N).1.token
      refine SJ_done ?_
      refine NJ_then ?_
      refine CJ_env (E' := [(0, _), (1, _), (2, _), (7, _), (9, _), (10, _), (46, _), (47, _)]) (.cons rfl rfl (.cons rfl rfl (.cons rfl rfl (.cons rfl rfl (.cons rfl rfl (.cons rfl rfl (.cons rfl rfl (.cons rfl rfl .nil)))))))) ?_
      refine CJ_seq ?_
      refine CJ_region ?_
      refine RJ_q (Op_move rfl) rfl ?_
      refine RJ_q (Op_move rfl) rfl ?_
      refine RJ_q (Op_move rfl) rfl ?_
      refine RJ_q (Op_indexOld rfl hpa rfl Try.underlying22 sz9 hlti) rfl ?_
      refine RJ_q (Op_load rfl (load_old Try.underlying9 rfl pkk hcell)) rfl ?_
      refine RJ_q (Op_move rfl) rfl ?_
      refine RJ_q (Op_move rfl) rfl ?_
      refine RJ_q (Op_rem rfl rfl (by decide)) rfl ?_
      refine RJ_p rfl (Op_call (vs := [_, _, _, _]) Try.func11 rfl rfl (NdUnmark_any g _ _ hM2.ok (by omega) b ses _ (by omega)) rfl (.k (e := (Imp.refl _)))) ?_
      rintro _ _ ⟨_, ⟨rfl, rfl⟩, rfl⟩
      refine RJ_app1 ?_
      rw [hM2.unmark b (tmod5 i)]
      refine RJ_nil ?_
      refine NJ_then ?_
      refine CJ_env (E' := [(0, _), (1, _), (2, _), (7, _), (9, _), (10, _), (46, _), (47, _)]) (.cons rfl rfl (.cons rfl rfl (.cons rfl rfl (.cons rfl rfl (.cons rfl rfl (.cons rfl rfl (.cons rfl rfl (.cons rfl rfl .nil)))))))) ?_
      refine CJ_seq ?_
      refine CJ_region ?_
      refine RJ_q (Op_move rfl) rfl ?_
      refine RJ_q (Op_move rfl) rfl ?_
      refine RJ_p rfl (Op_call (vs := [_, _]) Try.func12 rfl rfl (NdPeek_any g _ key) rfl (.k (e := (Imp.refl _)))) ?_
      rintro _ _ ⟨_, ⟨rfl, rfl⟩, rfl⟩
      refine RJ_app1 ?_
      rw [hM2.peek_key]
      refine RJ_q (Op_move rfl) rfl ?_
      refine RJ_q (Op_extract rfl rfl) rfl ?_
      refine RJ_q (Op_extract rfl rfl) rfl ?_
      refine RJ_q (Op_extract rfl rfl) rfl ?_
      refine RJ_p rfl (Op_alloc zr29) ?_
      rintro _ _ ⟨b11, rfl, rfl⟩
      refine RJ_d0 (Op_store (cs' := #[_, _, _, _]) rfl rfl sz29 (by rfl) (by simp [Value.cells, Value.oneCell']) rpp rfl (free_zero _ _) (by rfl)) ?_
      refine RJ_q (Op_assign rfl) rfl ?_
      refine RJ_q (Op_assign rfl) rfl ?_
      refine RJ_nil ?_
      refine NJ_then ?_
      refine CJ_env (E' := [(0, _), (1, _), (2, _), (7, _), (9, _), (10, _), (13, _), (46, _), (47, _)]) (.cons rfl rfl (.cons rfl rfl (.cons rfl rfl (.cons rfl rfl (.cons rfl rfl (.cons rfl rfl (.cons rfl rfl (.cons rfl rfl (.cons rfl rfl .nil))))))))) ?_
      refine CJ_seq ?_
      refine CJ_draw (.q 0 (.q 1 (.q 2 (.q 3 (.q 4 (.q 5 (.q 6 (.q 7 (.q 8 (.q 9 (.q 10 (.q 11 (.q 12 (.q 13 (.q 14 (.q 15 (.q 17 (.e 16 (.q 18 (.q 19 .done)))))))))))))))))))) (by kernel_rfl) (by kernel_rfl) (by kernel_rfl) ?_
      refine SJ_q rfl (want_none rfl) rfl (fun _ _ => Op_fieldAddr (o' := 0) rfl Try.underlying31 rfl sz3 rfl rfl) ?_
      refine SJ_load rfl (want_none rfl) rfl rfl (load_cell Try.underlying3 rfl pkk Nth.z) ?_
      refine SJ_q rfl (want_none rfl) rfl (fun _ _ => Op_eql rfl rfl) ?_
      refine SJ_q rfl (want_none rfl) rfl (fun _ _ => Op_move rfl) ?_
      refine SJ_q rfl (want_none rfl) rfl (fun _ _ => Op_move rfl) ?_
      refine SJ_q rfl (want_none rfl) rfl (fun _ _ => Op_indexOld rfl hpa rfl Try.underlying22 sz9 hlti) ?_
      refine SJ_load rfl (want_none rfl) rfl rfl (load_old Try.underlying9 rfl pkk hcell) ?_
      refine SJ_q rfl (want_none rfl) rfl (fun _ _ => Op_move rfl) ?_
      refine SJ_q rfl (want_none rfl) rfl (fun _ _ => Op_str_eql rfl rfl) ?_
      refine SJ_q rfl (want_none rfl) rfl (fun _ _ => Op_neqb rfl rfl Try.underlying4) ?_
      refine SJ_q rfl (want_none rfl) rfl (fun _ _ => Op_move rfl) ?_
      refine SJ_q rfl (want_yes (t := 108) rfl rfl rfl (by simp [hk, hkind])) rfl (fun _ _ => Op_move rfl) ?_
      refine SJ_q rfl (want_none rfl) rfl (fun _ _ => Op_pick_f rfl (by simp [hk, hkind]) rfl) ?_
      refine SJ_q rfl (want_none rfl) rfl (fun _ _ => Op_move rfl) ?_
      refine SJ_q rfl (want_yes (t := 111) rfl rfl rfl rfl) rfl (fun _ _ => Op_move rfl) ?_
      refine SJ_q rfl (want_yes (t := 111) rfl rfl rfl rfl) rfl (fun _ _ => Op_move rfl) ?_
      refine SJ_q rfl (want_yes (t := 111) rfl rfl rfl rfl) rfl (fun _ _ => Op_build (vs := [_]) (cells := [_, _, _, _, _, _, _]) Try.underlying31 zr31 rfl pl31 (by rfl)) ?_
      refine SJ_p (rd' := []) [] rfl (want_yes (t := 111) rfl rfl rfl rfl) rfl (Op_call (vs := [_, _]) Try.func8 rfl rfl (NdGet_any g _ _ hM2.ok (by omega) key) rfl (.k (e := (Imp.refl _)))) (by kernel_rfl) rfl ?_
      rintro _ _ ⟨_, ⟨rfl, rfl⟩, rfl⟩
      refine OS_app1 ?_
      refine ⟨trivial, ?_⟩
      rw [hM2.get_key rfl]
      refine SJ_q rfl (want_yes (t := 111) rfl rfl rfl rfl) rfl (fun _ _ => Op_struct_neq rfl rfl (by kernel_rfl) (EqJ_ans ⟨2, zeroI, 0⟩ ⟨2, zeroI, 0⟩)) ?_
      refine SJ_q rfl (want_none rfl) rfl (fun _ _ => Op_pick_f rfl rfl rfl) ?_
      refine SJ_done ?_
      refine NJ_then ?_
      refine CJ_env (E' := [(0, _), (1, _), (2, _), (7, _), (46, _), (47, _), (117, _)]) (.cons rfl rfl (.cons rfl rfl (.cons rfl rfl (.cons rfl rfl (.cons rfl rfl (.cons rfl rfl (.cons rfl rfl .nil))))))) ?_
      refine CJ_else rfl (by simp [sameA_self]) ?_
      refine CJ_skip ?_
      refine NJ_blk ?_
      refine NJ_then ?_
      refine CJ_env (E' := [(0, _), (1, _), (2, _), (7, _), (46, _), (47, _)]) (.cons rfl rfl (.cons rfl rfl (.cons rfl rfl (.cons rfl rfl (.cons rfl rfl (.cons rfl rfl .nil)))))) ?_
      refine CJ_region ?_
      refine RJ_q (Op_addN (i + 1) rfl rfl (by omega) (by omega)) rfl ?_
      refine RJ_q (Op_move rfl) rfl ?_
      refine RJ_nil ?_
      refine NJ_back ⟨i + 1, _, ⟨by omega, hM2⟩, rfl, rfl, rfl⟩ (by omega) (.cons rfl (by first | rfl | (simp; done)) (.cons rfl (by first | rfl | (simp; done)) (.cons rfl (by first | rfl | (simp; done)) (.cons rfl (by first | rfl | (simp; done)) (.cons rfl (by first | rfl | (simp; done)) (.cons rfl (by first | rfl | (simp; done)) .nil)))))) (.k (e := (.k (e := skk))))
   ·skip
    refine RJ_nil ?_
    refine NJ_then ?_
    refine CJ_env (E' := [(0, _), (1, _), (2, _), (7, _), (46, _), (47, _), (48, _)]) (.cons rfl rfl (.cons rfl rfl (.cons rfl rfl (.cons rfl rfl (.cons rfl rfl (.cons rfl rfl (.cons rfl rfl .nil))))))) ?_
    refine CJ_seq ?_
    refine CJ_else rfl (decide_eq_false hi) ?_
    refine CJ_exit ?_
    refine NJ_then_x ?_
    refine NJ_then_x ?_
    refine NJ_blk_hit ?_
    refine NJ_then ?_
    refine CJ_env (E' := [(0, _), (2, _), (7, _)]) (.cons rfl rfl (.cons rfl rfl (.cons rfl rfl .nil))) ?_
    refine CJ_seq ?_
    refine CJ_seq ?_
    refine CJ_region ?_
    refine RJ_q (Op_move rfl) rfl ?_
    refine RJ_q (Op_move rfl) rfl ?_
    refine RJ_q (Op_move rfl) rfl ?_
    refine RJ_p rfl (Op_call (vs := [_, _, _, _]) Try.func11 rfl rfl (NdUnmark_any g N _ hM.ok (by omega) key ses 5 (by omega)) rfl (.k (e := (Imp.refl _)))) ?_
    rintro _ _ ⟨_, ⟨rfl, rfl⟩, rfl⟩
    refine RJ_app1 ?_
    rw [hM.clear]
    refine RJ_q (Op_not rfl) rfl ?_
    refine RJ_nil ?_
    refine NJ_then ?_
    refine CJ_env (E' := [(0, _), (7, _), (123, _)]) (.cons rfl rfl (.cons rfl rfl (.cons rfl rfl .nil))) ?_
    refine CJ_else rfl rfl ?_
    refine CJ_skip ?_
    refine NJ_then ?_
    refine CJ_env (E' := [(0, _), (7, _)]) (.cons rfl rfl (.cons rfl rfl .nil)) ?_
    refine CJ_seq ?_
    refine CJ_region ?_
    refine RJ_q (Op_move rfl) rfl ?_
    refine RJ_q (Op_move rfl) rfl ?_
    refine RJ_p rfl (Op_call (vs := [_, _]) Try.func12 rfl rfl (NdPeek_any g _ key) rfl (.k (e := (Imp.refl _)))) ?_
    rintro _ _ ⟨_, ⟨rfl, rfl⟩, rfl⟩
    refine RJ_app1 ?_
    rw [hM.peek]
    refine RJ_q (Op_move rfl) rfl ?_
    refine RJ_q (Op_extract rfl rfl) rfl ?_
    refine RJ_q (Op_extract rfl rfl) rfl ?_
    refine RJ_q (Op_extract rfl rfl) rfl ?_
    refine RJ_p rfl (Op_alloc zr29) ?_
    rintro _ _ ⟨b14, rfl, rfl⟩
    refine RJ_d0 (Op_store (cs' := #[_, _, _, _]) rfl rfl sz29 (by rfl) (by simp [Value.cells, Value.oneCell']) rpp rfl (free_zero _ _) (by rfl)) ?_
    refine RJ_q (Op_assign rfl) rfl ?_
    refine RJ_q (Op_assign rfl) rfl ?_
    refine RJ_nil ?_
    refine NJ_then ?_
    refine CJ_env (E' := [(14, _), (15, _), (16, _)]) (.cons rfl rfl (.cons rfl rfl (.cons rfl rfl .nil))) ?_
    refine CJ_seq ?_
    refine CJ_region ?_
    refine RJ_q (Op_move rfl) rfl ?_
    refine RJ_q (Op_move rfl) rfl ?_
    refine RJ_yes (t := 132) rfl rfl rfl ?_
    refine RJ_q (Op_fieldAddr (o' := 3) rfl Try.underlying29 rfl sz9 rfl rfl) rfl ?_
    refine RJ_yes (t := 132) rfl rfl rfl ?_
    refine RJ_q (Op_load rfl (load_cell Try.underlying9 rfl pkk (Nth.s (Nth.s (Nth.s Nth.z))))) rfl ?_
    refine RJ_yes (t := 132) rfl rfl rfl ?_
    refine RJ_q (Op_str_eql rfl rfl) rfl ?_
    refine RJ_q (Op_pick_t rfl rfl rfl) rfl ?_
    refine RJ_q (Op_move rfl) rfl ?_
    refine RJ_yes (t := 137) rfl rfl (by rfl) ?_
    refine RJ_q (Op_move rfl) rfl ?_
    refine RJ_yes (t := 137) rfl rfl (by rfl) ?_
    refine RJ_q (Op_eql rfl rfl) rfl ?_
    refine RJ_q (Op_pick_t rfl (by rfl) rfl) rfl ?_
    refine RJ_q (Op_assign rfl) rfl ?_
    refine RJ_nil ?_
    refine NJ_then ?_
    refine CJ_env (E' := [(6, _)]) (.cons rfl rfl .nil) ?_
    refine CJ_ret ?_
    refine NJ_ret (.inl rfl) Try.results3 (ResJ_tmp rfl ResJ_nil) ⟨rfl, rfl⟩ (.k (e := skk))
end Go.Proofs.Ytgakbdofjlhoeaa.SL
