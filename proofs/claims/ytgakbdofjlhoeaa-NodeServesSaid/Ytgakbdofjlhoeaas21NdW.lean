/- Contracts of node. -/
import Derived.Test.Ytgakbdofjlhoeaas21NdD
import Derived.Test.Ytgakbdofjlhoeaas21Facts
namespace Go.Proofs.Ytgakbdofjlhoeaa.SL
open Go Go.RowKit
set_option maxRecDepth 20000 in
theorem NdAgain_any (room tokens : Int) : Spec Try.prog 22 #[.int .i64 room, .int .i64 tokens] [] (fun v C => ∃ g, v = .pointer (some ⟨g, 0, none⟩) ∧ C = [NodeP g (newN room tokens)]) := by
 refine Spec_intro (n := 14) (args := [.int .i64 room, .int .i64 tokens]) Try.func22 rfl rfl rfl fun s R => ?_
 refine CJ_app0 ?_
 refine CJ_env (E' := [(0, _), (1, _)]) (.cons rfl rfl (.cons rfl rfl .nil)) ?_
 refine CJ_seq ?_
 refine CJ_region ?_
 refine RJ_q (Op_assign rfl) rfl ?_
 refine RJ_nil ?_
 refine NJ_then ?_
 refine CJ_env (E' := [(0, _), (1, _), (4, _)]) (.cons rfl rfl (.cons rfl rfl (.cons rfl rfl .nil))) ?_
 refine CJ_seq ?_
 refine CJ_region ?_
 refine RJ_p rfl (Op_call (vs := [_]) Try.func49 rfl rfl (MkNew_any 32) rfl (Imp.refl _)) ?_
 rintro _ _ ⟨_, ⟨ga, rfl, rfl⟩, rfl⟩
 refine RJ_app1 ?_
 refine RJ_q (Op_build (vs := [_]) (cells := [_]) Try.underlying70 zr70 rfl pl70 (by rfl)) rfl ?_
 refine RJ_q (Op_move rfl) rfl ?_
 refine RJ_p rfl (Op_call (vs := [_]) Try.func50 rfl rfl (New_any room) rfl (Imp.refl _)) ?_
 rintro _ _ ⟨_, ⟨gb, rfl, rfl⟩, rfl⟩
 refine RJ_app1 ?_
 refine RJ_q (Op_move rfl) rfl ?_
 refine RJ_p rfl (Op_call (vs := [_, _, _]) Try.func51 rfl rfl (LsAgain_any 32 10 tokens) rfl (Imp.refl _)) ?_
 rintro _ _ ⟨_, ⟨gc, rfl, rfl⟩, rfl⟩
 refine RJ_app1 ?_
 rw [show max (10 : Int) 1 = 10 from rfl]
 refine RJ_p rfl (Op_call (vs := [_]) Try.func52 rfl rfl (HdNew_any 32) rfl (Imp.refl _)) ?_
 rintro _ _ ⟨_, ⟨gd, rfl, rfl⟩, rfl⟩
 refine RJ_app1 ?_
 refine RJ_q (Op_build (vs := [_, _, _, _]) (cells := [_, _, _, _, _, _]) Try.underlying75 zr75 rfl pl75 (by rfl)) rfl ?_
 refine RJ_p rfl (Op_box rfl) ?_
 rintro _ _ ⟨b13, rfl, rfl⟩
 refine RJ_q (Op_assign rfl) rfl ?_
 refine RJ_nil ?_
 refine NJ_then ?_
 refine CJ_env (E' := [(4, _)]) (.cons rfl rfl .nil) ?_
 refine CJ_ret ?_
 refine NJ_ret (.inl rfl) Try.results22 (ResJ_tmp rfl ResJ_nil) ⟨b13, rfl, rfl⟩ (.swap (C := NodeRaw b13 ga gb gc gd (newN room tokens)) (.k (e := (.k (e := (.k (e := (.k (e := (.k (e := (Imp.refl _))))))))))) (NodeP_close (N := newN room tokens)) (.k (e := skk)))

set_option maxRecDepth 20000 in
theorem NdNew_any (room : Int) : Spec Try.prog 7 #[.int .i64 room] [] (fun v C => ∃ g, v = .pointer (some ⟨g, 0, none⟩) ∧ C = [NodeP g (newN room 0)]) := by
 refine Spec_intro (n := 5) (args := [.int .i64 room]) Try.func7 rfl rfl rfl fun s R => ?_
 refine CJ_app0 ?_
 refine CJ_env (E' := [(0, _)]) (.cons rfl rfl .nil) ?_
 refine CJ_seq ?_
 refine CJ_region ?_
 refine RJ_q (Op_assign rfl) rfl ?_
 refine RJ_nil ?_
 refine NJ_then ?_
 refine CJ_env (E' := [(0, _), (2, _)]) (.cons rfl rfl (.cons rfl rfl .nil)) ?_
 refine CJ_seq ?_
 refine CJ_region ?_
 refine RJ_q (Op_move rfl) rfl ?_
 refine RJ_p rfl (Op_call (vs := [_, _]) Try.func22 rfl rfl (NdAgain_any room 0) rfl (Imp.refl _)) ?_
 rintro _ _ ⟨_, ⟨ga, rfl, rfl⟩, rfl⟩
 refine RJ_app1 ?_
 refine RJ_q (Op_assign rfl) rfl ?_
 refine RJ_nil ?_
 refine NJ_then ?_
 refine CJ_env (E' := [(2, _)]) (.cons rfl rfl .nil) ?_
 refine CJ_ret ?_
 refine NJ_ret (.inl rfl) Try.results7 (ResJ_tmp rfl ResJ_nil) ⟨ga, rfl, rfl⟩ (.k (e := skk))

set_option maxRecDepth 20000 in
theorem NdGet_any (g : Nat) (N : NodeS) (k : Nat) (hN : NOk k N) (hk : k ≤ 1000000) (key : ByteArray) : Spec Try.prog 8 #[.pointer (some ⟨g, 0, none⟩), .string key] [NodeP g N] (fun v C => v = ansV (getN key N).1 ∧ C = [NodeP g (getN key N).2]) := by
 refine Spec_intro (n := 48) (args := [.pointer (some ⟨g, 0, none⟩), .string key]) Try.func8 rfl rfl rfl fun s R => ?_
 refine CJ_app1 ?_
 refine CJ_env (E' := [(0, _), (1, _)]) (.cons rfl rfl (.cons rfl rfl .nil)) ?_
 refine CJ_open (NodeP_opens _ _) pkk ?_
 rintro _ ⟨ma, mb, mc, md, rfl⟩
 refine CJ_app5 ?_
 refine CJ_seq ?_
 refine CJ_region ?_
 refine RJ_p rfl (Op_alloc zr31) ?_
 rintro _ _ ⟨b4, rfl, rfl⟩
 refine RJ_nil ?_
 refine NJ_then ?_
 refine CJ_env (E' := [(0, _), (1, _), (4, _)]) (.cons rfl rfl (.cons rfl rfl (.cons rfl rfl .nil))) ?_
 refine CJ_seq ?_
 refine CJ_block ?_
 refine CJ_seq ?_
 refine CJ_region ?_
 refine RJ_q (Op_move rfl) rfl ?_
 refine RJ_q (Op_ptr_eq_nil rfl rfl Try.underlying24) rfl ?_
 refine RJ_q (Op_assign rfl) rfl ?_
 refine RJ_nil ?_
 refine NJ_then ?_
 refine CJ_env (E' := [(0, _), (1, _), (4, _), (9, _)]) (.cons rfl rfl (.cons rfl rfl (.cons rfl rfl (.cons rfl rfl .nil)))) ?_
 refine CJ_else rfl rfl ?_
 refine CJ_seq ?_
 refine CJ_region ?_
 refine RJ_q (Op_move rfl) rfl ?_
 refine RJ_q (Op_nilCheck rfl) rfl ?_
 refine RJ_q (Op_fieldAddr (o' := 0) rfl Try.underlying75 rfl sz70 rfl rfl) rfl ?_
 refine RJ_q (Op_fieldAddr (o' := 0) rfl Try.underlying70 rfl sz68 rfl rfl) rfl ?_
 refine RJ_q (Op_load rfl (load_cell Try.underlying68 rfl pkk Nth.z)) rfl ?_
 refine RJ_q (Op_move rfl) rfl ?_
 refine RJ_p rfl (Op_call (vs := [_, _]) Try.func23 rfl rfl (MkHas_any ma 32 N.marks key) rfl (.k (e := (Imp.refl _)))) ?_
 rintro _ _ ⟨_, ⟨rfl, rfl⟩, rfl⟩
 refine RJ_app1 ?_
 by_cases hm : hasR key N.marks = true
 ·skip
  refine RJ_q (Op_assign rfl) rfl ?_
  refine RJ_nil ?_
  refine NJ_then ?_
  refine CJ_env (E' := [(0, _), (1, _), (4, _), (13, _)]) (.cons rfl rfl (.cons rfl rfl (.cons rfl rfl (.cons rfl rfl .nil)))) ?_
  refine CJ_then rfl hm ?_
  refine CJ_seq ?_
  refine CJ_region ?_
  refine RJ_q (Op_build (vs := [_]) (cells := [_, _, _, _, _, _, _]) Try.underlying31 zr31 rfl pl31 (by rfl)) rfl ?_
  refine RJ_d0 (Op_store (cs' := #[_, _, _, _, _, _, _]) rfl rfl sz31 (by rfl) (by simp [Value.cells, Value.oneCell']) rpp rfl (free_zero _ _) (by rfl)) ?_
  refine RJ_nil ?_
  refine NJ_then ?_
  refine CJ_env (E' := [(4, _)]) (.cons rfl rfl .nil) ?_
  refine CJ_ret ?_
  refine NJ_blk_r ?_
  refine NJ_then_r ?_
  have hU : getN key N = (⟨2, zeroI, 0⟩, N) := by unfold getN; rw [if_pos hm]
  rw [hU]
  refine NJ_ret (.inl rfl) Try.results8 (ResJ_cell rfl (load_struct (o := 0) (vs := [_, _, _, _, _, _, _]) Try.underlying31 sz31 pkk (by rfl) rfl) ResJ_nil) ⟨rfl, rfl⟩ (.swap (C := NodeRaw g ma mb mc md (N)) (.k (e := (.k (e := (.k (e := (.k (e := (.k (e := (Imp.refl _))))))))))) (NodeP_close (N := N)) (.k (e := skk)))
 ·skip
  refine RJ_q (Op_assign rfl) rfl ?_
  refine RJ_nil ?_
  refine NJ_then ?_
  refine CJ_env (E' := [(0, _), (1, _), (4, _), (13, _)]) (.cons rfl rfl (.cons rfl rfl (.cons rfl rfl (.cons rfl rfl .nil)))) ?_
  refine CJ_else rfl (by simpa using hm) ?_
  refine CJ_skip ?_
  refine NJ_blk ?_
  refine NJ_then ?_
  refine CJ_env (E' := [(0, _), (1, _), (4, _)]) (.cons rfl rfl (.cons rfl rfl (.cons rfl rfl .nil))) ?_
  refine CJ_seq ?_
  refine CJ_seq ?_
  by_cases hf : (findK key N.items).isSome = true
  ·skip
   obtain ⟨t, ht⟩ := Option.isSome_iff_exists.1 hf
   refine CJ_region ?_
   refine RJ_q (Op_move rfl) rfl ?_
   refine RJ_q (Op_nilCheck rfl) rfl ?_
   refine RJ_q (Op_fieldAddr (o' := 1) rfl Try.underlying75 rfl sz71 rfl rfl) rfl ?_
   refine RJ_q (Op_load rfl (load_cell Try.underlying71 rfl pkk (Nth.s Nth.z))) rfl ?_
   refine RJ_q (Op_move rfl) rfl ?_
   refine RJ_p rfl (Op_call (vs := [_, _]) Try.func24 rfl rfl (Get_yes mb N.items N.room N.kept hN.it key t ht) rfl (.k (e := (Imp.refl _)))) ?_
   rintro _ _ ⟨_, ⟨rfl, rfl⟩, rfl⟩
   refine RJ_app1 ?_
   refine RJ_q (Op_move rfl) rfl ?_
   refine RJ_q (Op_extract rfl rfl) rfl ?_
   refine RJ_q (Op_extract rfl rfl) rfl ?_
   refine RJ_p rfl (Op_alloc zr77) ?_
   rintro _ _ ⟨b5, rfl, rfl⟩
   refine RJ_d0 (Op_store (cs' := #[_, _, _, _, _]) rfl rfl sz77 (by rfl) (by simp [Value.cells, Value.oneCell']) rpp rfl (free_zero _ _) (by rfl)) ?_
   refine RJ_q (Op_assign rfl) rfl ?_
   refine RJ_nil ?_
   refine NJ_then ?_
   refine CJ_env (E' := [(0, _), (1, _), (4, _), (5, _), (6, _)]) (.cons rfl rfl (.cons rfl rfl (.cons rfl rfl (.cons rfl rfl (.cons rfl rfl .nil))))) ?_
   refine CJ_seq ?_
   refine CJ_region ?_
   refine RJ_q (Op_move rfl) rfl ?_
   refine RJ_nil ?_
   refine NJ_then ?_
   refine CJ_env (E' := [(0, _), (1, _), (4, _), (5, _), (31, _)]) (.cons rfl rfl (.cons rfl rfl (.cons rfl rfl (.cons rfl rfl (.cons rfl rfl .nil))))) ?_
   refine CJ_then rfl rfl ?_
   refine CJ_seq ?_
   refine CJ_region ?_
   refine RJ_q (Op_fieldAddr (o' := 0) rfl Try.underlying77 rfl sz29 rfl rfl) rfl ?_
   refine RJ_q (Op_load rfl (load_struct (o := 0) (vs := [_, _, _, _]) Try.underlying29 sz29 pkk (by rfl) rfl)) rfl ?_
   refine RJ_q (Op_fieldAddr (o' := 4) rfl Try.underlying77 rfl sz3 rfl rfl) rfl ?_
   refine RJ_q (Op_load rfl (load_cell Try.underlying3 rfl pkk (Nth.s (Nth.s (Nth.s (Nth.s Nth.z)))))) rfl ?_
   refine RJ_q (Op_build (vs := [_, _, _]) (cells := [_, _, _, _, _, _, _]) Try.underlying31 zr31 rfl pl31 (by rfl)) rfl ?_
   refine RJ_d0 (Op_store (cs' := #[_, _, _, _, _, _, _]) rfl rfl sz31 (by rfl) (by simp [Value.cells, Value.oneCell']) rpp rfl (free_zero _ _) (by rfl)) ?_
   refine RJ_nil ?_
   refine NJ_then ?_
   refine CJ_env (E' := [(4, _)]) (.cons rfl rfl .nil) ?_
   refine CJ_ret ?_
   refine NJ_then_r ?_
   have hU : getN key N = (⟨1, t.val, 0⟩, { N with items := t :: dropK key N.items }) := by unfold getN; rw [if_neg hm, ht]
   rw [hU]
   refine NJ_ret (.inl rfl) Try.results8 (ResJ_cell rfl (load_struct (o := 0) (vs := [_, _, _, _, _, _, _]) Try.underlying31 sz31 pkk (by rfl) rfl) ResJ_nil) ⟨rfl, rfl⟩ (.swap (C := NodeRaw g ma mb mc md ({ N with items := t :: dropK key N.items })) (.k (e := (.k (e := (.k (e := (.k (e := (.k (e := (Imp.refl _))))))))))) (NodeP_close (N := { N with items := t :: dropK key N.items })) (.k (e := skk)))
  ·skip
   have ht : findK key N.items = none := by simpa using hf
   refine CJ_region ?_
   refine RJ_q (Op_move rfl) rfl ?_
   refine RJ_q (Op_nilCheck rfl) rfl ?_
   refine RJ_q (Op_fieldAddr (o' := 1) rfl Try.underlying75 rfl sz71 rfl rfl) rfl ?_
   refine RJ_q (Op_load rfl (load_cell Try.underlying71 rfl pkk (Nth.s Nth.z))) rfl ?_
   refine RJ_q (Op_move rfl) rfl ?_
   refine RJ_p rfl (Op_call (vs := [_, _]) Try.func24 rfl rfl (Get_no mb N.items N.room N.kept key ht) rfl (.k (e := (Imp.refl _)))) ?_
   rintro _ _ ⟨_, ⟨rfl, rfl⟩, rfl⟩
   refine RJ_app1 ?_
   refine RJ_q (Op_move rfl) rfl ?_
   refine RJ_q (Op_extract rfl rfl) rfl ?_
   refine RJ_q (Op_extract rfl rfl) rfl ?_
   refine RJ_p rfl (Op_alloc zr77) ?_
   rintro _ _ ⟨b5, rfl, rfl⟩
   refine RJ_d0 (Op_store (cs' := #[_, _, _, _, _]) rfl rfl sz77 (by rfl) (by simp [Value.cells, Value.oneCell']) rpp rfl (free_zero _ _) (by rfl)) ?_
   refine RJ_q (Op_assign rfl) rfl ?_
   refine RJ_nil ?_
   refine NJ_then ?_
   refine CJ_env (E' := [(0, _), (1, _), (4, _), (5, _), (6, _)]) (.cons rfl rfl (.cons rfl rfl (.cons rfl rfl (.cons rfl rfl (.cons rfl rfl .nil))))) ?_
   refine CJ_seq ?_
   refine CJ_region ?_
   refine RJ_q (Op_move rfl) rfl ?_
   refine RJ_nil ?_
   refine NJ_then ?_
   refine CJ_env (E' := [(0, _), (1, _), (4, _), (5, _), (31, _)]) (.cons rfl rfl (.cons rfl rfl (.cons rfl rfl (.cons rfl rfl (.cons rfl rfl .nil))))) ?_
   refine CJ_else rfl rfl ?_
   refine CJ_skip ?_
   refine NJ_then ?_
   refine CJ_env (E' := [(0, _), (1, _), (4, _)]) (.cons rfl rfl (.cons rfl rfl (.cons rfl rfl .nil))) ?_
   refine CJ_seq ?_
   refine CJ_region ?_
   refine RJ_q (Op_move rfl) rfl ?_
   refine RJ_q (Op_nilCheck rfl) rfl ?_
   refine RJ_q (Op_fieldAddr (o' := 2) rfl Try.underlying75 rfl sz72 rfl rfl) rfl ?_
   refine RJ_q (Op_load rfl (load_cell Try.underlying72 rfl pkk (Nth.s (Nth.s Nth.z)))) rfl ?_
   refine RJ_q (Op_move rfl) rfl ?_
   refine RJ_p rfl (Op_call (vs := [_, _]) Try.func25 rfl rfl (LsGrant_any mc 32 10 N.lease N.last key (hN.last hk)) rfl (.k (e := (Imp.refl _)))) ?_
   rintro _ _ ⟨_, ⟨rfl, rfl⟩, rfl⟩
   refine RJ_app1 ?_
   refine RJ_q (Op_move rfl) rfl ?_
   refine RJ_q (Op_extract rfl rfl) rfl ?_
   refine RJ_q (Op_extract rfl rfl) rfl ?_
   refine RJ_q (Op_assign rfl) rfl ?_
   refine RJ_q (Op_assign rfl) rfl ?_
   refine RJ_nil ?_
   refine NJ_then ?_
   refine CJ_env (E' := [(4, _), (7, _)]) (.cons rfl rfl (.cons rfl rfl .nil)) ?_
   refine CJ_seq ?_
   refine CJ_region ?_
   refine RJ_q (Op_move rfl) rfl ?_
   refine RJ_q (Op_build (vs := [_, _]) (cells := [_, _, _, _, _, _, _]) Try.underlying31 zr31 rfl pl31 (by rfl)) rfl ?_
   refine RJ_d0 (Op_store (cs' := #[_, _, _, _, _, _, _]) rfl rfl sz31 (by rfl) (by simp [Value.cells, Value.oneCell']) rpp rfl (free_zero _ _) (by rfl)) ?_
   refine RJ_nil ?_
   refine NJ_then ?_
   refine CJ_env (E' := [(4, _)]) (.cons rfl rfl .nil) ?_
   refine CJ_ret ?_
   have hU : getN key N = (⟨3, zeroI, (grantR key 32 10 N.lease N.last).1⟩, { N with lease := (grantR key 32 10 N.lease N.last).2.2.1, last := (grantR key 32 10 N.lease N.last).2.2.2 }) := by unfold getN; rw [if_neg hm, ht]
   rw [hU]
   refine NJ_ret (.inl rfl) Try.results8 (ResJ_cell rfl (load_struct (o := 0) (vs := [_, _, _, _, _, _, _]) Try.underlying31 sz31 pkk (by rfl) rfl) ResJ_nil) ⟨rfl, rfl⟩ (.swap (C := NodeRaw g ma mb mc md ({ N with lease := (grantR key 32 10 N.lease N.last).2.2.1, last := (grantR key 32 10 N.lease N.last).2.2.2 })) (.k (e := (.k (e := (.k (e := (.k (e := (.k (e := (Imp.refl _))))))))))) (NodeP_close (N := { N with lease := (grantR key 32 10 N.lease N.last).2.2.1, last := (grantR key 32 10 N.lease N.last).2.2.2 })) (.k (e := skk)))

set_option maxRecDepth 20000 in
theorem NdPeek_any (g : Nat) (N : NodeS) (key : ByteArray) : Spec Try.prog 12 #[.pointer (some ⟨g, 0, none⟩), .string key] [NodeP g N] (fun v C => v = .tuple #[valV (peekN key N).1, .int .i64 (peekN key N).1.asOf, .bool (peekN key N).2] ∧ C = [NodeP g N]) := by
 refine Spec_intro (n := 35) (args := [.pointer (some ⟨g, 0, none⟩), .string key]) Try.func12 rfl rfl rfl fun s R => ?_
 refine CJ_app1 ?_
 refine CJ_env (E' := [(0, _), (1, _)]) (.cons rfl rfl (.cons rfl rfl .nil)) ?_
 refine CJ_open (NodeP_opens _ _) pkk ?_
 rintro _ ⟨ma, mb, mc, md, rfl⟩
 refine CJ_app5 ?_
 refine CJ_seq ?_
 refine CJ_region ?_
 refine RJ_p rfl (Op_alloc zr29) ?_
 rintro _ _ ⟨b4, rfl, rfl⟩
 refine RJ_q (Op_assign rfl) rfl ?_
 refine RJ_q (Op_assign rfl) rfl ?_
 refine RJ_nil ?_
 refine NJ_then ?_
 refine CJ_env (E' := [(0, _), (1, _), (4, _), (5, _), (6, _)]) (.cons rfl rfl (.cons rfl rfl (.cons rfl rfl (.cons rfl rfl (.cons rfl rfl .nil))))) ?_
 refine CJ_seq ?_
 refine CJ_seq ?_
 refine CJ_region ?_
 refine RJ_q (Op_move rfl) rfl ?_
 refine RJ_q (Op_ptr_eq_nil rfl rfl Try.underlying24) rfl ?_
 refine RJ_q (Op_move rfl) rfl ?_
 refine RJ_yes (t := 11) rfl rfl rfl ?_
 refine RJ_q (Op_move rfl) rfl ?_
 refine RJ_yes (t := 11) rfl rfl rfl ?_
 refine RJ_q (Op_nilCheck rfl) rfl ?_
 refine RJ_yes (t := 11) rfl rfl rfl ?_
 refine RJ_q (Op_fieldAddr (o' := 0) rfl Try.underlying75 rfl sz70 rfl rfl) rfl ?_
 refine RJ_yes (t := 11) rfl rfl rfl ?_
 refine RJ_q (Op_fieldAddr (o' := 0) rfl Try.underlying70 rfl sz68 rfl rfl) rfl ?_
 refine RJ_yes (t := 11) rfl rfl rfl ?_
 refine RJ_q (Op_load rfl (load_cell Try.underlying68 rfl pkk Nth.z)) rfl ?_
 refine RJ_yes (t := 11) rfl rfl rfl ?_
 refine RJ_q (Op_move rfl) rfl ?_
 refine RJ_yes (t := 11) rfl rfl rfl ?_
 refine RJ_p rfl (Op_call (vs := [_, _]) Try.func23 rfl rfl (MkHas_any ma 32 N.marks key) rfl (.k (e := (Imp.refl _)))) ?_
 rintro _ _ ⟨_, ⟨rfl, rfl⟩, rfl⟩
 refine RJ_app1 ?_
 by_cases hm : hasR key N.marks = true
 ·skip
  refine RJ_q (Op_pick_f rfl rfl rfl) rfl ?_
  refine RJ_nil ?_
  refine NJ_then ?_
  refine CJ_env (E' := [(0, _), (1, _), (4, _), (5, _), (6, _), (19, _)]) (.cons rfl rfl (.cons rfl rfl (.cons rfl rfl (.cons rfl rfl (.cons rfl rfl (.cons rfl rfl .nil)))))) ?_
  refine CJ_then rfl hm ?_
  refine CJ_seq ?_
  refine CJ_region ?_
  refine RJ_q (Op_build (vs := []) (cells := [_, _, _, _]) Try.underlying29 zr29 rfl pl29 (by rfl)) rfl ?_
  refine RJ_d0 (Op_store (cs' := #[_, _, _, _]) rfl rfl sz29 (by rfl) (by simp [Value.cells, Value.oneCell']) rpp rfl (free_zero _ _) (by rfl)) ?_
  refine RJ_q (Op_assign rfl) rfl ?_
  refine RJ_q (Op_assign rfl) rfl ?_
  refine RJ_nil ?_
  refine NJ_then ?_
  refine CJ_env (E' := [(4, _), (5, _), (6, _)]) (.cons rfl rfl (.cons rfl rfl (.cons rfl rfl .nil))) ?_
  refine CJ_ret ?_
  refine NJ_then_r ?_
  have hU : peekN key N = (zeroI, false) := by unfold peekN; rw [if_pos hm]
  rw [hU]
  refine NJ_ret (.inl rfl) Try.results12 (ResJ_cell rfl (load_struct (o := 0) (vs := [_, _, _, _]) Try.underlying29 sz29 pkk (by rfl) rfl) (ResJ_tmp rfl (ResJ_tmp rfl ResJ_nil))) ⟨rfl, rfl⟩ (.swap (C := NodeRaw g ma mb mc md (N)) (.k (e := (.k (e := (.k (e := (.k (e := (.k (e := (Imp.refl _))))))))))) (NodeP_close (N := N)) (.k (e := skk)))
 ·skip
  refine RJ_q (Op_pick_f rfl rfl rfl) rfl ?_
  refine RJ_nil ?_
  refine NJ_then ?_
  refine CJ_env (E' := [(0, _), (1, _), (4, _), (5, _), (6, _), (19, _)]) (.cons rfl rfl (.cons rfl rfl (.cons rfl rfl (.cons rfl rfl (.cons rfl rfl (.cons rfl rfl .nil)))))) ?_
  refine CJ_else rfl (by simpa using hm) ?_
  refine CJ_skip ?_
  refine NJ_then ?_
  refine CJ_env (E' := [(0, _), (1, _), (4, _), (5, _), (6, _)]) (.cons rfl rfl (.cons rfl rfl (.cons rfl rfl (.cons rfl rfl (.cons rfl rfl .nil))))) ?_
  refine CJ_seq ?_
  by_cases hf : (findK key N.items).isSome = true
  ·skip
   obtain ⟨t, ht⟩ := Option.isSome_iff_exists.1 hf
   refine CJ_region ?_
   refine RJ_q (Op_move rfl) rfl ?_
   refine RJ_q (Op_nilCheck rfl) rfl ?_
   refine RJ_q (Op_fieldAddr (o' := 1) rfl Try.underlying75 rfl sz71 rfl rfl) rfl ?_
   refine RJ_q (Op_load rfl (load_cell Try.underlying71 rfl pkk (Nth.s Nth.z))) rfl ?_
   refine RJ_q (Op_move rfl) rfl ?_
   refine RJ_p rfl (Op_call (vs := [_, _]) Try.func33 rfl rfl (Peek_yes mb N.items N.room N.kept key t ht) rfl (.k (e := (Imp.refl _)))) ?_
   rintro _ _ ⟨_, ⟨rfl, rfl⟩, rfl⟩
   refine RJ_app1 ?_
   refine RJ_q (Op_move rfl) rfl ?_
   refine RJ_q (Op_extract rfl rfl) rfl ?_
   refine RJ_q (Op_extract rfl rfl) rfl ?_
   refine RJ_p rfl (Op_alloc zr77) ?_
   rintro _ _ ⟨b7, rfl, rfl⟩
   refine RJ_d0 (Op_store (cs' := #[_, _, _, _, _]) rfl rfl sz77 (by rfl) (by simp [Value.cells, Value.oneCell']) rpp rfl (free_zero _ _) (by rfl)) ?_
   refine RJ_q (Op_assign rfl) rfl ?_
   refine RJ_nil ?_
   refine NJ_then ?_
   refine CJ_env (E' := [(4, _), (5, _), (6, _), (7, _), (8, _)]) (.cons rfl rfl (.cons rfl rfl (.cons rfl rfl (.cons rfl rfl (.cons rfl rfl .nil))))) ?_
   refine CJ_seq ?_
   refine CJ_draw (.q 0 (.q 1 (.q 2 (.q 3 (.q 4 (.e 5 (.q 6 (.q 7 .done)))))))) (by kernel_rfl) (by kernel_rfl) (by kernel_rfl) ?_
   refine SJ_q rfl (want_none rfl) rfl (fun _ _ => Op_fieldAddr (o' := 0) rfl Try.underlying77 rfl sz29 rfl rfl) ?_
   refine SJ_load rfl (want_none rfl) rfl rfl (load_struct (o := 0) (vs := [_, _, _, _]) Try.underlying29 sz29 pkk (by rfl) rfl) ?_
   refine SJ_q rfl (want_none rfl) rfl (fun _ _ => Op_fieldAddr (o' := 4) rfl Try.underlying77 rfl sz3 rfl rfl) ?_
   refine SJ_load rfl (want_none rfl) rfl rfl (load_cell Try.underlying3 rfl pkk (Nth.s (Nth.s (Nth.s (Nth.s Nth.z))))) ?_
   refine SJ_q rfl (want_none rfl) rfl (fun _ _ => Op_move rfl) ?_
   refine SJ_d0 (rd' := [⟨3, _, _, _⟩]) [3] rfl (want_none rfl) (Op_store (cs' := #[_, _, _, _]) rfl rfl sz29 (by rfl) (by simp [Value.cells, Value.oneCell']) rpp rfl (free_zero _ _) (by rfl)) (by kernel_rfl) rfl ⟨(load_cell Try.underlying3 rfl pkk (Nth.s (Nth.s (Nth.s (Nth.s Nth.z))))), trivial⟩ ?_
   refine SJ_q rfl (want_none rfl) rfl (fun _ _ => Op_assign rfl) ?_
   refine SJ_q rfl (want_none rfl) rfl (fun _ _ => Op_assign rfl) ?_
   refine SJ_done ?_
   refine NJ_then ?_
   refine CJ_env (E' := [(4, _), (5, _), (6, _)]) (.cons rfl rfl (.cons rfl rfl (.cons rfl rfl .nil))) ?_
   refine CJ_ret ?_
   have hU : peekN key N = (t.val, true) := by unfold peekN; rw [if_neg hm, ht]
   rw [hU]
   refine NJ_ret (.inl rfl) Try.results12 (ResJ_cell rfl (load_struct (o := 0) (vs := [_, _, _, _]) Try.underlying29 sz29 pkk (by rfl) rfl) (ResJ_tmp rfl (ResJ_tmp rfl ResJ_nil))) ⟨rfl, rfl⟩ (.swap (C := NodeRaw g ma mb mc md (N)) (.k (e := (.k (e := (.k (e := (.k (e := (.k (e := (Imp.refl _))))))))))) (NodeP_close (N := N)) (.k (e := skk)))
  ·skip
   have ht : findK key N.items = none := by simpa using hf
   refine CJ_region ?_
   refine RJ_q (Op_move rfl) rfl ?_
   refine RJ_q (Op_nilCheck rfl) rfl ?_
   refine RJ_q (Op_fieldAddr (o' := 1) rfl Try.underlying75 rfl sz71 rfl rfl) rfl ?_
   refine RJ_q (Op_load rfl (load_cell Try.underlying71 rfl pkk (Nth.s Nth.z))) rfl ?_
   refine RJ_q (Op_move rfl) rfl ?_
   refine RJ_p rfl (Op_call (vs := [_, _]) Try.func33 rfl rfl (Peek_no mb N.items N.room N.kept key ht) rfl (.k (e := (Imp.refl _)))) ?_
   rintro _ _ ⟨_, ⟨rfl, rfl⟩, rfl⟩
   refine RJ_app1 ?_
   refine RJ_q (Op_move rfl) rfl ?_
   refine RJ_q (Op_extract rfl rfl) rfl ?_
   refine RJ_q (Op_extract rfl rfl) rfl ?_
   refine RJ_p rfl (Op_alloc zr77) ?_
   rintro _ _ ⟨b7, rfl, rfl⟩
   refine RJ_d0 (Op_store (cs' := #[_, _, _, _, _]) rfl rfl sz77 (by rfl) (by simp [Value.cells, Value.oneCell']) rpp rfl (free_zero _ _) (by rfl)) ?_
   refine RJ_q (Op_assign rfl) rfl ?_
   refine RJ_nil ?_
   refine NJ_then ?_
   refine CJ_env (E' := [(4, _), (5, _), (6, _), (7, _), (8, _)]) (.cons rfl rfl (.cons rfl rfl (.cons rfl rfl (.cons rfl rfl (.cons rfl rfl .nil))))) ?_
   refine CJ_seq ?_
   refine CJ_draw (.q 0 (.q 1 (.q 2 (.q 3 (.q 4 (.e 5 (.q 6 (.q 7 .done)))))))) (by kernel_rfl) (by kernel_rfl) (by kernel_rfl) ?_
   refine SJ_q rfl (want_none rfl) rfl (fun _ _ => Op_fieldAddr (o' := 0) rfl Try.underlying77 rfl sz29 rfl rfl) ?_
   refine SJ_load rfl (want_none rfl) rfl rfl (load_struct (o := 0) (vs := [_, _, _, _]) Try.underlying29 sz29 pkk (by rfl) rfl) ?_
   refine SJ_q rfl (want_none rfl) rfl (fun _ _ => Op_fieldAddr (o' := 4) rfl Try.underlying77 rfl sz3 rfl rfl) ?_
   refine SJ_load rfl (want_none rfl) rfl rfl (load_cell Try.underlying3 rfl pkk (Nth.s (Nth.s (Nth.s (Nth.s Nth.z))))) ?_
   refine SJ_q rfl (want_none rfl) rfl (fun _ _ => Op_move rfl) ?_
   refine SJ_d0 (rd' := [⟨3, _, _, _⟩]) [3] rfl (want_none rfl) (Op_store (cs' := #[_, _, _, _]) rfl rfl sz29 (by rfl) (by simp [Value.cells, Value.oneCell']) rpp rfl (free_zero _ _) (by rfl)) (by kernel_rfl) rfl ⟨(load_cell Try.underlying3 rfl pkk (Nth.s (Nth.s (Nth.s (Nth.s Nth.z))))), trivial⟩ ?_
   refine SJ_q rfl (want_none rfl) rfl (fun _ _ => Op_assign rfl) ?_
   refine SJ_q rfl (want_none rfl) rfl (fun _ _ => Op_assign rfl) ?_
   refine SJ_done ?_
   refine NJ_then ?_
   refine CJ_env (E' := [(4, _), (5, _), (6, _)]) (.cons rfl rfl (.cons rfl rfl (.cons rfl rfl .nil))) ?_
   refine CJ_ret ?_
   have hU : peekN key N = (zeroI, false) := by unfold peekN; rw [if_neg hm, ht]
   rw [hU]
   refine NJ_ret (.inl rfl) Try.results12 (ResJ_cell rfl (load_struct (o := 0) (vs := [_, _, _, _]) Try.underlying29 sz29 pkk (by rfl) rfl) (ResJ_tmp rfl (ResJ_tmp rfl ResJ_nil))) ⟨rfl, rfl⟩ (.swap (C := NodeRaw g ma mb mc md (N)) (.k (e := (.k (e := (.k (e := (.k (e := (.k (e := (Imp.refl _))))))))))) (NodeP_close (N := N)) (.k (e := skk)))

set_option maxRecDepth 20000 in
theorem NdPut_any (g : Nat) (N : NodeS) (k : Nat) (hN : NOk k N) (hk : k ≤ 1000000) (key : ByteArray) (v : ItemV) (hks : key.size ≤ 10000) (hts : v.tx.size ≤ 10000) : Spec Try.prog 27 #[.pointer (some ⟨g, 0, none⟩), .string key, .agg #[.int .i64 v.ep, .int .i64 v.ix, .bool v.th, .string v.tx], .int .i64 v.asOf] [NodeP g N] (fun r C => r = .bool (putN key v N).1 ∧ C = [NodeP g (putN key v N).2]) := by
 refine Spec_intro (n := 49) (args := [.pointer (some ⟨g, 0, none⟩), .string key, .agg #[.int .i64 v.ep, .int .i64 v.ix, .bool v.th, .string v.tx], .int .i64 v.asOf]) Try.func27 rfl rfl rfl fun s R => ?_
 refine CJ_app1 ?_
 refine CJ_env (E' := [(0, _), (1, _), (2, _), (3, _)]) (.cons rfl rfl (.cons rfl rfl (.cons rfl rfl (.cons rfl rfl .nil)))) ?_
 refine CJ_open (NodeP_opens _ _) pkk ?_
 rintro _ ⟨ma, mb, mc, md, rfl⟩
 refine CJ_app5 ?_
 have hil := hN.il
 have hsz : -9223372036854775808 ≤ sizeI key v ∧ sizeI key v ≤ 9223372036854775807 := by unfold sizeI; omega
 refine CJ_seq ?_
 refine CJ_region ?_
 refine RJ_p rfl (Op_box rfl) ?_
 rintro _ _ ⟨b6, rfl, rfl⟩
 refine RJ_q (Op_assign rfl) rfl ?_
 refine RJ_nil ?_
 refine NJ_then ?_
 refine CJ_env (E' := [(0, _), (1, _), (3, _), (6, _), (8, _)]) (.cons rfl rfl (.cons rfl rfl (.cons rfl rfl (.cons rfl rfl (.cons rfl rfl .nil))))) ?_
 refine CJ_seq ?_
 refine CJ_seq ?_
 by_cases hf : (findK key N.items).isSome = true
 ·skip
  obtain ⟨t, ht⟩ := Option.isSome_iff_exists.1 hf
  refine CJ_region ?_
  refine RJ_q (Op_move rfl) rfl ?_
  refine RJ_q (Op_nilCheck rfl) rfl ?_
  refine RJ_q (Op_fieldAddr (o' := 1) rfl Try.underlying75 rfl sz71 rfl rfl) rfl ?_
  refine RJ_q (Op_load rfl (load_cell Try.underlying71 rfl pkk (Nth.s Nth.z))) rfl ?_
  refine RJ_q (Op_move rfl) rfl ?_
  refine RJ_p rfl (Op_call (vs := [_, _]) Try.func33 rfl rfl (Peek_yes mb N.items N.room N.kept key t ht) rfl (.k (e := (Imp.refl _)))) ?_
  rintro _ _ ⟨_, ⟨rfl, rfl⟩, rfl⟩
  refine RJ_app1 ?_
  refine RJ_q (Op_move rfl) rfl ?_
  refine RJ_q (Op_extract rfl rfl) rfl ?_
  refine RJ_q (Op_extract rfl rfl) rfl ?_
  refine RJ_p rfl (Op_alloc zr77) ?_
  rintro _ _ ⟨b9, rfl, rfl⟩
  refine RJ_d0 (Op_store (cs' := #[_, _, _, _, _]) rfl rfl sz77 (by rfl) (by simp [Value.cells, Value.oneCell']) rpp rfl (free_zero _ _) (by rfl)) ?_
  refine RJ_q (Op_assign rfl) rfl ?_
  refine RJ_nil ?_
  refine NJ_then ?_
  refine CJ_env (E' := [(0, _), (1, _), (3, _), (6, _), (8, _), (9, _), (10, _)]) (.cons rfl rfl (.cons rfl rfl (.cons rfl rfl (.cons rfl rfl (.cons rfl rfl (.cons rfl rfl (.cons rfl rfl .nil))))))) ?_
  refine CJ_seq ?_
  refine CJ_region ?_
  refine RJ_q (Op_move rfl) rfl ?_
  refine RJ_q (Op_move rfl) rfl ?_
  refine RJ_yes (t := 23) rfl rfl rfl ?_
  refine RJ_q (Op_fieldAddr (o' := 4) rfl Try.underlying77 rfl sz3 rfl rfl) rfl ?_
  refine RJ_yes (t := 23) rfl rfl rfl ?_
  refine RJ_q (Op_load rfl (load_cell Try.underlying3 rfl pkk (Nth.s (Nth.s (Nth.s (Nth.s Nth.z)))))) rfl ?_
  refine RJ_yes (t := 23) rfl rfl rfl ?_
  refine RJ_q (Op_move rfl) rfl ?_
  refine RJ_yes (t := 23) rfl rfl rfl ?_
  refine RJ_q (Op_geq rfl rfl) rfl ?_
  by_cases h1 : v.asOf ≤ t.val.asOf
  ·skip
   refine RJ_q (Op_pick_t rfl rfl rfl) rfl ?_
   refine RJ_nil ?_
   refine NJ_then ?_
   refine CJ_env (E' := [(0, _), (1, _), (3, _), (6, _), (8, _), (28, _)]) (.cons rfl rfl (.cons rfl rfl (.cons rfl rfl (.cons rfl rfl (.cons rfl rfl (.cons rfl rfl .nil)))))) ?_
   refine CJ_then rfl (decide_eq_true h1) ?_
   refine CJ_seq ?_
   refine CJ_region ?_
   refine RJ_q (Op_assign rfl) rfl ?_
   refine RJ_nil ?_
   refine NJ_then ?_
   refine CJ_env (E' := [(8, _)]) (.cons rfl rfl .nil) ?_
   refine CJ_ret ?_
   refine NJ_then_r ?_
   have hU : putN key v N = (true, N) := by unfold putN; rw [ht]; simp only [if_pos h1]
   rw [hU]
   refine NJ_ret (.inl rfl) Try.results27 (ResJ_tmp rfl ResJ_nil) ⟨rfl, rfl⟩ (.swap (C := NodeRaw g ma mb mc md (N)) (.k (e := (.k (e := (.k (e := (.k (e := (.k (e := (Imp.refl _))))))))))) (NodeP_close (N := N)) (.k (e := skk)))
  ·skip
   refine RJ_q (Op_pick_t rfl rfl rfl) rfl ?_
   refine RJ_nil ?_
   refine NJ_then ?_
   refine CJ_env (E' := [(0, _), (1, _), (3, _), (6, _), (8, _), (28, _)]) (.cons rfl rfl (.cons rfl rfl (.cons rfl rfl (.cons rfl rfl (.cons rfl rfl (.cons rfl rfl .nil)))))) ?_
   refine CJ_else rfl (decide_eq_false h1) ?_
   refine CJ_skip ?_
   refine NJ_then ?_
   refine CJ_env (E' := [(0, _), (1, _), (3, _), (6, _), (8, _)]) (.cons rfl rfl (.cons rfl rfl (.cons rfl rfl (.cons rfl rfl (.cons rfl rfl .nil))))) ?_
   refine CJ_seq ?_
   refine CJ_draw (.q 0 (.q 1 (.q 2 (.q 3 (.q 4 (.q 5 (.q 6 (.q 7 (.q 8 (.q 9 (.q 10 (.q 11 (.q 12 (.q 13 (.q 14 (.e 15 (.q 16 (.q 17 (.q 18 (.q 19 (.q 20 .done))))))))))))))))))))) (by kernel_rfl) (by kernel_rfl) (by kernel_rfl) ?_
   refine SJ_q rfl (want_none rfl) rfl (fun _ _ => Op_move rfl) ?_
   refine SJ_q rfl (want_none rfl) rfl (fun _ _ => Op_nilCheck rfl) ?_
   refine SJ_q rfl (want_none rfl) rfl (fun _ _ => Op_fieldAddr (o' := 1) rfl Try.underlying75 rfl sz71 rfl rfl) ?_
   refine SJ_load rfl (want_none rfl) rfl rfl (load_cell Try.underlying71 rfl pkk (Nth.s Nth.z)) ?_
   refine SJ_q rfl (want_none rfl) rfl (fun _ _ => Op_move rfl) ?_
   refine SJ_q rfl (want_none rfl) rfl (fun _ _ => Op_move rfl) ?_
   refine SJ_q rfl (want_none rfl) rfl (fun _ _ => Op_len_str rfl Try.underlying9) ?_
   refine SJ_q rfl (want_none rfl) rfl (fun _ _ => Op_fieldAddr (o' := 3) rfl Try.underlying29 rfl sz9 rfl rfl) ?_
   refine SJ_load rfl (want_none rfl) rfl rfl (load_cell Try.underlying9 rfl pkk (Nth.s (Nth.s (Nth.s Nth.z)))) ?_
   refine SJ_q rfl (want_none rfl) rfl (fun _ _ => Op_len_str rfl Try.underlying9) ?_
   refine SJ_q rfl (want_none rfl) rfl (fun _ _ => Op_add64 rfl rfl (by omega)) ?_
   refine SJ_q rfl (want_none rfl) rfl (fun _ _ => Op_add64 rfl rfl (by omega)) ?_
   refine SJ_load rfl (want_none rfl) rfl rfl (load_struct (o := 0) (vs := [_, _, _, _]) Try.underlying29 sz29 pkk (by rfl) rfl) ?_
   refine SJ_q rfl (want_none rfl) rfl (fun _ _ => Op_move rfl) ?_
   refine SJ_q rfl (want_none rfl) rfl (fun _ _ => Op_build (vs := [_, _]) (cells := [_, _, _, _, _]) Try.underlying77 zr77 rfl pl77 (by rfl)) ?_
   refine SJ_p (rd' := []) [] rfl (want_none rfl) rfl (Op_call (vs := [_, _, _, _]) Try.func56 rfl rfl (Put_any mb N.items N.room N.kept hN.it key (sizeI key v) v hsz (by omega)) rfl (.k (e := (Imp.refl _)))) (by kernel_rfl) rfl ?_
   rintro _ _ ⟨_, ⟨ra, rc, rfl, rfl⟩, rfl⟩
   refine OS_app2 ?_
   refine ⟨trivial, ?_⟩
   refine SJ_q rfl (want_none rfl) rfl (fun _ _ => Op_move rfl) ?_
   refine SJ_q rfl (want_none rfl) rfl (fun _ _ => Op_extract rfl rfl) ?_
   refine SJ_q rfl (want_none rfl) rfl (fun _ _ => Op_extract rfl rfl) ?_
   refine SJ_q rfl (want_none rfl) rfl (fun _ _ => Op_assign rfl) ?_
   refine SJ_q rfl (want_none rfl) rfl (fun _ _ => Op_assign rfl) ?_
   refine SJ_done ?_
   refine NJ_then ?_
   refine CJ_env (E' := [(8, _), (12, _)]) (.cons rfl rfl (.cons rfl rfl .nil)) ?_
   refine CJ_seq ?_
   refine CJ_region ?_
   refine RJ_q (Op_move rfl) rfl ?_
   refine RJ_q (Op_assign rfl) rfl ?_
   refine RJ_nil ?_
   refine NJ_then ?_
   refine CJ_env (E' := [(8, _)]) (.cons rfl rfl .nil) ?_
   refine CJ_ret ?_
   have hU : putN key v N = putN' key v N := by unfold putN; rw [ht]; simp only [if_neg h1]
   rw [hU]
   refine NJ_ret (.inl rfl) Try.results27 (ResJ_tmp rfl ResJ_nil) ⟨rfl, rfl⟩ (.swap (C := NodeRaw g ma mb mc md ({ N with items := (putR N.items N.room N.kept ⟨key, v, sizeI key v⟩).2.2 })) (.k (e := (.k (e := (.k (e := (.k (e := (.k (e := (Imp.refl _))))))))))) (NodeP_close (N := { N with items := (putR N.items N.room N.kept ⟨key, v, sizeI key v⟩).2.2 })) (.k (e := skk)))
 ·skip
  have ht : findK key N.items = none := by simpa using hf
  refine CJ_region ?_
  refine RJ_q (Op_move rfl) rfl ?_
  refine RJ_q (Op_nilCheck rfl) rfl ?_
  refine RJ_q (Op_fieldAddr (o' := 1) rfl Try.underlying75 rfl sz71 rfl rfl) rfl ?_
  refine RJ_q (Op_load rfl (load_cell Try.underlying71 rfl pkk (Nth.s Nth.z))) rfl ?_
  refine RJ_q (Op_move rfl) rfl ?_
  refine RJ_p rfl (Op_call (vs := [_, _]) Try.func33 rfl rfl (Peek_no mb N.items N.room N.kept key ht) rfl (.k (e := (Imp.refl _)))) ?_
  rintro _ _ ⟨_, ⟨rfl, rfl⟩, rfl⟩
  refine RJ_app1 ?_
  refine RJ_q (Op_move rfl) rfl ?_
  refine RJ_q (Op_extract rfl rfl) rfl ?_
  refine RJ_q (Op_extract rfl rfl) rfl ?_
  refine RJ_p rfl (Op_alloc zr77) ?_
  rintro _ _ ⟨b9, rfl, rfl⟩
  refine RJ_d0 (Op_store (cs' := #[_, _, _, _, _]) rfl rfl sz77 (by rfl) (by simp [Value.cells, Value.oneCell']) rpp rfl (free_zero _ _) (by rfl)) ?_
  refine RJ_q (Op_assign rfl) rfl ?_
  refine RJ_nil ?_
  refine NJ_then ?_
  refine CJ_env (E' := [(0, _), (1, _), (3, _), (6, _), (8, _), (9, _), (10, _)]) (.cons rfl rfl (.cons rfl rfl (.cons rfl rfl (.cons rfl rfl (.cons rfl rfl (.cons rfl rfl (.cons rfl rfl .nil))))))) ?_
  refine CJ_seq ?_
  refine CJ_region ?_
  refine RJ_q (Op_move rfl) rfl ?_
  refine RJ_q (Op_move rfl) rfl ?_
  refine RJ_no (t := 23) false rfl rfl rfl (by decide) rfl ?_
  refine RJ_no (t := 23) false rfl rfl rfl (by decide) rfl ?_
  refine RJ_no (t := 23) false rfl rfl rfl (by decide) rfl ?_
  refine RJ_no (t := 23) false rfl rfl rfl (by decide) rfl ?_
  refine RJ_q (Op_pick_f rfl rfl rfl) rfl ?_
  refine RJ_nil ?_
  refine NJ_then ?_
  refine CJ_env (E' := [(0, _), (1, _), (3, _), (6, _), (8, _), (28, _)]) (.cons rfl rfl (.cons rfl rfl (.cons rfl rfl (.cons rfl rfl (.cons rfl rfl (.cons rfl rfl .nil)))))) ?_
  refine CJ_else rfl rfl ?_
  refine CJ_skip ?_
  refine NJ_then ?_
  refine CJ_env (E' := [(0, _), (1, _), (3, _), (6, _), (8, _)]) (.cons rfl rfl (.cons rfl rfl (.cons rfl rfl (.cons rfl rfl (.cons rfl rfl .nil))))) ?_
  refine CJ_seq ?_
  refine CJ_draw (.q 0 (.q 1 (.q 2 (.q 3 (.q 4 (.q 5 (.q 6 (.q 7 (.q 8 (.q 9 (.q 10 (.q 11 (.q 12 (.q 13 (.q 14 (.e 15 (.q 16 (.q 17 (.q 18 (.q 19 (.q 20 .done))))))))))))))))))))) (by kernel_rfl) (by kernel_rfl) (by kernel_rfl) ?_
  refine SJ_q rfl (want_none rfl) rfl (fun _ _ => Op_move rfl) ?_
  refine SJ_q rfl (want_none rfl) rfl (fun _ _ => Op_nilCheck rfl) ?_
  refine SJ_q rfl (want_none rfl) rfl (fun _ _ => Op_fieldAddr (o' := 1) rfl Try.underlying75 rfl sz71 rfl rfl) ?_
  refine SJ_load rfl (want_none rfl) rfl rfl (load_cell Try.underlying71 rfl pkk (Nth.s Nth.z)) ?_
  refine SJ_q rfl (want_none rfl) rfl (fun _ _ => Op_move rfl) ?_
  refine SJ_q rfl (want_none rfl) rfl (fun _ _ => Op_move rfl) ?_
  refine SJ_q rfl (want_none rfl) rfl (fun _ _ => Op_len_str rfl Try.underlying9) ?_
  refine SJ_q rfl (want_none rfl) rfl (fun _ _ => Op_fieldAddr (o' := 3) rfl Try.underlying29 rfl sz9 rfl rfl) ?_
  refine SJ_load rfl (want_none rfl) rfl rfl (load_cell Try.underlying9 rfl pkk (Nth.s (Nth.s (Nth.s Nth.z)))) ?_
  refine SJ_q rfl (want_none rfl) rfl (fun _ _ => Op_len_str rfl Try.underlying9) ?_
  refine SJ_q rfl (want_none rfl) rfl (fun _ _ => Op_add64 rfl rfl (by omega)) ?_
  refine SJ_q rfl (want_none rfl) rfl (fun _ _ => Op_add64 rfl rfl (by omega)) ?_
  refine SJ_load rfl (want_none rfl) rfl rfl (load_struct (o := 0) (vs := [_, _, _, _]) Try.underlying29 sz29 pkk (by rfl) rfl) ?_
  refine SJ_q rfl (want_none rfl) rfl (fun _ _ => Op_move rfl) ?_
  refine SJ_q rfl (want_none rfl) rfl (fun _ _ => Op_build (vs := [_, _]) (cells := [_, _, _, _, _]) Try.underlying77 zr77 rfl pl77 (by rfl)) ?_
  refine SJ_p (rd' := []) [] rfl (want_none rfl) rfl (Op_call (vs := [_, _, _, _]) Try.func56 rfl rfl (Put_any mb N.items N.room N.kept hN.it key (sizeI key v) v hsz (by omega)) rfl (.k (e := (Imp.refl _)))) (by kernel_rfl) rfl ?_
  rintro _ _ ⟨_, ⟨ra, rc, rfl, rfl⟩, rfl⟩
  refine OS_app2 ?_
  refine ⟨trivial, ?_⟩
  refine SJ_q rfl (want_none rfl) rfl (fun _ _ => Op_move rfl) ?_
  refine SJ_q rfl (want_none rfl) rfl (fun _ _ => Op_extract rfl rfl) ?_
  refine SJ_q rfl (want_none rfl) rfl (fun _ _ => Op_extract rfl rfl) ?_
  refine SJ_q rfl (want_none rfl) rfl (fun _ _ => Op_assign rfl) ?_
  refine SJ_q rfl (want_none rfl) rfl (fun _ _ => Op_assign rfl) ?_
  refine SJ_done ?_
  refine NJ_then ?_
  refine CJ_env (E' := [(8, _), (12, _)]) (.cons rfl rfl (.cons rfl rfl .nil)) ?_
  refine CJ_seq ?_
  refine CJ_region ?_
  refine RJ_q (Op_move rfl) rfl ?_
  refine RJ_q (Op_assign rfl) rfl ?_
  refine RJ_nil ?_
  refine NJ_then ?_
  refine CJ_env (E' := [(8, _)]) (.cons rfl rfl .nil) ?_
  refine CJ_ret ?_
  have hU : putN key v N = putN' key v N := by unfold putN; rw [ht]
  rw [hU]
  refine NJ_ret (.inl rfl) Try.results27 (ResJ_tmp rfl ResJ_nil) ⟨rfl, rfl⟩ (.swap (C := NodeRaw g ma mb mc md ({ N with items := (putR N.items N.room N.kept ⟨key, v, sizeI key v⟩).2.2 })) (.k (e := (.k (e := (.k (e := (.k (e := (.k (e := (Imp.refl _))))))))))) (NodeP_close (N := { N with items := (putR N.items N.room N.kept ⟨key, v, sizeI key v⟩).2.2 })) (.k (e := skk)))

set_option maxRecDepth 20000 in
theorem NdFill_any (g : Nat) (N : NodeS) (k : Nat) (hN : NOk k N) (hk : k ≤ 1000000) (key : ByteArray) (token : Int) (v : ItemV) (hks : key.size ≤ 10000) (hts : v.tx.size ≤ 10000) : Spec Try.prog 9 #[.pointer (some ⟨g, 0, none⟩), .string key, .int .i64 token, .agg #[.int .i64 v.ep, .int .i64 v.ix, .bool v.th, .string v.tx], .int .i64 v.asOf] [NodeP g N] (fun r C => r = .bool (fillN key token v N).1 ∧ C = [NodeP g (fillN key token v N).2]) := by
 refine Spec_intro (n := 29) (args := [.pointer (some ⟨g, 0, none⟩), .string key, .int .i64 token, .agg #[.int .i64 v.ep, .int .i64 v.ix, .bool v.th, .string v.tx], .int .i64 v.asOf]) Try.func9 rfl rfl rfl fun s R => ?_
 refine CJ_app1 ?_
 refine CJ_env (E' := [(0, _), (1, _), (2, _), (3, _), (4, _)]) (.cons rfl rfl (.cons rfl rfl (.cons rfl rfl (.cons rfl rfl (.cons rfl rfl .nil))))) ?_
 refine CJ_open (NodeP_opens _ _) pkk ?_
 rintro _ ⟨ma, mb, mc, md, rfl⟩
 refine CJ_app5 ?_
 refine CJ_seq ?_
 refine CJ_region ?_
 refine RJ_p rfl (Op_box rfl) ?_
 rintro _ _ ⟨b8, rfl, rfl⟩
 refine RJ_q (Op_assign rfl) rfl ?_
 refine RJ_nil ?_
 refine NJ_then ?_
 refine CJ_env (E' := [(0, _), (1, _), (2, _), (4, _), (8, _), (10, _)]) (.cons rfl rfl (.cons rfl rfl (.cons rfl rfl (.cons rfl rfl (.cons rfl rfl (.cons rfl rfl .nil)))))) ?_
 refine CJ_seq ?_
 refine CJ_region ?_
 refine RJ_q (Op_move rfl) rfl ?_
 refine RJ_q (Op_ptr_ne_nil rfl rfl Try.underlying24) rfl ?_
 refine RJ_q (Op_move rfl) rfl ?_
 refine RJ_yes (t := 13) rfl rfl rfl ?_
 refine RJ_q (Op_move rfl) rfl ?_
 refine RJ_yes (t := 13) rfl rfl rfl ?_
 refine RJ_q (Op_nilCheck rfl) rfl ?_
 refine RJ_yes (t := 13) rfl rfl rfl ?_
 refine RJ_q (Op_fieldAddr (o' := 2) rfl Try.underlying75 rfl sz72 rfl rfl) rfl ?_
 refine RJ_yes (t := 13) rfl rfl rfl ?_
 refine RJ_q (Op_load rfl (load_cell Try.underlying72 rfl pkk (Nth.s (Nth.s Nth.z)))) rfl ?_
 refine RJ_yes (t := 13) rfl rfl rfl ?_
 refine RJ_q (Op_move rfl) rfl ?_
 refine RJ_yes (t := 13) rfl rfl rfl ?_
 refine RJ_q (Op_move rfl) rfl ?_
 refine RJ_yes (t := 13) rfl rfl rfl ?_
 refine RJ_p rfl (Op_call (vs := [_, _, _]) Try.func26 rfl rfl (LsUse_any mc 32 10 N.lease N.last key token) rfl (.k (e := (Imp.refl _)))) ?_
 rintro _ _ ⟨_, ⟨rfl, rfl⟩, rfl⟩
 refine RJ_app1 ?_
 by_cases hu : (useR key token N.lease).1 = true
 ·skip
  refine RJ_q (Op_pick_t rfl rfl rfl) rfl ?_
  refine RJ_q (Op_move rfl) rfl ?_
  refine RJ_yes (t := 22) rfl rfl hu ?_
  refine RJ_q (Op_move rfl) rfl ?_
  refine RJ_yes (t := 22) rfl rfl hu ?_
  refine RJ_q (Op_move rfl) rfl ?_
  refine RJ_yes (t := 22) rfl rfl hu ?_
  refine RJ_q (Op_load rfl (load_struct (o := 0) (vs := [_, _, _, _]) Try.underlying29 sz29 pkk (by rfl) rfl)) rfl ?_
  refine RJ_yes (t := 22) rfl rfl hu ?_
  refine RJ_q (Op_move rfl) rfl ?_
  refine RJ_yes (t := 22) rfl rfl hu ?_
  refine RJ_p rfl (Op_call (vs := [_, _, _, _]) Try.func27 rfl rfl (NdPut_any g ({ N with lease := (useR key token N.lease).2 }) k (hN.used key token) hk key v hks hts) rfl (.swap (C := NodeRaw g ma mb mc md ({ N with lease := (useR key token N.lease).2 })) (.k (e := (.k (e := (.k (e := (.k (e := (.k (e := (Imp.refl _))))))))))) (NodeP_close (N := { N with lease := (useR key token N.lease).2 })) (Imp.refl _))) ?_
  rintro _ _ ⟨_, ⟨rfl, rfl⟩, rfl⟩
  refine RJ_app1 ?_
  refine RJ_q (Op_pick_t rfl hu rfl) rfl ?_
  refine RJ_q (Op_assign rfl) rfl ?_
  refine RJ_nil ?_
  refine NJ_then ?_
  refine CJ_env (E' := [(10, _)]) (.cons rfl rfl .nil) ?_
  refine CJ_ret ?_
  have hU : fillN key token v N = putN key v ({ N with lease := (useR key token N.lease).2 }) := by unfold fillN; rw [if_pos hu]
  rw [hU]
  refine NJ_ret (.inl rfl) Try.results9 (ResJ_tmp rfl ResJ_nil) ⟨rfl, rfl⟩ (.k (e := skk))
 ·skip
  refine RJ_q (Op_pick_t rfl rfl rfl) rfl ?_
  refine RJ_q (Op_move rfl) rfl ?_
  refine RJ_no (t := 22) false rfl rfl (by simpa using hu) (by decide) rfl ?_
  refine RJ_no (t := 22) false rfl rfl (by simpa using hu) (by decide) rfl ?_
  refine RJ_no (t := 22) false rfl rfl (by simpa using hu) (by decide) rfl ?_
  refine RJ_no (t := 22) false rfl rfl (by simpa using hu) (by decide) rfl ?_
  refine RJ_no (t := 22) false rfl rfl (by simpa using hu) (by decide) rfl ?_
  refine RJ_q (Op_pick_f rfl (by simpa using hu) rfl) rfl ?_
  refine RJ_q (Op_assign rfl) rfl ?_
  refine RJ_nil ?_
  refine NJ_then ?_
  refine CJ_env (E' := [(10, _)]) (.cons rfl rfl .nil) ?_
  refine CJ_ret ?_
  have hU : fillN key token v N = (false, N) := by unfold fillN; rw [if_neg hu]
  rw [hU, useR_same hu]
  refine NJ_ret (.inl rfl) Try.results9 (ResJ_tmp rfl ResJ_nil) ⟨rfl, rfl⟩ (.swap (C := NodeRaw g ma mb mc md (N)) (.k (e := (.k (e := (.k (e := (.k (e := (.k (e := (Imp.refl _))))))))))) (NodeP_close (N := N)) (.k (e := skk)))

set_option maxRecDepth 20000 in
theorem NdWarm_any (g : Nat) (N : NodeS) (k : Nat) (hN : NOk k N) (hk : k ≤ 1000000) (key : ByteArray) (v : ItemV) (hks : key.size ≤ 10000) (hts : v.tx.size ≤ 10000) : Spec Try.prog 19 #[.pointer (some ⟨g, 0, none⟩), .string key, .agg #[.int .i64 v.ep, .int .i64 v.ix, .bool v.th, .string v.tx], .int .i64 v.asOf] [NodeP g N] (fun r C => r = .bool (warmN key v N).1 ∧ C = [NodeP g (warmN key v N).2]) := by
 refine Spec_intro (n := 53) (args := [.pointer (some ⟨g, 0, none⟩), .string key, .agg #[.int .i64 v.ep, .int .i64 v.ix, .bool v.th, .string v.tx], .int .i64 v.asOf]) Try.func19 rfl rfl rfl fun s R => ?_
 refine CJ_app1 ?_
 refine CJ_env (E' := [(0, _), (1, _), (2, _), (3, _)]) (.cons rfl rfl (.cons rfl rfl (.cons rfl rfl (.cons rfl rfl .nil)))) ?_
 refine CJ_open (NodeP_opens _ _) pkk ?_
 rintro _ ⟨ma, mb, mc, md, rfl⟩
 refine CJ_app5 ?_
 refine CJ_seq ?_
 refine CJ_region ?_
 refine RJ_p rfl (Op_box rfl) ?_
 rintro _ _ ⟨b6, rfl, rfl⟩
 refine RJ_q (Op_assign rfl) rfl ?_
 refine RJ_nil ?_
 refine NJ_then ?_
 refine CJ_env (E' := [(0, _), (1, _), (3, _), (6, _), (8, _)]) (.cons rfl rfl (.cons rfl rfl (.cons rfl rfl (.cons rfl rfl (.cons rfl rfl .nil))))) ?_
 refine CJ_seq ?_
 refine CJ_seq ?_
 refine CJ_region ?_
 refine RJ_q (Op_move rfl) rfl ?_
 refine RJ_q (Op_ptr_eq_nil rfl rfl Try.underlying24) rfl ?_
 refine RJ_q (Op_move rfl) rfl ?_
 refine RJ_yes (t := 13) rfl rfl rfl ?_
 refine RJ_q (Op_move rfl) rfl ?_
 refine RJ_yes (t := 13) rfl rfl rfl ?_
 refine RJ_q (Op_nilCheck rfl) rfl ?_
 refine RJ_yes (t := 13) rfl rfl rfl ?_
 refine RJ_q (Op_fieldAddr (o' := 4) rfl Try.underlying75 rfl sz4 rfl rfl) rfl ?_
 refine RJ_yes (t := 13) rfl rfl rfl ?_
 refine RJ_q (Op_load rfl (load_cell Try.underlying4 rfl pkk (Nth.s (Nth.s (Nth.s (Nth.s Nth.z)))))) rfl ?_
 refine RJ_yes (t := 13) rfl rfl rfl ?_
 refine RJ_q (Op_not rfl) rfl ?_
 by_cases hc : N.cold = true
 ·skip
  refine RJ_q (Op_pick_f rfl rfl rfl) rfl ?_
  refine RJ_q (Op_move rfl) rfl ?_
  refine RJ_yes (t := 20) rfl rfl (by simp [hc]) ?_
  refine RJ_q (Op_move rfl) rfl ?_
  refine RJ_yes (t := 20) rfl rfl (by simp [hc]) ?_
  refine RJ_q (Op_move rfl) rfl ?_
  refine RJ_yes (t := 20) rfl rfl (by simp [hc]) ?_
  refine RJ_q (Op_nilCheck rfl) rfl ?_
  refine RJ_yes (t := 20) rfl rfl (by simp [hc]) ?_
  refine RJ_q (Op_fieldAddr (o' := 5) rfl Try.underlying75 rfl sz3 rfl rfl) rfl ?_
  refine RJ_yes (t := 20) rfl rfl (by simp [hc]) ?_
  refine RJ_q (Op_load rfl (load_cell Try.underlying3 rfl pkk (Nth.s (Nth.s (Nth.s (Nth.s (Nth.s Nth.z))))))) rfl ?_
  refine RJ_yes (t := 20) rfl rfl (by simp [hc]) ?_
  refine RJ_q (Op_lss rfl rfl) rfl ?_
  by_cases h1 : v.asOf < N.since
  ·skip
   refine RJ_q (Op_pick_f rfl (by simp [hc]) rfl) rfl ?_
   refine RJ_q (Op_move rfl) rfl ?_
   refine RJ_no (t := 28) true rfl rfl (decide_eq_true h1) (by decide) rfl ?_
   refine RJ_no (t := 28) true rfl rfl (decide_eq_true h1) (by decide) rfl ?_
   refine RJ_no (t := 28) true rfl rfl (decide_eq_true h1) (by decide) rfl ?_
   refine RJ_no (t := 28) true rfl rfl (decide_eq_true h1) (by decide) rfl ?_
   refine RJ_no (t := 28) true rfl rfl (decide_eq_true h1) (by decide) rfl ?_
   refine RJ_no (t := 28) true rfl rfl (decide_eq_true h1) (by decide) rfl ?_
   refine RJ_no (t := 28) true rfl rfl (decide_eq_true h1) (by decide) rfl ?_
   refine RJ_no (t := 28) true rfl rfl (decide_eq_true h1) (by decide) rfl ?_
   refine RJ_q (Op_pick_t rfl (decide_eq_true h1) rfl) rfl ?_
   refine RJ_nil ?_
   refine NJ_then ?_
   refine CJ_env (E' := [(0, _), (1, _), (3, _), (6, _), (8, _), (37, _)]) (.cons rfl rfl (.cons rfl rfl (.cons rfl rfl (.cons rfl rfl (.cons rfl rfl (.cons rfl rfl .nil)))))) ?_
   refine CJ_then rfl rfl ?_
   refine CJ_seq ?_
   refine CJ_region ?_
   refine RJ_q (Op_assign rfl) rfl ?_
   refine RJ_nil ?_
   refine NJ_then ?_
   refine CJ_env (E' := [(8, _)]) (.cons rfl rfl .nil) ?_
   refine CJ_ret ?_
   refine NJ_then_r ?_
   have hU : warmN key v N = (false, N) := by unfold warmN; rw [if_pos (.inr (.inl h1))]
   rw [hU]
   refine NJ_ret (.inl rfl) Try.results19 (ResJ_tmp rfl ResJ_nil) ⟨rfl, rfl⟩ (.swap (C := NodeRaw g ma mb mc md (N)) (.k (e := (.k (e := (.k (e := (.k (e := (.k (e := (Imp.refl _))))))))))) (NodeP_close (N := N)) (.k (e := skk)))
  ·skip
   refine RJ_q (Op_pick_f rfl (by simp [hc]) rfl) rfl ?_
   refine RJ_q (Op_move rfl) rfl ?_
   refine RJ_yes (t := 28) rfl rfl (decide_eq_false h1) ?_
   refine RJ_q (Op_move rfl) rfl ?_
   refine RJ_yes (t := 28) rfl rfl (decide_eq_false h1) ?_
   refine RJ_q (Op_nilCheck rfl) rfl ?_
   refine RJ_yes (t := 28) rfl rfl (decide_eq_false h1) ?_
   refine RJ_q (Op_fieldAddr (o' := 3) rfl Try.underlying75 rfl sz73 rfl rfl) rfl ?_
   refine RJ_yes (t := 28) rfl rfl (decide_eq_false h1) ?_
   refine RJ_q (Op_load rfl (load_cell Try.underlying73 rfl pkk (Nth.s (Nth.s (Nth.s Nth.z))))) rfl ?_
   refine RJ_yes (t := 28) rfl rfl (decide_eq_false h1) ?_
   refine RJ_q (Op_move rfl) rfl ?_
   refine RJ_yes (t := 28) rfl rfl (decide_eq_false h1) ?_
   refine RJ_q (Op_move rfl) rfl ?_
   refine RJ_yes (t := 28) rfl rfl (decide_eq_false h1) ?_
   refine RJ_p rfl (Op_call (vs := [_, _, _]) Try.func46 rfl rfl (HdAllows_any md 32 N.tombs N.floor key v.asOf) rfl (.k (e := (Imp.refl _)))) ?_
   rintro _ _ ⟨_, ⟨rfl, rfl⟩, rfl⟩
   refine RJ_app1 ?_
   refine RJ_yes (t := 28) rfl rfl (decide_eq_false h1) ?_
   refine RJ_q (Op_not rfl) rfl ?_
   by_cases h2 : allowsR key v.asOf N.tombs N.floor = true
   ·skip
    refine RJ_q (Op_pick_f rfl (decide_eq_false h1) rfl) rfl ?_
    refine RJ_nil ?_
    refine NJ_then ?_
    refine CJ_env (E' := [(0, _), (1, _), (3, _), (6, _), (8, _), (37, _)]) (.cons rfl rfl (.cons rfl rfl (.cons rfl rfl (.cons rfl rfl (.cons rfl rfl (.cons rfl rfl .nil)))))) ?_
    refine CJ_else rfl (by simp [h2]) ?_
    refine CJ_skip ?_
    refine NJ_then ?_
    refine CJ_env (E' := [(0, _), (1, _), (3, _), (6, _), (8, _)]) (.cons rfl rfl (.cons rfl rfl (.cons rfl rfl (.cons rfl rfl (.cons rfl rfl .nil))))) ?_
    refine CJ_seq ?_
    refine CJ_seq ?_
    by_cases hf : (findK key N.items).isSome = true
    ·skip
     obtain ⟨t, ht⟩ := Option.isSome_iff_exists.1 hf
     refine CJ_region ?_
     refine RJ_q (Op_move rfl) rfl ?_
     refine RJ_q (Op_nilCheck rfl) rfl ?_
     refine RJ_q (Op_fieldAddr (o' := 1) rfl Try.underlying75 rfl sz71 rfl rfl) rfl ?_
     refine RJ_q (Op_load rfl (load_cell Try.underlying71 rfl pkk (Nth.s Nth.z))) rfl ?_
     refine RJ_q (Op_move rfl) rfl ?_
     refine RJ_p rfl (Op_call (vs := [_, _]) Try.func33 rfl rfl (Peek_yes mb N.items N.room N.kept key t ht) rfl (.k (e := (Imp.refl _)))) ?_
     rintro _ _ ⟨_, ⟨rfl, rfl⟩, rfl⟩
     refine RJ_app1 ?_
     refine RJ_q (Op_move rfl) rfl ?_
     refine RJ_q (Op_extract rfl rfl) rfl ?_
     refine RJ_q (Op_extract rfl rfl) rfl ?_
     refine RJ_p rfl (Op_alloc zr77) ?_
     rintro _ _ ⟨b9, rfl, rfl⟩
     refine RJ_d0 (Op_store (cs' := #[_, _, _, _, _]) rfl rfl sz77 (by rfl) (by simp [Value.cells, Value.oneCell']) rpp rfl (free_zero _ _) (by rfl)) ?_
     refine RJ_q (Op_assign rfl) rfl ?_
     refine RJ_nil ?_
     refine NJ_then ?_
     refine CJ_env (E' := [(0, _), (1, _), (3, _), (6, _), (8, _), (10, _)]) (.cons rfl rfl (.cons rfl rfl (.cons rfl rfl (.cons rfl rfl (.cons rfl rfl (.cons rfl rfl .nil)))))) ?_
     refine CJ_seq ?_
     refine CJ_region ?_
     refine RJ_q (Op_move rfl) rfl ?_
     refine RJ_nil ?_
     refine NJ_then ?_
     refine CJ_env (E' := [(0, _), (1, _), (3, _), (6, _), (8, _), (47, _)]) (.cons rfl rfl (.cons rfl rfl (.cons rfl rfl (.cons rfl rfl (.cons rfl rfl (.cons rfl rfl .nil)))))) ?_
     refine CJ_then rfl rfl ?_
     refine CJ_seq ?_
     refine CJ_region ?_
     refine RJ_q (Op_assign rfl) rfl ?_
     refine RJ_nil ?_
     refine NJ_then ?_
     refine CJ_env (E' := [(8, _)]) (.cons rfl rfl .nil) ?_
     refine CJ_ret ?_
     refine NJ_then_r ?_
     have hU : warmN key v N = (false, N) := by unfold warmN; rw [if_neg (by simp [hc, h1, h2]), ht]
     rw [hU]
     refine NJ_ret (.inl rfl) Try.results19 (ResJ_tmp rfl ResJ_nil) ⟨rfl, rfl⟩ (.swap (C := NodeRaw g ma mb mc md (N)) (.k (e := (.k (e := (.k (e := (.k (e := (.k (e := (Imp.refl _))))))))))) (NodeP_close (N := N)) (.k (e := skk)))
    ·skip
     have ht : findK key N.items = none := by simpa using hf
     refine CJ_region ?_
     refine RJ_q (Op_move rfl) rfl ?_
     refine RJ_q (Op_nilCheck rfl) rfl ?_
     refine RJ_q (Op_fieldAddr (o' := 1) rfl Try.underlying75 rfl sz71 rfl rfl) rfl ?_
     refine RJ_q (Op_load rfl (load_cell Try.underlying71 rfl pkk (Nth.s Nth.z))) rfl ?_
     refine RJ_q (Op_move rfl) rfl ?_
     refine RJ_p rfl (Op_call (vs := [_, _]) Try.func33 rfl rfl (Peek_no mb N.items N.room N.kept key ht) rfl (.k (e := (Imp.refl _)))) ?_
     rintro _ _ ⟨_, ⟨rfl, rfl⟩, rfl⟩
     refine RJ_app1 ?_
     refine RJ_q (Op_move rfl) rfl ?_
     refine RJ_q (Op_extract rfl rfl) rfl ?_
     refine RJ_q (Op_extract rfl rfl) rfl ?_
     refine RJ_p rfl (Op_alloc zr77) ?_
     rintro _ _ ⟨b9, rfl, rfl⟩
     refine RJ_d0 (Op_store (cs' := #[_, _, _, _, _]) rfl rfl sz77 (by rfl) (by simp [Value.cells, Value.oneCell']) rpp rfl (free_zero _ _) (by rfl)) ?_
     refine RJ_q (Op_assign rfl) rfl ?_
     refine RJ_nil ?_
     refine NJ_then ?_
     refine CJ_env (E' := [(0, _), (1, _), (3, _), (6, _), (8, _), (10, _)]) (.cons rfl rfl (.cons rfl rfl (.cons rfl rfl (.cons rfl rfl (.cons rfl rfl (.cons rfl rfl .nil)))))) ?_
     refine CJ_seq ?_
     refine CJ_region ?_
     refine RJ_q (Op_move rfl) rfl ?_
     refine RJ_nil ?_
     refine NJ_then ?_
     refine CJ_env (E' := [(0, _), (1, _), (3, _), (6, _), (8, _), (47, _)]) (.cons rfl rfl (.cons rfl rfl (.cons rfl rfl (.cons rfl rfl (.cons rfl rfl (.cons rfl rfl .nil)))))) ?_
     refine CJ_else rfl rfl ?_
     refine CJ_skip ?_
     refine NJ_then ?_
     refine CJ_env (E' := [(0, _), (1, _), (3, _), (6, _), (8, _)]) (.cons rfl rfl (.cons rfl rfl (.cons rfl rfl (.cons rfl rfl (.cons rfl rfl .nil))))) ?_
     refine CJ_seq ?_
     refine CJ_region ?_
     refine RJ_q (Op_move rfl) rfl ?_
     refine RJ_q (Op_move rfl) rfl ?_
     refine RJ_q (Op_load rfl (load_struct (o := 0) (vs := [_, _, _, _]) Try.underlying29 sz29 pkk (by rfl) rfl)) rfl ?_
     refine RJ_q (Op_move rfl) rfl ?_
     refine RJ_p rfl (Op_call (vs := [_, _, _, _]) Try.func27 rfl rfl (NdPut_any g N k hN hk key v hks hts) rfl (.swap (C := NodeRaw g ma mb mc md (N)) (.k (e := (.k (e := (.k (e := (.k (e := (.k (e := (Imp.refl _))))))))))) (NodeP_close (N := N)) (Imp.refl _))) ?_
     rintro _ _ ⟨_, ⟨rfl, rfl⟩, rfl⟩
     refine RJ_app1 ?_
     refine RJ_q (Op_assign rfl) rfl ?_
     refine RJ_nil ?_
     refine NJ_then ?_
     refine CJ_env (E' := [(8, _)]) (.cons rfl rfl .nil) ?_
     refine CJ_ret ?_
     have hU : warmN key v N = putN key v N := by unfold warmN; rw [if_neg (by simp [hc, h1, h2]), ht]
     rw [hU]
     refine NJ_ret (.inl rfl) Try.results19 (ResJ_tmp rfl ResJ_nil) ⟨rfl, rfl⟩ (.k (e := skk))
   ·skip
    refine RJ_q (Op_pick_f rfl (decide_eq_false h1) rfl) rfl ?_
    refine RJ_nil ?_
    refine NJ_then ?_
    refine CJ_env (E' := [(0, _), (1, _), (3, _), (6, _), (8, _), (37, _)]) (.cons rfl rfl (.cons rfl rfl (.cons rfl rfl (.cons rfl rfl (.cons rfl rfl (.cons rfl rfl .nil)))))) ?_
    refine CJ_then rfl (by simp [h2]) ?_
    refine CJ_seq ?_
    refine CJ_region ?_
    refine RJ_q (Op_assign rfl) rfl ?_
    refine RJ_nil ?_
    refine NJ_then ?_
    refine CJ_env (E' := [(8, _)]) (.cons rfl rfl .nil) ?_
    refine CJ_ret ?_
    refine NJ_then_r ?_
    have hU : warmN key v N = (false, N) := by unfold warmN; rw [if_pos (.inr (.inr (by simpa using h2)))]
    rw [hU]
    refine NJ_ret (.inl rfl) Try.results19 (ResJ_tmp rfl ResJ_nil) ⟨rfl, rfl⟩ (.swap (C := NodeRaw g ma mb mc md (N)) (.k (e := (.k (e := (.k (e := (.k (e := (.k (e := (Imp.refl _))))))))))) (NodeP_close (N := N)) (.k (e := skk)))
 ·skip
  refine RJ_q (Op_pick_f rfl rfl rfl) rfl ?_
  refine RJ_q (Op_move rfl) rfl ?_
  refine RJ_no (t := 20) true rfl rfl (by simp [hc]) (by decide) rfl ?_
  refine RJ_no (t := 20) true rfl rfl (by simp [hc]) (by decide) rfl ?_
  refine RJ_no (t := 20) true rfl rfl (by simp [hc]) (by decide) rfl ?_
  refine RJ_no (t := 20) true rfl rfl (by simp [hc]) (by decide) rfl ?_
  refine RJ_no (t := 20) true rfl rfl (by simp [hc]) (by decide) rfl ?_
  refine RJ_no (t := 20) true rfl rfl (by simp [hc]) (by decide) rfl ?_
  refine RJ_q (Op_pick_t rfl (by simp [hc]) rfl) rfl ?_
  refine RJ_q (Op_move rfl) rfl ?_
  refine RJ_no (t := 28) true rfl rfl rfl (by decide) rfl ?_
  refine RJ_no (t := 28) true rfl rfl rfl (by decide) rfl ?_
  refine RJ_no (t := 28) true rfl rfl rfl (by decide) rfl ?_
  refine RJ_no (t := 28) true rfl rfl rfl (by decide) rfl ?_
  refine RJ_no (t := 28) true rfl rfl rfl (by decide) rfl ?_
  refine RJ_no (t := 28) true rfl rfl rfl (by decide) rfl ?_
  refine RJ_no (t := 28) true rfl rfl rfl (by decide) rfl ?_
  refine RJ_no (t := 28) true rfl rfl rfl (by decide) rfl ?_
  refine RJ_q (Op_pick_t rfl rfl rfl) rfl ?_
  refine RJ_nil ?_
  refine NJ_then ?_
  refine CJ_env (E' := [(0, _), (1, _), (3, _), (6, _), (8, _), (37, _)]) (.cons rfl rfl (.cons rfl rfl (.cons rfl rfl (.cons rfl rfl (.cons rfl rfl (.cons rfl rfl .nil)))))) ?_
  refine CJ_then rfl rfl ?_
  refine CJ_seq ?_
  refine CJ_region ?_
  refine RJ_q (Op_assign rfl) rfl ?_
  refine RJ_nil ?_
  refine NJ_then ?_
  refine CJ_env (E' := [(8, _)]) (.cons rfl rfl .nil) ?_
  refine CJ_ret ?_
  refine NJ_then_r ?_
  have hU : warmN key v N = (false, N) := by unfold warmN; rw [if_pos (.inl (by simpa using hc))]
  rw [hU]
  refine NJ_ret (.inl rfl) Try.results19 (ResJ_tmp rfl ResJ_nil) ⟨rfl, rfl⟩ (.swap (C := NodeRaw g ma mb mc md (N)) (.k (e := (.k (e := (.k (e := (.k (e := (.k (e := (Imp.refl _))))))))))) (NodeP_close (N := N)) (.k (e := skk)))

set_option maxRecDepth 20000 in
theorem NdInv_any (g : Nat) (N : NodeS) (k : Nat) (hN : NOk k N) (hk : k ≤ 1000000) (key : ByteArray) (index : Int) : Spec Try.prog 17 #[.pointer (some ⟨g, 0, none⟩), .string key, .int .i64 index] [NodeP g N] (fun r C => r = .tuple #[] ∧ C = [NodeP g (invN key index N)]) := by
 refine Spec_intro (n := 49) (args := [.pointer (some ⟨g, 0, none⟩), .string key, .int .i64 index]) Try.func17 rfl rfl rfl fun s R => ?_
 refine CJ_app1 ?_
 refine CJ_env (E' := [(0, _), (1, _), (2, _)]) (.cons rfl rfl (.cons rfl rfl (.cons rfl rfl .nil))) ?_
 refine CJ_open (NodeP_opens _ _) pkk ?_
 rintro _ ⟨ma, mb, mc, md, rfl⟩
 refine CJ_app5 ?_
 refine CJ_seq ?_
 refine CJ_seq ?_
 refine CJ_region ?_
 refine RJ_q (Op_move rfl) rfl ?_
 refine RJ_q (Op_ptr_eq_nil rfl rfl Try.underlying24) rfl ?_
 refine RJ_nil ?_
 refine NJ_then ?_
 refine CJ_env (E' := [(0, _), (1, _), (2, _), (9, _)]) (.cons rfl rfl (.cons rfl rfl (.cons rfl rfl (.cons rfl rfl .nil)))) ?_
 refine CJ_else rfl rfl ?_
 refine CJ_skip ?_
 refine NJ_then ?_
 refine CJ_env (E' := [(0, _), (1, _), (2, _)]) (.cons rfl rfl (.cons rfl rfl (.cons rfl rfl .nil))) ?_
 refine CJ_seq ?_
 refine CJ_seq ?_
 by_cases hf : (findK key N.items).isSome = true
 ·skip
  obtain ⟨t, ht⟩ := Option.isSome_iff_exists.1 hf
  refine CJ_region ?_
  refine RJ_q (Op_move rfl) rfl ?_
  refine RJ_q (Op_nilCheck rfl) rfl ?_
  refine RJ_q (Op_fieldAddr (o' := 1) rfl Try.underlying75 rfl sz71 rfl rfl) rfl ?_
  refine RJ_q (Op_load rfl (load_cell Try.underlying71 rfl pkk (Nth.s Nth.z))) rfl ?_
  refine RJ_q (Op_move rfl) rfl ?_
  refine RJ_p rfl (Op_call (vs := [_, _]) Try.func33 rfl rfl (Peek_yes mb N.items N.room N.kept key t ht) rfl (.k (e := (Imp.refl _)))) ?_
  rintro _ _ ⟨_, ⟨rfl, rfl⟩, rfl⟩
  refine RJ_app1 ?_
  refine RJ_q (Op_move rfl) rfl ?_
  refine RJ_q (Op_extract rfl rfl) rfl ?_
  refine RJ_q (Op_extract rfl rfl) rfl ?_
  refine RJ_p rfl (Op_alloc zr77) ?_
  rintro _ _ ⟨b6, rfl, rfl⟩
  refine RJ_d0 (Op_store (cs' := #[_, _, _, _, _]) rfl rfl sz77 (by rfl) (by simp [Value.cells, Value.oneCell']) rpp rfl (free_zero _ _) (by rfl)) ?_
  refine RJ_q (Op_assign rfl) rfl ?_
  refine RJ_nil ?_
  refine NJ_then ?_
  refine CJ_env (E' := [(0, _), (1, _), (2, _), (6, _), (7, _)]) (.cons rfl rfl (.cons rfl rfl (.cons rfl rfl (.cons rfl rfl (.cons rfl rfl .nil))))) ?_
  refine CJ_seq ?_
  refine CJ_region ?_
  refine RJ_q (Op_move rfl) rfl ?_
  refine RJ_q (Op_move rfl) rfl ?_
  refine RJ_yes (t := 20) rfl rfl rfl ?_
  refine RJ_q (Op_fieldAddr (o' := 4) rfl Try.underlying77 rfl sz3 rfl rfl) rfl ?_
  refine RJ_yes (t := 20) rfl rfl rfl ?_
  refine RJ_q (Op_load rfl (load_cell Try.underlying3 rfl pkk (Nth.s (Nth.s (Nth.s (Nth.s Nth.z)))))) rfl ?_
  refine RJ_yes (t := 20) rfl rfl rfl ?_
  refine RJ_q (Op_move rfl) rfl ?_
  refine RJ_yes (t := 20) rfl rfl rfl ?_
  refine RJ_q (Op_lss rfl rfl) rfl ?_
  by_cases h1 : t.val.asOf < index
  ·skip
   have hI : invI key index N.items = dropK key N.items := by unfold invI; rw [ht]; simp only [if_pos h1]
   refine RJ_q (Op_pick_t rfl rfl rfl) rfl ?_
   refine RJ_nil ?_
   refine NJ_then ?_
   refine CJ_env (E' := [(0, _), (1, _), (2, _), (25, _)]) (.cons rfl rfl (.cons rfl rfl (.cons rfl rfl (.cons rfl rfl .nil)))) ?_
   refine CJ_then rfl (decide_eq_true h1) ?_
   refine CJ_region ?_
   refine RJ_q (Op_move rfl) rfl ?_
   refine RJ_q (Op_nilCheck rfl) rfl ?_
   refine RJ_q (Op_fieldAddr (o' := 1) rfl Try.underlying75 rfl sz71 rfl rfl) rfl ?_
   refine RJ_q (Op_load rfl (load_cell Try.underlying71 rfl pkk (Nth.s Nth.z))) rfl ?_
   refine RJ_q (Op_move rfl) rfl ?_
   refine RJ_p rfl (Op_call (vs := [_, _]) Try.func43 rfl rfl (Drop_any mb N.items N.room N.kept hN.it key) rfl (.k (e := (Imp.refl _)))) ?_
   rintro _ _ ⟨_, ⟨rfl, rfl⟩, rfl⟩
   refine RJ_app1 ?_
   refine RJ_nil ?_
   refine NJ_then ?_
   refine CJ_env (E' := [(0, _), (1, _), (2, _)]) (.cons rfl rfl (.cons rfl rfl (.cons rfl rfl .nil))) ?_
   refine CJ_seq ?_
   refine CJ_region ?_
   refine RJ_q (Op_move rfl) rfl ?_
   refine RJ_q (Op_nilCheck rfl) rfl ?_
   refine RJ_q (Op_fieldAddr (o' := 2) rfl Try.underlying75 rfl sz72 rfl rfl) rfl ?_
   refine RJ_q (Op_load rfl (load_cell Try.underlying72 rfl pkk (Nth.s (Nth.s Nth.z)))) rfl ?_
   refine RJ_q (Op_move rfl) rfl ?_
   refine RJ_p rfl (Op_call (vs := [_, _]) Try.func44 rfl rfl (LsKill_any mc 32 10 N.lease N.last key) rfl (.k (e := (Imp.refl _)))) ?_
   rintro _ _ ⟨_, ⟨rfl, rfl⟩, rfl⟩
   refine RJ_app1 ?_
   refine RJ_nil ?_
   refine NJ_then ?_
   refine CJ_env (E' := [(0, _), (1, _), (2, _)]) (.cons rfl rfl (.cons rfl rfl (.cons rfl rfl .nil))) ?_
   refine CJ_seq ?_
   refine CJ_region ?_
   refine RJ_q (Op_move rfl) rfl ?_
   refine RJ_q (Op_nilCheck rfl) rfl ?_
   refine RJ_q (Op_fieldAddr (o' := 4) rfl Try.underlying75 rfl sz4 rfl rfl) rfl ?_
   refine RJ_q (Op_load rfl (load_cell Try.underlying4 rfl pkk (Nth.s (Nth.s (Nth.s (Nth.s Nth.z)))))) rfl ?_
   by_cases hc : N.cold = true
   ·skip
    refine RJ_nil ?_
    refine NJ_then ?_
    refine CJ_env (E' := [(0, _), (1, _), (2, _), (41, _)]) (.cons rfl rfl (.cons rfl rfl (.cons rfl rfl (.cons rfl rfl .nil)))) ?_
    refine CJ_then rfl hc ?_
    refine CJ_region ?_
    refine RJ_q (Op_move rfl) rfl ?_
    refine RJ_q (Op_nilCheck rfl) rfl ?_
    refine RJ_q (Op_fieldAddr (o' := 3) rfl Try.underlying75 rfl sz73 rfl rfl) rfl ?_
    refine RJ_q (Op_load rfl (load_cell Try.underlying73 rfl pkk (Nth.s (Nth.s (Nth.s Nth.z))))) rfl ?_
    refine RJ_q (Op_move rfl) rfl ?_
    refine RJ_q (Op_move rfl) rfl ?_
    refine RJ_p rfl (Op_call (vs := [_, _, _]) Try.func45 rfl rfl (HdNote_any md 32 N.tombs N.floor key index) rfl (.k (e := (Imp.refl _)))) ?_
    rintro _ _ ⟨_, ⟨rfl, rfl⟩, rfl⟩
    refine RJ_app1 ?_
    refine RJ_nil ?_
    refine NJ_ret (.inr rfl) Try.results17 ResJ_nil ⟨rfl, rfl⟩ (.swap (C := [NdC g ma mb mc md N.cold N.since, MarksP ma 32 N.marks, CacheP mb (dropK key N.items) N.room N.kept, LeaseP mc 32 10 (adel key N.lease) N.last, HoldP md 32 ((noteR key index 32 N.tombs N.floor).1) ((noteR key index 32 N.tombs N.floor).2)]) (.k (e := (.k (e := (.k (e := (.k (e := (.k (e := (Imp.refl _))))))))))) (inv_close hI.symm (by simp [invN, hc]) (by simp [invN, hc])) (.k (e := skk)))
   ·skip
    refine RJ_nil ?_
    refine NJ_then ?_
    refine CJ_env (E' := [(0, _), (1, _), (2, _), (41, _)]) (.cons rfl rfl (.cons rfl rfl (.cons rfl rfl (.cons rfl rfl .nil)))) ?_
    refine CJ_else rfl (by simpa using hc) ?_
    refine CJ_skip ?_
    refine NJ_ret (.inr rfl) Try.results17 ResJ_nil ⟨rfl, rfl⟩ (.swap (C := [NdC g ma mb mc md N.cold N.since, MarksP ma 32 N.marks, CacheP mb (dropK key N.items) N.room N.kept, LeaseP mc 32 10 (adel key N.lease) N.last, HoldP md 32 (N.tombs) (N.floor)]) (.k (e := (.k (e := (.k (e := (.k (e := (.k (e := (Imp.refl _))))))))))) (inv_close hI.symm (by simp [invN, hc]) (by simp [invN, hc])) (.k (e := skk)))
  ·skip
   have hI : invI key index N.items = N.items := by unfold invI; rw [ht]; simp only [if_neg h1]
   refine RJ_q (Op_pick_t rfl rfl rfl) rfl ?_
   refine RJ_nil ?_
   refine NJ_then ?_
   refine CJ_env (E' := [(0, _), (1, _), (2, _), (25, _)]) (.cons rfl rfl (.cons rfl rfl (.cons rfl rfl (.cons rfl rfl .nil)))) ?_
   refine CJ_else rfl (decide_eq_false h1) ?_
   refine CJ_skip ?_
   refine NJ_then ?_
   refine CJ_env (E' := [(0, _), (1, _), (2, _)]) (.cons rfl rfl (.cons rfl rfl (.cons rfl rfl .nil))) ?_
   refine CJ_seq ?_
   refine CJ_region ?_
   refine RJ_q (Op_move rfl) rfl ?_
   refine RJ_q (Op_nilCheck rfl) rfl ?_
   refine RJ_q (Op_fieldAddr (o' := 2) rfl Try.underlying75 rfl sz72 rfl rfl) rfl ?_
   refine RJ_q (Op_load rfl (load_cell Try.underlying72 rfl pkk (Nth.s (Nth.s Nth.z)))) rfl ?_
   refine RJ_q (Op_move rfl) rfl ?_
   refine RJ_p rfl (Op_call (vs := [_, _]) Try.func44 rfl rfl (LsKill_any mc 32 10 N.lease N.last key) rfl (.k (e := (Imp.refl _)))) ?_
   rintro _ _ ⟨_, ⟨rfl, rfl⟩, rfl⟩
   refine RJ_app1 ?_
   refine RJ_nil ?_
   refine NJ_then ?_
   refine CJ_env (E' := [(0, _), (1, _), (2, _)]) (.cons rfl rfl (.cons rfl rfl (.cons rfl rfl .nil))) ?_
   refine CJ_seq ?_
   refine CJ_region ?_
   refine RJ_q (Op_move rfl) rfl ?_
   refine RJ_q (Op_nilCheck rfl) rfl ?_
   refine RJ_q (Op_fieldAddr (o' := 4) rfl Try.underlying75 rfl sz4 rfl rfl) rfl ?_
   refine RJ_q (Op_load rfl (load_cell Try.underlying4 rfl pkk (Nth.s (Nth.s (Nth.s (Nth.s Nth.z)))))) rfl ?_
   by_cases hc : N.cold = true
   ·skip
    refine RJ_nil ?_
    refine NJ_then ?_
    refine CJ_env (E' := [(0, _), (1, _), (2, _), (41, _)]) (.cons rfl rfl (.cons rfl rfl (.cons rfl rfl (.cons rfl rfl .nil)))) ?_
    refine CJ_then rfl hc ?_
    refine CJ_region ?_
    refine RJ_q (Op_move rfl) rfl ?_
    refine RJ_q (Op_nilCheck rfl) rfl ?_
    refine RJ_q (Op_fieldAddr (o' := 3) rfl Try.underlying75 rfl sz73 rfl rfl) rfl ?_
    refine RJ_q (Op_load rfl (load_cell Try.underlying73 rfl pkk (Nth.s (Nth.s (Nth.s Nth.z))))) rfl ?_
    refine RJ_q (Op_move rfl) rfl ?_
    refine RJ_q (Op_move rfl) rfl ?_
    refine RJ_p rfl (Op_call (vs := [_, _, _]) Try.func45 rfl rfl (HdNote_any md 32 N.tombs N.floor key index) rfl (.k (e := (Imp.refl _)))) ?_
    rintro _ _ ⟨_, ⟨rfl, rfl⟩, rfl⟩
    refine RJ_app1 ?_
    refine RJ_nil ?_
    refine NJ_ret (.inr rfl) Try.results17 ResJ_nil ⟨rfl, rfl⟩ (.swap (C := [NdC g ma mb mc md N.cold N.since, MarksP ma 32 N.marks, CacheP mb (N.items) N.room N.kept, LeaseP mc 32 10 (adel key N.lease) N.last, HoldP md 32 ((noteR key index 32 N.tombs N.floor).1) ((noteR key index 32 N.tombs N.floor).2)]) (.k (e := (.k (e := (.k (e := (.k (e := (.k (e := (Imp.refl _))))))))))) (inv_close hI.symm (by simp [invN, hc]) (by simp [invN, hc])) (.k (e := skk)))
   ·skip
    refine RJ_nil ?_
    refine NJ_then ?_
    refine CJ_env (E' := [(0, _), (1, _), (2, _), (41, _)]) (.cons rfl rfl (.cons rfl rfl (.cons rfl rfl (.cons rfl rfl .nil)))) ?_
    refine CJ_else rfl (by simpa using hc) ?_
    refine CJ_skip ?_
    refine NJ_ret (.inr rfl) Try.results17 ResJ_nil ⟨rfl, rfl⟩ (.swap (C := [NdC g ma mb mc md N.cold N.since, MarksP ma 32 N.marks, CacheP mb (N.items) N.room N.kept, LeaseP mc 32 10 (adel key N.lease) N.last, HoldP md 32 (N.tombs) (N.floor)]) (.k (e := (.k (e := (.k (e := (.k (e := (.k (e := (Imp.refl _))))))))))) (inv_close hI.symm (by simp [invN, hc]) (by simp [invN, hc])) (.k (e := skk)))
 ·skip
  have ht : findK key N.items = none := by simpa using hf
  have hI : invI key index N.items = N.items := by unfold invI; rw [ht]
  refine CJ_region ?_
  refine RJ_q (Op_move rfl) rfl ?_
  refine RJ_q (Op_nilCheck rfl) rfl ?_
  refine RJ_q (Op_fieldAddr (o' := 1) rfl Try.underlying75 rfl sz71 rfl rfl) rfl ?_
  refine RJ_q (Op_load rfl (load_cell Try.underlying71 rfl pkk (Nth.s Nth.z))) rfl ?_
  refine RJ_q (Op_move rfl) rfl ?_
  refine RJ_p rfl (Op_call (vs := [_, _]) Try.func33 rfl rfl (Peek_no mb N.items N.room N.kept key ht) rfl (.k (e := (Imp.refl _)))) ?_
  rintro _ _ ⟨_, ⟨rfl, rfl⟩, rfl⟩
  refine RJ_app1 ?_
  refine RJ_q (Op_move rfl) rfl ?_
  refine RJ_q (Op_extract rfl rfl) rfl ?_
  refine RJ_q (Op_extract rfl rfl) rfl ?_
  refine RJ_p rfl (Op_alloc zr77) ?_
  rintro _ _ ⟨b6, rfl, rfl⟩
  refine RJ_d0 (Op_store (cs' := #[_, _, _, _, _]) rfl rfl sz77 (by rfl) (by simp [Value.cells, Value.oneCell']) rpp rfl (free_zero _ _) (by rfl)) ?_
  refine RJ_q (Op_assign rfl) rfl ?_
  refine RJ_nil ?_
  refine NJ_then ?_
  refine CJ_env (E' := [(0, _), (1, _), (2, _), (6, _), (7, _)]) (.cons rfl rfl (.cons rfl rfl (.cons rfl rfl (.cons rfl rfl (.cons rfl rfl .nil))))) ?_
  refine CJ_seq ?_
  refine CJ_region ?_
  refine RJ_q (Op_move rfl) rfl ?_
  refine RJ_q (Op_move rfl) rfl ?_
  refine RJ_no (t := 20) false rfl rfl rfl (by decide) rfl ?_
  refine RJ_no (t := 20) false rfl rfl rfl (by decide) rfl ?_
  refine RJ_no (t := 20) false rfl rfl rfl (by decide) rfl ?_
  refine RJ_no (t := 20) false rfl rfl rfl (by decide) rfl ?_
  refine RJ_q (Op_pick_f rfl rfl rfl) rfl ?_
  refine RJ_nil ?_
  refine NJ_then ?_
  refine CJ_env (E' := [(0, _), (1, _), (2, _), (25, _)]) (.cons rfl rfl (.cons rfl rfl (.cons rfl rfl (.cons rfl rfl .nil)))) ?_
  refine CJ_else rfl rfl ?_
  refine CJ_skip ?_
  refine NJ_then ?_
  refine CJ_env (E' := [(0, _), (1, _), (2, _)]) (.cons rfl rfl (.cons rfl rfl (.cons rfl rfl .nil))) ?_
  refine CJ_seq ?_
  refine CJ_region ?_
  refine RJ_q (Op_move rfl) rfl ?_
  refine RJ_q (Op_nilCheck rfl) rfl ?_
  refine RJ_q (Op_fieldAddr (o' := 2) rfl Try.underlying75 rfl sz72 rfl rfl) rfl ?_
  refine RJ_q (Op_load rfl (load_cell Try.underlying72 rfl pkk (Nth.s (Nth.s Nth.z)))) rfl ?_
  refine RJ_q (Op_move rfl) rfl ?_
  refine RJ_p rfl (Op_call (vs := [_, _]) Try.func44 rfl rfl (LsKill_any mc 32 10 N.lease N.last key) rfl (.k (e := (Imp.refl _)))) ?_
  rintro _ _ ⟨_, ⟨rfl, rfl⟩, rfl⟩
  refine RJ_app1 ?_
  refine RJ_nil ?_
  refine NJ_then ?_
  refine CJ_env (E' := [(0, _), (1, _), (2, _)]) (.cons rfl rfl (.cons rfl rfl (.cons rfl rfl .nil))) ?_
  refine CJ_seq ?_
  refine CJ_region ?_
  refine RJ_q (Op_move rfl) rfl ?_
  refine RJ_q (Op_nilCheck rfl) rfl ?_
  refine RJ_q (Op_fieldAddr (o' := 4) rfl Try.underlying75 rfl sz4 rfl rfl) rfl ?_
  refine RJ_q (Op_load rfl (load_cell Try.underlying4 rfl pkk (Nth.s (Nth.s (Nth.s (Nth.s Nth.z)))))) rfl ?_
  by_cases hc : N.cold = true
  ·skip
   refine RJ_nil ?_
   refine NJ_then ?_
   refine CJ_env (E' := [(0, _), (1, _), (2, _), (41, _)]) (.cons rfl rfl (.cons rfl rfl (.cons rfl rfl (.cons rfl rfl .nil)))) ?_
   refine CJ_then rfl hc ?_
   refine CJ_region ?_
   refine RJ_q (Op_move rfl) rfl ?_
   refine RJ_q (Op_nilCheck rfl) rfl ?_
   refine RJ_q (Op_fieldAddr (o' := 3) rfl Try.underlying75 rfl sz73 rfl rfl) rfl ?_
   refine RJ_q (Op_load rfl (load_cell Try.underlying73 rfl pkk (Nth.s (Nth.s (Nth.s Nth.z))))) rfl ?_
   refine RJ_q (Op_move rfl) rfl ?_
   refine RJ_q (Op_move rfl) rfl ?_
   refine RJ_p rfl (Op_call (vs := [_, _, _]) Try.func45 rfl rfl (HdNote_any md 32 N.tombs N.floor key index) rfl (.k (e := (Imp.refl _)))) ?_
   rintro _ _ ⟨_, ⟨rfl, rfl⟩, rfl⟩
   refine RJ_app1 ?_
   refine RJ_nil ?_
   refine NJ_ret (.inr rfl) Try.results17 ResJ_nil ⟨rfl, rfl⟩ (.swap (C := [NdC g ma mb mc md N.cold N.since, MarksP ma 32 N.marks, CacheP mb (N.items) N.room N.kept, LeaseP mc 32 10 (adel key N.lease) N.last, HoldP md 32 ((noteR key index 32 N.tombs N.floor).1) ((noteR key index 32 N.tombs N.floor).2)]) (.k (e := (.k (e := (.k (e := (.k (e := (.k (e := (Imp.refl _))))))))))) (inv_close hI.symm (by simp [invN, hc]) (by simp [invN, hc])) (.k (e := skk)))
  ·skip
   refine RJ_nil ?_
   refine NJ_then ?_
   refine CJ_env (E' := [(0, _), (1, _), (2, _), (41, _)]) (.cons rfl rfl (.cons rfl rfl (.cons rfl rfl (.cons rfl rfl .nil)))) ?_
   refine CJ_else rfl (by simpa using hc) ?_
   refine CJ_skip ?_
   refine NJ_ret (.inr rfl) Try.results17 ResJ_nil ⟨rfl, rfl⟩ (.swap (C := [NdC g ma mb mc md N.cold N.since, MarksP ma 32 N.marks, CacheP mb (N.items) N.room N.kept, LeaseP mc 32 10 (adel key N.lease) N.last, HoldP md 32 (N.tombs) (N.floor)]) (.k (e := (.k (e := (.k (e := (.k (e := (.k (e := (Imp.refl _))))))))))) (inv_close hI.symm (by simp [invN, hc]) (by simp [invN, hc])) (.k (e := skk)))

set_option maxRecDepth 20000 in
theorem NdMark_any (g : Nat) (N : NodeS) (k : Nat) (hN : NOk k N) (hk : k ≤ 1000000) (key : ByteArray) (ses req : Int) (hks : key.size ≤ 10000) : Spec Try.prog 10 #[.pointer (some ⟨g, 0, none⟩), .string key, .int .i64 ses, .int .i64 req] [NodeP g N] (fun r C => r = .int .i64 (if (markN ⟨key, ses, req⟩ N).1 then 0 else 4) ∧ C = [NodeP g (markN ⟨key, ses, req⟩ N).2]) := by
 refine Spec_intro (n := 65) (args := [.pointer (some ⟨g, 0, none⟩), .string key, .int .i64 ses, .int .i64 req]) Try.func10 rfl rfl rfl fun s R => ?_
 refine CJ_app1 ?_
 refine CJ_env (E' := [(0, _), (1, _), (2, _), (3, _)]) (.cons rfl rfl (.cons rfl rfl (.cons rfl rfl (.cons rfl rfl .nil)))) ?_
 refine CJ_open (NodeP_opens _ _) pkk ?_
 rintro _ ⟨ma, mb, mc, md, rfl⟩
 refine CJ_app5 ?_
 have hil := hN.il
 refine CJ_seq ?_
 refine CJ_region ?_
 refine RJ_q (Op_assign rfl) rfl ?_
 refine RJ_nil ?_
 refine NJ_then ?_
 refine CJ_env (E' := [(0, _), (1, _), (2, _), (3, _), (8, _)]) (.cons rfl rfl (.cons rfl rfl (.cons rfl rfl (.cons rfl rfl (.cons rfl rfl .nil))))) ?_
 refine CJ_seq ?_
 refine CJ_seq ?_
 refine CJ_region ?_
 refine RJ_q (Op_move rfl) rfl ?_
 refine RJ_q (Op_ptr_eq_nil rfl rfl Try.underlying24) rfl ?_
 refine RJ_nil ?_
 refine NJ_then ?_
 refine CJ_env (E' := [(0, _), (1, _), (2, _), (3, _), (8, _), (14, _)]) (.cons rfl rfl (.cons rfl rfl (.cons rfl rfl (.cons rfl rfl (.cons rfl rfl (.cons rfl rfl .nil)))))) ?_
 refine CJ_else rfl rfl ?_
 refine CJ_skip ?_
 refine NJ_then ?_
 refine CJ_env (E' := [(0, _), (1, _), (2, _), (3, _), (8, _)]) (.cons rfl rfl (.cons rfl rfl (.cons rfl rfl (.cons rfl rfl (.cons rfl rfl .nil))))) ?_
 refine CJ_seq ?_
 by_cases hm : (⟨key, ses, req⟩ : Mark) ∈ N.marks
 ·skip
  refine CJ_region ?_
  refine RJ_q (Op_move rfl) rfl ?_
  refine RJ_q (Op_nilCheck rfl) rfl ?_
  refine RJ_q (Op_fieldAddr (o' := 0) rfl Try.underlying75 rfl sz70 rfl rfl) rfl ?_
  refine RJ_q (Op_fieldAddr (o' := 0) rfl Try.underlying70 rfl sz68 rfl rfl) rfl ?_
  refine RJ_q (Op_load rfl (load_cell Try.underlying68 rfl pkk Nth.z)) rfl ?_
  refine RJ_p rfl (Op_call (vs := [_]) Try.func28 rfl rfl (MkLen_any ma 32 N.marks) rfl (.k (e := (Imp.refl _)))) ?_
  rintro _ _ ⟨_, ⟨rfl, rfl⟩, rfl⟩
  refine RJ_app1 ?_
  refine RJ_q (Op_assign rfl) rfl ?_
  refine RJ_nil ?_
  refine NJ_then ?_
  refine CJ_env (E' := [(0, _), (1, _), (2, _), (3, _), (8, _), (9, _)]) (.cons rfl rfl (.cons rfl rfl (.cons rfl rfl (.cons rfl rfl (.cons rfl rfl (.cons rfl rfl .nil)))))) ?_
  refine CJ_seq ?_
  refine CJ_seq ?_
  by_cases hl : (32 : Int) ≤ (N.marks.length : Int)
  ·skip
   refine CJ_region ?_
   refine RJ_q (Op_move rfl) rfl ?_
   refine RJ_q (Op_nilCheck rfl) rfl ?_
   refine RJ_q (Op_fieldAddr (o' := 0) rfl Try.underlying75 rfl sz70 rfl rfl) rfl ?_
   refine RJ_q (Op_fieldAddr (o' := 0) rfl Try.underlying70 rfl sz68 rfl rfl) rfl ?_
   refine RJ_q (Op_load rfl (load_cell Try.underlying68 rfl pkk Nth.z)) rfl ?_
   refine RJ_q (Op_move rfl) rfl ?_
   refine RJ_q (Op_move rfl) rfl ?_
   refine RJ_q (Op_move rfl) rfl ?_
   refine RJ_p rfl (Op_call (vs := [_, _, _, _]) Try.func29 rfl rfl (MkSet_any ma 32 N.marks key ses req) rfl (.k (e := (Imp.refl _)))) ?_
   rintro _ _ ⟨_, ⟨rfl, rfl⟩, rfl⟩
   refine RJ_app1 ?_
   rw [setR_in hm]
   refine RJ_q (Op_assign rfl) rfl ?_
   refine RJ_nil ?_
   refine NJ_then ?_
   refine CJ_env (E' := [(0, _), (1, _), (2, _), (3, _), (8, _), (9, _), (10, _)]) (.cons rfl rfl (.cons rfl rfl (.cons rfl rfl (.cons rfl rfl (.cons rfl rfl (.cons rfl rfl (.cons rfl rfl .nil))))))) ?_
   refine CJ_seq ?_
   refine CJ_region ?_
   refine RJ_q (Op_move rfl) rfl ?_
   refine RJ_q (Op_neq rfl rfl) rfl ?_
   refine RJ_q (Op_move rfl) rfl ?_
   refine RJ_yes (t := 32) rfl rfl (by simp) ?_
   refine RJ_q (Op_move rfl) rfl ?_
   refine RJ_yes (t := 32) rfl rfl (by simp) ?_
   refine RJ_q (Op_nilCheck rfl) rfl ?_
   refine RJ_yes (t := 32) rfl rfl (by simp) ?_
   refine RJ_q (Op_fieldAddr (o' := 0) rfl Try.underlying75 rfl sz70 rfl rfl) rfl ?_
   refine RJ_yes (t := 32) rfl rfl (by simp) ?_
   refine RJ_q (Op_fieldAddr (o' := 0) rfl Try.underlying70 rfl sz68 rfl rfl) rfl ?_
   refine RJ_yes (t := 32) rfl rfl (by simp) ?_
   refine RJ_q (Op_load rfl (load_cell Try.underlying68 rfl pkk Nth.z)) rfl ?_
   refine RJ_yes (t := 32) rfl rfl (by simp) ?_
   refine RJ_p rfl (Op_call (vs := [_]) Try.func28 rfl rfl (MkLen_any ma 32 N.marks) rfl (.k (e := (Imp.refl _)))) ?_
   rintro _ _ ⟨_, ⟨rfl, rfl⟩, rfl⟩
   refine RJ_app1 ?_
   refine RJ_yes (t := 32) rfl rfl (by simp) ?_
   refine RJ_q (Op_move rfl) rfl ?_
   refine RJ_yes (t := 32) rfl rfl (by simp) ?_
   refine RJ_q (Op_eql rfl rfl) rfl ?_
   refine RJ_q (Op_pick_f rfl (by simp) rfl) rfl ?_
   refine RJ_nil ?_
   refine NJ_then ?_
   refine CJ_env (E' := [(0, _), (1, _), (2, _), (3, _), (8, _), (10, _), (41, _)]) (.cons rfl rfl (.cons rfl rfl (.cons rfl rfl (.cons rfl rfl (.cons rfl rfl (.cons rfl rfl (.cons rfl rfl .nil))))))) ?_
   refine CJ_then rfl (by simp) ?_
   refine CJ_seq ?_
   refine CJ_region ?_
   refine RJ_q (Op_move rfl) rfl ?_
   refine RJ_q (Op_assign rfl) rfl ?_
   refine RJ_nil ?_
   refine NJ_then ?_
   refine CJ_env (E' := [(8, _)]) (.cons rfl rfl .nil) ?_
   refine CJ_ret ?_
   refine NJ_then_r ?_
   have hU : markN ⟨key, ses, req⟩ N = (true, N) := by unfold markN; rw [if_pos hm]
   rw [hU]
   refine NJ_ret (.inl rfl) Try.results10 (ResJ_tmp rfl ResJ_nil) ⟨rfl, rfl⟩ (.swap (C := NodeRaw g ma mb mc md (N)) (.k (e := (.k (e := (.k (e := (.k (e := (.k (e := (Imp.refl _))))))))))) (NodeP_close (N := N)) (.k (e := skk)))
  ·skip
   refine CJ_region ?_
   refine RJ_q (Op_move rfl) rfl ?_
   refine RJ_q (Op_nilCheck rfl) rfl ?_
   refine RJ_q (Op_fieldAddr (o' := 0) rfl Try.underlying75 rfl sz70 rfl rfl) rfl ?_
   refine RJ_q (Op_fieldAddr (o' := 0) rfl Try.underlying70 rfl sz68 rfl rfl) rfl ?_
   refine RJ_q (Op_load rfl (load_cell Try.underlying68 rfl pkk Nth.z)) rfl ?_
   refine RJ_q (Op_move rfl) rfl ?_
   refine RJ_q (Op_move rfl) rfl ?_
   refine RJ_q (Op_move rfl) rfl ?_
   refine RJ_p rfl (Op_call (vs := [_, _, _, _]) Try.func29 rfl rfl (MkSet_any ma 32 N.marks key ses req) rfl (.k (e := (Imp.refl _)))) ?_
   rintro _ _ ⟨_, ⟨rfl, rfl⟩, rfl⟩
   refine RJ_app1 ?_
   rw [setR_in hm]
   refine RJ_q (Op_assign rfl) rfl ?_
   refine RJ_nil ?_
   refine NJ_then ?_
   refine CJ_env (E' := [(0, _), (1, _), (2, _), (3, _), (8, _), (9, _), (10, _)]) (.cons rfl rfl (.cons rfl rfl (.cons rfl rfl (.cons rfl rfl (.cons rfl rfl (.cons rfl rfl (.cons rfl rfl .nil))))))) ?_
   refine CJ_seq ?_
   refine CJ_region ?_
   refine RJ_q (Op_move rfl) rfl ?_
   refine RJ_q (Op_neq rfl rfl) rfl ?_
   refine RJ_q (Op_move rfl) rfl ?_
   refine RJ_yes (t := 32) rfl rfl (by simp) ?_
   refine RJ_q (Op_move rfl) rfl ?_
   refine RJ_yes (t := 32) rfl rfl (by simp) ?_
   refine RJ_q (Op_nilCheck rfl) rfl ?_
   refine RJ_yes (t := 32) rfl rfl (by simp) ?_
   refine RJ_q (Op_fieldAddr (o' := 0) rfl Try.underlying75 rfl sz70 rfl rfl) rfl ?_
   refine RJ_yes (t := 32) rfl rfl (by simp) ?_
   refine RJ_q (Op_fieldAddr (o' := 0) rfl Try.underlying70 rfl sz68 rfl rfl) rfl ?_
   refine RJ_yes (t := 32) rfl rfl (by simp) ?_
   refine RJ_q (Op_load rfl (load_cell Try.underlying68 rfl pkk Nth.z)) rfl ?_
   refine RJ_yes (t := 32) rfl rfl (by simp) ?_
   refine RJ_p rfl (Op_call (vs := [_]) Try.func28 rfl rfl (MkLen_any ma 32 N.marks) rfl (.k (e := (Imp.refl _)))) ?_
   rintro _ _ ⟨_, ⟨rfl, rfl⟩, rfl⟩
   refine RJ_app1 ?_
   refine RJ_yes (t := 32) rfl rfl (by simp) ?_
   refine RJ_q (Op_move rfl) rfl ?_
   refine RJ_yes (t := 32) rfl rfl (by simp) ?_
   refine RJ_q (Op_eql rfl rfl) rfl ?_
   refine RJ_q (Op_pick_f rfl (by simp) rfl) rfl ?_
   refine RJ_nil ?_
   refine NJ_then ?_
   refine CJ_env (E' := [(0, _), (1, _), (2, _), (3, _), (8, _), (10, _), (41, _)]) (.cons rfl rfl (.cons rfl rfl (.cons rfl rfl (.cons rfl rfl (.cons rfl rfl (.cons rfl rfl (.cons rfl rfl .nil))))))) ?_
   refine CJ_then rfl (by simp) ?_
   refine CJ_seq ?_
   refine CJ_region ?_
   refine RJ_q (Op_move rfl) rfl ?_
   refine RJ_q (Op_assign rfl) rfl ?_
   refine RJ_nil ?_
   refine NJ_then ?_
   refine CJ_env (E' := [(8, _)]) (.cons rfl rfl .nil) ?_
   refine CJ_ret ?_
   refine NJ_then_r ?_
   have hU : markN ⟨key, ses, req⟩ N = (true, N) := by unfold markN; rw [if_pos hm]
   rw [hU]
   refine NJ_ret (.inl rfl) Try.results10 (ResJ_tmp rfl ResJ_nil) ⟨rfl, rfl⟩ (.swap (C := NodeRaw g ma mb mc md (N)) (.k (e := (.k (e := (.k (e := (.k (e := (.k (e := (Imp.refl _))))))))))) (NodeP_close (N := N)) (.k (e := skk)))
 ·skip
  refine CJ_region ?_
  refine RJ_q (Op_move rfl) rfl ?_
  refine RJ_q (Op_nilCheck rfl) rfl ?_
  refine RJ_q (Op_fieldAddr (o' := 0) rfl Try.underlying75 rfl sz70 rfl rfl) rfl ?_
  refine RJ_q (Op_fieldAddr (o' := 0) rfl Try.underlying70 rfl sz68 rfl rfl) rfl ?_
  refine RJ_q (Op_load rfl (load_cell Try.underlying68 rfl pkk Nth.z)) rfl ?_
  refine RJ_p rfl (Op_call (vs := [_]) Try.func28 rfl rfl (MkLen_any ma 32 N.marks) rfl (.k (e := (Imp.refl _)))) ?_
  rintro _ _ ⟨_, ⟨rfl, rfl⟩, rfl⟩
  refine RJ_app1 ?_
  refine RJ_q (Op_assign rfl) rfl ?_
  refine RJ_nil ?_
  refine NJ_then ?_
  refine CJ_env (E' := [(0, _), (1, _), (2, _), (3, _), (8, _), (9, _)]) (.cons rfl rfl (.cons rfl rfl (.cons rfl rfl (.cons rfl rfl (.cons rfl rfl (.cons rfl rfl .nil)))))) ?_
  refine CJ_seq ?_
  refine CJ_seq ?_
  by_cases hl : (32 : Int) ≤ (N.marks.length : Int)
  ·skip
   refine CJ_region ?_
   refine RJ_q (Op_move rfl) rfl ?_
   refine RJ_q (Op_nilCheck rfl) rfl ?_
   refine RJ_q (Op_fieldAddr (o' := 0) rfl Try.underlying75 rfl sz70 rfl rfl) rfl ?_
   refine RJ_q (Op_fieldAddr (o' := 0) rfl Try.underlying70 rfl sz68 rfl rfl) rfl ?_
   refine RJ_q (Op_load rfl (load_cell Try.underlying68 rfl pkk Nth.z)) rfl ?_
   refine RJ_q (Op_move rfl) rfl ?_
   refine RJ_q (Op_move rfl) rfl ?_
   refine RJ_q (Op_move rfl) rfl ?_
   refine RJ_p rfl (Op_call (vs := [_, _, _, _]) Try.func29 rfl rfl (MkSet_any ma 32 N.marks key ses req) rfl (.k (e := (Imp.refl _)))) ?_
   rintro _ _ ⟨_, ⟨rfl, rfl⟩, rfl⟩
   refine RJ_app1 ?_
   rw [setR_full hm hl]
   refine RJ_q (Op_assign rfl) rfl ?_
   refine RJ_nil ?_
   refine NJ_then ?_
   refine CJ_env (E' := [(0, _), (1, _), (2, _), (3, _), (8, _), (9, _), (10, _)]) (.cons rfl rfl (.cons rfl rfl (.cons rfl rfl (.cons rfl rfl (.cons rfl rfl (.cons rfl rfl (.cons rfl rfl .nil))))))) ?_
   refine CJ_seq ?_
   refine CJ_region ?_
   refine RJ_q (Op_move rfl) rfl ?_
   refine RJ_q (Op_neq rfl rfl) rfl ?_
   refine RJ_q (Op_move rfl) rfl ?_
   refine RJ_no (t := 32) true rfl rfl (by simp) (by decide) rfl ?_
   refine RJ_no (t := 32) true rfl rfl (by simp) (by decide) rfl ?_
   refine RJ_no (t := 32) true rfl rfl (by simp) (by decide) rfl ?_
   refine RJ_no (t := 32) true rfl rfl (by simp) (by decide) rfl ?_
   refine RJ_no (t := 32) true rfl rfl (by simp) (by decide) rfl ?_
   refine RJ_no (t := 32) true rfl rfl (by simp) (by decide) rfl ?_
   refine RJ_no (t := 32) true rfl rfl (by simp) (by decide) rfl ?_
   refine RJ_no (t := 32) true rfl rfl (by simp) (by decide) rfl ?_
   refine RJ_q (Op_pick_t rfl (by simp) rfl) rfl ?_
   refine RJ_nil ?_
   refine NJ_then ?_
   refine CJ_env (E' := [(0, _), (1, _), (2, _), (3, _), (8, _), (10, _), (41, _)]) (.cons rfl rfl (.cons rfl rfl (.cons rfl rfl (.cons rfl rfl (.cons rfl rfl (.cons rfl rfl (.cons rfl rfl .nil))))))) ?_
   refine CJ_then rfl rfl ?_
   refine CJ_seq ?_
   refine CJ_region ?_
   refine RJ_q (Op_move rfl) rfl ?_
   refine RJ_q (Op_assign rfl) rfl ?_
   refine RJ_nil ?_
   refine NJ_then ?_
   refine CJ_env (E' := [(8, _)]) (.cons rfl rfl .nil) ?_
   refine CJ_ret ?_
   refine NJ_then_r ?_
   have hU : markN ⟨key, ses, req⟩ N = (false, N) := by unfold markN; rw [if_neg hm, if_pos hl]
   rw [hU]
   refine NJ_ret (.inl rfl) Try.results10 (ResJ_tmp rfl ResJ_nil) ⟨rfl, rfl⟩ (.swap (C := NodeRaw g ma mb mc md (N)) (.k (e := (.k (e := (.k (e := (.k (e := (.k (e := (Imp.refl _))))))))))) (NodeP_close (N := N)) (.k (e := skk)))
  ·skip
   refine CJ_region ?_
   refine RJ_q (Op_move rfl) rfl ?_
   refine RJ_q (Op_nilCheck rfl) rfl ?_
   refine RJ_q (Op_fieldAddr (o' := 0) rfl Try.underlying75 rfl sz70 rfl rfl) rfl ?_
   refine RJ_q (Op_fieldAddr (o' := 0) rfl Try.underlying70 rfl sz68 rfl rfl) rfl ?_
   refine RJ_q (Op_load rfl (load_cell Try.underlying68 rfl pkk Nth.z)) rfl ?_
   refine RJ_q (Op_move rfl) rfl ?_
   refine RJ_q (Op_move rfl) rfl ?_
   refine RJ_q (Op_move rfl) rfl ?_
   refine RJ_p rfl (Op_call (vs := [_, _, _, _]) Try.func29 rfl rfl (MkSet_any ma 32 N.marks key ses req) rfl (.k (e := (Imp.refl _)))) ?_
   rintro _ _ ⟨_, ⟨rfl, rfl⟩, rfl⟩
   refine RJ_app1 ?_
   rw [setR_new hm hl]
   refine RJ_q (Op_assign rfl) rfl ?_
   refine RJ_nil ?_
   refine NJ_then ?_
   refine CJ_env (E' := [(0, _), (1, _), (2, _), (3, _), (8, _), (9, _), (10, _)]) (.cons rfl rfl (.cons rfl rfl (.cons rfl rfl (.cons rfl rfl (.cons rfl rfl (.cons rfl rfl (.cons rfl rfl .nil))))))) ?_
   refine CJ_seq ?_
   refine CJ_region ?_
   refine RJ_q (Op_move rfl) rfl ?_
   refine RJ_q (Op_neq rfl rfl) rfl ?_
   refine RJ_q (Op_move rfl) rfl ?_
   refine RJ_yes (t := 32) rfl rfl (by simp) ?_
   refine RJ_q (Op_move rfl) rfl ?_
   refine RJ_yes (t := 32) rfl rfl (by simp) ?_
   refine RJ_q (Op_nilCheck rfl) rfl ?_
   refine RJ_yes (t := 32) rfl rfl (by simp) ?_
   refine RJ_q (Op_fieldAddr (o' := 0) rfl Try.underlying75 rfl sz70 rfl rfl) rfl ?_
   refine RJ_yes (t := 32) rfl rfl (by simp) ?_
   refine RJ_q (Op_fieldAddr (o' := 0) rfl Try.underlying70 rfl sz68 rfl rfl) rfl ?_
   refine RJ_yes (t := 32) rfl rfl (by simp) ?_
   refine RJ_q (Op_load rfl (load_cell Try.underlying68 rfl pkk Nth.z)) rfl ?_
   refine RJ_yes (t := 32) rfl rfl (by simp) ?_
   refine RJ_p rfl (Op_call (vs := [_]) Try.func28 rfl rfl (MkLen_any ma 32 (N.marks ++ [⟨key, ses, req⟩])) rfl (.k (e := (Imp.refl _)))) ?_
   rintro _ _ ⟨_, ⟨rfl, rfl⟩, rfl⟩
   refine RJ_app1 ?_
   refine RJ_yes (t := 32) rfl rfl (by simp) ?_
   refine RJ_q (Op_move rfl) rfl ?_
   refine RJ_yes (t := 32) rfl rfl (by simp) ?_
   refine RJ_q (Op_eql rfl rfl) rfl ?_
   refine RJ_q (Op_pick_f rfl (by simp) rfl) rfl ?_
   refine RJ_nil ?_
   refine NJ_then ?_
   refine CJ_env (E' := [(0, _), (1, _), (2, _), (3, _), (8, _), (10, _), (41, _)]) (.cons rfl rfl (.cons rfl rfl (.cons rfl rfl (.cons rfl rfl (.cons rfl rfl (.cons rfl rfl (.cons rfl rfl .nil))))))) ?_
   refine CJ_else rfl (by simp; omega) ?_
   refine CJ_skip ?_
   refine NJ_then ?_
   refine CJ_env (E' := [(0, _), (1, _), (2, _), (3, _), (8, _)]) (.cons rfl rfl (.cons rfl rfl (.cons rfl rfl (.cons rfl rfl (.cons rfl rfl .nil))))) ?_
   refine CJ_seq ?_
   refine CJ_seq ?_
   refine CJ_region ?_
   refine RJ_q (Op_move rfl) rfl ?_
   refine RJ_q (Op_nilCheck rfl) rfl ?_
   refine RJ_q (Op_fieldAddr (o' := 1) rfl Try.underlying75 rfl sz71 rfl rfl) rfl ?_
   refine RJ_q (Op_load rfl (load_cell Try.underlying71 rfl pkk (Nth.s Nth.z))) rfl ?_
   refine RJ_q (Op_move rfl) rfl ?_
   refine RJ_q (Op_len_str rfl Try.underlying9) rfl ?_
   refine RJ_q (Op_add64 rfl rfl (by omega)) rfl ?_
   refine RJ_p rfl (Op_call (vs := [_, _]) Try.func30 rfl rfl (Reserve_any mb N.items N.room N.kept hN.it (over key) (by unfold over; omega) (by omega)) rfl (.k (e := (Imp.refl _)))) ?_
   rintro _ _ ⟨_, ⟨ra, rc, rfl, rfl⟩, rfl⟩
   refine RJ_app2 ?_
   refine RJ_q (Op_move rfl) rfl ?_
   refine RJ_q (Op_extract rfl rfl) rfl ?_
   refine RJ_q (Op_extract rfl rfl) rfl ?_
   refine RJ_q (Op_assign rfl) rfl ?_
   refine RJ_q (Op_assign rfl) rfl ?_
   refine RJ_nil ?_
   refine NJ_then ?_
   refine CJ_env (E' := [(0, _), (1, _), (2, _), (3, _), (8, _), (12, _)]) (.cons rfl rfl (.cons rfl rfl (.cons rfl rfl (.cons rfl rfl (.cons rfl rfl (.cons rfl rfl .nil)))))) ?_
   refine CJ_seq ?_
   refine CJ_region ?_
   refine RJ_q (Op_move rfl) rfl ?_
   refine RJ_q (Op_not rfl) rfl ?_
   by_cases hr : (resR N.items N.room N.kept (over key)).2.1 = true
   ·skip
    refine RJ_nil ?_
    refine NJ_then ?_
    refine CJ_env (E' := [(0, _), (1, _), (2, _), (3, _), (8, _), (55, _)]) (.cons rfl rfl (.cons rfl rfl (.cons rfl rfl (.cons rfl rfl (.cons rfl rfl (.cons rfl rfl .nil)))))) ?_
    refine CJ_else rfl (by simp [hr]) ?_
    refine CJ_skip ?_
    refine NJ_then ?_
    refine CJ_env (E' := [(8, _)]) (.cons rfl rfl .nil) ?_
    refine CJ_seq ?_
    refine CJ_region ?_
    refine RJ_q (Op_assign rfl) rfl ?_
    refine RJ_nil ?_
    refine NJ_then ?_
    refine CJ_env (E' := [(8, _)]) (.cons rfl rfl .nil) ?_
    refine CJ_ret ?_
    have hU : markN ⟨key, ses, req⟩ N = (true, { N with marks := N.marks ++ [⟨key, ses, req⟩], items := (resR N.items N.room N.kept (over key)).2.2.1, kept := (resR N.items N.room N.kept (over key)).2.2.2 }) := by unfold markN; rw [if_neg hm, if_neg hl, if_pos hr]
    rw [hU]
    refine NJ_ret (.inl rfl) Try.results10 (ResJ_tmp rfl ResJ_nil) ⟨rfl, rfl⟩ (.swap (C := NodeRaw g ma mb mc md ({ N with marks := N.marks ++ [⟨key, ses, req⟩], items := (resR N.items N.room N.kept (over key)).2.2.1, kept := (resR N.items N.room N.kept (over key)).2.2.2 })) (.k (e := (.k (e := (.k (e := (.k (e := (.k (e := (Imp.refl _))))))))))) (NodeP_close (N := { N with marks := N.marks ++ [⟨key, ses, req⟩], items := (resR N.items N.room N.kept (over key)).2.2.1, kept := (resR N.items N.room N.kept (over key)).2.2.2 })) (.k (e := skk)))
   ·skip
    rw [resR_no hr]
    refine RJ_nil ?_
    refine NJ_then ?_
    refine CJ_env (E' := [(0, _), (1, _), (2, _), (3, _), (8, _), (55, _)]) (.cons rfl rfl (.cons rfl rfl (.cons rfl rfl (.cons rfl rfl (.cons rfl rfl (.cons rfl rfl .nil)))))) ?_
    refine CJ_then rfl (by simp [hr]) ?_
    refine CJ_seq ?_
    refine CJ_region ?_
    refine RJ_q (Op_move rfl) rfl ?_
    refine RJ_q (Op_nilCheck rfl) rfl ?_
    refine RJ_q (Op_fieldAddr (o' := 0) rfl Try.underlying75 rfl sz70 rfl rfl) rfl ?_
    refine RJ_q (Op_fieldAddr (o' := 0) rfl Try.underlying70 rfl sz68 rfl rfl) rfl ?_
    refine RJ_q (Op_load rfl (load_cell Try.underlying68 rfl pkk Nth.z)) rfl ?_
    refine RJ_q (Op_move rfl) rfl ?_
    refine RJ_q (Op_move rfl) rfl ?_
    refine RJ_q (Op_move rfl) rfl ?_
    refine RJ_p rfl (Op_call (vs := [_, _, _, _]) Try.func31 rfl rfl (MkClear_any ma 32 (N.marks ++ [⟨key, ses, req⟩]) key ses req) rfl (.k (e := (Imp.refl _)))) ?_
    rintro _ _ ⟨_, ⟨rfl, rfl⟩, rfl⟩
    refine RJ_app1 ?_
    rw [mark_undo hm]
    refine RJ_nil ?_
    refine NJ_then ?_
    refine CJ_env (E' := [(8, _)]) (.cons rfl rfl .nil) ?_
    refine CJ_seq ?_
    refine CJ_region ?_
    refine RJ_q (Op_assign rfl) rfl ?_
    refine RJ_nil ?_
    refine NJ_then ?_
    refine CJ_env (E' := [(8, _)]) (.cons rfl rfl .nil) ?_
    refine CJ_ret ?_
    refine NJ_then_r ?_
    have hU : markN ⟨key, ses, req⟩ N = (false, N) := by unfold markN; rw [if_neg hm, if_neg hl, if_neg hr]
    rw [hU]
    refine NJ_ret (.inl rfl) Try.results10 (ResJ_tmp rfl ResJ_nil) ⟨rfl, rfl⟩ (.swap (C := NodeRaw g ma mb mc md (N)) (.k (e := (.k (e := (.k (e := (.k (e := (.k (e := (Imp.refl _))))))))))) (NodeP_close (N := N)) (.k (e := skk)))

set_option maxRecDepth 20000 in
theorem NdUnmark_any (g : Nat) (N : NodeS) (k : Nat) (hN : NOk k N) (hk : k ≤ 1000000) (key : ByteArray) (ses req : Int) (hks : key.size ≤ 10000) : Spec Try.prog 11 #[.pointer (some ⟨g, 0, none⟩), .string key, .int .i64 ses, .int .i64 req] [NodeP g N] (fun r C => r = .bool (unmarkN ⟨key, ses, req⟩ N).1 ∧ C = [NodeP g (unmarkN ⟨key, ses, req⟩ N).2]) := by
 refine Spec_intro (n := 31) (args := [.pointer (some ⟨g, 0, none⟩), .string key, .int .i64 ses, .int .i64 req]) Try.func11 rfl rfl rfl fun s R => ?_
 refine CJ_app1 ?_
 refine CJ_env (E' := [(0, _), (1, _), (2, _), (3, _)]) (.cons rfl rfl (.cons rfl rfl (.cons rfl rfl (.cons rfl rfl .nil)))) ?_
 refine CJ_open (NodeP_opens _ _) pkk ?_
 rintro _ ⟨ma, mb, mc, md, rfl⟩
 refine CJ_app5 ?_
 have hil := hN.il
 refine CJ_seq ?_
 refine CJ_region ?_
 refine RJ_q (Op_assign rfl) rfl ?_
 refine RJ_nil ?_
 refine NJ_then ?_
 refine CJ_env (E' := [(0, _), (1, _), (2, _), (3, _), (8, _)]) (.cons rfl rfl (.cons rfl rfl (.cons rfl rfl (.cons rfl rfl (.cons rfl rfl .nil))))) ?_
 refine CJ_seq ?_
 refine CJ_seq ?_
 refine CJ_region ?_
 refine RJ_q (Op_move rfl) rfl ?_
 refine RJ_q (Op_ptr_eq_nil rfl rfl Try.underlying24) rfl ?_
 refine RJ_q (Op_move rfl) rfl ?_
 refine RJ_yes (t := 11) rfl rfl rfl ?_
 refine RJ_q (Op_move rfl) rfl ?_
 refine RJ_yes (t := 11) rfl rfl rfl ?_
 refine RJ_q (Op_nilCheck rfl) rfl ?_
 refine RJ_yes (t := 11) rfl rfl rfl ?_
 refine RJ_q (Op_fieldAddr (o' := 0) rfl Try.underlying75 rfl sz70 rfl rfl) rfl ?_
 refine RJ_yes (t := 11) rfl rfl rfl ?_
 refine RJ_q (Op_fieldAddr (o' := 0) rfl Try.underlying70 rfl sz68 rfl rfl) rfl ?_
 refine RJ_yes (t := 11) rfl rfl rfl ?_
 refine RJ_q (Op_load rfl (load_cell Try.underlying68 rfl pkk Nth.z)) rfl ?_
 refine RJ_yes (t := 11) rfl rfl rfl ?_
 refine RJ_q (Op_move rfl) rfl ?_
 refine RJ_yes (t := 11) rfl rfl rfl ?_
 refine RJ_q (Op_move rfl) rfl ?_
 refine RJ_yes (t := 11) rfl rfl rfl ?_
 refine RJ_q (Op_move rfl) rfl ?_
 refine RJ_yes (t := 11) rfl rfl rfl ?_
 refine RJ_p rfl (Op_call (vs := [_, _, _, _]) Try.func31 rfl rfl (MkClear_any ma 32 N.marks key ses req) rfl (.k (e := (Imp.refl _)))) ?_
 rintro _ _ ⟨_, ⟨rfl, rfl⟩, rfl⟩
 refine RJ_app1 ?_
 refine RJ_yes (t := 11) rfl rfl rfl ?_
 refine RJ_q (Op_not rfl) rfl ?_
 by_cases hm : (⟨key, ses, req⟩ : Mark) ∈ N.marks
 ·skip
  rw [if_pos hm]
  refine RJ_q (Op_pick_f rfl rfl rfl) rfl ?_
  refine RJ_nil ?_
  refine NJ_then ?_
  refine CJ_env (E' := [(0, _), (1, _), (8, _), (22, _)]) (.cons rfl rfl (.cons rfl rfl (.cons rfl rfl (.cons rfl rfl .nil)))) ?_
  refine CJ_else rfl (by simp [hm]) ?_
  refine CJ_skip ?_
  refine NJ_then ?_
  refine CJ_env (E' := [(0, _), (1, _), (8, _)]) (.cons rfl rfl (.cons rfl rfl (.cons rfl rfl .nil))) ?_
  refine CJ_seq ?_
  refine CJ_region ?_
  refine RJ_q (Op_move rfl) rfl ?_
  refine RJ_q (Op_nilCheck rfl) rfl ?_
  refine RJ_q (Op_fieldAddr (o' := 1) rfl Try.underlying75 rfl sz71 rfl rfl) rfl ?_
  refine RJ_q (Op_load rfl (load_cell Try.underlying71 rfl pkk (Nth.s Nth.z))) rfl ?_
  refine RJ_q (Op_move rfl) rfl ?_
  refine RJ_q (Op_len_str rfl Try.underlying9) rfl ?_
  refine RJ_q (Op_add64 rfl rfl (by omega)) rfl ?_
  refine RJ_p rfl (Op_call (vs := [_, _]) Try.func32 rfl rfl (Release_any mb N.items N.room N.kept hN.it (over key)) rfl (.k (e := (Imp.refl _)))) ?_
  rintro _ _ ⟨_, ⟨rfl, rfl⟩, rfl⟩
  refine RJ_app1 ?_
  refine RJ_nil ?_
  refine NJ_then ?_
  refine CJ_env (E' := [(8, _)]) (.cons rfl rfl .nil) ?_
  refine CJ_seq ?_
  refine CJ_region ?_
  refine RJ_q (Op_assign rfl) rfl ?_
  refine RJ_nil ?_
  refine NJ_then ?_
  refine CJ_env (E' := [(8, _)]) (.cons rfl rfl .nil) ?_
  refine CJ_ret ?_
  have hU : unmarkN ⟨key, ses, req⟩ N = (true, { N with marks := N.marks.erase ⟨key, ses, req⟩, kept := relR N.kept (over key) }) := by unfold unmarkN; rw [if_pos hm]
  rw [hU]
  refine NJ_ret (.inl rfl) Try.results11 (ResJ_tmp rfl ResJ_nil) ⟨rfl, rfl⟩ (.swap (C := NodeRaw g ma mb mc md ({ N with marks := N.marks.erase ⟨key, ses, req⟩, kept := relR N.kept (over key) })) (.k (e := (.k (e := (.k (e := (.k (e := (.k (e := (Imp.refl _))))))))))) (NodeP_close (N := { N with marks := N.marks.erase ⟨key, ses, req⟩, kept := relR N.kept (over key) })) (.k (e := skk)))
 ·skip
  rw [if_neg hm]
  refine RJ_q (Op_pick_f rfl rfl rfl) rfl ?_
  refine RJ_nil ?_
  refine NJ_then ?_
  refine CJ_env (E' := [(0, _), (1, _), (8, _), (22, _)]) (.cons rfl rfl (.cons rfl rfl (.cons rfl rfl (.cons rfl rfl .nil)))) ?_
  refine CJ_then rfl (by simp [hm]) ?_
  refine CJ_seq ?_
  refine CJ_region ?_
  refine RJ_q (Op_assign rfl) rfl ?_
  refine RJ_nil ?_
  refine NJ_then ?_
  refine CJ_env (E' := [(8, _)]) (.cons rfl rfl .nil) ?_
  refine CJ_ret ?_
  refine NJ_then_r ?_
  have hU : unmarkN ⟨key, ses, req⟩ N = (false, N) := by unfold unmarkN; rw [if_neg hm]
  rw [hU]
  refine NJ_ret (.inl rfl) Try.results11 (ResJ_tmp rfl ResJ_nil) ⟨rfl, rfl⟩ (.swap (C := NodeRaw g ma mb mc md (N)) (.k (e := (.k (e := (.k (e := (.k (e := (.k (e := (Imp.refl _))))))))))) (NodeP_close (N := N)) (.k (e := skk)))

set_option maxRecDepth 20000 in
theorem NdTick_any (g : Nat) (N : NodeS) (k : Nat) (hN : NOk k N) (hk : k ≤ 1000000) : Spec Try.prog 21 #[.pointer (some ⟨g, 0, none⟩)] [NodeP g N] (fun r C => r = .tuple #[] ∧ C = [NodeP g (tickN N)]) := by
 refine Spec_intro (n := 9) (args := [.pointer (some ⟨g, 0, none⟩)]) Try.func21 rfl rfl rfl fun s R => ?_
 refine CJ_app1 ?_
 refine CJ_env (E' := [(0, _)]) (.cons rfl rfl .nil) ?_
 refine CJ_open (NodeP_opens _ _) pkk ?_
 rintro _ ⟨ma, mb, mc, md, rfl⟩
 refine CJ_app5 ?_
 refine CJ_seq ?_
 refine CJ_region ?_
 refine RJ_q (Op_move rfl) rfl ?_
 refine RJ_q (Op_ptr_ne_nil rfl rfl Try.underlying24) rfl ?_
 refine RJ_nil ?_
 refine NJ_then ?_
 refine CJ_env (E' := [(0, _), (3, _)]) (.cons rfl rfl (.cons rfl rfl .nil)) ?_
 refine CJ_then rfl rfl ?_
 refine CJ_region ?_
 refine RJ_q (Op_move rfl) rfl ?_
 refine RJ_q (Op_nilCheck rfl) rfl ?_
 refine RJ_q (Op_fieldAddr (o' := 2) rfl Try.underlying75 rfl sz72 rfl rfl) rfl ?_
 refine RJ_q (Op_load rfl (load_cell Try.underlying72 rfl pkk (Nth.s (Nth.s Nth.z)))) rfl ?_
 refine RJ_p rfl (Op_call (vs := [_]) Try.func48 rfl rfl (LsTick_any mc 32 10 N.lease N.last hN.ln (fun x hx => by have := hN.lb x hx; omega)) rfl (.k (e := (Imp.refl _)))) ?_
 rintro _ _ ⟨_, ⟨rfl, rfl⟩, rfl⟩
 refine RJ_app1 ?_
 refine RJ_nil ?_
 refine NJ_ret (.inr rfl) Try.results21 ResJ_nil ⟨rfl, rfl⟩ (.swap (C := NodeRaw g ma mb mc md (tickN N)) (.k (e := (.k (e := (.k (e := (.k (e := (.k (e := (Imp.refl _))))))))))) (NodeP_close (N := tickN N)) (.k (e := skk)))

set_option maxRecDepth 20000 in
theorem NdFlush_any (g : Nat) (N : NodeS) (k : Nat) (hN : NOk k N) (hk : k ≤ 1000000) : Spec Try.prog 13 #[.pointer (some ⟨g, 0, none⟩)] [NodeP g N] (fun r C => r = .tuple #[] ∧ C = [NodeP g (flushN N)]) := by
 refine Spec_intro (n := 19) (args := [.pointer (some ⟨g, 0, none⟩)]) Try.func13 rfl rfl rfl fun s R => ?_
 refine CJ_app1 ?_
 refine CJ_env (E' := [(0, _)]) (.cons rfl rfl .nil) ?_
 refine CJ_open (NodeP_opens _ _) pkk ?_
 rintro _ ⟨ma, mb, mc, md, rfl⟩
 refine CJ_app5 ?_
 refine CJ_seq ?_
 refine CJ_region ?_
 refine RJ_q (Op_move rfl) rfl ?_
 refine RJ_q (Op_ptr_ne_nil rfl rfl Try.underlying24) rfl ?_
 refine RJ_nil ?_
 refine NJ_then ?_
 refine CJ_env (E' := [(0, _), (3, _)]) (.cons rfl rfl (.cons rfl rfl .nil)) ?_
 refine CJ_then rfl rfl ?_
 refine CJ_seq ?_
 refine CJ_region ?_
 refine RJ_q (Op_move rfl) rfl ?_
 refine RJ_q (Op_nilCheck rfl) rfl ?_
 refine RJ_q (Op_fieldAddr (o' := 1) rfl Try.underlying75 rfl sz71 rfl rfl) rfl ?_
 refine RJ_q (Op_load rfl (load_cell Try.underlying71 rfl pkk (Nth.s Nth.z))) rfl ?_
 refine RJ_p rfl (Op_call (vs := [_]) Try.func34 rfl rfl (Clear_any mb N.items N.room N.kept hN.it) rfl (.k (e := (Imp.refl _)))) ?_
 rintro _ _ ⟨_, ⟨rfl, rfl⟩, rfl⟩
 refine RJ_app1 ?_
 refine RJ_nil ?_
 refine NJ_then ?_
 refine CJ_env (E' := [(0, _)]) (.cons rfl rfl .nil) ?_
 refine CJ_seq ?_
 refine CJ_region ?_
 refine RJ_q (Op_move rfl) rfl ?_
 refine RJ_q (Op_nilCheck rfl) rfl ?_
 refine RJ_q (Op_fieldAddr (o' := 2) rfl Try.underlying75 rfl sz72 rfl rfl) rfl ?_
 refine RJ_q (Op_load rfl (load_cell Try.underlying72 rfl pkk (Nth.s (Nth.s Nth.z)))) rfl ?_
 refine RJ_p rfl (Op_call (vs := [_]) Try.func35 rfl rfl (LsClear_any mc 32 10 N.lease N.last) rfl (.k (e := (Imp.refl _)))) ?_
 rintro _ _ ⟨_, ⟨rfl, rfl⟩, rfl⟩
 refine RJ_app1 ?_
 refine RJ_nil ?_
 refine NJ_then ?_
 refine CJ_env (E' := [(0, _)]) (.cons rfl rfl .nil) ?_
 refine CJ_region ?_
 refine RJ_q (Op_move rfl) rfl ?_
 refine RJ_q (Op_nilCheck rfl) rfl ?_
 refine RJ_q (Op_fieldAddr (o' := 3) rfl Try.underlying75 rfl sz73 rfl rfl) rfl ?_
 refine RJ_q (Op_load rfl (load_cell Try.underlying73 rfl pkk (Nth.s (Nth.s (Nth.s Nth.z))))) rfl ?_
 refine RJ_p rfl (Op_call (vs := [_]) Try.func36 rfl rfl (HdClear_any md 32 N.tombs N.floor) rfl (.k (e := (Imp.refl _)))) ?_
 rintro _ _ ⟨_, ⟨rfl, rfl⟩, rfl⟩
 refine RJ_app1 ?_
 refine RJ_nil ?_
 refine NJ_ret (.inr rfl) Try.results13 ResJ_nil ⟨rfl, rfl⟩ (.swap (C := NodeRaw g ma mb mc md (flushN N)) (.k (e := (.k (e := (.k (e := (.k (e := (.k (e := (Imp.refl _))))))))))) (NodeP_close (N := flushN N)) (.k (e := skk)))

set_option maxRecDepth 20000 in
theorem NdCold_any (g : Nat) (N : NodeS) (since : Int) : Spec Try.prog 16 #[.pointer (some ⟨g, 0, none⟩), .int .i64 since] [NodeP g N] (fun r C => r = .tuple #[] ∧ C = [NodeP g (coldN since N)]) := by
 refine Spec_intro (n := 18) (args := [.pointer (some ⟨g, 0, none⟩), .int .i64 since]) Try.func16 rfl rfl rfl fun s R => ?_
 refine CJ_app1 ?_
 refine CJ_env (E' := [(0, _), (1, _)]) (.cons rfl rfl (.cons rfl rfl .nil)) ?_
 refine CJ_open (NodeP_opens _ _) pkk ?_
 rintro _ ⟨ma, mb, mc, md, rfl⟩
 refine CJ_app5 ?_
 refine CJ_seq ?_
 refine CJ_region ?_
 refine RJ_q (Op_move rfl) rfl ?_
 refine RJ_q (Op_ptr_ne_nil rfl rfl Try.underlying24) rfl ?_
 refine RJ_nil ?_
 refine NJ_then ?_
 refine CJ_env (E' := [(0, _), (1, _), (5, _)]) (.cons rfl rfl (.cons rfl rfl (.cons rfl rfl .nil))) ?_
 refine CJ_then rfl rfl ?_
 refine CJ_seq ?_
 refine CJ_region ?_
 refine RJ_q (Op_move rfl) rfl ?_
 refine RJ_q (Op_nilCheck rfl) rfl ?_
 refine RJ_q (Op_fieldAddr (o' := 3) rfl Try.underlying75 rfl sz73 rfl rfl) rfl ?_
 refine RJ_q (Op_load rfl (load_cell Try.underlying73 rfl pkk (Nth.s (Nth.s (Nth.s Nth.z))))) rfl ?_
 refine RJ_p rfl (Op_call (vs := [_]) Try.func36 rfl rfl (HdClear_any md 32 N.tombs N.floor) rfl (.k (e := (Imp.refl _)))) ?_
 rintro _ _ ⟨_, ⟨rfl, rfl⟩, rfl⟩
 refine RJ_app1 ?_
 refine RJ_nil ?_
 refine NJ_then ?_
 refine CJ_env (E' := [(0, _), (1, _)]) (.cons rfl rfl (.cons rfl rfl .nil)) ?_
 refine CJ_region ?_
 refine RJ_q (Op_move rfl) rfl ?_
 refine RJ_q (Op_move rfl) rfl ?_
 refine RJ_q (Op_move rfl) rfl ?_
 refine RJ_q (Op_nilCheck rfl) rfl ?_
 refine RJ_q (Op_fieldAddr (o' := 4) rfl Try.underlying75 rfl sz4 rfl rfl) rfl ?_
 refine RJ_d0 (Op_store (cs' := #[_, _, _, _, _, _]) rfl rfl sz4 (by rfl) (by simp [Value.cells, Value.oneCell']) rpp rfl (free_zero _ _) (by rfl)) ?_
 refine RJ_q (Op_nilCheck rfl) rfl ?_
 refine RJ_q (Op_fieldAddr (o' := 5) rfl Try.underlying75 rfl sz3 rfl rfl) rfl ?_
 refine RJ_d0 (Op_store (cs' := #[_, _, _, _, _, _]) rfl rfl sz3 (by rfl) (by simp [Value.cells, Value.oneCell']) rpp rfl (free_zero _ _) (by rfl)) ?_
 refine RJ_nil ?_
 refine NJ_ret (.inr rfl) Try.results16 ResJ_nil ⟨rfl, rfl⟩ (.swap (C := NodeRaw g ma mb mc md (coldN since N)) (.k (e := (.k (e := (.k (e := (.k (e := (.k (e := (Imp.refl _))))))))))) (NodeP_close (N := coldN since N)) (.k (e := skk)))

set_option maxRecDepth 20000 in
theorem NdPass_any (g : Nat) (N : NodeS) (k : Nat) (hN : NOk k N) (hk : k ≤ 1000000) (index : Int) : Spec Try.prog 20 #[.pointer (some ⟨g, 0, none⟩), .int .i64 index] [NodeP g N] (fun r C => r = .tuple #[] ∧ C = [NodeP g (passN index N)]) := by
 refine Spec_intro (n := 12) (args := [.pointer (some ⟨g, 0, none⟩), .int .i64 index]) Try.func20 rfl rfl rfl fun s R => ?_
 refine CJ_app1 ?_
 refine CJ_env (E' := [(0, _), (1, _)]) (.cons rfl rfl (.cons rfl rfl .nil)) ?_
 refine CJ_open (NodeP_opens _ _) pkk ?_
 rintro _ ⟨ma, mb, mc, md, rfl⟩
 refine CJ_app5 ?_
 refine CJ_seq ?_
 refine CJ_region ?_
 refine RJ_q (Op_move rfl) rfl ?_
 refine RJ_q (Op_ptr_ne_nil rfl rfl Try.underlying24) rfl ?_
 refine RJ_nil ?_
 refine NJ_then ?_
 refine CJ_env (E' := [(0, _), (1, _), (5, _)]) (.cons rfl rfl (.cons rfl rfl (.cons rfl rfl .nil))) ?_
 refine CJ_then rfl rfl ?_
 refine CJ_region ?_
 refine RJ_q (Op_move rfl) rfl ?_
 refine RJ_q (Op_nilCheck rfl) rfl ?_
 refine RJ_q (Op_fieldAddr (o' := 3) rfl Try.underlying75 rfl sz73 rfl rfl) rfl ?_
 refine RJ_q (Op_load rfl (load_cell Try.underlying73 rfl pkk (Nth.s (Nth.s (Nth.s Nth.z))))) rfl ?_
 refine RJ_q (Op_move rfl) rfl ?_
 refine RJ_p rfl (Op_call (vs := [_, _]) Try.func47 rfl rfl (HdPass_any md 32 N.tombs N.floor index hN.tn (by have := hN.tl; omega)) rfl (.k (e := (Imp.refl _)))) ?_
 rintro _ _ ⟨_, ⟨rfl, rfl⟩, rfl⟩
 refine RJ_app1 ?_
 refine RJ_nil ?_
 refine NJ_ret (.inr rfl) Try.results20 ResJ_nil ⟨rfl, rfl⟩ (.swap (C := NodeRaw g ma mb mc md (passN index N)) (.k (e := (.k (e := (.k (e := (.k (e := (.k (e := (Imp.refl _))))))))))) (NodeP_close (N := passN index N)) (.k (e := skk)))

set_option maxRecDepth 20000 in
theorem NdLook_any (g : Nat) (N : NodeS) (k : Nat) (hN : NOk k N) (hk : k ≤ 1000000) : Spec Try.prog 14 #[.pointer (some ⟨g, 0, none⟩)] [NodeP g N] (fun r C => r = lookV N ∧ C = [NodeP g N]) := by
 refine Spec_intro (n := 38) (args := [.pointer (some ⟨g, 0, none⟩)]) Try.func14 rfl rfl rfl fun s R => ?_
 refine CJ_app1 ?_
 refine CJ_env (E' := [(0, _)]) (.cons rfl rfl .nil) ?_
 refine CJ_open (NodeP_opens _ _) pkk ?_
 rintro _ ⟨ma, mb, mc, md, rfl⟩
 refine CJ_app5 ?_
 have hil := hN.il
 refine CJ_seq ?_
 refine CJ_region ?_
 refine RJ_p rfl (Op_alloc zr42) ?_
 rintro _ _ ⟨b2, rfl, rfl⟩
 refine RJ_nil ?_
 refine NJ_then ?_
 refine CJ_env (E' := [(0, _), (2, _)]) (.cons rfl rfl (.cons rfl rfl .nil)) ?_
 refine CJ_seq ?_
 refine CJ_seq ?_
 refine CJ_region ?_
 refine RJ_q (Op_move rfl) rfl ?_
 refine RJ_q (Op_ptr_eq_nil rfl rfl Try.underlying24) rfl ?_
 refine RJ_nil ?_
 refine NJ_then ?_
 refine CJ_env (E' := [(0, _), (2, _), (4, _)]) (.cons rfl rfl (.cons rfl rfl (.cons rfl rfl .nil))) ?_
 refine CJ_else rfl rfl ?_
 refine CJ_skip ?_
 refine NJ_then ?_
 refine CJ_env (E' := [(0, _), (2, _)]) (.cons rfl rfl (.cons rfl rfl .nil)) ?_
 refine CJ_seq ?_
 refine CJ_draw (.q 0 (.q 1 (.q 2 (.q 3 (.q 5 (.q 6 (.q 7 (.q 8 (.q 11 (.q 12 (.q 13 (.q 14 (.q 15 (.q 17 (.q 18 (.q 19 (.q 20 (.q 22 (.q 23 (.q 24 (.q 25 (.q 27 (.q 28 (.q 29 (.q 30 (.e 4 (.e 9 (.q 10 (.e 16 (.e 21 (.e 26 (.q 31 (.e 32 .done))))))))))))))))))))))))))))))))) (by kernel_rfl) (by kernel_rfl) (by kernel_rfl) ?_
 refine SJ_q rfl (want_none rfl) rfl (fun _ _ => Op_move rfl) ?_
 refine SJ_q rfl (want_none rfl) rfl (fun _ _ => Op_nilCheck rfl) ?_
 refine SJ_q rfl (want_none rfl) rfl (fun _ _ => Op_fieldAddr (o' := 1) rfl Try.underlying75 rfl sz71 rfl rfl) ?_
 refine SJ_load rfl (want_none rfl) rfl rfl (load_cell Try.underlying71 rfl pkk (Nth.s Nth.z)) ?_
 refine SJ_q rfl (want_none rfl) rfl (fun _ _ => Op_move rfl) ?_
 refine SJ_q rfl (want_none rfl) rfl (fun _ _ => Op_nilCheck rfl) ?_
 refine SJ_q rfl (want_none rfl) rfl (fun _ _ => Op_fieldAddr (o' := 1) rfl Try.underlying75 rfl sz71 rfl rfl) ?_
 refine SJ_load rfl (want_none rfl) rfl rfl (load_cell Try.underlying71 rfl pkk (Nth.s Nth.z)) ?_
 refine SJ_q rfl (want_none rfl) rfl (fun _ _ => Op_move rfl) ?_
 refine SJ_q rfl (want_none rfl) rfl (fun _ _ => Op_nilCheck rfl) ?_
 refine SJ_q rfl (want_none rfl) rfl (fun _ _ => Op_fieldAddr (o' := 0) rfl Try.underlying75 rfl sz70 rfl rfl) ?_
 refine SJ_q rfl (want_none rfl) rfl (fun _ _ => Op_fieldAddr (o' := 0) rfl Try.underlying70 rfl sz68 rfl rfl) ?_
 refine SJ_load rfl (want_none rfl) rfl rfl (load_cell Try.underlying68 rfl pkk Nth.z) ?_
 refine SJ_q rfl (want_none rfl) rfl (fun _ _ => Op_move rfl) ?_
 refine SJ_q rfl (want_none rfl) rfl (fun _ _ => Op_nilCheck rfl) ?_
 refine SJ_q rfl (want_none rfl) rfl (fun _ _ => Op_fieldAddr (o' := 2) rfl Try.underlying75 rfl sz72 rfl rfl) ?_
 refine SJ_load rfl (want_none rfl) rfl rfl (load_cell Try.underlying72 rfl pkk (Nth.s (Nth.s Nth.z))) ?_
 refine SJ_q rfl (want_none rfl) rfl (fun _ _ => Op_move rfl) ?_
 refine SJ_q rfl (want_none rfl) rfl (fun _ _ => Op_nilCheck rfl) ?_
 refine SJ_q rfl (want_none rfl) rfl (fun _ _ => Op_fieldAddr (o' := 3) rfl Try.underlying75 rfl sz73 rfl rfl) ?_
 refine SJ_load rfl (want_none rfl) rfl rfl (load_cell Try.underlying73 rfl pkk (Nth.s (Nth.s (Nth.s Nth.z)))) ?_
 refine SJ_q rfl (want_none rfl) rfl (fun _ _ => Op_move rfl) ?_
 refine SJ_q rfl (want_none rfl) rfl (fun _ _ => Op_nilCheck rfl) ?_
 refine SJ_q rfl (want_none rfl) rfl (fun _ _ => Op_fieldAddr (o' := 4) rfl Try.underlying75 rfl sz4 rfl rfl) ?_
 refine SJ_load rfl (want_none rfl) rfl rfl (load_cell Try.underlying4 rfl pkk (Nth.s (Nth.s (Nth.s (Nth.s Nth.z))))) ?_
 refine SJ_p (rd' := [⟨30, _, _, _⟩, ⟨25, _, _, _⟩, ⟨20, _, _, _⟩, ⟨15, _, _, _⟩, ⟨8, _, _, _⟩]) [30, 25, 20, 15, 8] rfl (want_none rfl) rfl (Op_call (vs := [_]) Try.func37 rfl rfl (Used_any mb N.items N.room N.kept hN.it) rfl (.k (e := (Imp.refl _)))) (by kernel_rfl) rfl ?_
 rintro _ _ ⟨_, ⟨rfl, rfl⟩, rfl⟩
 refine OS_app1 ?_
 refine ⟨⟨(load_cell Try.underlying4 rfl pkk (Nth.s (Nth.s (Nth.s (Nth.s Nth.z))))), ⟨(load_cell Try.underlying73 rfl pkk (Nth.s (Nth.s (Nth.s Nth.z)))), ⟨(load_cell Try.underlying72 rfl pkk (Nth.s (Nth.s Nth.z))), ⟨(load_cell Try.underlying68 rfl pkk Nth.z), ⟨(load_cell Try.underlying71 rfl pkk (Nth.s Nth.z)), trivial⟩⟩⟩⟩⟩, ?_⟩
 refine SJ_p (rd' := [⟨30, _, _, _⟩, ⟨25, _, _, _⟩, ⟨20, _, _, _⟩, ⟨15, _, _, _⟩]) [30, 25, 20, 15] rfl (want_none rfl) rfl (Op_call (vs := [_]) Try.func38 rfl rfl (Keys_any mb N.items N.room N.kept (by omega)) rfl (.k (e := (Imp.refl _)))) (by kernel_rfl) rfl ?_
 rintro _ _ ⟨_, ⟨ra, rc, rfl, rfl⟩, rfl⟩
 refine OS_app2 ?_
 refine ⟨⟨(load_cell Try.underlying4 rfl pkk (Nth.s (Nth.s (Nth.s (Nth.s Nth.z))))), ⟨(load_cell Try.underlying73 rfl pkk (Nth.s (Nth.s (Nth.s Nth.z)))), ⟨(load_cell Try.underlying72 rfl pkk (Nth.s (Nth.s Nth.z))), ⟨(load_cell Try.underlying68 rfl pkk Nth.z), trivial⟩⟩⟩⟩, ?_⟩
 refine SJ_q rfl (want_none rfl) rfl (fun _ _ => Op_len_slice rfl Try.underlying22) ?_
 rw [keysOf_len]
 refine SJ_p (rd' := [⟨30, _, _, _⟩, ⟨25, _, _, _⟩, ⟨20, _, _, _⟩]) [30, 25, 20] rfl (want_none rfl) rfl (Op_call (vs := [_]) Try.func28 rfl rfl (MkLen_any ma 32 N.marks) rfl (.k (e := (Imp.refl _)))) (by kernel_rfl) rfl ?_
 rintro _ _ ⟨_, ⟨rfl, rfl⟩, rfl⟩
 refine OS_app1 ?_
 refine ⟨⟨(load_cell Try.underlying4 rfl pkk (Nth.s (Nth.s (Nth.s (Nth.s Nth.z))))), ⟨(load_cell Try.underlying73 rfl pkk (Nth.s (Nth.s (Nth.s Nth.z)))), ⟨(load_cell Try.underlying72 rfl pkk (Nth.s (Nth.s Nth.z))), trivial⟩⟩⟩, ?_⟩
 refine SJ_p (rd' := [⟨30, _, _, _⟩, ⟨25, _, _, _⟩]) [30, 25] rfl (want_none rfl) rfl (Op_call (vs := [_]) Try.func39 rfl rfl (LsLen_any mc 32 10 N.lease N.last) rfl (.k (e := (Imp.refl _)))) (by kernel_rfl) rfl ?_
 rintro _ _ ⟨_, ⟨rfl, rfl⟩, rfl⟩
 refine OS_app1 ?_
 refine ⟨⟨(load_cell Try.underlying4 rfl pkk (Nth.s (Nth.s (Nth.s (Nth.s Nth.z))))), ⟨(load_cell Try.underlying73 rfl pkk (Nth.s (Nth.s (Nth.s Nth.z)))), trivial⟩⟩, ?_⟩
 refine SJ_p (rd' := [⟨30, _, _, _⟩]) [30] rfl (want_none rfl) rfl (Op_call (vs := [_]) Try.func40 rfl rfl (HdLen_any md 32 N.tombs N.floor) rfl (.k (e := (Imp.refl _)))) (by kernel_rfl) rfl ?_
 rintro _ _ ⟨_, ⟨rfl, rfl⟩, rfl⟩
 refine OS_app1 ?_
 refine ⟨⟨(load_cell Try.underlying4 rfl pkk (Nth.s (Nth.s (Nth.s (Nth.s Nth.z))))), trivial⟩, ?_⟩
 refine SJ_q rfl (want_none rfl) rfl (fun _ _ => Op_build (vs := [_, _, _, _, _, _]) (cells := [_, _, _, _, _, _]) Try.underlying42 zr42 rfl pl42 (by rfl)) ?_
 refine SJ_d0 (rd' := []) [] rfl (want_none rfl) (Op_store (cs' := #[_, _, _, _, _, _]) rfl rfl sz42 (by rfl) (by simp [Value.cells, Value.oneCell']) rpp rfl (free_zero _ _) (by rfl)) (by kernel_rfl) rfl trivial ?_
 refine SJ_done ?_
 refine NJ_then ?_
 refine CJ_env (E' := [(2, _)]) (.cons rfl rfl .nil) ?_
 refine CJ_ret ?_
 refine NJ_ret (.inl rfl) Try.results14 (ResJ_cell rfl (load_struct (o := 0) (vs := [_, _, _, _, _, _]) Try.underlying42 sz42 pkk (by rfl) rfl) ResJ_nil) ⟨rfl, rfl⟩ (.swap (C := NodeRaw g ma mb mc md (N)) (.k (e := (.k (e := (.k (e := (.k (e := (.k (e := (Imp.refl _))))))))))) (NodeP_close (N := N)) (.k (e := skk)))

set_option maxRecDepth 20000 in
theorem NdPurge_any (g : Nat) (N : NodeS) (k : Nat) (hN : NOk k N) (hk : k ≤ 1000000) : Spec Try.prog 15 #[.pointer (some ⟨g, 0, none⟩)] [NodeP g N] (fun r C => r = .tuple #[] ∧ C = [NodeP g (purgeN N)]) := by
 refine Spec_intro (n := 25) (args := [.pointer (some ⟨g, 0, none⟩)]) Try.func15 rfl rfl rfl fun s R => ?_
 refine CJ_app1 ?_
 refine CJ_env (E' := [(0, _)]) (.cons rfl rfl .nil) ?_
 refine CJ_seq ?_
 refine CJ_region ?_
 refine RJ_q (Op_move rfl) rfl ?_
 refine RJ_q (Op_ptr_ne_nil rfl rfl Try.underlying24) rfl ?_
 refine RJ_nil ?_
 refine NJ_then ?_
 refine CJ_env (E' := [(0, _), (3, _)]) (.cons rfl rfl (.cons rfl rfl .nil)) ?_
 refine CJ_then rfl rfl ?_
 refine CJ_seq ?_
 refine CJ_region ?_
 refine RJ_q (Op_move rfl) rfl ?_
 refine RJ_p rfl (Op_call (vs := [_]) Try.func13 rfl rfl (NdFlush_any g N k hN hk) rfl (.k (e := (Imp.refl _)))) ?_
 rintro _ _ ⟨_, ⟨rfl, rfl⟩, rfl⟩
 refine RJ_app1 ?_
 refine RJ_nil ?_
 refine NJ_then ?_
 refine CJ_env (E' := [(0, _)]) (.cons rfl rfl .nil) ?_
 refine CJ_seq ?_
 refine CJ_open (NodeP_opens _ _) pkk ?_
 rintro _ ⟨ma, mb, mc, md, rfl⟩
 refine CJ_app5 ?_
 refine CJ_region ?_
 refine RJ_q (Op_move rfl) rfl ?_
 refine RJ_q (Op_nilCheck rfl) rfl ?_
 refine RJ_q (Op_fieldAddr (o' := 0) rfl Try.underlying75 rfl sz70 rfl rfl) rfl ?_
 refine RJ_q (Op_fieldAddr (o' := 0) rfl Try.underlying70 rfl sz68 rfl rfl) rfl ?_
 refine RJ_q (Op_load rfl (load_cell Try.underlying68 rfl pkk Nth.z)) rfl ?_
 refine RJ_p rfl (Op_call (vs := [_]) Try.func41 rfl rfl (MkDrop_any ma 32 N.marks) rfl (.k (e := (Imp.refl _)))) ?_
 rintro _ _ ⟨_, ⟨rfl, rfl⟩, rfl⟩
 refine RJ_app1 ?_
 refine RJ_nil ?_
 refine NJ_then ?_
 refine CJ_env (E' := [(0, _)]) (.cons rfl rfl .nil) ?_
 refine CJ_seq ?_
 refine CJ_draw (.q 0 (.q 1 (.q 2 (.q 3 (.q 4 (.q 5 (.q 6 (.q 7 (.e 8 (.e 9 .done)))))))))) (by kernel_rfl) (by kernel_rfl) (by kernel_rfl) ?_
 refine SJ_q rfl (want_none rfl) rfl (fun _ _ => Op_move rfl) ?_
 refine SJ_q rfl (want_none rfl) rfl (fun _ _ => Op_nilCheck rfl) ?_
 refine SJ_q rfl (want_none rfl) rfl (fun _ _ => Op_fieldAddr (o' := 1) rfl Try.underlying75 rfl sz71 rfl rfl) ?_
 refine SJ_load rfl (want_none rfl) rfl rfl (load_cell Try.underlying71 rfl pkk (Nth.s Nth.z)) ?_
 refine SJ_q rfl (want_none rfl) rfl (fun _ _ => Op_move rfl) ?_
 refine SJ_q rfl (want_none rfl) rfl (fun _ _ => Op_nilCheck rfl) ?_
 refine SJ_q rfl (want_none rfl) rfl (fun _ _ => Op_fieldAddr (o' := 1) rfl Try.underlying75 rfl sz71 rfl rfl) ?_
 refine SJ_load rfl (want_none rfl) rfl rfl (load_cell Try.underlying71 rfl pkk (Nth.s Nth.z)) ?_
 refine SJ_p (rd' := [⟨3, _, _, _⟩]) [3] rfl (want_none rfl) rfl (Op_call (vs := [_]) Try.func42 rfl rfl (Reserved_any mb [] N.room N.kept) rfl (.k (e := (Imp.refl _)))) (by kernel_rfl) rfl ?_
 rintro _ _ ⟨_, ⟨rfl, rfl⟩, rfl⟩
 refine OS_app1 ?_
 refine ⟨⟨(load_cell Try.underlying71 rfl pkk (Nth.s Nth.z)), trivial⟩, ?_⟩
 refine SJ_p (rd' := []) [] rfl (want_none rfl) rfl (Op_call (vs := [_, _]) Try.func32 rfl rfl (Release_any mb [] N.room N.kept hN.flush.it N.kept) rfl (.k (e := (Imp.refl _)))) (by kernel_rfl) rfl ?_
 rintro _ _ ⟨_, ⟨rfl, rfl⟩, rfl⟩
 refine OS_app1 ?_
 refine ⟨trivial, ?_⟩
 refine SJ_done ?_
 refine NJ_then ?_
 refine CJ_env (E' := [(0, _)]) (.cons rfl rfl .nil) ?_
 refine CJ_region ?_
 refine RJ_q (Op_move rfl) rfl ?_
 refine RJ_q (Op_nilCheck rfl) rfl ?_
 refine RJ_q (Op_fieldAddr (o' := 4) rfl Try.underlying75 rfl sz4 rfl rfl) rfl ?_
 refine RJ_d0 (Op_store (cs' := #[_, _, _, _, _, _]) rfl rfl sz4 (by rfl) (by simp [Value.cells, Value.oneCell']) rpp rfl (free_zero _ _) (by rfl)) ?_
 refine RJ_nil ?_
 refine NJ_ret (.inr rfl) Try.results15 ResJ_nil ⟨rfl, rfl⟩ (.swap (C := NodeRaw g ma mb mc md (purgeN N)) (.k (e := (.k (e := (.k (e := (.k (e := (.k (e := (Imp.refl _))))))))))) (NodeP_close (N := purgeN N)) (.k (e := skk)))
end Go.Proofs.Ytgakbdofjlhoeaa.SL
