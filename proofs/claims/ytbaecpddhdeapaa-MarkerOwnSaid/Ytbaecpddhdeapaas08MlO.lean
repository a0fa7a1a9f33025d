/- Contracts of MarkerOwn. -/
import Derived.Test.Ytbaecpddhdeapaas08MlA
import Derived.Test.Ytbaecpddhdeapaas08Fb
namespace Go.Proofs.Ytbaecpddhdeapaa.SL
open Go Go.RowKit
set_option maxRecDepth 20000 in
set_option maxHeartbeats 4000000 in
theorem MarkerOwn_any (W : World) (a : Option Addr) (cap : Nat) (ops : List OpM) (ses req : Int) (hS : OpsAt W a ops) (hl : ops.length ≤ 9223372036854775807) : Spec Try.prog 5 #[.slice a ops.length cap, .int .i64 ses, .int .i64 req] [old W] (fun v C => v = .bool true ∧ C = [old W]) := by
 refine Spec_intro (n := 127) (args := [.slice a ops.length cap, .int .i64 ses, .int .i64 req]) Try.func5 rfl rfl rfl fun s R => ?_
 refine CJ_app1 ?_
 refine CJ_env (E' := [(0, _), (1, _), (2, _)]) (.cons rfl rfl (.cons rfl rfl (.cons rfl rfl .nil))) ?_
 refine CJ_seq ?_
 refine CJ_region ?_
 refine RJ_q (Op_assign rfl) rfl ?_
 refine RJ_nil ?_
 refine NJ_then ?_
 refine CJ_env (E' := [(0, _), (1, _), (2, _), (6, _)]) (.cons rfl rfl (.cons rfl rfl (.cons rfl rfl (.cons rfl rfl .nil)))) ?_
 refine CJ_seq ?_
 refine CJ_seq ?_
 refine CJ_region ?_
 refine RJ_p rfl (Op_call (vs := []) Try.func7 rfl rfl (awake_any) rfl (Imp.refl _)) ?_
 rintro _ _ ⟨_, ⟨rfl, rfl⟩, rfl⟩
 refine RJ_app0 ?_
 refine RJ_q (Op_not rfl) rfl ?_
 refine RJ_nil ?_
 refine NJ_then ?_
 refine CJ_env (E' := [(0, _), (1, _), (2, _), (6, _), (16, _)]) (.cons rfl rfl (.cons rfl rfl (.cons rfl rfl (.cons rfl rfl (.cons rfl rfl .nil))))) ?_
 refine CJ_else rfl (congrArg Bool.not rfl) ?_
 refine CJ_skip ?_
 refine NJ_then ?_
 refine CJ_env (E' := [(0, _), (1, _), (2, _), (6, _)]) (.cons rfl rfl (.cons rfl rfl (.cons rfl rfl (.cons rfl rfl .nil)))) ?_
 refine CJ_seq ?_
 refine CJ_region ?_
 refine RJ_p rfl (Op_call (vs := [_]) Try.func8 rfl rfl (MkNew_any 1000) rfl (Imp.refl _)) ?_
 rintro _ _ ⟨_, ⟨g, rfl, rfl⟩, rfl⟩
 refine RJ_app1 ?_
 refine RJ_q (Op_assign rfl) rfl ?_
 refine RJ_nil ?_
 refine NJ_then ?_
 refine CJ_env (E' := [(0, _), (1, _), (2, _), (6, _), (7, _)]) (.cons rfl rfl (.cons rfl rfl (.cons rfl rfl (.cons rfl rfl (.cons rfl rfl .nil))))) ?_
 refine CJ_seq ?_
 refine CJ_seq ?_
 refine CJ_region ?_
 refine RJ_q (Op_assign rfl) rfl ?_
 refine RJ_nil ?_
 refine NJ_then ?_
 refine CJ_env (E' := [(0, _), (1, _), (2, _), (6, _), (7, _), (8, _)]) (.cons rfl rfl (.cons rfl rfl (.cons rfl rfl (.cons rfl rfl (.cons rfl rfl (.cons rfl rfl .nil)))))) ?_
 refine CJ_block ?_
 refine CJ_loop (fun E H m => ∃ (i : Nat) (L : List Mark), (i ≤ 200 ∧ i ≤ ops.length ∧ SetI (msOf (ops.take i)) i L) ∧ E = [(0, .slice a ops.length cap), (1, .int .i64 ses), (2, .int .i64 req), (7, .pointer (some ⟨g, 0, none⟩)), (8, .int .i64 (i : Nat))] ∧ H = [MarksP g 1000 (L), old W] ++ R ∧ m = 200 - i) (E' := [(0, .slice a ops.length cap), (1, .int .i64 ses), (2, .int .i64 req), (7, .pointer (some ⟨g, 0, none⟩)), (8, .int .i64 (0 : Nat))]) (H' := [MarksP g 1000 ([]), old W] ++ R) (m := 200 - 0) ⟨0, [], ⟨by omega, by omega, .nil⟩, rfl, rfl, rfl⟩ (.cons rfl rfl (.cons rfl rfl (.cons rfl rfl (.cons rfl rfl (.cons rfl rfl .nil))))) (.k (e := (.k (e := skk)))) ?_
 rintro _ _ _ ⟨i, L, ⟨hi, hio, hI⟩, rfl, rfl, rfl⟩
 refine CJ_app2 ?_
 refine CJ_seq ?_
 refine CJ_seq ?_
 refine CJ_region ?_
 refine RJ_q (Op_move rfl) rfl ?_
 refine RJ_q (Op_move rfl) rfl ?_
 refine RJ_q (Op_len_slice rfl Try.underlying22) rfl ?_
 refine RJ_q (Op_lss rfl rfl) rfl ?_
 by_cases hi1 : (i : Int) < ops.length
 ·skip
  refine RJ_q (Op_move rfl) rfl ?_
  refine RJ_yes (t := 22) rfl rfl (decide_eq_true hi1) ?_
  refine RJ_q (Op_move rfl) rfl ?_
  refine RJ_yes (t := 22) rfl rfl (decide_eq_true hi1) ?_
  refine RJ_q (Op_lss rfl rfl) rfl ?_
  by_cases hi2 : (i : Int) < 200
  ·skip
   obtain ⟨o, hoo⟩ : ∃ o, ops[i]? = some o := ⟨ops[i], List.getElem?_eq_getElem (by omega)⟩
   obtain ⟨po, hpo, hco⟩ := hS _ _ hoo
   refine RJ_q (Op_pick_t rfl (decide_eq_true hi1) rfl) rfl ?_
   refine RJ_nil ?_
   refine NJ_then ?_
   refine CJ_env (E' := [(0, _), (1, _), (2, _), (7, _), (8, _), (25, _)]) (.cons rfl rfl (.cons rfl rfl (.cons rfl rfl (.cons rfl rfl (.cons rfl rfl (.cons rfl rfl .nil)))))) ?_
   refine CJ_then rfl (decide_eq_true hi2) ?_
   refine CJ_skip ?_
   refine NJ_then ?_
   refine CJ_env (E' := [(0, _), (1, _), (2, _), (7, _), (8, _)]) (.cons rfl rfl (.cons rfl rfl (.cons rfl rfl (.cons rfl rfl (.cons rfl rfl .nil))))) ?_
   refine CJ_seq ?_
   refine CJ_block ?_
   refine CJ_seq ?_
   refine CJ_draw (.q 0 (.q 1 (.q 2 (.q 3 (.q 4 (.q 5 (.q 6 (.q 7 (.q 8 (.q 9 (.q 10 (.q 11 (.q 12 (.q 13 (.q 14 (.q 15 (.e 16 (.q 17 .done)))))))))))))))))) (by kernel_rfl) (by kernel_rfl) (by kernel_rfl) ?_
   refine SJ_q rfl (want_none rfl) rfl (fun _ _ => Op_move rfl) ?_
   refine SJ_q rfl (want_none rfl) rfl (fun _ _ => Op_move rfl) ?_
   refine SJ_q rfl (want_none rfl) rfl (fun _ _ => Op_move rfl) ?_
   refine SJ_q rfl (want_none rfl) rfl (fun _ _ => Op_indexOld rfl hpo rfl Try.underlying22 sz29 (by omega)) ?_
   refine SJ_q rfl (want_none rfl) rfl (fun _ _ => Op_fieldOld (off := 1) rfl Try.underlying29 rfl sz9 rfl rfl) ?_
   refine SJ_load rfl (want_none rfl) rfl rfl (load_old Try.underlying9 rfl pkk (hco 1 _ rfl)) ?_
   refine SJ_q rfl (want_none rfl) rfl (fun _ _ => Op_move rfl) ?_
   refine SJ_q rfl (want_none rfl) rfl (fun _ _ => Op_move rfl) ?_
   refine SJ_q rfl (want_none rfl) rfl (fun _ _ => Op_indexOld rfl hpo rfl Try.underlying22 sz29 (by omega)) ?_
   refine SJ_q rfl (want_none rfl) rfl (fun _ _ => Op_fieldOld (off := 2) rfl Try.underlying29 rfl sz3 rfl rfl) ?_
   refine SJ_load rfl (want_none rfl) rfl rfl (load_old Try.underlying3 rfl pkk (hco 2 _ rfl)) ?_
   refine SJ_q rfl (want_none rfl) rfl (fun _ _ => Op_move rfl) ?_
   refine SJ_q rfl (want_none rfl) rfl (fun _ _ => Op_move rfl) ?_
   refine SJ_q rfl (want_none rfl) rfl (fun _ _ => Op_indexOld rfl hpo rfl Try.underlying22 sz29 (by omega)) ?_
   refine SJ_q rfl (want_none rfl) rfl (fun _ _ => Op_fieldOld (off := 3) rfl Try.underlying29 rfl sz3 rfl rfl) ?_
   refine SJ_load rfl (want_none rfl) rfl rfl (load_old Try.underlying3 rfl pkk (hco 3 _ rfl)) ?_
   refine SJ_p (rd' := []) [] rfl (want_none rfl) rfl (Op_call (vs := [_, _, _, _]) Try.func9 rfl rfl (MkSet_any g 1000 L o.key o.ses o.req) rfl (.k (e := (Imp.refl _)))) (by kernel_rfl) rfl ?_
   rintro _ _ ⟨_, ⟨rfl, rfl⟩, rfl⟩
   refine OS_app1 ?_
   refine ⟨trivial, ?_⟩
   have hok := hI.ok (by omega) o.m
   rw [hok]
   refine SJ_q rfl (want_none rfl) rfl (fun _ _ => Op_neq rfl rfl) ?_
   refine SJ_done ?_
   refine NJ_then ?_
   refine CJ_env (E' := [(0, _), (1, _), (2, _), (7, _), (8, _), (45, _)]) (.cons rfl rfl (.cons rfl rfl (.cons rfl rfl (.cons rfl rfl (.cons rfl rfl (.cons rfl rfl .nil)))))) ?_
   refine CJ_else rfl (by rfl) ?_
   refine CJ_skip ?_
   refine NJ_blk ?_
   refine NJ_then ?_
   refine CJ_env (E' := [(0, _), (1, _), (2, _), (7, _), (8, _)]) (.cons rfl rfl (.cons rfl rfl (.cons rfl rfl (.cons rfl rfl (.cons rfl rfl .nil))))) ?_
   refine CJ_region ?_
   refine RJ_q (Op_move rfl) rfl ?_
   refine RJ_q (Op_addN (i + 1) rfl rfl (by omega) (by omega)) rfl ?_
   refine RJ_q (Op_assign rfl) rfl ?_
   refine RJ_nil ?_
   refine NJ_back ⟨i + 1, _, ⟨by omega, by omega, hI.set (by omega) o.m (ms_take hoo)⟩, rfl, rfl, rfl⟩ (by omega) (.cons rfl (by first | rfl | (simp; done)) (.cons rfl (by first | rfl | (simp; done)) (.cons rfl (by first | rfl | (simp; done)) (.cons rfl (by first | rfl | (simp; done)) (.cons rfl (by first | rfl | (simp; done)) .nil))))) (.k (e := (.k (e := skk))))
  ·skip
   refine RJ_q (Op_pick_t rfl (decide_eq_true hi1) rfl) rfl ?_
   refine RJ_nil ?_
   refine NJ_then ?_
   refine CJ_env (E' := [(0, _), (1, _), (2, _), (7, _), (8, _), (25, _)]) (.cons rfl rfl (.cons rfl rfl (.cons rfl rfl (.cons rfl rfl (.cons rfl rfl (.cons rfl rfl .nil)))))) ?_
   refine CJ_else rfl (decide_eq_false hi2) ?_
   refine CJ_exit ?_
   refine NJ_then_x ?_
   refine NJ_then_x ?_
   refine NJ_blk_hit ?_
   refine NJ_then ?_
   refine CJ_env (E' := [(1, _), (2, _), (7, _)]) (.cons rfl rfl (.cons rfl rfl (.cons rfl rfl .nil))) ?_
   refine CJ_seq ?_
   refine CJ_region ?_
   refine RJ_q (Op_assign rfl) rfl ?_
   refine RJ_nil ?_
   refine NJ_then ?_
   refine CJ_env (E' := [(1, _), (2, _), (7, _), (9, _)]) (.cons rfl rfl (.cons rfl rfl (.cons rfl rfl (.cons rfl rfl .nil)))) ?_
   refine CJ_seq ?_
   refine CJ_region ?_
   refine RJ_q (Op_move rfl) rfl ?_
   refine RJ_p rfl (Op_call (vs := [_]) Try.func10 rfl rfl (All_any g 1000 L (by have := hI.len; omega)) rfl (.k (e := (Imp.refl _)))) ?_
   rintro _ _ ⟨_, ⟨a47, c, rfl, rfl⟩, rfl⟩
   refine RJ_app2 ?_
   refine RJ_q (Op_assign rfl) rfl ?_
   refine RJ_nil ?_
   refine NJ_then ?_
   refine CJ_env (E' := [(1, _), (2, _), (7, _), (9, _), (10, _)]) (.cons rfl rfl (.cons rfl rfl (.cons rfl rfl (.cons rfl rfl (.cons rfl rfl .nil))))) ?_
   refine CJ_seq ?_
   refine CJ_seq ?_
   refine CJ_region ?_
   refine RJ_q (Op_move rfl) rfl ?_
   refine RJ_q (Op_len_slice rfl Try.underlying30) rfl ?_
   refine RJ_q (Op_move rfl) rfl ?_
   refine RJ_nil ?_
   refine NJ_then ?_
   refine CJ_env (E' := [(1, _), (2, _), (7, _), (9, _), (10, _), (49, _), (50, _)]) (.cons rfl rfl (.cons rfl rfl (.cons rfl rfl (.cons rfl rfl (.cons rfl rfl (.cons rfl rfl (.cons rfl rfl .nil))))))) ?_
   refine CJ_block ?_
   refine CJ_loop (fun E H m => ∃ (j : Nat) (ta tb : Option Nat) (c2 : Nat), (j ≤ (sortM L).length) ∧ E = [(1, .int .i64 ses), (2, .int .i64 req), (7, .pointer (some ⟨g, 0, none⟩)), (9, .slice (sl tb) (((sortM L).take j).filter fun m => !pastP ses req m).length c2), (10, .slice (sl ta) (sortM L).length c), (49, .int .i64 ((sortM L).length : Nat)), (50, .int .i64 (j : Nat))] ∧ H = [MarksP g 1000 L, Row MkT ta c (sortM L), Row MkT tb c2 (((sortM L).take j).filter fun m => !pastP ses req m), old W] ++ R ∧ m = (sortM L).length - j) (E' := [(1, .int .i64 ses), (2, .int .i64 req), (7, .pointer (some ⟨g, 0, none⟩)), (9, .slice (sl none) (((sortM L).take 0).filter fun m => !pastP ses req m).length 0), (10, .slice (sl a47) (sortM L).length c), (49, .int .i64 ((sortM L).length : Nat)), (50, .int .i64 (0 : Nat))]) (H' := [MarksP g 1000 L, Row MkT a47 c (sortM L), Row MkT none 0 (((sortM L).take 0).filter fun m => !pastP ses req m), old W] ++ R) (m := (sortM L).length - 0) ⟨0, a47, none, 0, Nat.zero_le _, rfl, rfl, rfl⟩ (.cons rfl rfl (.cons rfl rfl (.cons rfl rfl (.cons rfl rfl (.cons rfl rfl (.cons rfl rfl (.cons rfl rfl .nil))))))) (.trans (Row_none MkT).imp_add (.k (e := (.k (e := (.k (e := (.k (e := skk))))))))) ?_
   rintro _ _ _ ⟨j, ta, tb, c2, hj0, rfl, rfl, rfl⟩
   refine CJ_app4 ?_
   refine CJ_seq ?_
   refine CJ_region ?_
   refine RJ_q (Op_lss rfl rfl) rfl ?_
   by_cases hj : (j : Int) < (sortM L).length
   ·skip
    obtain ⟨m, hm⟩ : ∃ m, (sortM L)[j]? = some m := ⟨(sortM L)[j], List.getElem?_eq_getElem (by omega)⟩
    have hml := sortM_len L
    have hll := hI.len
    have htk : (sortM L).take (j + 1) = (sortM L).take j ++ [m] := by rw [List.take_add_one, hm]; rfl
    refine RJ_nil ?_
    refine NJ_then ?_
    refine CJ_env (E' := [(1, _), (2, _), (7, _), (9, _), (10, _), (49, _), (50, _), (51, _)]) (.cons rfl rfl (.cons rfl rfl (.cons rfl rfl (.cons rfl rfl (.cons rfl rfl (.cons rfl rfl (.cons rfl rfl (.cons rfl rfl .nil)))))))) ?_
    refine CJ_seq ?_
    refine CJ_then rfl (decide_eq_true hj) ?_
    refine CJ_skip ?_
    refine NJ_then ?_
    refine CJ_env (E' := [(1, _), (2, _), (7, _), (9, _), (10, _), (49, _), (50, _)]) (.cons rfl rfl (.cons rfl rfl (.cons rfl rfl (.cons rfl rfl (.cons rfl rfl (.cons rfl rfl (.cons rfl rfl .nil))))))) ?_
    refine CJ_seq ?_
    refine CJ_block ?_
    refine CJ_seq ?_
    refine CJ_region ?_
    refine RJ_q (Op_move rfl) rfl ?_
    refine RJ_q (Op_assign rfl) rfl ?_
    refine RJ_nil ?_
    refine NJ_then ?_
    refine CJ_env (E' := [(1, _), (2, _), (7, _), (9, _), (10, _), (11, _), (49, _), (50, _)]) (.cons rfl rfl (.cons rfl rfl (.cons rfl rfl (.cons rfl rfl (.cons rfl rfl (.cons rfl rfl (.cons rfl rfl (.cons rfl rfl .nil)))))))) ?_
    refine CJ_seq ?_
    refine CJ_seq ?_
    refine CJ_know (Row_know (T := MkT) (a := ta) pkk) ?_
    intro hk1
    obtain ⟨ga, rfl⟩ := row_some hk1.2.2 (by intro e; rw [e] at hm; cases hm)
    refine CJ_region ?_
    refine RJ_q (Op_move rfl) rfl ?_
    refine RJ_q (Op_move rfl) rfl ?_
    refine RJ_q (Op_indexAddr (o' := j * MkT.sz + 0) rfl rfl Try.underlying30 sz34 (by omega) (by omega) (by simp [MkT])) rfl ?_
    refine RJ_q (Op_fieldAddr (o' := j * MkT.sz + 1) rfl Try.underlying34 rfl sz3 rfl rfl) rfl ?_
    refine RJ_q (Op_load rfl (load_row_cell (o := 1) Try.underlying3 rfl pkk hm (Nth.s Nth.z))) rfl ?_
    refine RJ_q (Op_move rfl) rfl ?_
    refine RJ_q (Op_neq rfl rfl) rfl ?_
    by_cases e1 : m.ses ≠ ses
    ·skip
     refine RJ_q (Op_move rfl) rfl ?_
     refine RJ_no (t := 60) true rfl rfl (decide_eq_true e1) (by decide) rfl ?_
     refine RJ_no (t := 60) true rfl rfl (decide_eq_true e1) (by decide) rfl ?_
     refine RJ_no (t := 60) true rfl rfl (decide_eq_true e1) (by decide) rfl ?_
     refine RJ_no (t := 60) true rfl rfl (decide_eq_true e1) (by decide) rfl ?_
     refine RJ_no (t := 60) true rfl rfl (decide_eq_true e1) (by decide) rfl ?_
     refine RJ_no (t := 60) true rfl rfl (decide_eq_true e1) (by decide) rfl ?_
     refine RJ_no (t := 60) true rfl rfl (decide_eq_true e1) (by decide) rfl ?_
     refine RJ_q (Op_pick_t rfl (decide_eq_true e1) rfl) rfl ?_
     refine RJ_nil ?_
     refine NJ_then ?_
     refine CJ_env (E' := [(1, _), (2, _), (7, _), (9, _), (10, _), (11, _), (49, _), (50, _), (68, _)]) (.cons rfl rfl (.cons rfl rfl (.cons rfl rfl (.cons rfl rfl (.cons rfl rfl (.cons rfl rfl (.cons rfl rfl (.cons rfl rfl (.cons rfl rfl .nil))))))))) ?_
     refine CJ_then rfl rfl ?_
     refine CJ_region ?_
     refine RJ_q (Op_move rfl) rfl ?_
     refine RJ_q (Op_move rfl) rfl ?_
     refine RJ_q (Op_move rfl) rfl ?_
     refine RJ_q (Op_indexAddr (o' := j * MkT.sz + 0) rfl rfl Try.underlying30 sz34 (by omega) (by omega) (by simp [MkT])) rfl ?_
     refine RJ_q (Op_load rfl (load_row (o := 0) (vs := [_, _, _]) Try.underlying34 sz34 pkk hm rfl (by rfl))) rfl ?_
     refine RJ_p rfl (Op_buildRow (T := MkT) (vs := [_]) [m] rfl Try.underlying30 sz34 zr34 rfl rfl rfl rfl rfl (by rfl)) ?_
     rintro _ _ ⟨g74, rfl, rfl⟩
     refine RJ_p rfl (Op_append (T := MkT) (news := [m]) rfl rfl pkk rfl (by simp) (Reads_row pkk) Try.underlying30 sz34 zr34 (by rfl) by34 (by have := List.length_filter_le (fun m => !pastP ses req m) ((sortM L).take j); rw [List.length_take] at this; simp [MkT]; omega) (by have := List.length_filter_le (fun m => !pastP ses req m) ((sortM L).take j); rw [List.length_take] at this; simp [maxLen]; omega)) ?_
     rintro _ _ ⟨a75, c75, rfl, rfl⟩
     have hF : (((sortM L).take j).filter fun m => !pastP ses req m) ++ [m] = (((sortM L).take (j + 1)).filter fun m => !pastP ses req m) := by
       rw [htk, List.filter_append]
       have : (!pastP ses req m) = true := by simp only [pastP]; simp [e1]
       simp [this]
     rw [hF]
     refine RJ_q (Op_assign rfl) rfl ?_
     refine RJ_nil ?_
     refine NJ_then ?_
     refine CJ_env (E' := [(1, _), (2, _), (7, _), (9, _), (10, _), (11, _), (49, _), (50, _)]) (.cons rfl rfl (.cons rfl rfl (.cons rfl rfl (.cons rfl rfl (.cons rfl rfl (.cons rfl rfl (.cons rfl rfl (.cons rfl rfl .nil)))))))) ?_
     refine CJ_seq ?_
     refine CJ_region ?_
     refine RJ_q (Op_move rfl) rfl ?_
     refine RJ_q (Op_move rfl) rfl ?_
     refine RJ_q (Op_move rfl) rfl ?_
     refine RJ_q (Op_indexAddr (o' := j * MkT.sz + 0) rfl rfl Try.underlying30 sz34 (by omega) (by omega) (by simp [MkT])) rfl ?_
     refine RJ_q (Op_fieldAddr (o' := j * MkT.sz + 0) rfl Try.underlying34 rfl sz9 rfl rfl) rfl ?_
     refine RJ_q (Op_load rfl (load_row_cell (o := 0) Try.underlying9 rfl pkk hm Nth.z)) rfl ?_
     refine RJ_p rfl (Op_call (vs := [_, _]) Try.func15 rfl rfl (MkHas_any g 1000 L m.key) rfl (.k (e := (Imp.refl _)))) ?_
     rintro _ _ ⟨_, ⟨rfl, rfl⟩, rfl⟩
     refine RJ_app1 ?_
     refine RJ_q (Op_not rfl) rfl ?_
     refine RJ_nil ?_
     refine NJ_then ?_
     refine CJ_env (E' := [(1, _), (2, _), (7, _), (9, _), (10, _), (49, _), (50, _), (83, _)]) (.cons rfl rfl (.cons rfl rfl (.cons rfl rfl (.cons rfl rfl (.cons rfl rfl (.cons rfl rfl (.cons rfl rfl (.cons rfl rfl .nil)))))))) ?_
     refine CJ_else rfl (congrArg Bool.not (hasR_mem (x := m) (sortM_mem.1 (List.mem_of_getElem? hm)))) ?_
     refine CJ_skip ?_
     refine NJ_blk ?_
     refine NJ_then ?_
     refine CJ_env (E' := [(1, _), (2, _), (7, _), (9, _), (10, _), (49, _), (50, _)]) (.cons rfl rfl (.cons rfl rfl (.cons rfl rfl (.cons rfl rfl (.cons rfl rfl (.cons rfl rfl (.cons rfl rfl .nil))))))) ?_
     refine CJ_region ?_
     refine RJ_q (Op_addN (j + 1) rfl rfl (by omega) (by omega)) rfl ?_
     refine RJ_q (Op_move rfl) rfl ?_
     refine RJ_nil ?_
     refine NJ_back ⟨j + 1, some ga, a75, c75, by omega, rfl, rfl, rfl⟩ (by omega) (.cons rfl (by first | rfl | (simp; done)) (.cons rfl (by first | rfl | (simp; done)) (.cons rfl (by first | rfl | (simp; done)) (.cons rfl (by first | rfl | (simp; done)) (.cons rfl (by first | rfl | (simp; done)) (.cons rfl (by first | rfl | (simp; done)) (.cons rfl (by first | rfl | (simp; done)) .nil))))))) (.k (e := (.k (e := (.k (e := (.k (e := skk))))))))
    ·skip
     refine RJ_q (Op_move rfl) rfl ?_
     refine RJ_yes (t := 60) rfl rfl (decide_eq_false e1) ?_
     refine RJ_q (Op_move rfl) rfl ?_
     refine RJ_yes (t := 60) rfl rfl (decide_eq_false e1) ?_
     refine RJ_q (Op_move rfl) rfl ?_
     refine RJ_yes (t := 60) rfl rfl (decide_eq_false e1) ?_
     refine RJ_q (Op_indexAddr (o' := j * MkT.sz + 0) rfl rfl Try.underlying30 sz34 (by omega) (by omega) (by simp [MkT])) rfl ?_
     refine RJ_yes (t := 60) rfl rfl (decide_eq_false e1) ?_
     refine RJ_q (Op_fieldAddr (o' := j * MkT.sz + 2) rfl Try.underlying34 rfl sz3 rfl rfl) rfl ?_
     refine RJ_yes (t := 60) rfl rfl (decide_eq_false e1) ?_
     refine RJ_q (Op_load rfl (load_row_cell (o := 2) Try.underlying3 rfl pkk hm (Nth.s (Nth.s Nth.z)))) rfl ?_
     refine RJ_yes (t := 60) rfl rfl (decide_eq_false e1) ?_
     refine RJ_q (Op_move rfl) rfl ?_
     refine RJ_yes (t := 60) rfl rfl (decide_eq_false e1) ?_
     refine RJ_q (Op_gtr rfl rfl) rfl ?_
     by_cases e2 : req < m.req
     ·skip
      refine RJ_q (Op_pick_f rfl (decide_eq_false e1) rfl) rfl ?_
      refine RJ_nil ?_
      refine NJ_then ?_
      refine CJ_env (E' := [(1, _), (2, _), (7, _), (9, _), (10, _), (11, _), (49, _), (50, _), (68, _)]) (.cons rfl rfl (.cons rfl rfl (.cons rfl rfl (.cons rfl rfl (.cons rfl rfl (.cons rfl rfl (.cons rfl rfl (.cons rfl rfl (.cons rfl rfl .nil))))))))) ?_
      refine CJ_then rfl (decide_eq_true e2) ?_
      refine CJ_region ?_
      refine RJ_q (Op_move rfl) rfl ?_
      refine RJ_q (Op_move rfl) rfl ?_
      refine RJ_q (Op_move rfl) rfl ?_
      refine RJ_q (Op_indexAddr (o' := j * MkT.sz + 0) rfl rfl Try.underlying30 sz34 (by omega) (by omega) (by simp [MkT])) rfl ?_
      refine RJ_q (Op_load rfl (load_row (o := 0) (vs := [_, _, _]) Try.underlying34 sz34 pkk hm rfl (by rfl))) rfl ?_
      refine RJ_p rfl (Op_buildRow (T := MkT) (vs := [_]) [m] rfl Try.underlying30 sz34 zr34 rfl rfl rfl rfl rfl (by rfl)) ?_
      rintro _ _ ⟨g74, rfl, rfl⟩
      refine RJ_p rfl (Op_append (T := MkT) (news := [m]) rfl rfl pkk rfl (by simp) (Reads_row pkk) Try.underlying30 sz34 zr34 (by rfl) by34 (by have := List.length_filter_le (fun m => !pastP ses req m) ((sortM L).take j); rw [List.length_take] at this; simp [MkT]; omega) (by have := List.length_filter_le (fun m => !pastP ses req m) ((sortM L).take j); rw [List.length_take] at this; simp [maxLen]; omega)) ?_
      rintro _ _ ⟨a75, c75, rfl, rfl⟩
      have hF : (((sortM L).take j).filter fun m => !pastP ses req m) ++ [m] = (((sortM L).take (j + 1)).filter fun m => !pastP ses req m) := by
        rw [htk, List.filter_append]
        have : (!pastP ses req m) = true := by simp only [pastP]; simp; omega
        simp [this]
      rw [hF]
      refine RJ_q (Op_assign rfl) rfl ?_
      refine RJ_nil ?_
      refine NJ_then ?_
      refine CJ_env (E' := [(1, _), (2, _), (7, _), (9, _), (10, _), (11, _), (49, _), (50, _)]) (.cons rfl rfl (.cons rfl rfl (.cons rfl rfl (.cons rfl rfl (.cons rfl rfl (.cons rfl rfl (.cons rfl rfl (.cons rfl rfl .nil)))))))) ?_
      refine CJ_seq ?_
      refine CJ_region ?_
      refine RJ_q (Op_move rfl) rfl ?_
      refine RJ_q (Op_move rfl) rfl ?_
      refine RJ_q (Op_move rfl) rfl ?_
      refine RJ_q (Op_indexAddr (o' := j * MkT.sz + 0) rfl rfl Try.underlying30 sz34 (by omega) (by omega) (by simp [MkT])) rfl ?_
      refine RJ_q (Op_fieldAddr (o' := j * MkT.sz + 0) rfl Try.underlying34 rfl sz9 rfl rfl) rfl ?_
      refine RJ_q (Op_load rfl (load_row_cell (o := 0) Try.underlying9 rfl pkk hm Nth.z)) rfl ?_
      refine RJ_p rfl (Op_call (vs := [_, _]) Try.func15 rfl rfl (MkHas_any g 1000 L m.key) rfl (.k (e := (Imp.refl _)))) ?_
      rintro _ _ ⟨_, ⟨rfl, rfl⟩, rfl⟩
      refine RJ_app1 ?_
      refine RJ_q (Op_not rfl) rfl ?_
      refine RJ_nil ?_
      refine NJ_then ?_
      refine CJ_env (E' := [(1, _), (2, _), (7, _), (9, _), (10, _), (49, _), (50, _), (83, _)]) (.cons rfl rfl (.cons rfl rfl (.cons rfl rfl (.cons rfl rfl (.cons rfl rfl (.cons rfl rfl (.cons rfl rfl (.cons rfl rfl .nil)))))))) ?_
      refine CJ_else rfl (congrArg Bool.not (hasR_mem (x := m) (sortM_mem.1 (List.mem_of_getElem? hm)))) ?_
      refine CJ_skip ?_
      refine NJ_blk ?_
      refine NJ_then ?_
      refine CJ_env (E' := [(1, _), (2, _), (7, _), (9, _), (10, _), (49, _), (50, _)]) (.cons rfl rfl (.cons rfl rfl (.cons rfl rfl (.cons rfl rfl (.cons rfl rfl (.cons rfl rfl (.cons rfl rfl .nil))))))) ?_
      refine CJ_region ?_
      refine RJ_q (Op_addN (j + 1) rfl rfl (by omega) (by omega)) rfl ?_
      refine RJ_q (Op_move rfl) rfl ?_
      refine RJ_nil ?_
      refine NJ_back ⟨j + 1, some ga, a75, c75, by omega, rfl, rfl, rfl⟩ (by omega) (.cons rfl (by first | rfl | (simp; done)) (.cons rfl (by first | rfl | (simp; done)) (.cons rfl (by first | rfl | (simp; done)) (.cons rfl (by first | rfl | (simp; done)) (.cons rfl (by first | rfl | (simp; done)) (.cons rfl (by first | rfl | (simp; done)) (.cons rfl (by first | rfl | (simp; done)) .nil))))))) (.k (e := (.k (e := (.k (e := (.k (e := skk))))))))
     ·skip
      have hF : (((sortM L).take (j + 1)).filter fun m => !pastP ses req m) = (((sortM L).take j).filter fun m => !pastP ses req m) := by rw [htk, List.filter_append]; simp [pastP, show m.ses = ses from Classical.not_not.1 e1, show m.req ≤ req by omega]
      refine RJ_q (Op_pick_f rfl (decide_eq_false e1) rfl) rfl ?_
      refine RJ_nil ?_
      refine NJ_then ?_
      refine CJ_env (E' := [(1, _), (2, _), (7, _), (9, _), (10, _), (11, _), (49, _), (50, _), (68, _)]) (.cons rfl rfl (.cons rfl rfl (.cons rfl rfl (.cons rfl rfl (.cons rfl rfl (.cons rfl rfl (.cons rfl rfl (.cons rfl rfl (.cons rfl rfl .nil))))))))) ?_
      refine CJ_else rfl (decide_eq_false e2) ?_
      refine CJ_skip ?_
      refine NJ_then ?_
      refine CJ_env (E' := [(1, _), (2, _), (7, _), (9, _), (10, _), (11, _), (49, _), (50, _)]) (.cons rfl rfl (.cons rfl rfl (.cons rfl rfl (.cons rfl rfl (.cons rfl rfl (.cons rfl rfl (.cons rfl rfl (.cons rfl rfl .nil)))))))) ?_
      refine CJ_seq ?_
      refine CJ_region ?_
      refine RJ_q (Op_move rfl) rfl ?_
      refine RJ_q (Op_move rfl) rfl ?_
      refine RJ_q (Op_move rfl) rfl ?_
      refine RJ_q (Op_indexAddr (o' := j * MkT.sz + 0) rfl rfl Try.underlying30 sz34 (by omega) (by omega) (by simp [MkT])) rfl ?_
      refine RJ_q (Op_fieldAddr (o' := j * MkT.sz + 0) rfl Try.underlying34 rfl sz9 rfl rfl) rfl ?_
      refine RJ_q (Op_load rfl (load_row_cell (o := 0) Try.underlying9 rfl pkk hm Nth.z)) rfl ?_
      refine RJ_p rfl (Op_call (vs := [_, _]) Try.func15 rfl rfl (MkHas_any g 1000 L m.key) rfl (.k (e := (Imp.refl _)))) ?_
      rintro _ _ ⟨_, ⟨rfl, rfl⟩, rfl⟩
      refine RJ_app1 ?_
      refine RJ_q (Op_not rfl) rfl ?_
      refine RJ_nil ?_
      refine NJ_then ?_
      refine CJ_env (E' := [(1, _), (2, _), (7, _), (9, _), (10, _), (49, _), (50, _), (83, _)]) (.cons rfl rfl (.cons rfl rfl (.cons rfl rfl (.cons rfl rfl (.cons rfl rfl (.cons rfl rfl (.cons rfl rfl (.cons rfl rfl .nil)))))))) ?_
      refine CJ_else rfl (congrArg Bool.not (hasR_mem (x := m) (sortM_mem.1 (List.mem_of_getElem? hm)))) ?_
      refine CJ_skip ?_
      refine NJ_blk ?_
      refine NJ_then ?_
      refine CJ_env (E' := [(1, _), (2, _), (7, _), (9, _), (10, _), (49, _), (50, _)]) (.cons rfl rfl (.cons rfl rfl (.cons rfl rfl (.cons rfl rfl (.cons rfl rfl (.cons rfl rfl (.cons rfl rfl .nil))))))) ?_
      refine CJ_region ?_
      refine RJ_q (Op_addN (j + 1) rfl rfl (by omega) (by omega)) rfl ?_
      refine RJ_q (Op_move rfl) rfl ?_
      refine RJ_nil ?_
      refine NJ_back ⟨j + 1, some ga, tb, c2, by omega, rfl, rfl, rfl⟩ (by omega) (.cons rfl rfl (.cons rfl rfl (.cons rfl rfl (.cons rfl (by rw [hF]) (.cons rfl rfl (.cons rfl rfl (.cons rfl rfl .nil))))))) (by rw [hF]; exact (.k (e := (.k (e := (.k (e := (.k (e := skk)))))))))
   ·skip
    refine RJ_nil ?_
    refine NJ_then ?_
    refine CJ_env (E' := [(1, _), (2, _), (7, _), (9, _), (10, _), (49, _), (50, _), (51, _)]) (.cons rfl rfl (.cons rfl rfl (.cons rfl rfl (.cons rfl rfl (.cons rfl rfl (.cons rfl rfl (.cons rfl rfl (.cons rfl rfl .nil)))))))) ?_
    refine CJ_seq ?_
    refine CJ_else rfl (decide_eq_false hj) ?_
    refine CJ_exit ?_
    refine NJ_then_x ?_
    refine NJ_then_x ?_
    refine NJ_blk_hit ?_
    refine NJ_then ?_
    refine CJ_env (E' := [(1, _), (2, _), (7, _), (9, _), (10, _)]) (.cons rfl rfl (.cons rfl rfl (.cons rfl rfl (.cons rfl rfl (.cons rfl rfl .nil))))) ?_
    refine CJ_seq ?_
    have hje : j = (sortM L).length := by omega
    subst hje
    rw [List.take_length]
    refine CJ_region ?_
    refine RJ_q (Op_move rfl) rfl ?_
    refine RJ_q (Op_move rfl) rfl ?_
    refine RJ_q (Op_move rfl) rfl ?_
    refine RJ_p rfl (Op_call (vs := [_, _, _]) Try.func14 rfl rfl (Past_any g 1000 L hI.nd (by have := hI.len; omega) ses req) rfl (.k (e := (Imp.refl _)))) ?_
    rintro _ _ ⟨_, ⟨rfl, rfl⟩, rfl⟩
    refine RJ_app1 ?_
    refine RJ_q (Op_assign rfl) rfl ?_
    refine RJ_nil ?_
    refine NJ_then ?_
    refine CJ_env (E' := [(7, _), (9, _), (10, _), (12, _)]) (.cons rfl rfl (.cons rfl rfl (.cons rfl rfl (.cons rfl rfl .nil)))) ?_
    refine CJ_seq ?_
    refine CJ_region ?_
    refine RJ_q (Op_move rfl) rfl ?_
    refine RJ_p rfl (Op_call (vs := [_]) Try.func10 rfl rfl (All_any g 1000 (restR (pastP ses req) L) (by have := rest_len (pastP ses req) L; have := hI.len; omega)) rfl (.k (e := (Imp.refl _)))) ?_
    rintro _ _ ⟨_, ⟨a90, c3, rfl, rfl⟩, rfl⟩
    refine RJ_app2 ?_
    rw [filter_sort hI.nd]
    refine RJ_q (Op_assign rfl) rfl ?_
    refine RJ_nil ?_
    refine NJ_then ?_
    refine CJ_env (E' := [(7, _), (9, _), (10, _), (12, _), (13, _)]) (.cons rfl rfl (.cons rfl rfl (.cons rfl rfl (.cons rfl rfl (.cons rfl rfl .nil))))) ?_
    refine CJ_seq ?_
    refine CJ_seq ?_
    refine CJ_region ?_
    refine RJ_q (Op_move rfl) rfl ?_
    refine RJ_q (Op_move rfl) rfl ?_
    refine RJ_q (Op_len_slice rfl Try.underlying30) rfl ?_
    refine RJ_q (Op_move rfl) rfl ?_
    refine RJ_q (Op_len_slice rfl Try.underlying30) rfl ?_
    have hr1 := rest_plus (pastP ses req) L
    have hr2 := sortM_len L
    have hr3 := rest_len (pastP ses req) L
    have hr4 := hI.len
    refine RJ_q (Op_sub64 rfl rfl (by omega)) rfl ?_
    refine RJ_q (Op_neq rfl rfl) rfl ?_
    refine RJ_q (Op_move rfl) rfl ?_
    refine RJ_yes (t := 98) rfl rfl (by simp only [decide_eq_false_iff_not, ne_eq, Classical.not_not]; omega) ?_
    refine RJ_q (Op_move rfl) rfl ?_
    refine RJ_yes (t := 98) rfl rfl (by simp only [decide_eq_false_iff_not, ne_eq, Classical.not_not]; omega) ?_
    refine RJ_q (Op_len_slice rfl Try.underlying30) rfl ?_
    refine RJ_yes (t := 98) rfl rfl (by simp only [decide_eq_false_iff_not, ne_eq, Classical.not_not]; omega) ?_
    refine RJ_q (Op_move rfl) rfl ?_
    refine RJ_yes (t := 98) rfl rfl (by simp only [decide_eq_false_iff_not, ne_eq, Classical.not_not]; omega) ?_
    refine RJ_q (Op_len_slice rfl Try.underlying30) rfl ?_
    refine RJ_yes (t := 98) rfl rfl (by simp only [decide_eq_false_iff_not, ne_eq, Classical.not_not]; omega) ?_
    refine RJ_q (Op_neq rfl rfl) rfl ?_
    refine RJ_q (Op_pick_f rfl (by simp only [decide_eq_false_iff_not, ne_eq, Classical.not_not]; omega) rfl) rfl ?_
    refine RJ_q (Op_move rfl) rfl ?_
    refine RJ_yes (t := 105) rfl rfl (by simp) ?_
    refine RJ_q (Op_move rfl) rfl ?_
    refine RJ_yes (t := 105) rfl rfl (by simp) ?_
    refine RJ_p rfl (Op_call (vs := [_]) Try.func11 rfl rfl (MkLen_any g 1000 (restR (pastP ses req) L)) rfl (.k (e := (Imp.refl _)))) ?_
    rintro _ _ ⟨_, ⟨rfl, rfl⟩, rfl⟩
    refine RJ_app1 ?_
    refine RJ_yes (t := 105) rfl rfl (by simp) ?_
    refine RJ_q (Op_move rfl) rfl ?_
    refine RJ_yes (t := 105) rfl rfl (by simp) ?_
    refine RJ_q (Op_len_slice rfl Try.underlying30) rfl ?_
    refine RJ_yes (t := 105) rfl rfl (by simp) ?_
    refine RJ_q (Op_neq rfl rfl) rfl ?_
    refine RJ_q (Op_pick_f rfl (by simp) rfl) rfl ?_
    refine RJ_nil ?_
    refine NJ_then ?_
    refine CJ_env (E' := [(9, _), (13, _), (111, _)]) (.cons rfl rfl (.cons rfl rfl (.cons rfl rfl .nil))) ?_
    refine CJ_else rfl (by simp only [decide_eq_false_iff_not, ne_eq, Classical.not_not]; omega) ?_
    refine CJ_skip ?_
    refine NJ_then ?_
    refine CJ_env (E' := [(9, _), (13, _)]) (.cons rfl rfl (.cons rfl rfl .nil)) ?_
    refine CJ_seq ?_
    refine CJ_seq ?_
    refine CJ_region ?_
    refine RJ_q (Op_move rfl) rfl ?_
    refine RJ_q (Op_len_slice rfl Try.underlying30) rfl ?_
    refine RJ_q (Op_move rfl) rfl ?_
    refine RJ_nil ?_
    refine NJ_then ?_
    refine CJ_env (E' := [(9, _), (13, _), (113, _), (114, _)]) (.cons rfl rfl (.cons rfl rfl (.cons rfl rfl (.cons rfl rfl .nil)))) ?_
    refine CJ_block ?_
    refine CJ_loop (fun E H m => ∃ (q : Nat) (ta tb : Option Nat), (q ≤ ((sortM L).filter fun m => !pastP ses req m).length) ∧ E = [(9, .slice (sl tb) ((sortM L).filter fun m => !pastP ses req m).length c2), (13, .slice (sl ta) ((sortM L).filter fun m => !pastP ses req m).length c3), (113, .int .i64 (((sortM L).filter fun m => !pastP ses req m).length : Nat)), (114, .int .i64 (q : Nat))] ∧ H = [Row MkT ta c3 ((sortM L).filter fun m => !pastP ses req m), Row MkT tb c2 ((sortM L).filter fun m => !pastP ses req m), old W] ++ R ∧ m = ((sortM L).filter fun m => !pastP ses req m).length - q) (E' := [(9, .slice (sl tb) ((sortM L).filter fun m => !pastP ses req m).length c2), (13, .slice (sl a90) ((sortM L).filter fun m => !pastP ses req m).length c3), (113, .int .i64 (((sortM L).filter fun m => !pastP ses req m).length : Nat)), (114, .int .i64 (0 : Nat))]) (H' := [Row MkT a90 c3 ((sortM L).filter fun m => !pastP ses req m), Row MkT tb c2 ((sortM L).filter fun m => !pastP ses req m), old W] ++ R) (m := ((sortM L).filter fun m => !pastP ses req m).length - 0) ⟨0, a90, tb, Nat.zero_le _, rfl, rfl, rfl⟩ (.cons rfl rfl (.cons rfl rfl (.cons rfl rfl (.cons rfl rfl .nil)))) (.k (e := (.k (e := (.k (e := skk)))))) ?_
    rintro _ _ _ ⟨q, ta, tb, hq0, rfl, rfl, rfl⟩
    refine CJ_app3 ?_
    refine CJ_seq ?_
    refine CJ_region ?_
    refine RJ_q (Op_lss rfl rfl) rfl ?_
    by_cases hq : (q : Int) < ((sortM L).filter fun m => !pastP ses req m).length
    ·skip
     obtain ⟨m, hm⟩ : ∃ m, ((sortM L).filter fun m => !pastP ses req m)[q]? = some m := ⟨((sortM L).filter fun m => !pastP ses req m)[q], List.getElem?_eq_getElem (by omega)⟩
     refine RJ_nil ?_
     refine NJ_then ?_
     refine CJ_env (E' := [(9, _), (13, _), (113, _), (114, _), (115, _)]) (.cons rfl rfl (.cons rfl rfl (.cons rfl rfl (.cons rfl rfl (.cons rfl rfl .nil))))) ?_
     refine CJ_seq ?_
     refine CJ_then rfl (decide_eq_true hq) ?_
     refine CJ_skip ?_
     refine NJ_then ?_
     refine CJ_env (E' := [(9, _), (13, _), (113, _), (114, _)]) (.cons rfl rfl (.cons rfl rfl (.cons rfl rfl (.cons rfl rfl .nil)))) ?_
     refine CJ_seq ?_
     refine CJ_block ?_
     refine CJ_seq ?_
     refine CJ_region ?_
     refine RJ_q (Op_move rfl) rfl ?_
     refine RJ_q (Op_assign rfl) rfl ?_
     refine RJ_nil ?_
     refine NJ_then ?_
     refine CJ_env (E' := [(9, _), (13, _), (14, _), (113, _), (114, _)]) (.cons rfl rfl (.cons rfl rfl (.cons rfl rfl (.cons rfl rfl (.cons rfl rfl .nil))))) ?_
     refine CJ_seq ?_
     refine CJ_know (Row_know (T := MkT) (a := ta) pkk) ?_
     intro hk1
     obtain ⟨ga, rfl⟩ := row_some hk1.2.2 (by intro e; rw [e] at hm; cases hm)
     refine CJ_know (Row_know (T := MkT) (a := tb) pkk) ?_
     intro hk2
     obtain ⟨gb, rfl⟩ := row_some hk2.2.2 (by intro e; rw [e] at hm; cases hm)
     refine CJ_draw (.q 0 (.q 1 (.q 2 (.q 3 (.q 4 (.q 5 (.q 6 (.q 7 (.q 8 .done))))))))) (by kernel_rfl) (by kernel_rfl) (by kernel_rfl) ?_
     refine SJ_q rfl (want_none rfl) rfl (fun _ _ => Op_move rfl) ?_
     refine SJ_q rfl (want_none rfl) rfl (fun _ _ => Op_move rfl) ?_
     refine SJ_q rfl (want_none rfl) rfl (fun _ _ => Op_indexAddr (o' := q * MkT.sz + 0) rfl rfl Try.underlying30 sz34 (by omega) (by omega) (by simp [MkT])) ?_
     refine SJ_load rfl (want_none rfl) rfl rfl (load_row (o := 0) (vs := [_, _, _]) Try.underlying34 sz34 pkk hm rfl (by rfl)) ?_
     refine SJ_q rfl (want_none rfl) rfl (fun _ _ => Op_move rfl) ?_
     refine SJ_q rfl (want_none rfl) rfl (fun _ _ => Op_move rfl) ?_
     refine SJ_q rfl (want_none rfl) rfl (fun _ _ => Op_indexAddr (o' := q * MkT.sz + 0) rfl rfl Try.underlying30 sz34 (by omega) (by omega) (by simp [MkT])) ?_
     refine SJ_load rfl (want_none rfl) rfl rfl (load_row (o := 0) (vs := [_, _, _]) Try.underlying34 sz34 pkk hm rfl (by rfl)) ?_
     refine SJ_q rfl (want_none rfl) rfl (fun _ _ => Op_struct_neq rfl rfl (by kernel_rfl) (EqJ_markSelf m)) ?_
     refine SJ_done ?_
     refine NJ_then ?_
     refine CJ_env (E' := [(9, _), (13, _), (113, _), (114, _), (125, _)]) (.cons rfl rfl (.cons rfl rfl (.cons rfl rfl (.cons rfl rfl (.cons rfl rfl .nil))))) ?_
     refine CJ_else rfl rfl ?_
     refine CJ_skip ?_
     refine NJ_blk ?_
     refine NJ_then ?_
     refine CJ_env (E' := [(9, _), (13, _), (113, _), (114, _)]) (.cons rfl rfl (.cons rfl rfl (.cons rfl rfl (.cons rfl rfl .nil)))) ?_
     refine CJ_region ?_
     refine RJ_q (Op_addN (q + 1) rfl rfl (by omega) (by omega)) rfl ?_
     refine RJ_q (Op_move rfl) rfl ?_
     refine RJ_nil ?_
     refine NJ_back ⟨q + 1, some ga, some gb, by omega, rfl, rfl, rfl⟩ (by omega) (.cons rfl (by first | rfl | (simp; done)) (.cons rfl (by first | rfl | (simp; done)) (.cons rfl (by first | rfl | (simp; done)) (.cons rfl (by first | rfl | (simp; done)) .nil)))) (.k (e := (.k (e := (.k (e := skk))))))
    ·skip
     refine RJ_nil ?_
     refine NJ_then ?_
     refine CJ_env (E' := [(9, _), (13, _), (113, _), (114, _), (115, _)]) (.cons rfl rfl (.cons rfl rfl (.cons rfl rfl (.cons rfl rfl (.cons rfl rfl .nil))))) ?_
     refine CJ_seq ?_
     refine CJ_else rfl (decide_eq_false hq) ?_
     refine CJ_exit ?_
     refine NJ_then_x ?_
     refine NJ_then_x ?_
     refine NJ_blk_hit ?_
     refine NJ_then ?_
     refine CJ_env (E' := []) .nil ?_
     refine CJ_seq ?_
     refine CJ_region ?_
     refine RJ_q (Op_assign rfl) rfl ?_
     refine RJ_nil ?_
     refine NJ_then ?_
     refine CJ_env (E' := [(6, _)]) (.cons rfl rfl .nil) ?_
     refine CJ_ret ?_
     refine NJ_ret (.inl rfl) Try.results5 (ResJ_tmp rfl ResJ_nil) ⟨rfl, rfl⟩ (.k (e := skk))
 ·skip
  refine RJ_q (Op_move rfl) rfl ?_
  refine RJ_no (t := 22) false rfl rfl (decide_eq_false hi1) (by decide) rfl ?_
  refine RJ_no (t := 22) false rfl rfl (decide_eq_false hi1) (by decide) rfl ?_
  refine RJ_q (Op_pick_f rfl (decide_eq_false hi1) rfl) rfl ?_
  refine RJ_nil ?_
  refine NJ_then ?_
  refine CJ_env (E' := [(0, _), (1, _), (2, _), (7, _), (8, _), (25, _)]) (.cons rfl rfl (.cons rfl rfl (.cons rfl rfl (.cons rfl rfl (.cons rfl rfl (.cons rfl rfl .nil)))))) ?_
  refine CJ_else rfl rfl ?_
  refine CJ_exit ?_
  refine NJ_then_x ?_
  refine NJ_then_x ?_
  refine NJ_blk_hit ?_
  refine NJ_then ?_
  refine CJ_env (E' := [(1, _), (2, _), (7, _)]) (.cons rfl rfl (.cons rfl rfl (.cons rfl rfl .nil))) ?_
  refine CJ_seq ?_
  refine CJ_region ?_
  refine RJ_q (Op_assign rfl) rfl ?_
  refine RJ_nil ?_
  refine NJ_then ?_
  refine CJ_env (E' := [(1, _), (2, _), (7, _), (9, _)]) (.cons rfl rfl (.cons rfl rfl (.cons rfl rfl (.cons rfl rfl .nil)))) ?_
  refine CJ_seq ?_
  refine CJ_region ?_
  refine RJ_q (Op_move rfl) rfl ?_
  refine RJ_p rfl (Op_call (vs := [_]) Try.func10 rfl rfl (All_any g 1000 L (by have := hI.len; omega)) rfl (.k (e := (Imp.refl _)))) ?_
  rintro _ _ ⟨_, ⟨a47, c, rfl, rfl⟩, rfl⟩
  refine RJ_app2 ?_
  refine RJ_q (Op_assign rfl) rfl ?_
  refine RJ_nil ?_
  refine NJ_then ?_
  refine CJ_env (E' := [(1, _), (2, _), (7, _), (9, _), (10, _)]) (.cons rfl rfl (.cons rfl rfl (.cons rfl rfl (.cons rfl rfl (.cons rfl rfl .nil))))) ?_
  refine CJ_seq ?_
  refine CJ_seq ?_
  refine CJ_region ?_
  refine RJ_q (Op_move rfl) rfl ?_
  refine RJ_q (Op_len_slice rfl Try.underlying30) rfl ?_
  refine RJ_q (Op_move rfl) rfl ?_
  refine RJ_nil ?_
  refine NJ_then ?_
  refine CJ_env (E' := [(1, _), (2, _), (7, _), (9, _), (10, _), (49, _), (50, _)]) (.cons rfl rfl (.cons rfl rfl (.cons rfl rfl (.cons rfl rfl (.cons rfl rfl (.cons rfl rfl (.cons rfl rfl .nil))))))) ?_
  refine CJ_block ?_
  refine CJ_loop (fun E H m => ∃ (j : Nat) (ta tb : Option Nat) (c2 : Nat), (j ≤ (sortM L).length) ∧ E = [(1, .int .i64 ses), (2, .int .i64 req), (7, .pointer (some ⟨g, 0, none⟩)), (9, .slice (sl tb) (((sortM L).take j).filter fun m => !pastP ses req m).length c2), (10, .slice (sl ta) (sortM L).length c), (49, .int .i64 ((sortM L).length : Nat)), (50, .int .i64 (j : Nat))] ∧ H = [MarksP g 1000 L, Row MkT ta c (sortM L), Row MkT tb c2 (((sortM L).take j).filter fun m => !pastP ses req m), old W] ++ R ∧ m = (sortM L).length - j) (E' := [(1, .int .i64 ses), (2, .int .i64 req), (7, .pointer (some ⟨g, 0, none⟩)), (9, .slice (sl none) (((sortM L).take 0).filter fun m => !pastP ses req m).length 0), (10, .slice (sl a47) (sortM L).length c), (49, .int .i64 ((sortM L).length : Nat)), (50, .int .i64 (0 : Nat))]) (H' := [MarksP g 1000 L, Row MkT a47 c (sortM L), Row MkT none 0 (((sortM L).take 0).filter fun m => !pastP ses req m), old W] ++ R) (m := (sortM L).length - 0) ⟨0, a47, none, 0, Nat.zero_le _, rfl, rfl, rfl⟩ (.cons rfl rfl (.cons rfl rfl (.cons rfl rfl (.cons rfl rfl (.cons rfl rfl (.cons rfl rfl (.cons rfl rfl .nil))))))) (.trans (Row_none MkT).imp_add (.k (e := (.k (e := (.k (e := (.k (e := skk))))))))) ?_
  rintro _ _ _ ⟨j, ta, tb, c2, hj0, rfl, rfl, rfl⟩
  refine CJ_app4 ?_
  refine CJ_seq ?_
  refine CJ_region ?_
  refine RJ_q (Op_lss rfl rfl) rfl ?_
  by_cases hj : (j : Int) < (sortM L).length
  ·skip
   obtain ⟨m, hm⟩ : ∃ m, (sortM L)[j]? = some m := ⟨(sortM L)[j], List.getElem?_eq_getElem (by omega)⟩
   have hml := sortM_len L
   have hll := hI.len
   have htk : (sortM L).take (j + 1) = (sortM L).take j ++ [m] := by rw [List.take_add_one, hm]; rfl
   refine RJ_nil ?_
   refine NJ_then ?_
   refine CJ_env (E' := [(1, _), (2, _), (7, _), (9, _), (10, _), (49, _), (50, _), (51, _)]) (.cons rfl rfl (.cons rfl rfl (.cons rfl rfl (.cons rfl rfl (.cons rfl rfl (.cons rfl rfl (.cons rfl rfl (.cons rfl rfl .nil)))))))) ?_
   refine CJ_seq ?_
   refine CJ_then rfl (decide_eq_true hj) ?_
   refine CJ_skip ?_
   refine NJ_then ?_
   refine CJ_env (E' := [(1, _), (2, _), (7, _), (9, _), (10, _), (49, _), (50, _)]) (.cons rfl rfl (.cons rfl rfl (.cons rfl rfl (.cons rfl rfl (.cons rfl rfl (.cons rfl rfl (.cons rfl rfl .nil))))))) ?_
   refine CJ_seq ?_
   refine CJ_block ?_
   refine CJ_seq ?_
   refine CJ_region ?_
   refine RJ_q (Op_move rfl) rfl ?_
   refine RJ_q (Op_assign rfl) rfl ?_
   refine RJ_nil ?_
   refine NJ_then ?_
   refine CJ_env (E' := [(1, _), (2, _), (7, _), (9, _), (10, _), (11, _), (49, _), (50, _)]) (.cons rfl rfl (.cons rfl rfl (.cons rfl rfl (.cons rfl rfl (.cons rfl rfl (.cons rfl rfl (.cons rfl rfl (.cons rfl rfl .nil)))))))) ?_
   refine CJ_seq ?_
   refine CJ_seq ?_
   refine CJ_know (Row_know (T := MkT) (a := ta) pkk) ?_
   intro hk1
   obtain ⟨ga, rfl⟩ := row_some hk1.2.2 (by intro e; rw [e] at hm; cases hm)
   refine CJ_region ?_
   refine RJ_q (Op_move rfl) rfl ?_
   refine RJ_q (Op_move rfl) rfl ?_
   refine RJ_q (Op_indexAddr (o' := j * MkT.sz + 0) rfl rfl Try.underlying30 sz34 (by omega) (by omega) (by simp [MkT])) rfl ?_
   refine RJ_q (Op_fieldAddr (o' := j * MkT.sz + 1) rfl Try.underlying34 rfl sz3 rfl rfl) rfl ?_
   refine RJ_q (Op_load rfl (load_row_cell (o := 1) Try.underlying3 rfl pkk hm (Nth.s Nth.z))) rfl ?_
   refine RJ_q (Op_move rfl) rfl ?_
   refine RJ_q (Op_neq rfl rfl) rfl ?_
   by_cases e1 : m.ses ≠ ses
   ·skip
    refine RJ_q (Op_move rfl) rfl ?_
    refine RJ_no (t := 60) true rfl rfl (decide_eq_true e1) (by decide) rfl ?_
    refine RJ_no (t := 60) true rfl rfl (decide_eq_true e1) (by decide) rfl ?_
    refine RJ_no (t := 60) true rfl rfl (decide_eq_true e1) (by decide) rfl ?_
    refine RJ_no (t := 60) true rfl rfl (decide_eq_true e1) (by decide) rfl ?_
    refine RJ_no (t := 60) true rfl rfl (decide_eq_true e1) (by decide) rfl ?_
    refine RJ_no (t := 60) true rfl rfl (decide_eq_true e1) (by decide) rfl ?_
    refine RJ_no (t := 60) true rfl rfl (decide_eq_true e1) (by decide) rfl ?_
    refine RJ_q (Op_pick_t rfl (decide_eq_true e1) rfl) rfl ?_
    refine RJ_nil ?_
    refine NJ_then ?_
    refine CJ_env (E' := [(1, _), (2, _), (7, _), (9, _), (10, _), (11, _), (49, _), (50, _), (68, _)]) (.cons rfl rfl (.cons rfl rfl (.cons rfl rfl (.cons rfl rfl (.cons rfl rfl (.cons rfl rfl (.cons rfl rfl (.cons rfl rfl (.cons rfl rfl .nil))))))))) ?_
    refine CJ_then rfl rfl ?_
    refine CJ_region ?_
    refine RJ_q (Op_move rfl) rfl ?_
    refine RJ_q (Op_move rfl) rfl ?_
    refine RJ_q (Op_move rfl) rfl ?_
    refine RJ_q (Op_indexAddr (o' := j * MkT.sz + 0) rfl rfl Try.underlying30 sz34 (by omega) (by omega) (by simp [MkT])) rfl ?_
    refine RJ_q (Op_load rfl (load_row (o := 0) (vs := [_, _, _]) Try.underlying34 sz34 pkk hm rfl (by rfl))) rfl ?_
    refine RJ_p rfl (Op_buildRow (T := MkT) (vs := [_]) [m] rfl Try.underlying30 sz34 zr34 rfl rfl rfl rfl rfl (by rfl)) ?_
    rintro _ _ ⟨g74, rfl, rfl⟩
    refine RJ_p rfl (Op_append (T := MkT) (news := [m]) rfl rfl pkk rfl (by simp) (Reads_row pkk) Try.underlying30 sz34 zr34 (by rfl) by34 (by have := List.length_filter_le (fun m => !pastP ses req m) ((sortM L).take j); rw [List.length_take] at this; simp [MkT]; omega) (by have := List.length_filter_le (fun m => !pastP ses req m) ((sortM L).take j); rw [List.length_take] at this; simp [maxLen]; omega)) ?_
    rintro _ _ ⟨a75, c75, rfl, rfl⟩
    have hF : (((sortM L).take j).filter fun m => !pastP ses req m) ++ [m] = (((sortM L).take (j + 1)).filter fun m => !pastP ses req m) := by
      rw [htk, List.filter_append]
      have : (!pastP ses req m) = true := by simp only [pastP]; simp [e1]
      simp [this]
    rw [hF]
    refine RJ_q (Op_assign rfl) rfl ?_
    refine RJ_nil ?_
    refine NJ_then ?_
    refine CJ_env (E' := [(1, _), (2, _), (7, _), (9, _), (10, _), (11, _), (49, _), (50, _)]) (.cons rfl rfl (.cons rfl rfl (.cons rfl rfl (.cons rfl rfl (.cons rfl rfl (.cons rfl rfl (.cons rfl rfl (.cons rfl rfl .nil)))))))) ?_
    refine CJ_seq ?_
    refine CJ_region ?_
    refine RJ_q (Op_move rfl) rfl ?_
    refine RJ_q (Op_move rfl) rfl ?_
    refine RJ_q (Op_move rfl) rfl ?_
    refine RJ_q (Op_indexAddr (o' := j * MkT.sz + 0) rfl rfl Try.underlying30 sz34 (by omega) (by omega) (by simp [MkT])) rfl ?_
    refine RJ_q (Op_fieldAddr (o' := j * MkT.sz + 0) rfl Try.underlying34 rfl sz9 rfl rfl) rfl ?_
    refine RJ_q (Op_load rfl (load_row_cell (o := 0) Try.underlying9 rfl pkk hm Nth.z)) rfl ?_
    refine RJ_p rfl (Op_call (vs := [_, _]) Try.func15 rfl rfl (MkHas_any g 1000 L m.key) rfl (.k (e := (Imp.refl _)))) ?_
    rintro _ _ ⟨_, ⟨rfl, rfl⟩, rfl⟩
    refine RJ_app1 ?_
    refine RJ_q (Op_not rfl) rfl ?_
    refine RJ_nil ?_
    refine NJ_then ?_
    refine CJ_env (E' := [(1, _), (2, _), (7, _), (9, _), (10, _), (49, _), (50, _), (83, _)]) (.cons rfl rfl (.cons rfl rfl (.cons rfl rfl (.cons rfl rfl (.cons rfl rfl (.cons rfl rfl (.cons rfl rfl (.cons rfl rfl .nil)))))))) ?_
    refine CJ_else rfl (congrArg Bool.not (hasR_mem (x := m) (sortM_mem.1 (List.mem_of_getElem? hm)))) ?_
    refine CJ_skip ?_
    refine NJ_blk ?_
    refine NJ_then ?_
    refine CJ_env (E' := [(1, _), (2, _), (7, _), (9, _), (10, _), (49, _), (50, _)]) (.cons rfl rfl (.cons rfl rfl (.cons rfl rfl (.cons rfl rfl (.cons rfl rfl (.cons rfl rfl (.cons rfl rfl .nil))))))) ?_
    refine CJ_region ?_
    refine RJ_q (Op_addN (j + 1) rfl rfl (by omega) (by omega)) rfl ?_
    refine RJ_q (Op_move rfl) rfl ?_
    refine RJ_nil ?_
    refine NJ_back ⟨j + 1, some ga, a75, c75, by omega, rfl, rfl, rfl⟩ (by omega) (.cons rfl (by first | rfl | (simp; done)) (.cons rfl (by first | rfl | (simp; done)) (.cons rfl (by first | rfl | (simp; done)) (.cons rfl (by first | rfl | (simp; done)) (.cons rfl (by first | rfl | (simp; done)) (.cons rfl (by first | rfl | (simp; done)) (.cons rfl (by first | rfl | (simp; done)) .nil))))))) (.k (e := (.k (e := (.k (e := (.k (e := skk))))))))
   ·skip
    refine RJ_q (Op_move rfl) rfl ?_
    refine RJ_yes (t := 60) rfl rfl (decide_eq_false e1) ?_
    refine RJ_q (Op_move rfl) rfl ?_
    refine RJ_yes (t := 60) rfl rfl (decide_eq_false e1) ?_
    refine RJ_q (Op_move rfl) rfl ?_
    refine RJ_yes (t := 60) rfl rfl (decide_eq_false e1) ?_
    refine RJ_q (Op_indexAddr (o' := j * MkT.sz + 0) rfl rfl Try.underlying30 sz34 (by omega) (by omega) (by simp [MkT])) rfl ?_
    refine RJ_yes (t := 60) rfl rfl (decide_eq_false e1) ?_
    refine RJ_q (Op_fieldAddr (o' := j * MkT.sz + 2) rfl Try.underlying34 rfl sz3 rfl rfl) rfl ?_
    refine RJ_yes (t := 60) rfl rfl (decide_eq_false e1) ?_
    refine RJ_q (Op_load rfl (load_row_cell (o := 2) Try.underlying3 rfl pkk hm (Nth.s (Nth.s Nth.z)))) rfl ?_
    refine RJ_yes (t := 60) rfl rfl (decide_eq_false e1) ?_
    refine RJ_q (Op_move rfl) rfl ?_
    refine RJ_yes (t := 60) rfl rfl (decide_eq_false e1) ?_
    refine RJ_q (Op_gtr rfl rfl) rfl ?_
    by_cases e2 : req < m.req
    ·skip
     refine RJ_q (Op_pick_f rfl (decide_eq_false e1) rfl) rfl ?_
     refine RJ_nil ?_
     refine NJ_then ?_
     refine CJ_env (E' := [(1, _), (2, _), (7, _), (9, _), (10, _), (11, _), (49, _), (50, _), (68, _)]) (.cons rfl rfl (.cons rfl rfl (.cons rfl rfl (.cons rfl rfl (.cons rfl rfl (.cons rfl rfl (.cons rfl rfl (.cons rfl rfl (.cons rfl rfl .nil))))))))) ?_
     refine CJ_then rfl (decide_eq_true e2) ?_
     refine CJ_region ?_
     refine RJ_q (Op_move rfl) rfl ?_
     refine RJ_q (Op_move rfl) rfl ?_
     refine RJ_q (Op_move rfl) rfl ?_
     refine RJ_q (Op_indexAddr (o' := j * MkT.sz + 0) rfl rfl Try.underlying30 sz34 (by omega) (by omega) (by simp [MkT])) rfl ?_
     refine RJ_q (Op_load rfl (load_row (o := 0) (vs := [_, _, _]) Try.underlying34 sz34 pkk hm rfl (by rfl))) rfl ?_
     refine RJ_p rfl (Op_buildRow (T := MkT) (vs := [_]) [m] rfl Try.underlying30 sz34 zr34 rfl rfl rfl rfl rfl (by rfl)) ?_
     rintro _ _ ⟨g74, rfl, rfl⟩
     refine RJ_p rfl (Op_append (T := MkT) (news := [m]) rfl rfl pkk rfl (by simp) (Reads_row pkk) Try.underlying30 sz34 zr34 (by rfl) by34 (by have := List.length_filter_le (fun m => !pastP ses req m) ((sortM L).take j); rw [List.length_take] at this; simp [MkT]; omega) (by have := List.length_filter_le (fun m => !pastP ses req m) ((sortM L).take j); rw [List.length_take] at this; simp [maxLen]; omega)) ?_
     rintro _ _ ⟨a75, c75, rfl, rfl⟩
     have hF : (((sortM L).take j).filter fun m => !pastP ses req m) ++ [m] = (((sortM L).take (j + 1)).filter fun m => !pastP ses req m) := by
       rw [htk, List.filter_append]
       have : (!pastP ses req m) = true := by simp only [pastP]; simp; omega
       simp [this]
     rw [hF]
     refine RJ_q (Op_assign rfl) rfl ?_
     refine RJ_nil ?_
     refine NJ_then ?_
     refine CJ_env (E' := [(1, _), (2, _), (7, _), (9, _), (10, _), (11, _), (49, _), (50, _)]) (.cons rfl rfl (.cons rfl rfl (.cons rfl rfl (.cons rfl rfl (.cons rfl rfl (.cons rfl rfl (.cons rfl rfl (.cons rfl rfl .nil)))))))) ?_
     refine CJ_seq ?_
     refine CJ_region ?_
     refine RJ_q (Op_move rfl) rfl ?_
     refine RJ_q (Op_move rfl) rfl ?_
     refine RJ_q (Op_move rfl) rfl ?_
     refine RJ_q (Op_indexAddr (o' := j * MkT.sz + 0) rfl rfl Try.underlying30 sz34 (by omega) (by omega) (by simp [MkT])) rfl ?_
     refine RJ_q (Op_fieldAddr (o' := j * MkT.sz + 0) rfl Try.underlying34 rfl sz9 rfl rfl) rfl ?_
     refine RJ_q (Op_load rfl (load_row_cell (o := 0) Try.underlying9 rfl pkk hm Nth.z)) rfl ?_
     refine RJ_p rfl (Op_call (vs := [_, _]) Try.func15 rfl rfl (MkHas_any g 1000 L m.key) rfl (.k (e := (Imp.refl _)))) ?_
     rintro _ _ ⟨_, ⟨rfl, rfl⟩, rfl⟩
     refine RJ_app1 ?_
     refine RJ_q (Op_not rfl) rfl ?_
     refine RJ_nil ?_
     refine NJ_then ?_
     refine CJ_env (E' := [(1, _), (2, _), (7, _), (9, _), (10, _), (49, _), (50, _), (83, _)]) (.cons rfl rfl (.cons rfl rfl (.cons rfl rfl (.cons rfl rfl (.cons rfl rfl (.cons rfl rfl (.cons rfl rfl (.cons rfl rfl .nil)))))))) ?_
     refine CJ_else rfl (congrArg Bool.not (hasR_mem (x := m) (sortM_mem.1 (List.mem_of_getElem? hm)))) ?_
     refine CJ_skip ?_
     refine NJ_blk ?_
     refine NJ_then ?_
     refine CJ_env (E' := [(1, _), (2, _), (7, _), (9, _), (10, _), (49, _), (50, _)]) (.cons rfl rfl (.cons rfl rfl (.cons rfl rfl (.cons rfl rfl (.cons rfl rfl (.cons rfl rfl (.cons rfl rfl .nil))))))) ?_
     refine CJ_region ?_
     refine RJ_q (Op_addN (j + 1) rfl rfl (by omega) (by omega)) rfl ?_
     refine RJ_q (Op_move rfl) rfl ?_
     refine RJ_nil ?_
     refine NJ_back ⟨j + 1, some ga, a75, c75, by omega, rfl, rfl, rfl⟩ (by omega) (.cons rfl (by first | rfl | (simp; done)) (.cons rfl (by first | rfl | (simp; done)) (.cons rfl (by first | rfl | (simp; done)) (.cons rfl (by first | rfl | (simp; done)) (.cons rfl (by first | rfl | (simp; done)) (.cons rfl (by first | rfl | (simp; done)) (.cons rfl (by first | rfl | (simp; done)) .nil))))))) (.k (e := (.k (e := (.k (e := (.k (e := skk))))))))
    ·skip
     have hF : (((sortM L).take (j + 1)).filter fun m => !pastP ses req m) = (((sortM L).take j).filter fun m => !pastP ses req m) := by rw [htk, List.filter_append]; simp [pastP, show m.ses = ses from Classical.not_not.1 e1, show m.req ≤ req by omega]
     refine RJ_q (Op_pick_f rfl (decide_eq_false e1) rfl) rfl ?_
     refine RJ_nil ?_
     refine NJ_then ?_
     refine CJ_env (E' := [(1, _), (2, _), (7, _), (9, _), (10, _), (11, _), (49, _), (50, _), (68, _)]) (.cons rfl rfl (.cons rfl rfl (.cons rfl rfl (.cons rfl rfl (.cons rfl rfl (.cons rfl rfl (.cons rfl rfl (.cons rfl rfl (.cons rfl rfl .nil))))))))) ?_
     refine CJ_else rfl (decide_eq_false e2) ?_
     refine CJ_skip ?_
     refine NJ_then ?_
     refine CJ_env (E' := [(1, _), (2, _), (7, _), (9, _), (10, _), (11, _), (49, _), (50, _)]) (.cons rfl rfl (.cons rfl rfl (.cons rfl rfl (.cons rfl rfl (.cons rfl rfl (.cons rfl rfl (.cons rfl rfl (.cons rfl rfl .nil)))))))) ?_
     refine CJ_seq ?_
     refine CJ_region ?_
     refine RJ_q (Op_move rfl) rfl ?_
     refine RJ_q (Op_move rfl) rfl ?_
     refine RJ_q (Op_move rfl) rfl ?_
     refine RJ_q (Op_indexAddr (o' := j * MkT.sz + 0) rfl rfl Try.underlying30 sz34 (by omega) (by omega) (by simp [MkT])) rfl ?_
     refine RJ_q (Op_fieldAddr (o' := j * MkT.sz + 0) rfl Try.underlying34 rfl sz9 rfl rfl) rfl ?_
     refine RJ_q (Op_load rfl (load_row_cell (o := 0) Try.underlying9 rfl pkk hm Nth.z)) rfl ?_
     refine RJ_p rfl (Op_call (vs := [_, _]) Try.func15 rfl rfl (MkHas_any g 1000 L m.key) rfl (.k (e := (Imp.refl _)))) ?_
     rintro _ _ ⟨_, ⟨rfl, rfl⟩, rfl⟩
     refine RJ_app1 ?_
     refine RJ_q (Op_not rfl) rfl ?_
     refine RJ_nil ?_
     refine NJ_then ?_
     refine CJ_env (E' := [(1, _), (2, _), (7, _), (9, _), (10, _), (49, _), (50, _), (83, _)]) (.cons rfl rfl (.cons rfl rfl (.cons rfl rfl (.cons rfl rfl (.cons rfl rfl (.cons rfl rfl (.cons rfl rfl (.cons rfl rfl .nil)))))))) ?_
     refine CJ_else rfl (congrArg Bool.not (hasR_mem (x := m) (sortM_mem.1 (List.mem_of_getElem? hm)))) ?_
     refine CJ_skip ?_
     refine NJ_blk ?_
     refine NJ_then ?_
     refine CJ_env (E' := [(1, _), (2, _), (7, _), (9, _), (10, _), (49, _), (50, _)]) (.cons rfl rfl (.cons rfl rfl (.cons rfl rfl (.cons rfl rfl (.cons rfl rfl (.cons rfl rfl (.cons rfl rfl .nil))))))) ?_
     refine CJ_region ?_
     refine RJ_q (Op_addN (j + 1) rfl rfl (by omega) (by omega)) rfl ?_
     refine RJ_q (Op_move rfl) rfl ?_
     refine RJ_nil ?_
     refine NJ_back ⟨j + 1, some ga, tb, c2, by omega, rfl, rfl, rfl⟩ (by omega) (.cons rfl rfl (.cons rfl rfl (.cons rfl rfl (.cons rfl (by rw [hF]) (.cons rfl rfl (.cons rfl rfl (.cons rfl rfl .nil))))))) (by rw [hF]; exact (.k (e := (.k (e := (.k (e := (.k (e := skk)))))))))
  ·skip
   refine RJ_nil ?_
   refine NJ_then ?_
   refine CJ_env (E' := [(1, _), (2, _), (7, _), (9, _), (10, _), (49, _), (50, _), (51, _)]) (.cons rfl rfl (.cons rfl rfl (.cons rfl rfl (.cons rfl rfl (.cons rfl rfl (.cons rfl rfl (.cons rfl rfl (.cons rfl rfl .nil)))))))) ?_
   refine CJ_seq ?_
   refine CJ_else rfl (decide_eq_false hj) ?_
   refine CJ_exit ?_
   refine NJ_then_x ?_
   refine NJ_then_x ?_
   refine NJ_blk_hit ?_
   refine NJ_then ?_
   refine CJ_env (E' := [(1, _), (2, _), (7, _), (9, _), (10, _)]) (.cons rfl rfl (.cons rfl rfl (.cons rfl rfl (.cons rfl rfl (.cons rfl rfl .nil))))) ?_
   refine CJ_seq ?_
   have hje : j = (sortM L).length := by omega
   subst hje
   rw [List.take_length]
   refine CJ_region ?_
   refine RJ_q (Op_move rfl) rfl ?_
   refine RJ_q (Op_move rfl) rfl ?_
   refine RJ_q (Op_move rfl) rfl ?_
   refine RJ_p rfl (Op_call (vs := [_, _, _]) Try.func14 rfl rfl (Past_any g 1000 L hI.nd (by have := hI.len; omega) ses req) rfl (.k (e := (Imp.refl _)))) ?_
   rintro _ _ ⟨_, ⟨rfl, rfl⟩, rfl⟩
   refine RJ_app1 ?_
   refine RJ_q (Op_assign rfl) rfl ?_
   refine RJ_nil ?_
   refine NJ_then ?_
   refine CJ_env (E' := [(7, _), (9, _), (10, _), (12, _)]) (.cons rfl rfl (.cons rfl rfl (.cons rfl rfl (.cons rfl rfl .nil)))) ?_
   refine CJ_seq ?_
   refine CJ_region ?_
   refine RJ_q (Op_move rfl) rfl ?_
   refine RJ_p rfl (Op_call (vs := [_]) Try.func10 rfl rfl (All_any g 1000 (restR (pastP ses req) L) (by have := rest_len (pastP ses req) L; have := hI.len; omega)) rfl (.k (e := (Imp.refl _)))) ?_
   rintro _ _ ⟨_, ⟨a90, c3, rfl, rfl⟩, rfl⟩
   refine RJ_app2 ?_
   rw [filter_sort hI.nd]
   refine RJ_q (Op_assign rfl) rfl ?_
   refine RJ_nil ?_
   refine NJ_then ?_
   refine CJ_env (E' := [(7, _), (9, _), (10, _), (12, _), (13, _)]) (.cons rfl rfl (.cons rfl rfl (.cons rfl rfl (.cons rfl rfl (.cons rfl rfl .nil))))) ?_
   refine CJ_seq ?_
   refine CJ_seq ?_
   refine CJ_region ?_
   refine RJ_q (Op_move rfl) rfl ?_
   refine RJ_q (Op_move rfl) rfl ?_
   refine RJ_q (Op_len_slice rfl Try.underlying30) rfl ?_
   refine RJ_q (Op_move rfl) rfl ?_
   refine RJ_q (Op_len_slice rfl Try.underlying30) rfl ?_
   have hr1 := rest_plus (pastP ses req) L
   have hr2 := sortM_len L
   have hr3 := rest_len (pastP ses req) L
   have hr4 := hI.len
   refine RJ_q (Op_sub64 rfl rfl (by omega)) rfl ?_
   refine RJ_q (Op_neq rfl rfl) rfl ?_
   refine RJ_q (Op_move rfl) rfl ?_
   refine RJ_yes (t := 98) rfl rfl (by simp only [decide_eq_false_iff_not, ne_eq, Classical.not_not]; omega) ?_
   refine RJ_q (Op_move rfl) rfl ?_
   refine RJ_yes (t := 98) rfl rfl (by simp only [decide_eq_false_iff_not, ne_eq, Classical.not_not]; omega) ?_
   refine RJ_q (Op_len_slice rfl Try.underlying30) rfl ?_
   refine RJ_yes (t := 98) rfl rfl (by simp only [decide_eq_false_iff_not, ne_eq, Classical.not_not]; omega) ?_
   refine RJ_q (Op_move rfl) rfl ?_
   refine RJ_yes (t := 98) rfl rfl (by simp only [decide_eq_false_iff_not, ne_eq, Classical.not_not]; omega) ?_
   refine RJ_q (Op_len_slice rfl Try.underlying30) rfl ?_
   refine RJ_yes (t := 98) rfl rfl (by simp only [decide_eq_false_iff_not, ne_eq, Classical.not_not]; omega) ?_
   refine RJ_q (Op_neq rfl rfl) rfl ?_
   refine RJ_q (Op_pick_f rfl (by simp only [decide_eq_false_iff_not, ne_eq, Classical.not_not]; omega) rfl) rfl ?_
   refine RJ_q (Op_move rfl) rfl ?_
   refine RJ_yes (t := 105) rfl rfl (by simp) ?_
   refine RJ_q (Op_move rfl) rfl ?_
   refine RJ_yes (t := 105) rfl rfl (by simp) ?_
   refine RJ_p rfl (Op_call (vs := [_]) Try.func11 rfl rfl (MkLen_any g 1000 (restR (pastP ses req) L)) rfl (.k (e := (Imp.refl _)))) ?_
   rintro _ _ ⟨_, ⟨rfl, rfl⟩, rfl⟩
   refine RJ_app1 ?_
   refine RJ_yes (t := 105) rfl rfl (by simp) ?_
   refine RJ_q (Op_move rfl) rfl ?_
   refine RJ_yes (t := 105) rfl rfl (by simp) ?_
   refine RJ_q (Op_len_slice rfl Try.underlying30) rfl ?_
   refine RJ_yes (t := 105) rfl rfl (by simp) ?_
   refine RJ_q (Op_neq rfl rfl) rfl ?_
   refine RJ_q (Op_pick_f rfl (by simp) rfl) rfl ?_
   refine RJ_nil ?_
   refine NJ_then ?_
   refine CJ_env (E' := [(9, _), (13, _), (111, _)]) (.cons rfl rfl (.cons rfl rfl (.cons rfl rfl .nil))) ?_
   refine CJ_else rfl (by simp only [decide_eq_false_iff_not, ne_eq, Classical.not_not]; omega) ?_
   refine CJ_skip ?_
   refine NJ_then ?_
   refine CJ_env (E' := [(9, _), (13, _)]) (.cons rfl rfl (.cons rfl rfl .nil)) ?_
   refine CJ_seq ?_
   refine CJ_seq ?_
   refine CJ_region ?_
   refine RJ_q (Op_move rfl) rfl ?_
   refine RJ_q (Op_len_slice rfl Try.underlying30) rfl ?_
   refine RJ_q (Op_move rfl) rfl ?_
   refine RJ_nil ?_
   refine NJ_then ?_
   refine CJ_env (E' := [(9, _), (13, _), (113, _), (114, _)]) (.cons rfl rfl (.cons rfl rfl (.cons rfl rfl (.cons rfl rfl .nil)))) ?_
   refine CJ_block ?_
   refine CJ_loop (fun E H m => ∃ (q : Nat) (ta tb : Option Nat), (q ≤ ((sortM L).filter fun m => !pastP ses req m).length) ∧ E = [(9, .slice (sl tb) ((sortM L).filter fun m => !pastP ses req m).length c2), (13, .slice (sl ta) ((sortM L).filter fun m => !pastP ses req m).length c3), (113, .int .i64 (((sortM L).filter fun m => !pastP ses req m).length : Nat)), (114, .int .i64 (q : Nat))] ∧ H = [Row MkT ta c3 ((sortM L).filter fun m => !pastP ses req m), Row MkT tb c2 ((sortM L).filter fun m => !pastP ses req m), old W] ++ R ∧ m = ((sortM L).filter fun m => !pastP ses req m).length - q) (E' := [(9, .slice (sl tb) ((sortM L).filter fun m => !pastP ses req m).length c2), (13, .slice (sl a90) ((sortM L).filter fun m => !pastP ses req m).length c3), (113, .int .i64 (((sortM L).filter fun m => !pastP ses req m).length : Nat)), (114, .int .i64 (0 : Nat))]) (H' := [Row MkT a90 c3 ((sortM L).filter fun m => !pastP ses req m), Row MkT tb c2 ((sortM L).filter fun m => !pastP ses req m), old W] ++ R) (m := ((sortM L).filter fun m => !pastP ses req m).length - 0) ⟨0, a90, tb, Nat.zero_le _, rfl, rfl, rfl⟩ (.cons rfl rfl (.cons rfl rfl (.cons rfl rfl (.cons rfl rfl .nil)))) (.k (e := (.k (e := (.k (e := skk)))))) ?_
   rintro _ _ _ ⟨q, ta, tb, hq0, rfl, rfl, rfl⟩
   refine CJ_app3 ?_
   refine CJ_seq ?_
   refine CJ_region ?_
   refine RJ_q (Op_lss rfl rfl) rfl ?_
   by_cases hq : (q : Int) < ((sortM L).filter fun m => !pastP ses req m).length
   ·skip
    obtain ⟨m, hm⟩ : ∃ m, ((sortM L).filter fun m => !pastP ses req m)[q]? = some m := ⟨((sortM L).filter fun m => !pastP ses req m)[q], List.getElem?_eq_getElem (by omega)⟩
    refine RJ_nil ?_
    refine NJ_then ?_
    refine CJ_env (E' := [(9, _), (13, _), (113, _), (114, _), (115, _)]) (.cons rfl rfl (.cons rfl rfl (.cons rfl rfl (.cons rfl rfl (.cons rfl rfl .nil))))) ?_
    refine CJ_seq ?_
    refine CJ_then rfl (decide_eq_true hq) ?_
    refine CJ_skip ?_
    refine NJ_then ?_
    refine CJ_env (E' := [(9, _), (13, _), (113, _), (114, _)]) (.cons rfl rfl (.cons rfl rfl (.cons rfl rfl (.cons rfl rfl .nil)))) ?_
    refine CJ_seq ?_
    refine CJ_block ?_
    refine CJ_seq ?_
    refine CJ_region ?_
    refine RJ_q (Op_move rfl) rfl ?_
    refine RJ_q (Op_assign rfl) rfl ?_
    refine RJ_nil ?_
    refine NJ_then ?_
    refine CJ_env (E' := [(9, _), (13, _), (14, _), (113, _), (114, _)]) (.cons rfl rfl (.cons rfl rfl (.cons rfl rfl (.cons rfl rfl (.cons rfl rfl .nil))))) ?_
    refine CJ_seq ?_
    refine CJ_know (Row_know (T := MkT) (a := ta) pkk) ?_
    intro hk1
    obtain ⟨ga, rfl⟩ := row_some hk1.2.2 (by intro e; rw [e] at hm; cases hm)
    refine CJ_know (Row_know (T := MkT) (a := tb) pkk) ?_
    intro hk2
    obtain ⟨gb, rfl⟩ := row_some hk2.2.2 (by intro e; rw [e] at hm; cases hm)
    refine CJ_draw (.q 0 (.q 1 (.q 2 (.q 3 (.q 4 (.q 5 (.q 6 (.q 7 (.q 8 .done))))))))) (by kernel_rfl) (by kernel_rfl) (by kernel_rfl) ?_
    refine SJ_q rfl (want_none rfl) rfl (fun _ _ => Op_move rfl) ?_
    refine SJ_q rfl (want_none rfl) rfl (fun _ _ => Op_move rfl) ?_
    refine SJ_q rfl (want_none rfl) rfl (fun _ _ => Op_indexAddr (o' := q * MkT.sz + 0) rfl rfl Try.underlying30 sz34 (by omega) (by omega) (by simp [MkT])) ?_
    refine SJ_load rfl (want_none rfl) rfl rfl (load_row (o := 0) (vs := [_, _, _]) Try.underlying34 sz34 pkk hm rfl (by rfl)) ?_
    refine SJ_q rfl (want_none rfl) rfl (fun _ _ => Op_move rfl) ?_
    refine SJ_q rfl (want_none rfl) rfl (fun _ _ => Op_move rfl) ?_
    refine SJ_q rfl (want_none rfl) rfl (fun _ _ => Op_indexAddr (o' := q * MkT.sz + 0) rfl rfl Try.underlying30 sz34 (by omega) (by omega) (by simp [MkT])) ?_
    refine SJ_load rfl (want_none rfl) rfl rfl (load_row (o := 0) (vs := [_, _, _]) Try.underlying34 sz34 pkk hm rfl (by rfl)) ?_
    refine SJ_q rfl (want_none rfl) rfl (fun _ _ => Op_struct_neq rfl rfl (by kernel_rfl) (EqJ_markSelf m)) ?_
    refine SJ_done ?_
    refine NJ_then ?_
    refine CJ_env (E' := [(9, _), (13, _), (113, _), (114, _), (125, _)]) (.cons rfl rfl (.cons rfl rfl (.cons rfl rfl (.cons rfl rfl (.cons rfl rfl .nil))))) ?_
    refine CJ_else rfl rfl ?_
    refine CJ_skip ?_
    refine NJ_blk ?_
    refine NJ_then ?_
    refine CJ_env (E' := [(9, _), (13, _), (113, _), (114, _)]) (.cons rfl rfl (.cons rfl rfl (.cons rfl rfl (.cons rfl rfl .nil)))) ?_
    refine CJ_region ?_
    refine RJ_q (Op_addN (q + 1) rfl rfl (by omega) (by omega)) rfl ?_
    refine RJ_q (Op_move rfl) rfl ?_
    refine RJ_nil ?_
    refine NJ_back ⟨q + 1, some ga, some gb, by omega, rfl, rfl, rfl⟩ (by omega) (.cons rfl (by first | rfl | (simp; done)) (.cons rfl (by first | rfl | (simp; done)) (.cons rfl (by first | rfl | (simp; done)) (.cons rfl (by first | rfl | (simp; done)) .nil)))) (.k (e := (.k (e := (.k (e := skk))))))
   ·skip
    refine RJ_nil ?_
    refine NJ_then ?_
    refine CJ_env (E' := [(9, _), (13, _), (113, _), (114, _), (115, _)]) (.cons rfl rfl (.cons rfl rfl (.cons rfl rfl (.cons rfl rfl (.cons rfl rfl .nil))))) ?_
    refine CJ_seq ?_
    refine CJ_else rfl (decide_eq_false hq) ?_
    refine CJ_exit ?_
    refine NJ_then_x ?_
    refine NJ_then_x ?_
    refine NJ_blk_hit ?_
    refine NJ_then ?_
    refine CJ_env (E' := []) .nil ?_
    refine CJ_seq ?_
    refine CJ_region ?_
    refine RJ_q (Op_assign rfl) rfl ?_
    refine RJ_nil ?_
    refine NJ_then ?_
    refine CJ_env (E' := [(6, _)]) (.cons rfl rfl .nil) ?_
    refine CJ_ret ?_
    refine NJ_ret (.inl rfl) Try.results5 (ResJ_tmp rfl ResJ_nil) ⟨rfl, rfl⟩ (.k (e := skk))
end Go.Proofs.Ytbaecpddhdeapaa.SL
