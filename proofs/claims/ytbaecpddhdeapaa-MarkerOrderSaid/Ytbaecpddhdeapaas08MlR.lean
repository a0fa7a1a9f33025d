/- Contracts of MarkerOrder. -/
import Derived.Test.Ytbaecpddhdeapaas08MlA
import Derived.Test.Ytbaecpddhdeapaas08Fb
namespace Go.Proofs.Ytbaecpddhdeapaa.SL
open Go Go.RowKit
set_option maxRecDepth 20000 in
set_option maxHeartbeats 4000000 in
theorem MarkerOrder_any (W : World)  (a : Option Addr) (cap : Nat) (ops : List OpM) (hS : OpsAt W a ops) (hl : ops.length ≤ 9223372036854775807) : Spec Try.prog 3 #[.slice a ops.length cap] [old W] (fun v C => v = .bool true ∧ C = [old W]) := by
 refine Spec_intro (n := 142) (args := [.slice a ops.length cap]) Try.func3 rfl rfl rfl fun s R => ?_
 refine CJ_app1 ?_
 refine CJ_env (E' := [(0, _)]) (.cons rfl rfl .nil) ?_
 refine CJ_seq ?_
 refine CJ_region ?_
 refine RJ_q (Op_assign rfl) rfl ?_
 refine RJ_nil ?_
 refine NJ_then ?_
 refine CJ_env (E' := [(0, _), (2, _)]) (.cons rfl rfl (.cons rfl rfl .nil)) ?_
 refine CJ_seq ?_
 refine CJ_seq ?_
 refine CJ_region ?_
 refine RJ_p rfl (Op_call (vs := []) Try.func7 rfl rfl (awake_any) rfl (Imp.refl _)) ?_
 rintro _ _ ⟨_, ⟨rfl, rfl⟩, rfl⟩
 refine RJ_app0 ?_
 refine RJ_q (Op_not rfl) rfl ?_
 refine RJ_nil ?_
 refine NJ_then ?_
 refine CJ_env (E' := [(0, _), (2, _), (13, _)]) (.cons rfl rfl (.cons rfl rfl (.cons rfl rfl .nil))) ?_
 refine CJ_else rfl (congrArg Bool.not rfl) ?_
 refine CJ_skip ?_
 refine NJ_then ?_
 refine CJ_env (E' := [(0, _), (2, _)]) (.cons rfl rfl (.cons rfl rfl .nil)) ?_
 refine CJ_seq ?_
 refine CJ_region ?_
 refine RJ_p rfl (Op_call (vs := [_]) Try.func8 rfl rfl (MkNew_any 1000) rfl (Imp.refl _)) ?_
 rintro _ _ ⟨_, ⟨g, rfl, rfl⟩, rfl⟩
 refine RJ_app1 ?_
 refine RJ_p rfl (Op_call (vs := [_]) Try.func8 rfl rfl (MkNew_any 1000) rfl (Imp.refl _)) ?_
 rintro _ _ ⟨_, ⟨g2, rfl, rfl⟩, rfl⟩
 refine RJ_app1 ?_
 refine RJ_q (Op_assign rfl) rfl ?_
 refine RJ_q (Op_assign rfl) rfl ?_
 refine RJ_nil ?_
 refine NJ_then ?_
 refine CJ_env (E' := [(0, _), (2, _), (3, _), (4, _)]) (.cons rfl rfl (.cons rfl rfl (.cons rfl rfl (.cons rfl rfl .nil)))) ?_
 refine CJ_seq ?_
 refine CJ_region ?_
 refine RJ_q (Op_move rfl) rfl ?_
 refine RJ_q (Op_len_slice rfl Try.underlying22) rfl ?_
 refine RJ_q (Op_min rfl rfl) rfl ?_
 obtain ⟨N, hN1, hN2, hN3⟩ : ∃ N : Nat, min (ops.length : Int) 200 = N ∧ N ≤ 200 ∧ N ≤ ops.length := ⟨min ops.length 200, by omega, by omega, by omega⟩
 rw [hN1]
 refine RJ_q (Op_assign rfl) rfl ?_
 refine RJ_nil ?_
 refine NJ_then ?_
 refine CJ_env (E' := [(0, _), (2, _), (3, _), (4, _), (5, _)]) (.cons rfl rfl (.cons rfl rfl (.cons rfl rfl (.cons rfl rfl (.cons rfl rfl .nil))))) ?_
 refine CJ_seq ?_
 refine CJ_seq ?_
 refine CJ_region ?_
 refine RJ_q (Op_assign rfl) rfl ?_
 refine RJ_nil ?_
 refine NJ_then ?_
 refine CJ_env (E' := [(0, _), (2, _), (3, _), (4, _), (5, _), (6, _)]) (.cons rfl rfl (.cons rfl rfl (.cons rfl rfl (.cons rfl rfl (.cons rfl rfl (.cons rfl rfl .nil)))))) ?_
 refine CJ_block ?_
 refine CJ_loop (fun E H m => ∃ (i : Nat) (A B : List Mark), (i ≤ N ∧ SetI (msOf (ops.take i)) i A ∧ SetI (msOf ((ops.take N).drop (N - i))) i B) ∧ E = [(0, .slice a ops.length cap), (3, .pointer (some ⟨g, 0, none⟩)), (4, .pointer (some ⟨g2, 0, none⟩)), (5, .int .i64 (N : Nat)), (6, .int .i64 (i : Nat))] ∧ H = [MarksP g 1000 (A), MarksP g2 1000 (B), old W] ++ R ∧ m = N - i) (E' := [(0, .slice a ops.length cap), (3, .pointer (some ⟨g, 0, none⟩)), (4, .pointer (some ⟨g2, 0, none⟩)), (5, .int .i64 (N : Nat)), (6, .int .i64 (0 : Nat))]) (H' := [MarksP g 1000 ([]), MarksP g2 1000 ([]), old W] ++ R) (m := N - 0) ⟨0, [], [], ⟨by omega, .nil, by rw [Nat.sub_zero, List.drop_of_length_le (by rw [List.length_take]; omega)]; exact .nil⟩, rfl, rfl, rfl⟩ (.cons rfl rfl (.cons rfl rfl (.cons rfl rfl (.cons rfl rfl (.cons rfl rfl .nil))))) (.k (e := (.k (e := (.k (e := skk)))))) ?_
 rintro _ _ _ ⟨i, A, B, ⟨hi, hA, hB⟩, rfl, rfl, rfl⟩
 refine CJ_app3 ?_
 refine CJ_seq ?_
 refine CJ_seq ?_
 refine CJ_region ?_
 refine RJ_q (Op_move rfl) rfl ?_
 refine RJ_q (Op_move rfl) rfl ?_
 refine RJ_q (Op_lss rfl rfl) rfl ?_
 by_cases hi1 : (i : Int) < N
 ·skip
  obtain ⟨o, hoo⟩ : ∃ o, ops[i]? = some o := ⟨ops[i], List.getElem?_eq_getElem (by omega)⟩
  obtain ⟨po, hpo, hco⟩ := hS _ _ hoo
  obtain ⟨u, hou⟩ : ∃ o, ops[(N - 1 - i)]? = some o := ⟨ops[(N - 1 - i)], List.getElem?_eq_getElem (by omega)⟩
  obtain ⟨pu, hpu, hcu⟩ := hS _ _ hou
  refine RJ_nil ?_
  refine NJ_then ?_
  refine CJ_env (E' := [(0, _), (3, _), (4, _), (5, _), (6, _), (21, _)]) (.cons rfl rfl (.cons rfl rfl (.cons rfl rfl (.cons rfl rfl (.cons rfl rfl (.cons rfl rfl .nil)))))) ?_
  refine CJ_then rfl (decide_eq_true hi1) ?_
  refine CJ_skip ?_
  refine NJ_then ?_
  refine CJ_env (E' := [(0, _), (3, _), (4, _), (5, _), (6, _)]) (.cons rfl rfl (.cons rfl rfl (.cons rfl rfl (.cons rfl rfl (.cons rfl rfl .nil))))) ?_
  refine CJ_seq ?_
  refine CJ_block ?_
  refine CJ_seq ?_
  refine CJ_draw (.q 0 (.q 1 (.q 2 (.q 3 (.q 4 (.q 5 (.q 6 (.q 7 (.q 8 (.q 9 (.q 10 (.q 11 (.q 12 (.q 13 (.q 14 (.q 15 (.e 16 .done))))))))))))))))) (by kernel_rfl) (by kernel_rfl) (by kernel_rfl) ?_
  refine SJ_q rfl (want_none rfl) rfl (fun _ _ => Op_move rfl) ?_
  refine SJ_q rfl (want_none rfl) rfl (fun _ _ => Op_move rfl) ?_
  refine SJ_q rfl (want_none rfl) rfl (fun _ _ => Op_move rfl) ?_
  refine SJ_q rfl (want_none rfl) rfl (fun _ _ => Op_indexOld rfl hpo rfl Try.underlying22 sz29 (by omega)) ?_
  refine SJ_q rfl (want_none rfl) rfl (fun _ _ => Op_fieldOld (off := 1) rfl Try.underlying29 rfl sz9 rfl rfl) ?_
  refine SJ_load rfl (want_none rfl) rfl rfl (load_old Try.underlying9 rfl pkk (hco 1 _ rfl)) ?_
  refine SJ_q rfl (want_none rfl) rfl (fun _ _ => Op_move rfl) ?_
  refine SJ_q rfl (want_none rfl) rfl (fun _ _ => Op_move rfl) ?_
  refine SJ_q rfl (want_none rfl) rfl (fun _ _ => Op_indexOld rfl hpo rfl Try.underlying22 sz29 (by omega)) ?_
  refine SJ_q rfl (want_none rfl) rfl (fun _ _ => Op_fieldOld (off := 2) rfl Try.underlying29 rfl sz3 rfl rfl) ?_
  refine SJ_load rfl (want_none rfl) rfl rfl (load_old Try.underlying3 rfl pkk (hco 2 _ rfl)) ?_
  refine SJ_q rfl (want_none rfl) rfl (fun _ _ => Op_move rfl) ?_
  refine SJ_q rfl (want_none rfl) rfl (fun _ _ => Op_move rfl) ?_
  refine SJ_q rfl (want_none rfl) rfl (fun _ _ => Op_indexOld rfl hpo rfl Try.underlying22 sz29 (by omega)) ?_
  refine SJ_q rfl (want_none rfl) rfl (fun _ _ => Op_fieldOld (off := 3) rfl Try.underlying29 rfl sz3 rfl rfl) ?_
  refine SJ_load rfl (want_none rfl) rfl rfl (load_old Try.underlying3 rfl pkk (hco 3 _ rfl)) ?_
  refine SJ_p (rd' := []) [] rfl (want_none rfl) rfl (Op_call (vs := [_, _, _, _]) Try.func9 rfl rfl (MkSet_any g 1000 A o.key o.ses o.req) rfl (.k (e := (Imp.refl _)))) (by kernel_rfl) rfl ?_
  rintro _ _ ⟨_, ⟨rfl, rfl⟩, rfl⟩
  refine OS_app1 ?_
  refine ⟨trivial, ?_⟩
  refine SJ_done ?_
  refine NJ_then ?_
  refine CJ_env (E' := [(0, _), (3, _), (4, _), (5, _), (6, _)]) (.cons rfl rfl (.cons rfl rfl (.cons rfl rfl (.cons rfl rfl (.cons rfl rfl .nil))))) ?_
  refine CJ_draw (.q 0 (.q 1 (.q 2 (.q 3 (.q 4 (.q 5 (.q 6 (.q 7 (.q 8 (.q 9 (.q 10 (.q 11 (.q 12 (.q 13 (.q 14 (.q 15 (.q 16 (.q 17 (.q 18 (.q 19 (.q 20 (.q 21 (.q 22 (.q 23 (.q 24 (.e 25 .done)))))))))))))))))))))))))) (by kernel_rfl) (by kernel_rfl) (by kernel_rfl) ?_
  refine SJ_q rfl (want_none rfl) rfl (fun _ _ => Op_move rfl) ?_
  refine SJ_q rfl (want_none rfl) rfl (fun _ _ => Op_move rfl) ?_
  refine SJ_q rfl (want_none rfl) rfl (fun _ _ => Op_move rfl) ?_
  refine SJ_q rfl (want_none rfl) rfl (fun _ _ => Op_subN (N - 1) rfl rfl (by omega) (by omega)) ?_
  refine SJ_q rfl (want_none rfl) rfl (fun _ _ => Op_move rfl) ?_
  refine SJ_q rfl (want_none rfl) rfl (fun _ _ => Op_subN (N - 1 - i) rfl rfl (by omega) (by omega)) ?_
  refine SJ_q rfl (want_none rfl) rfl (fun _ _ => Op_indexOld rfl hpu rfl Try.underlying22 sz29 (by omega)) ?_
  refine SJ_q rfl (want_none rfl) rfl (fun _ _ => Op_fieldOld (off := 1) rfl Try.underlying29 rfl sz9 rfl rfl) ?_
  refine SJ_load rfl (want_none rfl) rfl rfl (load_old Try.underlying9 rfl pkk (hcu 1 _ rfl)) ?_
  refine SJ_q rfl (want_none rfl) rfl (fun _ _ => Op_move rfl) ?_
  refine SJ_q rfl (want_none rfl) rfl (fun _ _ => Op_move rfl) ?_
  refine SJ_q rfl (want_none rfl) rfl (fun _ _ => Op_subN (N - 1) rfl rfl (by omega) (by omega)) ?_
  refine SJ_q rfl (want_none rfl) rfl (fun _ _ => Op_move rfl) ?_
  refine SJ_q rfl (want_none rfl) rfl (fun _ _ => Op_subN (N - 1 - i) rfl rfl (by omega) (by omega)) ?_
  refine SJ_q rfl (want_none rfl) rfl (fun _ _ => Op_indexOld rfl hpu rfl Try.underlying22 sz29 (by omega)) ?_
  refine SJ_q rfl (want_none rfl) rfl (fun _ _ => Op_fieldOld (off := 2) rfl Try.underlying29 rfl sz3 rfl rfl) ?_
  refine SJ_load rfl (want_none rfl) rfl rfl (load_old Try.underlying3 rfl pkk (hcu 2 _ rfl)) ?_
  refine SJ_q rfl (want_none rfl) rfl (fun _ _ => Op_move rfl) ?_
  refine SJ_q rfl (want_none rfl) rfl (fun _ _ => Op_move rfl) ?_
  refine SJ_q rfl (want_none rfl) rfl (fun _ _ => Op_subN (N - 1) rfl rfl (by omega) (by omega)) ?_
  refine SJ_q rfl (want_none rfl) rfl (fun _ _ => Op_move rfl) ?_
  refine SJ_q rfl (want_none rfl) rfl (fun _ _ => Op_subN (N - 1 - i) rfl rfl (by omega) (by omega)) ?_
  refine SJ_q rfl (want_none rfl) rfl (fun _ _ => Op_indexOld rfl hpu rfl Try.underlying22 sz29 (by omega)) ?_
  refine SJ_q rfl (want_none rfl) rfl (fun _ _ => Op_fieldOld (off := 3) rfl Try.underlying29 rfl sz3 rfl rfl) ?_
  refine SJ_load rfl (want_none rfl) rfl rfl (load_old Try.underlying3 rfl pkk (hcu 3 _ rfl)) ?_
  refine SJ_p (rd' := []) [] rfl (want_none rfl) rfl (Op_call (vs := [_, _, _, _]) Try.func9 rfl rfl (MkSet_any g2 1000 B u.key u.ses u.req) rfl (.k (e := (Imp.refl _)))) (by kernel_rfl) rfl ?_
  rintro _ _ ⟨_, ⟨rfl, rfl⟩, rfl⟩
  refine OS_app1 ?_
  refine ⟨trivial, ?_⟩
  refine SJ_done ?_
  refine NJ_blk ?_
  refine NJ_then ?_
  refine CJ_env (E' := [(0, _), (3, _), (4, _), (5, _), (6, _)]) (.cons rfl rfl (.cons rfl rfl (.cons rfl rfl (.cons rfl rfl (.cons rfl rfl .nil))))) ?_
  refine CJ_region ?_
  refine RJ_q (Op_move rfl) rfl ?_
  refine RJ_q (Op_addN (i + 1) rfl rfl (by omega) (by omega)) rfl ?_
  refine RJ_q (Op_assign rfl) rfl ?_
  refine RJ_nil ?_
  refine NJ_back ⟨i + 1, _, _, ⟨by omega, hA.set (by omega) o.m (ms_take hoo), hB.set (by omega) u.m (fun m => by rw [ms_drop (ops := ops.take N) (i := N - (i + 1)) (o := u) (by rw [List.getElem?_take_of_lt (by omega)]; rw [show N - (i + 1) = N - 1 - i by omega]; exact hou) m, show N - (i + 1) + 1 = N - i by omega])⟩, rfl, rfl, rfl⟩ (by omega) (.cons rfl (by first | rfl | (simp; done)) (.cons rfl (by first | rfl | (simp; done)) (.cons rfl (by first | rfl | (simp; done)) (.cons rfl (by first | rfl | (simp; done)) (.cons rfl (by first | rfl | (simp; done)) .nil))))) (.k (e := (.k (e := (.k (e := skk))))))
 ·skip
  refine RJ_nil ?_
  refine NJ_then ?_
  refine CJ_env (E' := [(0, _), (3, _), (4, _), (5, _), (6, _), (21, _)]) (.cons rfl rfl (.cons rfl rfl (.cons rfl rfl (.cons rfl rfl (.cons rfl rfl (.cons rfl rfl .nil)))))) ?_
  refine CJ_else rfl (decide_eq_false hi1) ?_
  refine CJ_exit ?_
  refine NJ_then_x ?_
  refine NJ_then_x ?_
  refine NJ_blk_hit ?_
  refine NJ_then ?_
  refine CJ_env (E' := [(3, _), (4, _)]) (.cons rfl rfl (.cons rfl rfl .nil)) ?_
  refine CJ_seq ?_
  have hie : i = N := by omega
  subst hie
  have hAB : sortM A = sortM B := sortM_unique (hA.perm (s := msOf (ops.take i)) (by rw [Nat.sub_self, List.drop_zero] at hB; exact hB))
  refine CJ_region ?_
  refine RJ_q (Op_move rfl) rfl ?_
  refine RJ_p rfl (Op_call (vs := [_]) Try.func10 rfl rfl (All_any g 1000 A (by have := hA.len; omega)) rfl (.k (e := (Imp.refl _)))) ?_
  rintro _ _ ⟨_, ⟨a68, c1, rfl, rfl⟩, rfl⟩
  refine RJ_app2 ?_
  refine RJ_q (Op_move rfl) rfl ?_
  refine RJ_p rfl (Op_call (vs := [_]) Try.func10 rfl rfl (All_any g2 1000 B (by have := hB.len; omega)) rfl (.k (e := (Imp.refl _)))) ?_
  rintro _ _ ⟨_, ⟨a70, c2, rfl, rfl⟩, rfl⟩
  refine RJ_app2 ?_
  rw [← hAB]
  refine RJ_q (Op_assign rfl) rfl ?_
  refine RJ_q (Op_assign rfl) rfl ?_
  refine RJ_nil ?_
  refine NJ_then ?_
  refine CJ_env (E' := [(3, _), (7, _), (8, _)]) (.cons rfl rfl (.cons rfl rfl (.cons rfl rfl .nil))) ?_
  refine CJ_seq ?_
  refine CJ_seq ?_
  refine CJ_region ?_
  refine RJ_q (Op_move rfl) rfl ?_
  refine RJ_q (Op_len_slice rfl Try.underlying30) rfl ?_
  refine RJ_q (Op_move rfl) rfl ?_
  refine RJ_q (Op_len_slice rfl Try.underlying30) rfl ?_
  refine RJ_q (Op_neq rfl rfl) rfl ?_
  refine RJ_q (Op_move rfl) rfl ?_
  refine RJ_yes (t := 76) rfl rfl (by simp) ?_
  refine RJ_q (Op_move rfl) rfl ?_
  refine RJ_yes (t := 76) rfl rfl (by simp) ?_
  refine RJ_q (Op_len_slice rfl Try.underlying30) rfl ?_
  refine RJ_yes (t := 76) rfl rfl (by simp) ?_
  refine RJ_q (Op_move rfl) rfl ?_
  refine RJ_yes (t := 76) rfl rfl (by simp) ?_
  refine RJ_p rfl (Op_call (vs := [_]) Try.func11 rfl rfl (MkLen_any g 1000 A) rfl (.k (e := (Imp.refl _)))) ?_
  rintro _ _ ⟨_, ⟨rfl, rfl⟩, rfl⟩
  refine RJ_app1 ?_
  refine RJ_yes (t := 76) rfl rfl (by simp) ?_
  refine RJ_q (Op_neq rfl rfl) rfl ?_
  refine RJ_q (Op_pick_f rfl (by simp) rfl) rfl ?_
  refine RJ_nil ?_
  refine NJ_then ?_
  refine CJ_env (E' := [(7, _), (8, _), (82, _)]) (.cons rfl rfl (.cons rfl rfl (.cons rfl rfl .nil))) ?_
  refine CJ_else rfl (by simp [sortM_len]) ?_
  refine CJ_skip ?_
  refine NJ_then ?_
  refine CJ_env (E' := [(7, _), (8, _)]) (.cons rfl rfl (.cons rfl rfl .nil)) ?_
  refine CJ_seq ?_
  refine CJ_seq ?_
  refine CJ_region ?_
  refine RJ_q (Op_move rfl) rfl ?_
  refine RJ_q (Op_len_slice rfl Try.underlying30) rfl ?_
  refine RJ_q (Op_move rfl) rfl ?_
  refine RJ_nil ?_
  refine NJ_then ?_
  refine CJ_env (E' := [(7, _), (8, _), (84, _), (85, _)]) (.cons rfl rfl (.cons rfl rfl (.cons rfl rfl (.cons rfl rfl .nil)))) ?_
  refine CJ_block ?_
  refine CJ_loop (fun E H m => ∃ (j : Nat) (ta tb : Option Nat), (j ≤ (sortM A).length) ∧ E = [(7, .slice (sl ta) (sortM A).length c1), (8, .slice (sl tb) (sortM A).length c2), (84, .int .i64 ((sortM A).length : Nat)), (85, .int .i64 (j : Nat))] ∧ H = [Row MkT ta c1 (sortM A), Row MkT tb c2 (sortM A), old W] ++ R ∧ m = (sortM A).length - j) (E' := [(7, .slice (sl a68) (sortM A).length c1), (8, .slice (sl a70) (sortM A).length c2), (84, .int .i64 ((sortM A).length : Nat)), (85, .int .i64 (0 : Nat))]) (H' := [Row MkT a68 c1 (sortM A), Row MkT a70 c2 (sortM A), old W] ++ R) (m := (sortM A).length - 0) ⟨0, a68, a70, Nat.zero_le _, rfl, rfl, rfl⟩ (.cons rfl rfl (.cons rfl rfl (.cons rfl rfl (.cons rfl rfl .nil)))) (.k (e := (.k (e := (.k (e := skk)))))) ?_
  rintro _ _ _ ⟨j, ta, tb, hj0, rfl, rfl, rfl⟩
  refine CJ_app3 ?_
  refine CJ_seq ?_
  refine CJ_region ?_
  refine RJ_q (Op_lss rfl rfl) rfl ?_
  by_cases hj : (j : Int) < (sortM A).length
  ·skip
   obtain ⟨q, hq⟩ : ∃ m, (sortM A)[j]? = some m := ⟨(sortM A)[j], List.getElem?_eq_getElem (by omega)⟩
   have hml := sortM_len A
   have hll := hA.len
   refine RJ_nil ?_
   refine NJ_then ?_
   refine CJ_env (E' := [(7, _), (8, _), (84, _), (85, _), (86, _)]) (.cons rfl rfl (.cons rfl rfl (.cons rfl rfl (.cons rfl rfl (.cons rfl rfl .nil))))) ?_
   refine CJ_seq ?_
   refine CJ_then rfl (decide_eq_true hj) ?_
   refine CJ_skip ?_
   refine NJ_then ?_
   refine CJ_env (E' := [(7, _), (8, _), (84, _), (85, _)]) (.cons rfl rfl (.cons rfl rfl (.cons rfl rfl (.cons rfl rfl .nil)))) ?_
   refine CJ_seq ?_
   refine CJ_block ?_
   refine CJ_seq ?_
   refine CJ_region ?_
   refine RJ_q (Op_move rfl) rfl ?_
   refine RJ_q (Op_assign rfl) rfl ?_
   refine RJ_nil ?_
   refine NJ_then ?_
   refine CJ_env (E' := [(7, _), (8, _), (9, _), (84, _), (85, _)]) (.cons rfl rfl (.cons rfl rfl (.cons rfl rfl (.cons rfl rfl (.cons rfl rfl .nil))))) ?_
   refine CJ_seq ?_
   refine CJ_seq ?_
   refine CJ_know (Row_know (T := MkT) (a := ta) pkk) ?_
   intro hk1
   obtain ⟨ga, rfl⟩ := row_some hk1.2.2 (by intro e; rw [e] at hq; cases hq)
   refine CJ_know (Row_know (T := MkT) (a := tb) pkk) ?_
   intro hk2
   obtain ⟨gb, rfl⟩ := row_some hk2.2.2 (by intro e; rw [e] at hq; cases hq)
   refine CJ_draw (.q 0 (.q 1 (.q 2 (.q 3 (.q 4 (.q 5 (.q 6 (.q 7 (.q 8 .done))))))))) (by kernel_rfl) (by kernel_rfl) (by kernel_rfl) ?_
   refine SJ_q rfl (want_none rfl) rfl (fun _ _ => Op_move rfl) ?_
   refine SJ_q rfl (want_none rfl) rfl (fun _ _ => Op_move rfl) ?_
   refine SJ_q rfl (want_none rfl) rfl (fun _ _ => Op_indexAddr (o' := j * MkT.sz + 0) rfl rfl Try.underlying30 sz34 (by omega) (by omega) (by simp [MkT])) ?_
   refine SJ_load rfl (want_none rfl) rfl rfl (load_row (o := 0) (vs := [_, _, _]) Try.underlying34 sz34 pkk hq rfl (by rfl)) ?_
   refine SJ_q rfl (want_none rfl) rfl (fun _ _ => Op_move rfl) ?_
   refine SJ_q rfl (want_none rfl) rfl (fun _ _ => Op_move rfl) ?_
   refine SJ_q rfl (want_none rfl) rfl (fun _ _ => Op_indexAddr (o' := j * MkT.sz + 0) rfl rfl Try.underlying30 sz34 (by omega) (by omega) (by simp [MkT])) ?_
   refine SJ_load rfl (want_none rfl) rfl rfl (load_row (o := 0) (vs := [_, _, _]) Try.underlying34 sz34 pkk hq rfl (by rfl)) ?_
   refine SJ_q rfl (want_none rfl) rfl (fun _ _ => Op_struct_neq rfl rfl (by kernel_rfl) (EqJ_markSelf q)) ?_
   refine SJ_done ?_
   refine NJ_then ?_
   refine CJ_env (E' := [(7, _), (8, _), (9, _), (84, _), (85, _), (96, _)]) (.cons rfl rfl (.cons rfl rfl (.cons rfl rfl (.cons rfl rfl (.cons rfl rfl (.cons rfl rfl .nil)))))) ?_
   refine CJ_else rfl rfl ?_
   refine CJ_skip ?_
   refine NJ_then ?_
   refine CJ_env (E' := [(7, _), (8, _), (9, _), (84, _), (85, _)]) (.cons rfl rfl (.cons rfl rfl (.cons rfl rfl (.cons rfl rfl (.cons rfl rfl .nil))))) ?_
   refine CJ_seq ?_
   refine CJ_seq ?_
   refine CJ_region ?_
   refine RJ_q (Op_move rfl) rfl ?_
   refine RJ_q (Op_eql rfl rfl) rfl ?_
   by_cases z : (j : Int) = 0
   ·skip
    refine RJ_nil ?_
    refine NJ_then ?_
    refine CJ_env (E' := [(7, _), (8, _), (9, _), (84, _), (85, _), (98, _)]) (.cons rfl rfl (.cons rfl rfl (.cons rfl rfl (.cons rfl rfl (.cons rfl rfl (.cons rfl rfl .nil)))))) ?_
    refine CJ_then rfl (decide_eq_true z) ?_
    refine CJ_exit ?_
    refine NJ_then_x ?_
    refine NJ_blk_hit ?_
    refine NJ_then ?_
    refine CJ_env (E' := [(7, _), (8, _), (84, _), (85, _)]) (.cons rfl rfl (.cons rfl rfl (.cons rfl rfl (.cons rfl rfl .nil)))) ?_
    refine CJ_region ?_
    refine RJ_q (Op_addN (j + 1) rfl rfl (by omega) (by omega)) rfl ?_
    refine RJ_q (Op_move rfl) rfl ?_
    refine RJ_nil ?_
    refine NJ_back ⟨j + 1, some ga, some gb, by omega, rfl, rfl, rfl⟩ (by omega) (.cons rfl (by first | rfl | (simp; done)) (.cons rfl (by first | rfl | (simp; done)) (.cons rfl (by first | rfl | (simp; done)) (.cons rfl (by first | rfl | (simp; done)) .nil)))) (.k (e := (.k (e := (.k (e := skk))))))
   ·skip
    refine RJ_nil ?_
    refine NJ_then ?_
    refine CJ_env (E' := [(7, _), (8, _), (9, _), (84, _), (85, _), (98, _)]) (.cons rfl rfl (.cons rfl rfl (.cons rfl rfl (.cons rfl rfl (.cons rfl rfl (.cons rfl rfl .nil)))))) ?_
    refine CJ_else rfl (decide_eq_false z) ?_
    refine CJ_skip ?_
    refine NJ_then ?_
    refine CJ_env (E' := [(7, _), (8, _), (9, _), (84, _), (85, _)]) (.cons rfl rfl (.cons rfl rfl (.cons rfl rfl (.cons rfl rfl (.cons rfl rfl .nil))))) ?_
    refine CJ_seq ?_
    obtain ⟨p, hp⟩ : ∃ m, (sortM A)[j - 1]? = some m := ⟨(sortM A)[j - 1], List.getElem?_eq_getElem (by omega)⟩
    have hah : Ahead p q := ahead_at hA.nd hp (by rw [show j - 1 + 1 = j by omega]; exact hq)
    refine CJ_draw (.q 0 (.q 1 (.q 2 (.q 3 (.q 4 (.q 5 (.q 6 (.q 7 (.q 8 (.br 9 (.e 10 (.e 11 (.e 12 .done))) (.e 10 (.e 9 (.e 11 (.e 12 .done)))))))))))))) (by kernel_rfl) (by kernel_rfl) (by kernel_rfl) ?_
    refine SJ_q rfl (want_none rfl) rfl (fun _ _ => Op_move rfl) ?_
    refine SJ_q rfl (want_none rfl) rfl (fun _ _ => Op_move rfl) ?_
    refine SJ_q rfl (want_none rfl) rfl (fun _ _ => Op_subN (j - 1) rfl rfl (by omega) (by omega)) ?_
    refine SJ_q rfl (want_none rfl) rfl (fun _ _ => Op_indexAddr (o' := (j - 1) * MkT.sz + 0) rfl rfl Try.underlying30 sz34 (by omega) (by omega) (by simp [MkT])) ?_
    refine SJ_load rfl (want_none rfl) rfl rfl (load_row (o := 0) (vs := [_, _, _]) Try.underlying34 sz34 pkk hp rfl (by rfl)) ?_
    refine SJ_q rfl (want_none rfl) rfl (fun _ _ => Op_move rfl) ?_
    refine SJ_q rfl (want_none rfl) rfl (fun _ _ => Op_move rfl) ?_
    refine SJ_q rfl (want_none rfl) rfl (fun _ _ => Op_indexAddr (o' := j * MkT.sz + 0) rfl rfl Try.underlying30 sz34 (by omega) (by omega) (by simp [MkT])) ?_
    refine SJ_load rfl (want_none rfl) rfl rfl (load_row (o := 0) (vs := [_, _, _]) Try.underlying34 sz34 pkk hq rfl (by rfl)) ?_
    refine SJ_br ?_ ?_
    ·skip
     refine SJ_p (rd' := [⟨8, _, _, _⟩, ⟨4, _, _, _⟩]) [8, 4] rfl (want_none rfl) rfl (Op_alloc zr34) (by kernel_rfl) rfl ?_
     rintro _ _ ⟨b10, rfl, rfl⟩
     refine ⟨⟨(load_row (o := 0) (vs := [_, _, _]) Try.underlying34 sz34 pkk hq rfl (by rfl)), ⟨(load_row (o := 0) (vs := [_, _, _]) Try.underlying34 sz34 pkk hp rfl (by rfl)), trivial⟩⟩, ?_⟩
     refine SJ_p (rd' := [⟨8, _, _, _⟩, ⟨4, _, _, _⟩]) [8, 4] rfl (want_none rfl) rfl (Op_alloc zr34) (by kernel_rfl) rfl ?_
     rintro _ _ ⟨b11, rfl, rfl⟩
     refine ⟨⟨(load_row (o := 0) (vs := [_, _, _]) Try.underlying34 sz34 pkk hq rfl (by rfl)), ⟨(load_row (o := 0) (vs := [_, _, _]) Try.underlying34 sz34 pkk hp rfl (by rfl)), trivial⟩⟩, ?_⟩
     refine SJ_d0 (rd' := [⟨8, _, _, _⟩]) [8] rfl (want_none rfl) (Op_store (cs' := #[_, _, _]) rfl rfl sz34 (by rfl) (by simp [Value.cells, Value.oneCell']) rpp rfl (free_zero _ _) (by rfl)) (by kernel_rfl) rfl ⟨(load_row (o := 0) (vs := [_, _, _]) Try.underlying34 sz34 pkk hq rfl (by rfl)), trivial⟩ ?_
     refine SJ_d0 (rd' := []) [] rfl (want_none rfl) (Op_store (cs' := #[_, _, _]) rfl rfl sz34 (by rfl) (by simp [Value.cells, Value.oneCell']) rpp rfl (free_zero _ _) (by rfl)) (by kernel_rfl) rfl trivial ?_
     refine SJ_done ?_
     refine NJ_then ?_
     refine CJ_env (E' := [(7, _), (8, _), (10, _), (11, _), (84, _), (85, _)]) (.cons rfl rfl (.cons rfl rfl (.cons rfl rfl (.cons rfl rfl (.cons rfl rfl (.cons rfl rfl .nil)))))) ?_
     refine CJ_seq ?_
     by_cases a1 : kl p.key < kl q.key
     ·skip
      refine CJ_region ?_
      refine RJ_q (Op_fieldAddr (o' := 0) rfl Try.underlying34 rfl sz9 rfl rfl) rfl ?_
      refine RJ_q (Op_load rfl (load_cell Try.underlying9 rfl pkk Nth.z)) rfl ?_
      refine RJ_q (Op_fieldAddr (o' := 0) rfl Try.underlying34 rfl sz9 rfl rfl) rfl ?_
      refine RJ_q (Op_load rfl (load_cell Try.underlying9 rfl pkk Nth.z)) rfl ?_
      refine RJ_q (Op_str_gtr rfl rfl) rfl ?_
      refine RJ_q (Op_move rfl) rfl ?_
      refine RJ_yes (t := 113) rfl rfl (notLess (fun h => List.lt_asymm h a1)) ?_
      refine RJ_q (Op_fieldAddr (o' := 0) rfl Try.underlying34 rfl sz9 rfl rfl) rfl ?_
      refine RJ_yes (t := 113) rfl rfl (notLess (fun h => List.lt_asymm h a1)) ?_
      refine RJ_q (Op_load rfl (load_cell Try.underlying9 rfl pkk Nth.z)) rfl ?_
      refine RJ_yes (t := 113) rfl rfl (notLess (fun h => List.lt_asymm h a1)) ?_
      refine RJ_q (Op_fieldAddr (o' := 0) rfl Try.underlying34 rfl sz9 rfl rfl) rfl ?_
      refine RJ_yes (t := 113) rfl rfl (notLess (fun h => List.lt_asymm h a1)) ?_
      refine RJ_q (Op_load rfl (load_cell Try.underlying9 rfl pkk Nth.z)) rfl ?_
      refine RJ_yes (t := 113) rfl rfl (notLess (fun h => List.lt_asymm h a1)) ?_
      refine RJ_q (Op_str_eql rfl rfl) rfl ?_
      refine RJ_yes (t := 113) rfl rfl (notLess (fun h => List.lt_asymm h a1)) ?_
      refine RJ_q (Op_move rfl) rfl ?_
      refine RJ_no (t := 119) false rfl rfl (decide_eq_false (fun h => by rw [h] at a1; exact List.lt_irrefl _ a1)) (by decide) rfl ?_
      refine RJ_no (t := 119) false rfl rfl (decide_eq_false (fun h => by rw [h] at a1; exact List.lt_irrefl _ a1)) (by decide) rfl ?_
      refine RJ_no (t := 119) false rfl rfl (decide_eq_false (fun h => by rw [h] at a1; exact List.lt_irrefl _ a1)) (by decide) rfl ?_
      refine RJ_no (t := 119) false rfl rfl (decide_eq_false (fun h => by rw [h] at a1; exact List.lt_irrefl _ a1)) (by decide) rfl ?_
      refine RJ_no (t := 119) false rfl rfl (decide_eq_false (fun h => by rw [h] at a1; exact List.lt_irrefl _ a1)) (by decide) rfl ?_
      refine RJ_no (t := 119) false rfl rfl (decide_eq_false (fun h => by rw [h] at a1; exact List.lt_irrefl _ a1)) (by decide) rfl ?_
      refine RJ_nou (t := 125) rfl rfl rfl ?_
      refine RJ_nou (t := 125) rfl rfl rfl ?_
      refine RJ_nou (t := 125) rfl rfl rfl ?_
      refine RJ_nou (t := 125) rfl rfl rfl ?_
      refine RJ_nou (t := 125) rfl rfl rfl ?_
      refine RJ_nou (t := 125) rfl rfl rfl ?_
      refine RJ_nou (t := 131) rfl rfl rfl ?_
      refine RJ_nou (t := 131) rfl rfl rfl ?_
      refine RJ_nou (t := 131) rfl rfl rfl ?_
      refine RJ_nou (t := 131) rfl rfl rfl ?_
      refine RJ_nou (t := 131) rfl rfl rfl ?_
      refine RJ_nou (t := 125) rfl rfl rfl ?_
      refine RJ_no (t := 119) false rfl rfl (decide_eq_false (fun h => by rw [h] at a1; exact List.lt_irrefl _ a1)) (by decide) rfl ?_
      refine RJ_yes (t := 113) rfl rfl (notLess (fun h => List.lt_asymm h a1)) ?_
      refine RJ_q (Op_pick_f rfl (decide_eq_false (fun h => by rw [h] at a1; exact List.lt_irrefl _ a1)) rfl) rfl ?_
      refine RJ_q (Op_pick_f rfl (notLess (fun h => List.lt_asymm h a1)) rfl) rfl ?_
      refine RJ_nil ?_
      refine NJ_then ?_
      refine CJ_env (E' := [(7, _), (8, _), (84, _), (85, _), (140, _)]) (.cons rfl rfl (.cons rfl rfl (.cons rfl rfl (.cons rfl rfl (.cons rfl rfl .nil))))) ?_
      refine CJ_else rfl rfl ?_
      refine CJ_skip ?_
      refine NJ_blk ?_
      refine NJ_then ?_
      refine CJ_env (E' := [(7, _), (8, _), (84, _), (85, _)]) (.cons rfl rfl (.cons rfl rfl (.cons rfl rfl (.cons rfl rfl .nil)))) ?_
      refine CJ_region ?_
      refine RJ_q (Op_addN (j + 1) rfl rfl (by omega) (by omega)) rfl ?_
      refine RJ_q (Op_move rfl) rfl ?_
      refine RJ_nil ?_
      refine NJ_back ⟨j + 1, some ga, some gb, by omega, rfl, rfl, rfl⟩ (by omega) (.cons rfl (by first | rfl | (simp; done)) (.cons rfl (by first | rfl | (simp; done)) (.cons rfl (by first | rfl | (simp; done)) (.cons rfl (by first | rfl | (simp; done)) .nil)))) (.k (e := (.k (e := (.k (e := skk))))))
     ·skip
      obtain ⟨hk, hr⟩ := hah.resolve_left a1
      refine CJ_region ?_
      refine RJ_q (Op_fieldAddr (o' := 0) rfl Try.underlying34 rfl sz9 rfl rfl) rfl ?_
      refine RJ_q (Op_load rfl (load_cell Try.underlying9 rfl pkk Nth.z)) rfl ?_
      refine RJ_q (Op_fieldAddr (o' := 0) rfl Try.underlying34 rfl sz9 rfl rfl) rfl ?_
      refine RJ_q (Op_load rfl (load_cell Try.underlying9 rfl pkk Nth.z)) rfl ?_
      refine RJ_q (Op_str_gtr rfl rfl) rfl ?_
      refine RJ_q (Op_move rfl) rfl ?_
      refine RJ_yes (t := 113) rfl rfl (notLess (by rw [hk]; exact List.lt_irrefl _)) ?_
      refine RJ_q (Op_fieldAddr (o' := 0) rfl Try.underlying34 rfl sz9 rfl rfl) rfl ?_
      refine RJ_yes (t := 113) rfl rfl (notLess (by rw [hk]; exact List.lt_irrefl _)) ?_
      refine RJ_q (Op_load rfl (load_cell Try.underlying9 rfl pkk Nth.z)) rfl ?_
      refine RJ_yes (t := 113) rfl rfl (notLess (by rw [hk]; exact List.lt_irrefl _)) ?_
      refine RJ_q (Op_fieldAddr (o' := 0) rfl Try.underlying34 rfl sz9 rfl rfl) rfl ?_
      refine RJ_yes (t := 113) rfl rfl (notLess (by rw [hk]; exact List.lt_irrefl _)) ?_
      refine RJ_q (Op_load rfl (load_cell Try.underlying9 rfl pkk Nth.z)) rfl ?_
      refine RJ_yes (t := 113) rfl rfl (notLess (by rw [hk]; exact List.lt_irrefl _)) ?_
      refine RJ_q (Op_str_eql rfl rfl) rfl ?_
      refine RJ_yes (t := 113) rfl rfl (notLess (by rw [hk]; exact List.lt_irrefl _)) ?_
      refine RJ_q (Op_move rfl) rfl ?_
      refine RJ_yes (t := 119) rfl rfl (decide_eq_true hk) ?_
      refine RJ_q (Op_fieldAddr (o' := 1) rfl Try.underlying34 rfl sz3 rfl rfl) rfl ?_
      refine RJ_yes (t := 119) rfl rfl (decide_eq_true hk) ?_
      refine RJ_q (Op_load rfl (load_cell Try.underlying3 rfl pkk (Nth.s Nth.z))) rfl ?_
      refine RJ_yes (t := 119) rfl rfl (decide_eq_true hk) ?_
      refine RJ_q (Op_fieldAddr (o' := 1) rfl Try.underlying34 rfl sz3 rfl rfl) rfl ?_
      refine RJ_yes (t := 119) rfl rfl (decide_eq_true hk) ?_
      refine RJ_q (Op_load rfl (load_cell Try.underlying3 rfl pkk (Nth.s Nth.z))) rfl ?_
      refine RJ_yes (t := 119) rfl rfl (decide_eq_true hk) ?_
      refine RJ_q (Op_gtr rfl rfl) rfl ?_
      refine RJ_yes (t := 119) rfl rfl (decide_eq_true hk) ?_
      refine RJ_q (Op_move rfl) rfl ?_
      refine RJ_yes (t := 125) rfl rfl (decide_eq_false (by rcases hr with h | ⟨h, _⟩ <;> omega)) ?_
      refine RJ_q (Op_fieldAddr (o' := 1) rfl Try.underlying34 rfl sz3 rfl rfl) rfl ?_
      refine RJ_yes (t := 125) rfl rfl (decide_eq_false (by rcases hr with h | ⟨h, _⟩ <;> omega)) ?_
      refine RJ_q (Op_load rfl (load_cell Try.underlying3 rfl pkk (Nth.s Nth.z))) rfl ?_
      refine RJ_yes (t := 125) rfl rfl (decide_eq_false (by rcases hr with h | ⟨h, _⟩ <;> omega)) ?_
      refine RJ_q (Op_fieldAddr (o' := 1) rfl Try.underlying34 rfl sz3 rfl rfl) rfl ?_
      refine RJ_yes (t := 125) rfl rfl (decide_eq_false (by rcases hr with h | ⟨h, _⟩ <;> omega)) ?_
      refine RJ_q (Op_load rfl (load_cell Try.underlying3 rfl pkk (Nth.s Nth.z))) rfl ?_
      refine RJ_yes (t := 125) rfl rfl (decide_eq_false (by rcases hr with h | ⟨h, _⟩ <;> omega)) ?_
      refine RJ_q (Op_eql rfl rfl) rfl ?_
      by_cases a2 : p.ses = q.ses
      ·skip
       refine RJ_yes (t := 125) rfl rfl (decide_eq_false (by rcases hr with h | ⟨h, _⟩ <;> omega)) ?_
       refine RJ_q (Op_move rfl) rfl ?_
       refine RJ_yes (t := 131) rfl rfl (decide_eq_true a2) ?_
       refine RJ_q (Op_fieldAddr (o' := 2) rfl Try.underlying34 rfl sz3 rfl rfl) rfl ?_
       refine RJ_yes (t := 131) rfl rfl (decide_eq_true a2) ?_
       refine RJ_q (Op_load rfl (load_cell Try.underlying3 rfl pkk (Nth.s (Nth.s Nth.z)))) rfl ?_
       refine RJ_yes (t := 131) rfl rfl (decide_eq_true a2) ?_
       refine RJ_q (Op_fieldAddr (o' := 2) rfl Try.underlying34 rfl sz3 rfl rfl) rfl ?_
       refine RJ_yes (t := 131) rfl rfl (decide_eq_true a2) ?_
       refine RJ_q (Op_load rfl (load_cell Try.underlying3 rfl pkk (Nth.s (Nth.s Nth.z)))) rfl ?_
       refine RJ_yes (t := 131) rfl rfl (decide_eq_true a2) ?_
       refine RJ_q (Op_geq rfl rfl) rfl ?_
       refine RJ_yes (t := 125) rfl rfl (decide_eq_false (by rcases hr with h | ⟨h, _⟩ <;> omega)) ?_
       refine RJ_q (Op_pick_t rfl (decide_eq_true a2) rfl) rfl ?_
       refine RJ_yes (t := 119) rfl rfl (decide_eq_true hk) ?_
       refine RJ_q (Op_pick_f rfl (decide_eq_false (by rcases hr with h | ⟨h, _⟩ <;> omega)) rfl) rfl ?_
       refine RJ_yes (t := 113) rfl rfl (notLess (by rw [hk]; exact List.lt_irrefl _)) ?_
       refine RJ_q (Op_pick_t rfl (decide_eq_true hk) rfl) rfl ?_
       refine RJ_q (Op_pick_f rfl (notLess (by rw [hk]; exact List.lt_irrefl _)) rfl) rfl ?_
       refine RJ_nil ?_
       refine NJ_then ?_
       refine CJ_env (E' := [(7, _), (8, _), (84, _), (85, _), (140, _)]) (.cons rfl rfl (.cons rfl rfl (.cons rfl rfl (.cons rfl rfl (.cons rfl rfl .nil))))) ?_
       refine CJ_else rfl (decide_eq_false (by rcases hr with h | ⟨_, h⟩ <;> omega)) ?_
       refine CJ_skip ?_
       refine NJ_blk ?_
       refine NJ_then ?_
       refine CJ_env (E' := [(7, _), (8, _), (84, _), (85, _)]) (.cons rfl rfl (.cons rfl rfl (.cons rfl rfl (.cons rfl rfl .nil)))) ?_
       refine CJ_region ?_
       refine RJ_q (Op_addN (j + 1) rfl rfl (by omega) (by omega)) rfl ?_
       refine RJ_q (Op_move rfl) rfl ?_
       refine RJ_nil ?_
       refine NJ_back ⟨j + 1, some ga, some gb, by omega, rfl, rfl, rfl⟩ (by omega) (.cons rfl (by first | rfl | (simp; done)) (.cons rfl (by first | rfl | (simp; done)) (.cons rfl (by first | rfl | (simp; done)) (.cons rfl (by first | rfl | (simp; done)) .nil)))) (.k (e := (.k (e := (.k (e := skk))))))
      ·skip
       refine RJ_yes (t := 125) rfl rfl (decide_eq_false (by rcases hr with h | ⟨h, _⟩ <;> omega)) ?_
       refine RJ_q (Op_move rfl) rfl ?_
       refine RJ_no (t := 131) false rfl rfl (decide_eq_false a2) (by decide) rfl ?_
       refine RJ_no (t := 131) false rfl rfl (decide_eq_false a2) (by decide) rfl ?_
       refine RJ_no (t := 131) false rfl rfl (decide_eq_false a2) (by decide) rfl ?_
       refine RJ_no (t := 131) false rfl rfl (decide_eq_false a2) (by decide) rfl ?_
       refine RJ_no (t := 131) false rfl rfl (decide_eq_false a2) (by decide) rfl ?_
       refine RJ_yes (t := 125) rfl rfl (decide_eq_false (by rcases hr with h | ⟨h, _⟩ <;> omega)) ?_
       refine RJ_q (Op_pick_f rfl (decide_eq_false a2) rfl) rfl ?_
       refine RJ_yes (t := 119) rfl rfl (decide_eq_true hk) ?_
       refine RJ_q (Op_pick_f rfl (decide_eq_false (by rcases hr with h | ⟨h, _⟩ <;> omega)) rfl) rfl ?_
       refine RJ_yes (t := 113) rfl rfl (notLess (by rw [hk]; exact List.lt_irrefl _)) ?_
       refine RJ_q (Op_pick_t rfl (decide_eq_true hk) rfl) rfl ?_
       refine RJ_q (Op_pick_f rfl (notLess (by rw [hk]; exact List.lt_irrefl _)) rfl) rfl ?_
       refine RJ_nil ?_
       refine NJ_then ?_
       refine CJ_env (E' := [(7, _), (8, _), (84, _), (85, _), (140, _)]) (.cons rfl rfl (.cons rfl rfl (.cons rfl rfl (.cons rfl rfl (.cons rfl rfl .nil))))) ?_
       refine CJ_else rfl rfl ?_
       refine CJ_skip ?_
       refine NJ_blk ?_
       refine NJ_then ?_
       refine CJ_env (E' := [(7, _), (8, _), (84, _), (85, _)]) (.cons rfl rfl (.cons rfl rfl (.cons rfl rfl (.cons rfl rfl .nil)))) ?_
       refine CJ_region ?_
       refine RJ_q (Op_addN (j + 1) rfl rfl (by omega) (by omega)) rfl ?_
       refine RJ_q (Op_move rfl) rfl ?_
       refine RJ_nil ?_
       refine NJ_back ⟨j + 1, some ga, some gb, by omega, rfl, rfl, rfl⟩ (by omega) (.cons rfl (by first | rfl | (simp; done)) (.cons rfl (by first | rfl | (simp; done)) (.cons rfl (by first | rfl | (simp; done)) (.cons rfl (by first | rfl | (simp; done)) .nil)))) (.k (e := (.k (e := (.k (e := skk))))))
    ·skip
     refine SJ_p (rd' := [⟨8, _, _, _⟩, ⟨4, _, _, _⟩]) [8, 4] rfl (want_none rfl) rfl (Op_alloc zr34) (by kernel_rfl) rfl ?_
     rintro _ _ ⟨b11, rfl, rfl⟩
     refine ⟨⟨(load_row (o := 0) (vs := [_, _, _]) Try.underlying34 sz34 pkk hq rfl (by rfl)), ⟨(load_row (o := 0) (vs := [_, _, _]) Try.underlying34 sz34 pkk hp rfl (by rfl)), trivial⟩⟩, ?_⟩
     refine SJ_p (rd' := [⟨8, _, _, _⟩, ⟨4, _, _, _⟩]) [8, 4] rfl (want_none rfl) rfl (Op_alloc zr34) (by kernel_rfl) rfl ?_
     rintro _ _ ⟨b10, rfl, rfl⟩
     refine ⟨⟨(load_row (o := 0) (vs := [_, _, _]) Try.underlying34 sz34 pkk hq rfl (by rfl)), ⟨(load_row (o := 0) (vs := [_, _, _]) Try.underlying34 sz34 pkk hp rfl (by rfl)), trivial⟩⟩, ?_⟩
     refine SJ_d0 (rd' := [⟨8, _, _, _⟩]) [8] rfl (want_none rfl) (Op_store (cs' := #[_, _, _]) rfl rfl sz34 (by rfl) (by simp [Value.cells, Value.oneCell']) rpp rfl (free_zero _ _) (by rfl)) (by kernel_rfl) rfl ⟨(load_row (o := 0) (vs := [_, _, _]) Try.underlying34 sz34 pkk hq rfl (by rfl)), trivial⟩ ?_
     refine SJ_d0 (rd' := []) [] rfl (want_none rfl) (Op_store (cs' := #[_, _, _]) rfl rfl sz34 (by rfl) (by simp [Value.cells, Value.oneCell']) rpp rfl (free_zero _ _) (by rfl)) (by kernel_rfl) rfl trivial ?_
     refine SJ_done ?_
     refine NJ_then ?_
     refine CJ_env (E' := [(7, _), (8, _), (10, _), (11, _), (84, _), (85, _)]) (.cons rfl rfl (.cons rfl rfl (.cons rfl rfl (.cons rfl rfl (.cons rfl rfl (.cons rfl rfl .nil)))))) ?_
     refine CJ_seq ?_
     by_cases a1 : kl p.key < kl q.key
     ·skip
      refine CJ_region ?_
      refine RJ_q (Op_fieldAddr (o' := 0) rfl Try.underlying34 rfl sz9 rfl rfl) rfl ?_
      refine RJ_q (Op_load rfl (load_cell Try.underlying9 rfl pkk Nth.z)) rfl ?_
      refine RJ_q (Op_fieldAddr (o' := 0) rfl Try.underlying34 rfl sz9 rfl rfl) rfl ?_
      refine RJ_q (Op_load rfl (load_cell Try.underlying9 rfl pkk Nth.z)) rfl ?_
      refine RJ_q (Op_str_gtr rfl rfl) rfl ?_
      refine RJ_q (Op_move rfl) rfl ?_
      refine RJ_yes (t := 113) rfl rfl (notLess (fun h => List.lt_asymm h a1)) ?_
      refine RJ_q (Op_fieldAddr (o' := 0) rfl Try.underlying34 rfl sz9 rfl rfl) rfl ?_
      refine RJ_yes (t := 113) rfl rfl (notLess (fun h => List.lt_asymm h a1)) ?_
      refine RJ_q (Op_load rfl (load_cell Try.underlying9 rfl pkk Nth.z)) rfl ?_
      refine RJ_yes (t := 113) rfl rfl (notLess (fun h => List.lt_asymm h a1)) ?_
      refine RJ_q (Op_fieldAddr (o' := 0) rfl Try.underlying34 rfl sz9 rfl rfl) rfl ?_
      refine RJ_yes (t := 113) rfl rfl (notLess (fun h => List.lt_asymm h a1)) ?_
      refine RJ_q (Op_load rfl (load_cell Try.underlying9 rfl pkk Nth.z)) rfl ?_
      refine RJ_yes (t := 113) rfl rfl (notLess (fun h => List.lt_asymm h a1)) ?_
      refine RJ_q (Op_str_eql rfl rfl) rfl ?_
      refine RJ_yes (t := 113) rfl rfl (notLess (fun h => List.lt_asymm h a1)) ?_
      refine RJ_q (Op_move rfl) rfl ?_
      refine RJ_no (t := 119) false rfl rfl (decide_eq_false (fun h => by rw [h] at a1; exact List.lt_irrefl _ a1)) (by decide) rfl ?_
      refine RJ_no (t := 119) false rfl rfl (decide_eq_false (fun h => by rw [h] at a1; exact List.lt_irrefl _ a1)) (by decide) rfl ?_
      refine RJ_no (t := 119) false rfl rfl (decide_eq_false (fun h => by rw [h] at a1; exact List.lt_irrefl _ a1)) (by decide) rfl ?_
      refine RJ_no (t := 119) false rfl rfl (decide_eq_false (fun h => by rw [h] at a1; exact List.lt_irrefl _ a1)) (by decide) rfl ?_
      refine RJ_no (t := 119) false rfl rfl (decide_eq_false (fun h => by rw [h] at a1; exact List.lt_irrefl _ a1)) (by decide) rfl ?_
      refine RJ_no (t := 119) false rfl rfl (decide_eq_false (fun h => by rw [h] at a1; exact List.lt_irrefl _ a1)) (by decide) rfl ?_
      refine RJ_nou (t := 125) rfl rfl rfl ?_
      refine RJ_nou (t := 125) rfl rfl rfl ?_
      refine RJ_nou (t := 125) rfl rfl rfl ?_
      refine RJ_nou (t := 125) rfl rfl rfl ?_
      refine RJ_nou (t := 125) rfl rfl rfl ?_
      refine RJ_nou (t := 125) rfl rfl rfl ?_
      refine RJ_nou (t := 131) rfl rfl rfl ?_
      refine RJ_nou (t := 131) rfl rfl rfl ?_
      refine RJ_nou (t := 131) rfl rfl rfl ?_
      refine RJ_nou (t := 131) rfl rfl rfl ?_
      refine RJ_nou (t := 131) rfl rfl rfl ?_
      refine RJ_nou (t := 125) rfl rfl rfl ?_
      refine RJ_no (t := 119) false rfl rfl (decide_eq_false (fun h => by rw [h] at a1; exact List.lt_irrefl _ a1)) (by decide) rfl ?_
      refine RJ_yes (t := 113) rfl rfl (notLess (fun h => List.lt_asymm h a1)) ?_
      refine RJ_q (Op_pick_f rfl (decide_eq_false (fun h => by rw [h] at a1; exact List.lt_irrefl _ a1)) rfl) rfl ?_
      refine RJ_q (Op_pick_f rfl (notLess (fun h => List.lt_asymm h a1)) rfl) rfl ?_
      refine RJ_nil ?_
      refine NJ_then ?_
      refine CJ_env (E' := [(7, _), (8, _), (84, _), (85, _), (140, _)]) (.cons rfl rfl (.cons rfl rfl (.cons rfl rfl (.cons rfl rfl (.cons rfl rfl .nil))))) ?_
      refine CJ_else rfl rfl ?_
      refine CJ_skip ?_
      refine NJ_blk ?_
      refine NJ_then ?_
      refine CJ_env (E' := [(7, _), (8, _), (84, _), (85, _)]) (.cons rfl rfl (.cons rfl rfl (.cons rfl rfl (.cons rfl rfl .nil)))) ?_
      refine CJ_region ?_
      refine RJ_q (Op_addN (j + 1) rfl rfl (by omega) (by omega)) rfl ?_
      refine RJ_q (Op_move rfl) rfl ?_
      refine RJ_nil ?_
      refine NJ_back ⟨j + 1, some ga, some gb, by omega, rfl, rfl, rfl⟩ (by omega) (.cons rfl (by first | rfl | (simp; done)) (.cons rfl (by first | rfl | (simp; done)) (.cons rfl (by first | rfl | (simp; done)) (.cons rfl (by first | rfl | (simp; done)) .nil)))) (.k (e := (.k (e := (.k (e := skk))))))
     ·skip
      obtain ⟨hk, hr⟩ := hah.resolve_left a1
      refine CJ_region ?_
      refine RJ_q (Op_fieldAddr (o' := 0) rfl Try.underlying34 rfl sz9 rfl rfl) rfl ?_
      refine RJ_q (Op_load rfl (load_cell Try.underlying9 rfl pkk Nth.z)) rfl ?_
      refine RJ_q (Op_fieldAddr (o' := 0) rfl Try.underlying34 rfl sz9 rfl rfl) rfl ?_
      refine RJ_q (Op_load rfl (load_cell Try.underlying9 rfl pkk Nth.z)) rfl ?_
      refine RJ_q (Op_str_gtr rfl rfl) rfl ?_
      refine RJ_q (Op_move rfl) rfl ?_
      refine RJ_yes (t := 113) rfl rfl (notLess (by rw [hk]; exact List.lt_irrefl _)) ?_
      refine RJ_q (Op_fieldAddr (o' := 0) rfl Try.underlying34 rfl sz9 rfl rfl) rfl ?_
      refine RJ_yes (t := 113) rfl rfl (notLess (by rw [hk]; exact List.lt_irrefl _)) ?_
      refine RJ_q (Op_load rfl (load_cell Try.underlying9 rfl pkk Nth.z)) rfl ?_
      refine RJ_yes (t := 113) rfl rfl (notLess (by rw [hk]; exact List.lt_irrefl _)) ?_
      refine RJ_q (Op_fieldAddr (o' := 0) rfl Try.underlying34 rfl sz9 rfl rfl) rfl ?_
      refine RJ_yes (t := 113) rfl rfl (notLess (by rw [hk]; exact List.lt_irrefl _)) ?_
      refine RJ_q (Op_load rfl (load_cell Try.underlying9 rfl pkk Nth.z)) rfl ?_
      refine RJ_yes (t := 113) rfl rfl (notLess (by rw [hk]; exact List.lt_irrefl _)) ?_
      refine RJ_q (Op_str_eql rfl rfl) rfl ?_
      refine RJ_yes (t := 113) rfl rfl (notLess (by rw [hk]; exact List.lt_irrefl _)) ?_
      refine RJ_q (Op_move rfl) rfl ?_
      refine RJ_yes (t := 119) rfl rfl (decide_eq_true hk) ?_
      refine RJ_q (Op_fieldAddr (o' := 1) rfl Try.underlying34 rfl sz3 rfl rfl) rfl ?_
      refine RJ_yes (t := 119) rfl rfl (decide_eq_true hk) ?_
      refine RJ_q (Op_load rfl (load_cell Try.underlying3 rfl pkk (Nth.s Nth.z))) rfl ?_
      refine RJ_yes (t := 119) rfl rfl (decide_eq_true hk) ?_
      refine RJ_q (Op_fieldAddr (o' := 1) rfl Try.underlying34 rfl sz3 rfl rfl) rfl ?_
      refine RJ_yes (t := 119) rfl rfl (decide_eq_true hk) ?_
      refine RJ_q (Op_load rfl (load_cell Try.underlying3 rfl pkk (Nth.s Nth.z))) rfl ?_
      refine RJ_yes (t := 119) rfl rfl (decide_eq_true hk) ?_
      refine RJ_q (Op_gtr rfl rfl) rfl ?_
      refine RJ_yes (t := 119) rfl rfl (decide_eq_true hk) ?_
      refine RJ_q (Op_move rfl) rfl ?_
      refine RJ_yes (t := 125) rfl rfl (decide_eq_false (by rcases hr with h | ⟨h, _⟩ <;> omega)) ?_
      refine RJ_q (Op_fieldAddr (o' := 1) rfl Try.underlying34 rfl sz3 rfl rfl) rfl ?_
      refine RJ_yes (t := 125) rfl rfl (decide_eq_false (by rcases hr with h | ⟨h, _⟩ <;> omega)) ?_
      refine RJ_q (Op_load rfl (load_cell Try.underlying3 rfl pkk (Nth.s Nth.z))) rfl ?_
      refine RJ_yes (t := 125) rfl rfl (decide_eq_false (by rcases hr with h | ⟨h, _⟩ <;> omega)) ?_
      refine RJ_q (Op_fieldAddr (o' := 1) rfl Try.underlying34 rfl sz3 rfl rfl) rfl ?_
      refine RJ_yes (t := 125) rfl rfl (decide_eq_false (by rcases hr with h | ⟨h, _⟩ <;> omega)) ?_
      refine RJ_q (Op_load rfl (load_cell Try.underlying3 rfl pkk (Nth.s Nth.z))) rfl ?_
      refine RJ_yes (t := 125) rfl rfl (decide_eq_false (by rcases hr with h | ⟨h, _⟩ <;> omega)) ?_
      refine RJ_q (Op_eql rfl rfl) rfl ?_
      by_cases a2 : p.ses = q.ses
      ·skip
       refine RJ_yes (t := 125) rfl rfl (decide_eq_false (by rcases hr with h | ⟨h, _⟩ <;> omega)) ?_
       refine RJ_q (Op_move rfl) rfl ?_
       refine RJ_yes (t := 131) rfl rfl (decide_eq_true a2) ?_
       refine RJ_q (Op_fieldAddr (o' := 2) rfl Try.underlying34 rfl sz3 rfl rfl) rfl ?_
       refine RJ_yes (t := 131) rfl rfl (decide_eq_true a2) ?_
       refine RJ_q (Op_load rfl (load_cell Try.underlying3 rfl pkk (Nth.s (Nth.s Nth.z)))) rfl ?_
       refine RJ_yes (t := 131) rfl rfl (decide_eq_true a2) ?_
       refine RJ_q (Op_fieldAddr (o' := 2) rfl Try.underlying34 rfl sz3 rfl rfl) rfl ?_
       refine RJ_yes (t := 131) rfl rfl (decide_eq_true a2) ?_
       refine RJ_q (Op_load rfl (load_cell Try.underlying3 rfl pkk (Nth.s (Nth.s Nth.z)))) rfl ?_
       refine RJ_yes (t := 131) rfl rfl (decide_eq_true a2) ?_
       refine RJ_q (Op_geq rfl rfl) rfl ?_
       refine RJ_yes (t := 125) rfl rfl (decide_eq_false (by rcases hr with h | ⟨h, _⟩ <;> omega)) ?_
       refine RJ_q (Op_pick_t rfl (decide_eq_true a2) rfl) rfl ?_
       refine RJ_yes (t := 119) rfl rfl (decide_eq_true hk) ?_
       refine RJ_q (Op_pick_f rfl (decide_eq_false (by rcases hr with h | ⟨h, _⟩ <;> omega)) rfl) rfl ?_
       refine RJ_yes (t := 113) rfl rfl (notLess (by rw [hk]; exact List.lt_irrefl _)) ?_
       refine RJ_q (Op_pick_t rfl (decide_eq_true hk) rfl) rfl ?_
       refine RJ_q (Op_pick_f rfl (notLess (by rw [hk]; exact List.lt_irrefl _)) rfl) rfl ?_
       refine RJ_nil ?_
       refine NJ_then ?_
       refine CJ_env (E' := [(7, _), (8, _), (84, _), (85, _), (140, _)]) (.cons rfl rfl (.cons rfl rfl (.cons rfl rfl (.cons rfl rfl (.cons rfl rfl .nil))))) ?_
       refine CJ_else rfl (decide_eq_false (by rcases hr with h | ⟨_, h⟩ <;> omega)) ?_
       refine CJ_skip ?_
       refine NJ_blk ?_
       refine NJ_then ?_
       refine CJ_env (E' := [(7, _), (8, _), (84, _), (85, _)]) (.cons rfl rfl (.cons rfl rfl (.cons rfl rfl (.cons rfl rfl .nil)))) ?_
       refine CJ_region ?_
       refine RJ_q (Op_addN (j + 1) rfl rfl (by omega) (by omega)) rfl ?_
       refine RJ_q (Op_move rfl) rfl ?_
       refine RJ_nil ?_
       refine NJ_back ⟨j + 1, some ga, some gb, by omega, rfl, rfl, rfl⟩ (by omega) (.cons rfl (by first | rfl | (simp; done)) (.cons rfl (by first | rfl | (simp; done)) (.cons rfl (by first | rfl | (simp; done)) (.cons rfl (by first | rfl | (simp; done)) .nil)))) (.k (e := (.k (e := (.k (e := skk))))))
      ·skip
       refine RJ_yes (t := 125) rfl rfl (decide_eq_false (by rcases hr with h | ⟨h, _⟩ <;> omega)) ?_
       refine RJ_q (Op_move rfl) rfl ?_
       refine RJ_no (t := 131) false rfl rfl (decide_eq_false a2) (by decide) rfl ?_
       refine RJ_no (t := 131) false rfl rfl (decide_eq_false a2) (by decide) rfl ?_
       refine RJ_no (t := 131) false rfl rfl (decide_eq_false a2) (by decide) rfl ?_
       refine RJ_no (t := 131) false rfl rfl (decide_eq_false a2) (by decide) rfl ?_
       refine RJ_no (t := 131) false rfl rfl (decide_eq_false a2) (by decide) rfl ?_
       refine RJ_yes (t := 125) rfl rfl (decide_eq_false (by rcases hr with h | ⟨h, _⟩ <;> omega)) ?_
       refine RJ_q (Op_pick_f rfl (decide_eq_false a2) rfl) rfl ?_
       refine RJ_yes (t := 119) rfl rfl (decide_eq_true hk) ?_
       refine RJ_q (Op_pick_f rfl (decide_eq_false (by rcases hr with h | ⟨h, _⟩ <;> omega)) rfl) rfl ?_
       refine RJ_yes (t := 113) rfl rfl (notLess (by rw [hk]; exact List.lt_irrefl _)) ?_
       refine RJ_q (Op_pick_t rfl (decide_eq_true hk) rfl) rfl ?_
       refine RJ_q (Op_pick_f rfl (notLess (by rw [hk]; exact List.lt_irrefl _)) rfl) rfl ?_
       refine RJ_nil ?_
       refine NJ_then ?_
       refine CJ_env (E' := [(7, _), (8, _), (84, _), (85, _), (140, _)]) (.cons rfl rfl (.cons rfl rfl (.cons rfl rfl (.cons rfl rfl (.cons rfl rfl .nil))))) ?_
       refine CJ_else rfl rfl ?_
       refine CJ_skip ?_
       refine NJ_blk ?_
       refine NJ_then ?_
       refine CJ_env (E' := [(7, _), (8, _), (84, _), (85, _)]) (.cons rfl rfl (.cons rfl rfl (.cons rfl rfl (.cons rfl rfl .nil)))) ?_
       refine CJ_region ?_
       refine RJ_q (Op_addN (j + 1) rfl rfl (by omega) (by omega)) rfl ?_
       refine RJ_q (Op_move rfl) rfl ?_
       refine RJ_nil ?_
       refine NJ_back ⟨j + 1, some ga, some gb, by omega, rfl, rfl, rfl⟩ (by omega) (.cons rfl (by first | rfl | (simp; done)) (.cons rfl (by first | rfl | (simp; done)) (.cons rfl (by first | rfl | (simp; done)) (.cons rfl (by first | rfl | (simp; done)) .nil)))) (.k (e := (.k (e := (.k (e := skk))))))
  ·skip
   refine RJ_nil ?_
   refine NJ_then ?_
   refine CJ_env (E' := [(7, _), (8, _), (84, _), (85, _), (86, _)]) (.cons rfl rfl (.cons rfl rfl (.cons rfl rfl (.cons rfl rfl (.cons rfl rfl .nil))))) ?_
   refine CJ_seq ?_
   refine CJ_else rfl (decide_eq_false hj) ?_
   refine CJ_exit ?_
   refine NJ_then_x ?_
   refine NJ_then_x ?_
   refine NJ_blk_hit ?_
   refine NJ_then ?_
   refine CJ_env (E' := []) .nil ?_
   refine CJ_seq ?_
   refine CJ_region ?_
   refine RJ_q (Op_assign rfl) rfl ?_
   refine RJ_nil ?_
   refine NJ_then ?_
   refine CJ_env (E' := [(2, _)]) (.cons rfl rfl .nil) ?_
   refine CJ_ret ?_
   refine NJ_ret (.inl rfl) Try.results3 (ResJ_tmp rfl ResJ_nil) ⟨rfl, rfl⟩ (.k (e := skk))
end Go.Proofs.Ytbaecpddhdeapaa.SL
