/- Contracts of two lists compared. -/
import Derived.Test.Ytbaecpddhdeapaas08MpX
import Derived.Test.Ytbaecpddhdeapaas08Fb
namespace Go.Proofs.Ytbaecpddhdeapaa.SL
open Go Go.RowKit
set_option maxRecDepth 20000 in
theorem Same_eq (a b : Option Nat) (c1 c2 : Nat) (xs : List Mark) (hl : xs.length ≤ 1000000) : Spec Try.prog 20 #[.slice (sl a) xs.length c1, .slice (sl b) xs.length c2] [Row MkT a c1 xs, Row RkT b c2 xs] (fun v C => v = .bool true ∧ C = [Row MkT a c1 xs, Row RkT b c2 xs]) := by
 refine Spec_intro (n := 54) (args := [.slice (sl a) xs.length c1, .slice (sl b) xs.length c2]) Try.func20 rfl rfl rfl fun s R => ?_
 refine CJ_app2 ?_
 refine CJ_env (E' := [(0, _), (1, _)]) (.cons rfl rfl (.cons rfl rfl .nil)) ?_
 refine CJ_seq ?_
 refine CJ_region ?_
 refine RJ_q (Op_assign rfl) rfl ?_
 refine RJ_nil ?_
 refine NJ_then ?_
 refine CJ_env (E' := [(0, _), (1, _), (4, _)]) (.cons rfl rfl (.cons rfl rfl (.cons rfl rfl .nil))) ?_
 refine CJ_seq ?_
 refine CJ_seq ?_
 refine CJ_region ?_
 refine RJ_q (Op_move rfl) rfl ?_
 refine RJ_q (Op_len_slice rfl Try.underlying30) rfl ?_
 refine RJ_q (Op_move rfl) rfl ?_
 refine RJ_q (Op_len_slice rfl Try.underlying43) rfl ?_
 refine RJ_q (Op_neq rfl rfl) rfl ?_
 refine RJ_nil ?_
 refine NJ_then ?_
 refine CJ_env (E' := [(0, _), (1, _), (4, _), (10, _)]) (.cons rfl rfl (.cons rfl rfl (.cons rfl rfl (.cons rfl rfl .nil)))) ?_
 refine CJ_else rfl (decide_eq_false (fun h => h rfl)) ?_
 refine CJ_skip ?_
 refine NJ_then ?_
 refine CJ_env (E' := [(0, _), (1, _), (4, _)]) (.cons rfl rfl (.cons rfl rfl (.cons rfl rfl .nil))) ?_
 refine CJ_seq ?_
 refine CJ_seq ?_
 refine CJ_region ?_
 refine RJ_q (Op_move rfl) rfl ?_
 refine RJ_q (Op_len_slice rfl Try.underlying30) rfl ?_
 refine RJ_q (Op_move rfl) rfl ?_
 refine RJ_nil ?_
 refine NJ_then ?_
 refine CJ_env (E' := [(0, _), (1, _), (4, _), (12, _), (13, _)]) (.cons rfl rfl (.cons rfl rfl (.cons rfl rfl (.cons rfl rfl (.cons rfl rfl .nil))))) ?_
 refine CJ_block ?_
 refine CJ_loop (fun E H mz => ∃ (i : Nat), (i ≤ xs.length) ∧ E = [(0, .slice (sl a) xs.length c1), (1, .slice (sl b) xs.length c2), (12, .int .i64 (xs.length : Nat)), (13, .int .i64 (i : Nat))] ∧ H = [Row MkT a c1 xs, Row RkT b c2 xs] ++ R ∧ mz = xs.length - i) (E' := [(0, .slice (sl a) xs.length c1), (1, .slice (sl b) xs.length c2), (12, .int .i64 (xs.length : Nat)), (13, .int .i64 (0 : Nat))]) (H' := [Row MkT a c1 xs, Row RkT b c2 xs] ++ R) (m := xs.length - 0) ⟨0, Nat.zero_le _, rfl, rfl, rfl⟩ (.cons rfl rfl (.cons rfl rfl (.cons rfl rfl (.cons rfl rfl .nil)))) (.k (e := (.k (e := skk)))) ?_
 rintro _ _ _ ⟨i, hi, rfl, rfl, rfl⟩
 refine CJ_app2 ?_
 refine CJ_seq ?_
 refine CJ_region ?_
 refine RJ_q (Op_lss rfl rfl) rfl ?_
 by_cases hi1 : (i : Int) < xs.length
 ·skip
  obtain ⟨x, hx⟩ : ∃ x, xs[i]? = some x := ⟨xs[i], List.getElem?_eq_getElem (by omega)⟩
  refine RJ_nil ?_
  refine NJ_then ?_
  refine CJ_env (E' := [(0, _), (1, _), (12, _), (13, _), (14, _)]) (.cons rfl rfl (.cons rfl rfl (.cons rfl rfl (.cons rfl rfl (.cons rfl rfl .nil))))) ?_
  refine CJ_seq ?_
  refine CJ_then rfl (decide_eq_true hi1) ?_
  refine CJ_skip ?_
  refine NJ_then ?_
  refine CJ_env (E' := [(0, _), (1, _), (12, _), (13, _)]) (.cons rfl rfl (.cons rfl rfl (.cons rfl rfl (.cons rfl rfl .nil)))) ?_
  refine CJ_seq ?_
  refine CJ_block ?_
  refine CJ_seq ?_
  refine CJ_region ?_
  refine RJ_q (Op_move rfl) rfl ?_
  refine RJ_q (Op_assign rfl) rfl ?_
  refine RJ_nil ?_
  refine NJ_then ?_
  refine CJ_env (E' := [(0, _), (1, _), (5, _), (12, _), (13, _)]) (.cons rfl rfl (.cons rfl rfl (.cons rfl rfl (.cons rfl rfl (.cons rfl rfl .nil))))) ?_
  refine CJ_seq ?_
  refine CJ_know (Row_know (T := MkT) (a := a) pkk) ?_
  intro hk1
  obtain ⟨ga, ea⟩ := row_some hk1.2.2 (by intro e; rw [e] at hx; cases hx)
  refine CJ_know (Row_know (T := RkT) (a := b) pkk) ?_
  intro hk2
  obtain ⟨gb, eb⟩ := row_some hk2.2.2 (by intro e; rw [e] at hx; cases hx)
  rw [ea, eb]
  refine CJ_draw (.q 0 (.q 1 (.q 2 (.q 3 (.q 4 (.q 5 (.q 6 (.q 7 (.q 8 (.q 9 (.q 10 (.q 11 (.q 12 (.q 13 (.q 14 (.q 15 (.q 16 (.q 17 (.q 18 (.q 19 (.q 20 (.q 21 (.q 22 (.q 23 (.q 24 (.q 25 (.q 26 (.q 27 (.q 28 (.q 29 (.q 30 (.q 31 (.q 32 (.q 33 (.q 34 (.q 35 (.q 36 .done))))))))))))))))))))))))))))))))))))) (by kernel_rfl) (by kernel_rfl) (by kernel_rfl) ?_
  refine SJ_q rfl (want_none rfl) rfl (fun _ _ => Op_move rfl) ?_
  refine SJ_q rfl (want_none rfl) rfl (fun _ _ => Op_move rfl) ?_
  refine SJ_q rfl (want_none rfl) rfl (fun _ _ => Op_indexAddr (o' := i * MkT.sz + 0) rfl rfl Try.underlying30 sz34 (by omega) (by omega) (by simp [MkT])) ?_
  refine SJ_q rfl (want_none rfl) rfl (fun _ _ => Op_fieldAddr (o' := i * MkT.sz + 0) rfl Try.underlying34 rfl sz9 rfl rfl) ?_
  refine SJ_load rfl (want_none rfl) rfl rfl (load_row_cell (o := 0) Try.underlying9 rfl pkk hx Nth.z) ?_
  refine SJ_q rfl (want_none rfl) rfl (fun _ _ => Op_move rfl) ?_
  refine SJ_q rfl (want_none rfl) rfl (fun _ _ => Op_move rfl) ?_
  refine SJ_q rfl (want_none rfl) rfl (fun _ _ => Op_indexAddr (o' := i * RkT.sz + 0) rfl rfl Try.underlying43 sz46 (by omega) (by omega) (by simp [RkT])) ?_
  refine SJ_q rfl (want_none rfl) rfl (fun _ _ => Op_fieldAddr (o' := i * RkT.sz + 0) rfl Try.underlying46 rfl sz9 rfl rfl) ?_
  refine SJ_load rfl (want_none rfl) rfl rfl (load_row_cell (o := 0) Try.underlying9 rfl pkk hx Nth.z) ?_
  refine SJ_q rfl (want_none rfl) rfl (fun _ _ => Op_str_neq rfl rfl) ?_
  refine SJ_q rfl (want_none rfl) rfl (fun _ _ => Op_move rfl) ?_
  refine SJ_q rfl (want_yes (t := 27) rfl rfl rfl (decide_eq_false (fun h => h rfl))) rfl (fun _ _ => Op_move rfl) ?_
  refine SJ_q rfl (want_yes (t := 27) rfl rfl rfl (decide_eq_false (fun h => h rfl))) rfl (fun _ _ => Op_move rfl) ?_
  refine SJ_q rfl (want_yes (t := 27) rfl rfl rfl (decide_eq_false (fun h => h rfl))) rfl (fun _ _ => Op_indexAddr (o' := i * MkT.sz + 0) rfl rfl Try.underlying30 sz34 (by omega) (by omega) (by simp [MkT])) ?_
  refine SJ_q rfl (want_yes (t := 27) rfl rfl rfl (decide_eq_false (fun h => h rfl))) rfl (fun _ _ => Op_fieldAddr (o' := i * MkT.sz + 1) rfl Try.underlying34 rfl sz3 rfl rfl) ?_
  refine SJ_load rfl (want_yes (t := 27) rfl rfl rfl (decide_eq_false (fun h => h rfl))) rfl rfl (load_row_cell (o := 1) Try.underlying3 rfl pkk hx (Nth.s Nth.z)) ?_
  refine SJ_q rfl (want_yes (t := 27) rfl rfl rfl (decide_eq_false (fun h => h rfl))) rfl (fun _ _ => Op_move rfl) ?_
  refine SJ_q rfl (want_yes (t := 27) rfl rfl rfl (decide_eq_false (fun h => h rfl))) rfl (fun _ _ => Op_move rfl) ?_
  refine SJ_q rfl (want_yes (t := 27) rfl rfl rfl (decide_eq_false (fun h => h rfl))) rfl (fun _ _ => Op_indexAddr (o' := i * RkT.sz + 0) rfl rfl Try.underlying43 sz46 (by omega) (by omega) (by simp [RkT])) ?_
  refine SJ_q rfl (want_yes (t := 27) rfl rfl rfl (decide_eq_false (fun h => h rfl))) rfl (fun _ _ => Op_fieldAddr (o' := i * RkT.sz + 1) rfl Try.underlying46 rfl sz3 rfl rfl) ?_
  refine SJ_load rfl (want_yes (t := 27) rfl rfl rfl (decide_eq_false (fun h => h rfl))) rfl rfl (load_row_cell (o := 1) Try.underlying3 rfl pkk hx (Nth.s Nth.z)) ?_
  refine SJ_q rfl (want_yes (t := 27) rfl rfl rfl (decide_eq_false (fun h => h rfl))) rfl (fun _ _ => Op_neq rfl rfl) ?_
  refine SJ_q rfl (want_none rfl) rfl (fun _ _ => Op_pick_f rfl (decide_eq_false (fun h => h rfl)) rfl) ?_
  refine SJ_q rfl (want_none rfl) rfl (fun _ _ => Op_move rfl) ?_
  refine SJ_q rfl (want_yes (t := 40) rfl rfl rfl (decide_eq_false (fun h => h rfl))) rfl (fun _ _ => Op_move rfl) ?_
  refine SJ_q rfl (want_yes (t := 40) rfl rfl rfl (decide_eq_false (fun h => h rfl))) rfl (fun _ _ => Op_move rfl) ?_
  refine SJ_q rfl (want_yes (t := 40) rfl rfl rfl (decide_eq_false (fun h => h rfl))) rfl (fun _ _ => Op_indexAddr (o' := i * MkT.sz + 0) rfl rfl Try.underlying30 sz34 (by omega) (by omega) (by simp [MkT])) ?_
  refine SJ_q rfl (want_yes (t := 40) rfl rfl rfl (decide_eq_false (fun h => h rfl))) rfl (fun _ _ => Op_fieldAddr (o' := i * MkT.sz + 2) rfl Try.underlying34 rfl sz3 rfl rfl) ?_
  refine SJ_load rfl (want_yes (t := 40) rfl rfl rfl (decide_eq_false (fun h => h rfl))) rfl rfl (load_row_cell (o := 2) Try.underlying3 rfl pkk hx (Nth.s (Nth.s Nth.z))) ?_
  refine SJ_q rfl (want_yes (t := 40) rfl rfl rfl (decide_eq_false (fun h => h rfl))) rfl (fun _ _ => Op_move rfl) ?_
  refine SJ_q rfl (want_yes (t := 40) rfl rfl rfl (decide_eq_false (fun h => h rfl))) rfl (fun _ _ => Op_move rfl) ?_
  refine SJ_q rfl (want_yes (t := 40) rfl rfl rfl (decide_eq_false (fun h => h rfl))) rfl (fun _ _ => Op_indexAddr (o' := i * RkT.sz + 0) rfl rfl Try.underlying43 sz46 (by omega) (by omega) (by simp [RkT])) ?_
  refine SJ_q rfl (want_yes (t := 40) rfl rfl rfl (decide_eq_false (fun h => h rfl))) rfl (fun _ _ => Op_fieldAddr (o' := i * RkT.sz + 2) rfl Try.underlying46 rfl sz3 rfl rfl) ?_
  refine SJ_load rfl (want_yes (t := 40) rfl rfl rfl (decide_eq_false (fun h => h rfl))) rfl rfl (load_row_cell (o := 2) Try.underlying3 rfl pkk hx (Nth.s (Nth.s Nth.z))) ?_
  refine SJ_q rfl (want_yes (t := 40) rfl rfl rfl (decide_eq_false (fun h => h rfl))) rfl (fun _ _ => Op_neq rfl rfl) ?_
  refine SJ_q rfl (want_none rfl) rfl (fun _ _ => Op_pick_f rfl (decide_eq_false (fun h => h rfl)) rfl) ?_
  refine SJ_done ?_
  refine NJ_then ?_
  refine CJ_env (E' := [(0, _), (1, _), (12, _), (13, _), (52, _)]) (.cons rfl rfl (.cons rfl rfl (.cons rfl rfl (.cons rfl rfl (.cons rfl rfl .nil))))) ?_
  refine CJ_else rfl (decide_eq_false (fun h => h rfl)) ?_
  refine CJ_skip ?_
  refine NJ_blk ?_
  refine NJ_then ?_
  refine CJ_env (E' := [(0, _), (1, _), (12, _), (13, _)]) (.cons rfl rfl (.cons rfl rfl (.cons rfl rfl (.cons rfl rfl .nil)))) ?_
  refine CJ_region ?_
  refine RJ_q (Op_addN (i + 1) rfl rfl (by omega) (by omega)) rfl ?_
  refine RJ_q (Op_move rfl) rfl ?_
  refine RJ_nil ?_
  rw [← ea, ← eb]
  refine NJ_back ⟨i + 1, by omega, rfl, rfl, rfl⟩ (by omega) (.cons rfl (by first | rfl | (simp; done)) (.cons rfl (by first | rfl | (simp; done)) (.cons rfl (by first | rfl | (simp; done)) (.cons rfl (by first | rfl | (simp; done)) .nil)))) (.k (e := (.k (e := skk))))
 ·skip
  refine RJ_nil ?_
  refine NJ_then ?_
  refine CJ_env (E' := [(0, _), (1, _), (12, _), (13, _), (14, _)]) (.cons rfl rfl (.cons rfl rfl (.cons rfl rfl (.cons rfl rfl (.cons rfl rfl .nil))))) ?_
  refine CJ_seq ?_
  refine CJ_else rfl (decide_eq_false hi1) ?_
  refine CJ_exit ?_
  refine NJ_then_x ?_
  refine NJ_then_x ?_
  refine NJ_blk_hit ?_
  refine NJ_then ?_
  refine CJ_env (E' := []) .nil ?_
  refine CJ_seq ?_
  refine CJ_region ?_
  refine RJ_q (Op_assign rfl) rfl ?_
  refine RJ_nil ?_
  refine NJ_then ?_
  refine CJ_env (E' := [(4, _)]) (.cons rfl rfl .nil) ?_
  refine CJ_ret ?_
  refine NJ_ret (.inl rfl) Try.results20 (ResJ_tmp rfl ResJ_nil) ⟨rfl, rfl⟩ (.k (e := (.k (e := skk))))
end Go.Proofs.Ytbaecpddhdeapaa.SL
