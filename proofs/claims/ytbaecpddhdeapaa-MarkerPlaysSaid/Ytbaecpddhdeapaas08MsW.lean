/- Contracts of marker, its order. -/
import Derived.Test.Ytbaecpddhdeapaas08MsD
import Derived.Test.Ytbaecpddhdeapaas08Fb
namespace Go.Proofs.Ytbaecpddhdeapaa.SL
open Go Go.RowKit
set_option maxRecDepth 20000 in
theorem NanStr_any (x : ByteArray) : Spec Try.prog 33 #[.string x] [] (fun v C => v = .bool false ∧ C = []) := by
 refine Spec_intro (n := 6) (args := [.string x]) Try.func33 rfl rfl rfl fun s R => ?_
 refine CJ_app0 ?_
 refine CJ_env (E' := [(0, _)]) (.cons rfl rfl .nil) ?_
 refine CJ_seq ?_
 refine CJ_region ?_
 refine RJ_q (Op_assign rfl) rfl ?_
 refine RJ_nil ?_
 refine NJ_then ?_
 refine CJ_env (E' := [(0, _), (2, _)]) (.cons rfl rfl (.cons rfl rfl .nil)) ?_
 refine CJ_seq ?_
 refine CJ_region ?_
 refine RJ_q (Op_move rfl) rfl ?_
 refine RJ_q (Op_move rfl) rfl ?_
 refine RJ_q (Op_str_neq rfl rfl) rfl ?_
 refine RJ_q (Op_assign rfl) rfl ?_
 refine RJ_nil ?_
 refine NJ_then ?_
 refine CJ_env (E' := [(2, _)]) (.cons rfl rfl .nil) ?_
 refine CJ_ret ?_
 refine NJ_ret (.inl rfl) Try.results33 (ResJ_tmp rfl ResJ_nil) ⟨by simp [packRes], rfl⟩ skk

set_option maxRecDepth 20000 in
theorem NanInt_any (x : Int) : Spec Try.prog 34 #[.int .i64 x] [] (fun v C => v = .bool false ∧ C = []) := by
 refine Spec_intro (n := 6) (args := [.int .i64 x]) Try.func34 rfl rfl rfl fun s R => ?_
 refine CJ_app0 ?_
 refine CJ_env (E' := [(0, _)]) (.cons rfl rfl .nil) ?_
 refine CJ_seq ?_
 refine CJ_region ?_
 refine RJ_q (Op_assign rfl) rfl ?_
 refine RJ_nil ?_
 refine NJ_then ?_
 refine CJ_env (E' := [(0, _), (2, _)]) (.cons rfl rfl (.cons rfl rfl .nil)) ?_
 refine CJ_seq ?_
 refine CJ_region ?_
 refine RJ_q (Op_move rfl) rfl ?_
 refine RJ_q (Op_move rfl) rfl ?_
 refine RJ_q (Op_neq rfl rfl) rfl ?_
 refine RJ_q (Op_assign rfl) rfl ?_
 refine RJ_nil ?_
 refine NJ_then ?_
 refine CJ_env (E' := [(2, _)]) (.cons rfl rfl .nil) ?_
 refine CJ_ret ?_
 refine NJ_ret (.inl rfl) Try.results34 (ResJ_tmp rfl ResJ_nil) ⟨by simp [packRes], rfl⟩ skk

set_option maxRecDepth 20000 in
theorem CmpStr_any (x y : ByteArray) : Spec Try.prog 24 #[.string x, .string y] [] (fun v C => v = .int .i64 (cmpB x y) ∧ C = []) := by
 refine Spec_intro (n := 20) (args := [.string x, .string y]) Try.func24 rfl rfl rfl fun s R => ?_
 refine CJ_app0 ?_
 refine CJ_env (E' := [(0, _), (1, _)]) (.cons rfl rfl (.cons rfl rfl .nil)) ?_
 refine CJ_seq ?_
 refine CJ_region ?_
 refine RJ_q (Op_assign rfl) rfl ?_
 refine RJ_nil ?_
 refine NJ_then ?_
 refine CJ_env (E' := [(0, _), (1, _), (4, _)]) (.cons rfl rfl (.cons rfl rfl (.cons rfl rfl .nil))) ?_
 refine CJ_seq ?_
 refine CJ_region ?_
 refine RJ_q (Op_move rfl) rfl ?_
 refine RJ_p rfl (Op_call (vs := [_]) Try.func33 rfl rfl (NanStr_any x) rfl (Imp.refl _)) ?_
 rintro _ _ ⟨_, ⟨rfl, rfl⟩, rfl⟩
 refine RJ_app0 ?_
 refine RJ_q (Op_assign rfl) rfl ?_
 refine RJ_nil ?_
 refine NJ_then ?_
 refine CJ_env (E' := [(0, _), (1, _), (4, _), (5, _)]) (.cons rfl rfl (.cons rfl rfl (.cons rfl rfl (.cons rfl rfl .nil)))) ?_
 refine CJ_seq ?_
 refine CJ_region ?_
 refine RJ_q (Op_move rfl) rfl ?_
 refine RJ_p rfl (Op_call (vs := [_]) Try.func33 rfl rfl (NanStr_any y) rfl (Imp.refl _)) ?_
 rintro _ _ ⟨_, ⟨rfl, rfl⟩, rfl⟩
 refine RJ_app0 ?_
 refine RJ_q (Op_assign rfl) rfl ?_
 refine RJ_nil ?_
 refine NJ_then ?_
 refine CJ_env (E' := [(0, _), (1, _), (4, _), (5, _), (6, _)]) (.cons rfl rfl (.cons rfl rfl (.cons rfl rfl (.cons rfl rfl (.cons rfl rfl .nil))))) ?_
 refine CJ_seq ?_
 refine CJ_seq ?_
 refine CJ_region ?_
 refine RJ_q (Op_move rfl) rfl ?_
 refine RJ_nil ?_
 refine NJ_then ?_
 refine CJ_env (E' := [(0, _), (1, _), (4, _), (6, _), (11, _)]) (.cons rfl rfl (.cons rfl rfl (.cons rfl rfl (.cons rfl rfl (.cons rfl rfl .nil))))) ?_
 refine CJ_else rfl rfl ?_
 refine CJ_skip ?_
 refine NJ_then ?_
 refine CJ_env (E' := [(0, _), (1, _), (4, _), (6, _)]) (.cons rfl rfl (.cons rfl rfl (.cons rfl rfl (.cons rfl rfl .nil)))) ?_
 refine CJ_seq ?_
 refine CJ_seq ?_
 refine CJ_region ?_
 refine RJ_q (Op_move rfl) rfl ?_
 refine RJ_nil ?_
 refine NJ_then ?_
 refine CJ_env (E' := [(0, _), (1, _), (4, _), (13, _)]) (.cons rfl rfl (.cons rfl rfl (.cons rfl rfl (.cons rfl rfl .nil)))) ?_
 refine CJ_else rfl rfl ?_
 refine CJ_skip ?_
 refine NJ_then ?_
 refine CJ_env (E' := [(0, _), (1, _), (4, _)]) (.cons rfl rfl (.cons rfl rfl (.cons rfl rfl .nil))) ?_
 refine CJ_seq ?_
 refine CJ_seq ?_
 refine CJ_region ?_
 refine RJ_q (Op_move rfl) rfl ?_
 refine RJ_q (Op_move rfl) rfl ?_
 refine RJ_q (Op_str_lss rfl rfl) rfl ?_
 by_cases h1 : Op.bytesLess x.data.toList y.data.toList = true
 ·skip
  refine RJ_nil ?_
  refine NJ_then ?_
  refine CJ_env (E' := [(0, _), (1, _), (4, _), (16, _)]) (.cons rfl rfl (.cons rfl rfl (.cons rfl rfl (.cons rfl rfl .nil)))) ?_
  refine CJ_then rfl h1 ?_
  refine CJ_seq ?_
  refine CJ_region ?_
  refine RJ_q (Op_assign rfl) rfl ?_
  refine RJ_nil ?_
  refine NJ_then ?_
  refine CJ_env (E' := [(4, _)]) (.cons rfl rfl .nil) ?_
  refine CJ_ret ?_
  refine NJ_then_r ?_
  have hU : cmpB x y = -1 := by unfold cmpB; rw [if_pos h1]
  rw [hU]
  refine NJ_ret (.inl rfl) Try.results24 (ResJ_tmp rfl ResJ_nil) ⟨rfl, rfl⟩ skk
 ·skip
  refine RJ_nil ?_
  refine NJ_then ?_
  refine CJ_env (E' := [(0, _), (1, _), (4, _), (16, _)]) (.cons rfl rfl (.cons rfl rfl (.cons rfl rfl (.cons rfl rfl .nil)))) ?_
  refine CJ_else rfl (by simpa using h1) ?_
  refine CJ_skip ?_
  refine NJ_then ?_
  refine CJ_env (E' := [(0, _), (1, _), (4, _)]) (.cons rfl rfl (.cons rfl rfl (.cons rfl rfl .nil))) ?_
  refine CJ_seq ?_
  refine CJ_seq ?_
  refine CJ_region ?_
  refine RJ_q (Op_move rfl) rfl ?_
  refine RJ_q (Op_move rfl) rfl ?_
  refine RJ_q (Op_str_gtr rfl rfl) rfl ?_
  by_cases h2 : Op.bytesLess y.data.toList x.data.toList = true
  ·skip
   refine RJ_nil ?_
   refine NJ_then ?_
   refine CJ_env (E' := [(4, _), (19, _)]) (.cons rfl rfl (.cons rfl rfl .nil)) ?_
   refine CJ_then rfl h2 ?_
   refine CJ_seq ?_
   refine CJ_region ?_
   refine RJ_q (Op_assign rfl) rfl ?_
   refine RJ_nil ?_
   refine NJ_then ?_
   refine CJ_env (E' := [(4, _)]) (.cons rfl rfl .nil) ?_
   refine CJ_ret ?_
   refine NJ_then_r ?_
   have hU : cmpB x y = 1 := by unfold cmpB; rw [if_neg h1, if_pos h2]
   rw [hU]
   refine NJ_ret (.inl rfl) Try.results24 (ResJ_tmp rfl ResJ_nil) ⟨rfl, rfl⟩ skk
  ·skip
   refine RJ_nil ?_
   refine NJ_then ?_
   refine CJ_env (E' := [(4, _), (19, _)]) (.cons rfl rfl (.cons rfl rfl .nil)) ?_
   refine CJ_else rfl (by simpa using h2) ?_
   refine CJ_skip ?_
   refine NJ_then ?_
   refine CJ_env (E' := [(4, _)]) (.cons rfl rfl .nil) ?_
   refine CJ_seq ?_
   refine CJ_region ?_
   refine RJ_q (Op_assign rfl) rfl ?_
   refine RJ_nil ?_
   refine NJ_then ?_
   refine CJ_env (E' := [(4, _)]) (.cons rfl rfl .nil) ?_
   refine CJ_ret ?_
   have hU : cmpB x y = 0 := by unfold cmpB; rw [if_neg h1, if_neg h2]
   rw [hU]
   refine NJ_ret (.inl rfl) Try.results24 (ResJ_tmp rfl ResJ_nil) ⟨rfl, rfl⟩ skk

set_option maxRecDepth 20000 in
theorem CmpInt_any (x y : Int) : Spec Try.prog 25 #[.int .i64 x, .int .i64 y] [] (fun v C => v = .int .i64 (cmpI x y) ∧ C = []) := by
 refine Spec_intro (n := 20) (args := [.int .i64 x, .int .i64 y]) Try.func25 rfl rfl rfl fun s R => ?_
 refine CJ_app0 ?_
 refine CJ_env (E' := [(0, _), (1, _)]) (.cons rfl rfl (.cons rfl rfl .nil)) ?_
 refine CJ_seq ?_
 refine CJ_region ?_
 refine RJ_q (Op_assign rfl) rfl ?_
 refine RJ_nil ?_
 refine NJ_then ?_
 refine CJ_env (E' := [(0, _), (1, _), (4, _)]) (.cons rfl rfl (.cons rfl rfl (.cons rfl rfl .nil))) ?_
 refine CJ_seq ?_
 refine CJ_region ?_
 refine RJ_q (Op_move rfl) rfl ?_
 refine RJ_p rfl (Op_call (vs := [_]) Try.func34 rfl rfl (NanInt_any x) rfl (Imp.refl _)) ?_
 rintro _ _ ⟨_, ⟨rfl, rfl⟩, rfl⟩
 refine RJ_app0 ?_
 refine RJ_q (Op_assign rfl) rfl ?_
 refine RJ_nil ?_
 refine NJ_then ?_
 refine CJ_env (E' := [(0, _), (1, _), (4, _), (5, _)]) (.cons rfl rfl (.cons rfl rfl (.cons rfl rfl (.cons rfl rfl .nil)))) ?_
 refine CJ_seq ?_
 refine CJ_region ?_
 refine RJ_q (Op_move rfl) rfl ?_
 refine RJ_p rfl (Op_call (vs := [_]) Try.func34 rfl rfl (NanInt_any y) rfl (Imp.refl _)) ?_
 rintro _ _ ⟨_, ⟨rfl, rfl⟩, rfl⟩
 refine RJ_app0 ?_
 refine RJ_q (Op_assign rfl) rfl ?_
 refine RJ_nil ?_
 refine NJ_then ?_
 refine CJ_env (E' := [(0, _), (1, _), (4, _), (5, _), (6, _)]) (.cons rfl rfl (.cons rfl rfl (.cons rfl rfl (.cons rfl rfl (.cons rfl rfl .nil))))) ?_
 refine CJ_seq ?_
 refine CJ_seq ?_
 refine CJ_region ?_
 refine RJ_q (Op_move rfl) rfl ?_
 refine RJ_nil ?_
 refine NJ_then ?_
 refine CJ_env (E' := [(0, _), (1, _), (4, _), (6, _), (11, _)]) (.cons rfl rfl (.cons rfl rfl (.cons rfl rfl (.cons rfl rfl (.cons rfl rfl .nil))))) ?_
 refine CJ_else rfl rfl ?_
 refine CJ_skip ?_
 refine NJ_then ?_
 refine CJ_env (E' := [(0, _), (1, _), (4, _), (6, _)]) (.cons rfl rfl (.cons rfl rfl (.cons rfl rfl (.cons rfl rfl .nil)))) ?_
 refine CJ_seq ?_
 refine CJ_seq ?_
 refine CJ_region ?_
 refine RJ_q (Op_move rfl) rfl ?_
 refine RJ_nil ?_
 refine NJ_then ?_
 refine CJ_env (E' := [(0, _), (1, _), (4, _), (13, _)]) (.cons rfl rfl (.cons rfl rfl (.cons rfl rfl (.cons rfl rfl .nil)))) ?_
 refine CJ_else rfl rfl ?_
 refine CJ_skip ?_
 refine NJ_then ?_
 refine CJ_env (E' := [(0, _), (1, _), (4, _)]) (.cons rfl rfl (.cons rfl rfl (.cons rfl rfl .nil))) ?_
 refine CJ_seq ?_
 refine CJ_seq ?_
 refine CJ_region ?_
 refine RJ_q (Op_move rfl) rfl ?_
 refine RJ_q (Op_move rfl) rfl ?_
 refine RJ_q (Op_lss rfl rfl) rfl ?_
 by_cases h1 : x < y
 ·skip
  refine RJ_nil ?_
  refine NJ_then ?_
  refine CJ_env (E' := [(0, _), (1, _), (4, _), (16, _)]) (.cons rfl rfl (.cons rfl rfl (.cons rfl rfl (.cons rfl rfl .nil)))) ?_
  refine CJ_then rfl (decide_eq_true h1) ?_
  refine CJ_seq ?_
  refine CJ_region ?_
  refine RJ_q (Op_assign rfl) rfl ?_
  refine RJ_nil ?_
  refine NJ_then ?_
  refine CJ_env (E' := [(4, _)]) (.cons rfl rfl .nil) ?_
  refine CJ_ret ?_
  refine NJ_then_r ?_
  have hU : cmpI x y = -1 := by unfold cmpI; rw [if_pos h1]
  rw [hU]
  refine NJ_ret (.inl rfl) Try.results25 (ResJ_tmp rfl ResJ_nil) ⟨rfl, rfl⟩ skk
 ·skip
  refine RJ_nil ?_
  refine NJ_then ?_
  refine CJ_env (E' := [(0, _), (1, _), (4, _), (16, _)]) (.cons rfl rfl (.cons rfl rfl (.cons rfl rfl (.cons rfl rfl .nil)))) ?_
  refine CJ_else rfl (decide_eq_false h1) ?_
  refine CJ_skip ?_
  refine NJ_then ?_
  refine CJ_env (E' := [(0, _), (1, _), (4, _)]) (.cons rfl rfl (.cons rfl rfl (.cons rfl rfl .nil))) ?_
  refine CJ_seq ?_
  refine CJ_seq ?_
  refine CJ_region ?_
  refine RJ_q (Op_move rfl) rfl ?_
  refine RJ_q (Op_move rfl) rfl ?_
  refine RJ_q (Op_gtr rfl rfl) rfl ?_
  by_cases h2 : y < x
  ·skip
   refine RJ_nil ?_
   refine NJ_then ?_
   refine CJ_env (E' := [(4, _), (19, _)]) (.cons rfl rfl (.cons rfl rfl .nil)) ?_
   refine CJ_then rfl (decide_eq_true h2) ?_
   refine CJ_seq ?_
   refine CJ_region ?_
   refine RJ_q (Op_assign rfl) rfl ?_
   refine RJ_nil ?_
   refine NJ_then ?_
   refine CJ_env (E' := [(4, _)]) (.cons rfl rfl .nil) ?_
   refine CJ_ret ?_
   refine NJ_then_r ?_
   have hU : cmpI x y = 1 := by unfold cmpI; rw [if_neg h1, if_pos h2]
   rw [hU]
   refine NJ_ret (.inl rfl) Try.results25 (ResJ_tmp rfl ResJ_nil) ⟨rfl, rfl⟩ skk
  ·skip
   refine RJ_nil ?_
   refine NJ_then ?_
   refine CJ_env (E' := [(4, _), (19, _)]) (.cons rfl rfl (.cons rfl rfl .nil)) ?_
   refine CJ_else rfl (decide_eq_false h2) ?_
   refine CJ_skip ?_
   refine NJ_then ?_
   refine CJ_env (E' := [(4, _)]) (.cons rfl rfl .nil) ?_
   refine CJ_seq ?_
   refine CJ_region ?_
   refine RJ_q (Op_assign rfl) rfl ?_
   refine RJ_nil ?_
   refine NJ_then ?_
   refine CJ_env (E' := [(4, _)]) (.cons rfl rfl .nil) ?_
   refine CJ_ret ?_
   have hU : cmpI x y = 0 := by unfold cmpI; rw [if_neg h1, if_neg h2]
   rw [hU]
   refine NJ_ret (.inl rfl) Try.results25 (ResJ_tmp rfl ResJ_nil) ⟨rfl, rfl⟩ skk

set_option maxRecDepth 20000 in
theorem Or_any (g cap : Nat) (xs : List Int) (hl : xs.length ≤ 1000000) : Spec Try.prog 23 #[.slice (sl (some g)) xs.length cap] [Row IntT (some g) cap xs] (fun v C => v = .int .i64 (orI xs) ∧ C = [Row IntT (some g) cap xs]) := by
 refine Spec_intro (n := 18) (args := [.slice (sl (some g)) xs.length cap]) Try.func23 rfl rfl rfl fun s R => ?_
 refine CJ_app1 ?_
 refine CJ_env (E' := [(0, _)]) (.cons rfl rfl .nil) ?_
 refine CJ_seq ?_
 refine CJ_region ?_
 refine RJ_q (Op_assign rfl) rfl ?_
 refine RJ_nil ?_
 refine NJ_then ?_
 refine CJ_env (E' := [(0, _), (2, _)]) (.cons rfl rfl (.cons rfl rfl .nil)) ?_
 refine CJ_seq ?_
 refine CJ_region ?_
 refine RJ_q (Op_assign rfl) rfl ?_
 refine RJ_nil ?_
 refine NJ_then ?_
 refine CJ_env (E' := [(0, _), (2, _), (3, _)]) (.cons rfl rfl (.cons rfl rfl (.cons rfl rfl .nil))) ?_
 refine CJ_seq ?_
 refine CJ_seq ?_
 refine CJ_region ?_
 refine RJ_q (Op_move rfl) rfl ?_
 refine RJ_q (Op_len_slice rfl Try.underlying65) rfl ?_
 refine RJ_q (Op_move rfl) rfl ?_
 refine RJ_nil ?_
 refine NJ_then ?_
 refine CJ_env (E' := [(2, _), (3, _), (6, _), (7, _), (8, _)]) (.cons rfl rfl (.cons rfl rfl (.cons rfl rfl (.cons rfl rfl (.cons rfl rfl .nil))))) ?_
 refine CJ_block ?_
 refine CJ_loop (fun E H mz => ∃ (i : Nat), (i ≤ xs.length ∧ orI xs = orI (xs.drop i)) ∧ E = [(3, .int .i64 0), (6, .slice (sl (some g)) xs.length cap), (7, .int .i64 (xs.length : Nat)), (8, .int .i64 (i : Nat))] ∧ H = [Row IntT (some g) cap xs] ++ R ∧ mz = xs.length - i) (E' := [(3, .int .i64 0), (6, .slice (sl (some g)) xs.length cap), (7, .int .i64 (xs.length : Nat)), (8, .int .i64 (0 : Nat))]) (H' := [Row IntT (some g) cap xs] ++ R) (m := xs.length - 0) ⟨0, ⟨Nat.zero_le _, by simp⟩, rfl, rfl, rfl⟩ (.cons rfl rfl (.cons rfl rfl (.cons rfl rfl (.cons rfl rfl .nil)))) (.k (e := skk)) ?_
 rintro _ _ _ ⟨i, ⟨hi, ho⟩, rfl, rfl, rfl⟩
 refine CJ_app1 ?_
 refine CJ_seq ?_
 refine CJ_region ?_
 refine RJ_q (Op_lss rfl rfl) rfl ?_
 by_cases hi1 : (i : Int) < xs.length
 ·skip
  obtain ⟨x, hx⟩ : ∃ x, xs[i]? = some x := ⟨xs[i], List.getElem?_eq_getElem (by omega)⟩
  have hd : xs.drop i = x :: xs.drop (i + 1) := by
    rw [List.drop_eq_getElem_cons (by omega)]; congr 1; have := (List.getElem?_eq_some_iff.1 hx).2; exact this
  refine RJ_nil ?_
  refine NJ_then ?_
  refine CJ_env (E' := [(3, _), (6, _), (7, _), (8, _), (9, _)]) (.cons rfl rfl (.cons rfl rfl (.cons rfl rfl (.cons rfl rfl (.cons rfl rfl .nil))))) ?_
  refine CJ_seq ?_
  refine CJ_then rfl (decide_eq_true hi1) ?_
  refine CJ_skip ?_
  refine NJ_then ?_
  refine CJ_env (E' := [(3, _), (6, _), (7, _), (8, _)]) (.cons rfl rfl (.cons rfl rfl (.cons rfl rfl (.cons rfl rfl .nil)))) ?_
  refine CJ_seq ?_
  refine CJ_block ?_
  refine CJ_seq ?_
  refine CJ_region ?_
  refine RJ_q (Op_indexAddr (o' := i * IntT.sz + 0) rfl rfl Try.underlying65 sz3 (by omega) (by omega) (by simp [IntT])) rfl ?_
  refine RJ_q (Op_load rfl (load_row_cell (o := 0) Try.underlying3 rfl pkk hx Nth.z)) rfl ?_
  refine RJ_q (Op_assign rfl) rfl ?_
  refine RJ_nil ?_
  refine NJ_then ?_
  refine CJ_env (E' := [(3, _), (5, _), (6, _), (7, _), (8, _)]) (.cons rfl rfl (.cons rfl rfl (.cons rfl rfl (.cons rfl rfl (.cons rfl rfl .nil))))) ?_
  refine CJ_seq ?_
  refine CJ_region ?_
  refine RJ_q (Op_move rfl) rfl ?_
  refine RJ_q (Op_move rfl) rfl ?_
  refine RJ_q (Op_neq rfl rfl) rfl ?_
  by_cases h1 : x ≠ 0
  ·skip
   refine RJ_nil ?_
   refine NJ_then ?_
   refine CJ_env (E' := [(3, _), (5, _), (6, _), (7, _), (8, _), (14, _)]) (.cons rfl rfl (.cons rfl rfl (.cons rfl rfl (.cons rfl rfl (.cons rfl rfl (.cons rfl rfl .nil)))))) ?_
   refine CJ_then rfl (decide_eq_true h1) ?_
   refine CJ_seq ?_
   refine CJ_region ?_
   refine RJ_q (Op_move rfl) rfl ?_
   refine RJ_q (Op_assign rfl) rfl ?_
   refine RJ_nil ?_
   refine NJ_then ?_
   refine CJ_env (E' := [(2, _)]) (.cons rfl rfl .nil) ?_
   refine CJ_ret ?_
   refine NJ_blk_r ?_
   refine NJ_then_r ?_
   refine NJ_then_r ?_
   refine NJ_blk_r ?_
   refine NJ_then_r ?_
   rw [ho, hd]
   refine NJ_ret (.inl rfl) Try.results23 (ResJ_tmp rfl ResJ_nil) ⟨by simp [orI, h1, packRes], rfl⟩ (.k (e := skk))
  ·skip
   refine RJ_nil ?_
   refine NJ_then ?_
   refine CJ_env (E' := [(3, _), (5, _), (6, _), (7, _), (8, _), (14, _)]) (.cons rfl rfl (.cons rfl rfl (.cons rfl rfl (.cons rfl rfl (.cons rfl rfl (.cons rfl rfl .nil)))))) ?_
   refine CJ_else rfl (decide_eq_false h1) ?_
   refine CJ_skip ?_
   refine NJ_blk ?_
   refine NJ_then ?_
   refine CJ_env (E' := [(3, _), (6, _), (7, _), (8, _)]) (.cons rfl rfl (.cons rfl rfl (.cons rfl rfl (.cons rfl rfl .nil)))) ?_
   refine CJ_region ?_
   refine RJ_q (Op_addN (i + 1) rfl rfl (by omega) (by omega)) rfl ?_
   refine RJ_q (Op_move rfl) rfl ?_
   refine RJ_nil ?_
   refine NJ_back ⟨i + 1, ⟨by omega, by rw [ho, hd]; simp [orI, h1]⟩, rfl, rfl, rfl⟩ (by omega) (.cons rfl (by first | rfl | (simp; done)) (.cons rfl (by first | rfl | (simp; done)) (.cons rfl (by first | rfl | (simp; done)) (.cons rfl (by first | rfl | (simp; done)) .nil)))) (.k (e := skk))
 ·skip
  refine RJ_nil ?_
  refine NJ_then ?_
  refine CJ_env (E' := [(3, _), (6, _), (7, _), (8, _), (9, _)]) (.cons rfl rfl (.cons rfl rfl (.cons rfl rfl (.cons rfl rfl (.cons rfl rfl .nil))))) ?_
  refine CJ_seq ?_
  refine CJ_else rfl (decide_eq_false hi1) ?_
  refine CJ_exit ?_
  refine NJ_then_x ?_
  refine NJ_then_x ?_
  refine NJ_blk_hit ?_
  refine NJ_then ?_
  refine CJ_env (E' := [(3, _)]) (.cons rfl rfl .nil) ?_
  refine CJ_seq ?_
  refine CJ_region ?_
  refine RJ_q (Op_move rfl) rfl ?_
  refine RJ_q (Op_assign rfl) rfl ?_
  refine RJ_nil ?_
  refine NJ_then ?_
  refine CJ_env (E' := [(2, _)]) (.cons rfl rfl .nil) ?_
  refine CJ_ret ?_
  rw [ho, List.drop_of_length_le (by omega)]
  refine NJ_ret (.inl rfl) Try.results23 (ResJ_tmp rfl ResJ_nil) ⟨rfl, rfl⟩ (.k (e := skk))

set_option maxRecDepth 20000 in
theorem Clos_any (x y : Mark) : Spec Try.prog 22 #[.agg #[.string x.key, .int .i64 x.ses, .int .i64 x.req], .agg #[.string y.key, .int .i64 y.ses, .int .i64 y.req]] [] (fun v C => v = .int .i64 (cmpM x y) ∧ C = []) := by
 refine Spec_intro (n := 22) (args := [.agg #[.string x.key, .int .i64 x.ses, .int .i64 x.req], .agg #[.string y.key, .int .i64 y.ses, .int .i64 y.req]]) Try.func22 rfl rfl rfl fun s R => ?_
 refine CJ_app0 ?_
 refine CJ_env (E' := [(0, _), (1, _)]) (.cons rfl rfl (.cons rfl rfl .nil)) ?_
 refine CJ_seq ?_
 refine CJ_region ?_
 refine RJ_p rfl (Op_box rfl) ?_
 rintro _ _ ⟨b2, rfl, rfl⟩
 refine RJ_p rfl (Op_box rfl) ?_
 rintro _ _ ⟨b3, rfl, rfl⟩
 refine RJ_q (Op_assign rfl) rfl ?_
 refine RJ_nil ?_
 refine NJ_then ?_
 refine CJ_env (E' := [(2, _), (3, _), (4, _)]) (.cons rfl rfl (.cons rfl rfl (.cons rfl rfl .nil))) ?_
 refine CJ_seq ?_
 refine CJ_draw (.q 0 (.q 1 (.q 2 (.q 3 (.q 5 (.q 6 (.q 7 (.q 8 (.q 10 (.q 11 (.q 12 (.q 13 (.e 4 (.e 9 (.e 14 (.e 15 (.e 16 (.q 17 .done)))))))))))))))))) (by kernel_rfl) (by kernel_rfl) (by kernel_rfl) ?_
 refine SJ_q rfl (want_none rfl) rfl (fun _ _ => Op_fieldAddr (o' := 0) rfl Try.underlying34 rfl sz9 rfl rfl) ?_
 refine SJ_load rfl (want_none rfl) rfl rfl (load_cell Try.underlying9 rfl pkk Nth.z) ?_
 refine SJ_q rfl (want_none rfl) rfl (fun _ _ => Op_fieldAddr (o' := 0) rfl Try.underlying34 rfl sz9 rfl rfl) ?_
 refine SJ_load rfl (want_none rfl) rfl rfl (load_cell Try.underlying9 rfl pkk Nth.z) ?_
 refine SJ_q rfl (want_none rfl) rfl (fun _ _ => Op_fieldAddr (o' := 1) rfl Try.underlying34 rfl sz3 rfl rfl) ?_
 refine SJ_load rfl (want_none rfl) rfl rfl (load_cell Try.underlying3 rfl pkk (Nth.s Nth.z)) ?_
 refine SJ_q rfl (want_none rfl) rfl (fun _ _ => Op_fieldAddr (o' := 1) rfl Try.underlying34 rfl sz3 rfl rfl) ?_
 refine SJ_load rfl (want_none rfl) rfl rfl (load_cell Try.underlying3 rfl pkk (Nth.s Nth.z)) ?_
 refine SJ_q rfl (want_none rfl) rfl (fun _ _ => Op_fieldAddr (o' := 2) rfl Try.underlying34 rfl sz3 rfl rfl) ?_
 refine SJ_load rfl (want_none rfl) rfl rfl (load_cell Try.underlying3 rfl pkk (Nth.s (Nth.s Nth.z))) ?_
 refine SJ_q rfl (want_none rfl) rfl (fun _ _ => Op_fieldAddr (o' := 2) rfl Try.underlying34 rfl sz3 rfl rfl) ?_
 refine SJ_load rfl (want_none rfl) rfl rfl (load_cell Try.underlying3 rfl pkk (Nth.s (Nth.s Nth.z))) ?_
 refine SJ_p (rd' := [⟨13, _, _, _⟩, ⟨11, _, _, _⟩, ⟨8, _, _, _⟩, ⟨6, _, _, _⟩]) [13, 11, 8, 6] rfl (want_none rfl) rfl (Op_call (vs := [_, _]) Try.func24 rfl rfl (CmpStr_any x.key y.key) rfl (Imp.refl _)) (by kernel_rfl) rfl ?_
 rintro _ _ ⟨_, ⟨rfl, rfl⟩, rfl⟩
 refine OS_app0 ?_
 refine ⟨⟨(load_cell Try.underlying3 rfl pkk (Nth.s (Nth.s Nth.z))), ⟨(load_cell Try.underlying3 rfl pkk (Nth.s (Nth.s Nth.z))), ⟨(load_cell Try.underlying3 rfl pkk (Nth.s Nth.z)), ⟨(load_cell Try.underlying3 rfl pkk (Nth.s Nth.z)), trivial⟩⟩⟩⟩, ?_⟩
 refine SJ_p (rd' := [⟨13, _, _, _⟩, ⟨11, _, _, _⟩]) [13, 11] rfl (want_none rfl) rfl (Op_call (vs := [_, _]) Try.func25 rfl rfl (CmpInt_any x.ses y.ses) rfl (Imp.refl _)) (by kernel_rfl) rfl ?_
 rintro _ _ ⟨_, ⟨rfl, rfl⟩, rfl⟩
 refine OS_app0 ?_
 refine ⟨⟨(load_cell Try.underlying3 rfl pkk (Nth.s (Nth.s Nth.z))), ⟨(load_cell Try.underlying3 rfl pkk (Nth.s (Nth.s Nth.z))), trivial⟩⟩, ?_⟩
 refine SJ_p (rd' := []) [] rfl (want_none rfl) rfl (Op_call (vs := [_, _]) Try.func25 rfl rfl (CmpInt_any x.req y.req) rfl (Imp.refl _)) (by kernel_rfl) rfl ?_
 rintro _ _ ⟨_, ⟨rfl, rfl⟩, rfl⟩
 refine OS_app0 ?_
 refine ⟨trivial, ?_⟩
 refine SJ_p (rd' := []) [] rfl (want_none rfl) rfl (Op_buildRow (T := IntT) (vs := [_, _, _]) [cmpB x.key y.key, cmpI x.ses y.ses, cmpI x.req y.req] rfl Try.underlying65 sz3 zr3 rfl rfl rfl rfl rfl (by rfl)) (by kernel_rfl) rfl ?_
 rintro _ _ ⟨g20, rfl, rfl⟩
 refine ⟨trivial, ?_⟩
 refine SJ_p (rd' := []) [] rfl (want_none rfl) rfl (Op_call (vs := [_]) Try.func23 rfl rfl (Or_any g20 3 [cmpB x.key y.key, cmpI x.ses y.ses, cmpI x.req y.req] (by simp)) rfl (.k (e := (Imp.refl _)))) (by kernel_rfl) rfl ?_
 rintro _ _ ⟨_, ⟨rfl, rfl⟩, rfl⟩
 refine OS_app1 ?_
 refine ⟨trivial, ?_⟩
 refine SJ_q rfl (want_none rfl) rfl (fun _ _ => Op_assign rfl) ?_
 refine SJ_done ?_
 refine NJ_then ?_
 refine CJ_env (E' := [(4, _)]) (.cons rfl rfl .nil) ?_
 refine CJ_ret ?_
 refine NJ_ret (.inl rfl) Try.results22 (ResJ_tmp rfl ResJ_nil) ⟨rfl, rfl⟩ skk
end Go.Proofs.Ytbaecpddhdeapaa.SL
