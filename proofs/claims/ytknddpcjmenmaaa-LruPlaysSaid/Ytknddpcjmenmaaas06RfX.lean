/- Contracts of ref06. -/
import Derived.Test.Ytknddpcjmenmaaas06RfE
import Derived.Test.Ytknddpcjmenmaaas06Facts
namespace Go.Proofs.Ytknddpcjmenmaaa.SL
open Go Go.RowKit
set_option maxRecDepth 20000 in
theorem RWay_any (g : Nat) (L : List It) (room kept : Int) (hI : LOk L room kept) (n : Int) (hn : 0 ≤ n ∧ n ≤ room - kept) (hl : L.length ≤ 1000000) : Spec Try.prog 26 #[.pointer (some ⟨g, 0, none⟩), .int .i64 n] [RCacheP g L room kept] (fun v C => ∃ a cap, v = .slice (sl a) (goneFrom L (stay (room - n - kept) L L.length)).length cap ∧ C = [RCacheP g (L.take (stay (room - n - kept) L L.length)) room kept, Row StrT a cap (goneFrom L (stay (room - n - kept) L L.length))]) := by
  refine Spec_intro (n := 57) (args := [.pointer (some ⟨g, 0, none⟩), .int .i64 n]) Try.func26 rfl rfl rfl fun s R => ?_
  refine CJ_app1 ?_
  refine CJ_env (E' := [(0, _), (1, _)]) (.cons rfl rfl (.cons rfl rfl .nil)) ?_
  have hI2 := hI.kp
  have hI3 := hI.fit
  have hI4 := hI.top
  have hI5 := szs_nonneg hI.pos
  have hml : maxLen ≤ 9223372036854775807 := by decide
  refine CJ_seq ?_
  refine CJ_region ?_
  refine RJ_q (Op_assign rfl) rfl ?_
  refine RJ_nil ?_
  refine NJ_then ?_
  refine CJ_env (E' := [(0, _), (1, _), (4, _)]) (.cons rfl rfl (.cons rfl rfl (.cons rfl rfl .nil))) ?_
  refine CJ_seq ?_
  refine CJ_region ?_
  refine RJ_p rfl (Op_buildSlice0 (T := StrT) Try.underlying32 sz9) ?_
  rintro _ _ ⟨g6, rfl, rfl⟩
  refine RJ_q (Op_assign rfl) rfl ?_
  refine RJ_nil ?_
  refine NJ_then ?_
  refine CJ_env (E' := [(0, _), (1, _), (4, _), (5, _)]) (.cons rfl rfl (.cons rfl rfl (.cons rfl rfl (.cons rfl rfl .nil)))) ?_
  refine CJ_seq ?_
  refine CJ_block ?_
  refine CJ_loop (fun E H m => ∃ (L1 D : List It) (ag : Option Nat) (capg : Nat), (L = L1 ++ D ∧ stay (room - n - kept) L L.length = stay (room - n - kept) L L1.length) ∧ E = [(0, .pointer (some ⟨g, 0, none⟩)), (1, .int .i64 n), (5, .slice (sl ag) (keysOf D).reverse.length capg)] ∧ H = [RCacheP g L1 room kept, Row StrT ag capg (keysOf D).reverse] ++ R ∧ m = L1.length) (E' := [(0, .pointer (some ⟨g, 0, none⟩)), (1, .int .i64 n), (5, .slice (sl (some g6)) (keysOf []).reverse.length 0)]) (H' := [RCacheP g L room kept, Row StrT (some g6) 0 (keysOf []).reverse] ++ R) (m := L.length) ⟨L, [], some g6, 0, ⟨by simp, rfl⟩, rfl, rfl, rfl⟩ (.cons rfl rfl (.cons rfl rfl (.cons rfl rfl .nil))) (.cons (by first | ((repeat (first | with_reducible exact .here | apply Pick.there)); done) | ((repeat (first | exact .here | apply Pick.there)); done)) (.cons (by first | ((repeat (first | with_reducible exact .here | apply Pick.there)); done) | ((repeat (first | exact .here | apply Pick.there)); done)) (by repeat (first | exact Imp.refl _ | refine Imp.skip ?_)))) ?_
  rintro _ _ _ ⟨L1, D, ag, capg, ⟨hT1, hst⟩, rfl, rfl, rfl⟩
  refine CJ_app2 ?_
  have hIl : LOk L1 room kept := (hT1 ▸ hI).left
  have hlD : L1.length + D.length = L.length := by rw [hT1]; simp
  refine CJ_seq ?_
  refine CJ_seq ?_
  refine CJ_open (RCacheP_opens _ _ _ _) (by first | ((repeat (first | with_reducible exact .here | apply Pick.there)); done) | ((repeat (first | exact .here | apply Pick.there)); done)) ?_
  rintro _ ⟨a, cap, rfl⟩
  refine CJ_app2 ?_
  refine CJ_know (Row_know (T := ThT) (by first | ((repeat (first | with_reducible exact .here | apply Pick.there)); done) | ((repeat (first | exact .here | apply Pick.there)); done))) ?_
  intro hkn
  by_cases hT : L1 = []
  · skip
    subst hT
    refine CJ_draw (.q 0 (.q 1 (.q 2 (.q 3 (.q 4 (.q 5 (.q 6 (.q 7 (.q 9 (.q 10 (.q 11 (.q 12 (.q 13 (.q 14 (.e 8 (.q 15 (.q 16 .done))))))))))))))))) (by kernel_rfl) (by kernel_rfl) (by kernel_rfl) ?_
    refine SJ_q rfl (want_none rfl) rfl (fun _ _ => Op_move rfl) ?_
    refine SJ_q rfl (want_none rfl) rfl (fun _ _ => Op_nilCheck rfl) ?_
    refine SJ_q rfl (want_none rfl) rfl (fun _ _ => Op_fieldAddr (o' := 0) rfl Try.underlying29 rfl sz27 rfl rfl) ?_
    refine SJ_load rfl (want_none rfl) rfl rfl (load_cell Try.underlying27 rfl (by first | ((repeat (first | with_reducible exact .here | apply Pick.there)); done) | ((repeat (first | exact .here | apply Pick.there)); done)) Nth.z) ?_
    refine SJ_q rfl (want_none rfl) rfl (fun _ _ => Op_len_slice rfl Try.underlying27) ?_
    refine SJ_q rfl (want_none rfl) rfl (fun _ _ => Op_gtr rfl rfl) ?_
    refine SJ_q rfl (want_none rfl) rfl (fun _ _ => Op_move rfl) ?_
    refine SJ_no (t := 13) false rfl rfl rfl (decide_eq_false (Int.lt_irrefl 0)) (by decide) rfl ?_
    refine SJ_no (t := 13) false rfl rfl rfl (decide_eq_false (Int.lt_irrefl 0)) (by decide) rfl ?_
    refine SJ_no (t := 13) false rfl rfl rfl (decide_eq_false (Int.lt_irrefl 0)) (by decide) rfl ?_
    refine SJ_no (t := 13) false rfl rfl rfl (decide_eq_false (Int.lt_irrefl 0)) (by decide) rfl ?_
    refine SJ_no (t := 13) false rfl rfl rfl (decide_eq_false (Int.lt_irrefl 0)) (by decide) rfl ?_
    refine SJ_no (t := 13) false rfl rfl rfl (decide_eq_false (Int.lt_irrefl 0)) (by decide) rfl ?_
    refine SJ_no (t := 13) false rfl rfl rfl (decide_eq_false (Int.lt_irrefl 0)) (by decide) rfl ?_
    refine SJ_no_e (t := 13) false (rd' := []) [] rfl rfl rfl (decide_eq_false (Int.lt_irrefl 0)) (by decide) rfl (by kernel_rfl) rfl trivial ?_
    refine SJ_no (t := 13) false rfl rfl rfl (decide_eq_false (Int.lt_irrefl 0)) (by decide) rfl ?_
    refine SJ_q rfl (want_none rfl) rfl (fun _ _ => Op_pick_f rfl (decide_eq_false (Int.lt_irrefl 0)) rfl) ?_
    have hj : stay (room - n - kept) L L.length = ([] : List It).length := hst
    refine SJ_done ?_
    refine NJ_then ?_
    refine CJ_env (E' := [(0, _), (1, _), (5, _), (7, _), (8, _), (9, _), (10, _), (11, _), (12, _), (13, _), (14, _), (15, _), (16, _), (17, _), (18, _), (19, _), (20, _), (21, _), (22, _), (23, _)]) (.cons rfl rfl (.cons rfl rfl (.cons rfl rfl (.cons rfl rfl (.cons rfl rfl (.cons rfl rfl (.cons rfl rfl (.cons rfl rfl (.cons rfl rfl (.cons rfl rfl (.cons rfl rfl (.cons rfl rfl (.cons rfl rfl (.cons rfl rfl (.cons rfl rfl (.cons rfl rfl (.cons rfl rfl (.cons rfl rfl (.cons rfl rfl (.cons rfl rfl .nil)))))))))))))))))))) ?_
    refine CJ_else rfl rfl ?_
    refine CJ_exit ?_
    refine NJ_then_x ?_
    refine NJ_then_x ?_
    refine NJ_blk_hit ?_
    refine NJ_then ?_
    refine CJ_env (E' := [(5, _)]) (.cons rfl rfl .nil) ?_
    refine CJ_seq ?_
    refine CJ_region ?_
    refine RJ_q (Op_move rfl) rfl ?_
    refine RJ_q (Op_assign rfl) rfl ?_
    refine RJ_nil ?_
    refine NJ_then ?_
    refine CJ_env (E' := [(4, _)]) (.cons rfl rfl .nil) ?_
    refine CJ_ret ?_
    have hj2 : goneFrom L (stay (room - n - kept) L L.length) = (keysOf D).reverse := by rw [hj, hT1]; rfl
    have hj3 : L.take (stay (room - n - kept) L L.length) = [] := by rw [hj]; rfl
    rw [hj2, hj3]
    refine NJ_ret (.inl rfl) Try.results26 (ResJ_tmp rfl ResJ_nil) ⟨ag, capg, rfl, rfl⟩ (.swap (C := [RfC g a ([] : List It).length cap room kept, Row ThT a cap []]) (.cons (by first | ((repeat (first | with_reducible exact .here | apply Pick.there)); done) | ((repeat (first | exact .here | apply Pick.there)); done)) (.cons (by first | ((repeat (first | with_reducible exact .here | apply Pick.there)); done) | ((repeat (first | exact .here | apply Pick.there)); done)) (Imp.refl _))) (RCacheP_close (L := []) rfl) (.cons (by first | ((repeat (first | with_reducible exact .here | apply Pick.there)); done) | ((repeat (first | exact .here | apply Pick.there)); done)) (.cons (by first | ((repeat (first | with_reducible exact .here | apply Pick.there)); done) | ((repeat (first | exact .here | apply Pick.there)); done)) (by repeat (first | exact Imp.refl _ | refine Imp.skip ?_)))))
  · skip
    obtain ⟨L2, x, rfl⟩ : ∃ L2 x, L1 = L2 ++ [x] := ⟨L1.dropLast, L1.getLast hT, (List.dropLast_concat_getLast hT).symm⟩
    have hll : (L2 ++ [x]).length = L2.length + 1 := by simp
    have hx : (L2 ++ [x])[L2.length]? = some x := by simp
    have htk : L.take (L2.length + 1) = L2 ++ [x] := by rw [hT1, ← hll, List.take_left]
    obtain ⟨ga, rfl⟩ := sliceNil hkn.2.2 hx
    refine CJ_draw (.q 0 (.q 1 (.q 2 (.q 3 (.q 4 (.q 5 (.q 6 (.q 7 (.q 9 (.q 10 (.q 11 (.q 12 (.q 13 (.q 14 (.e 8 (.q 15 (.q 16 .done))))))))))))))))) (by kernel_rfl) (by kernel_rfl) (by kernel_rfl) ?_
    refine SJ_q rfl (want_none rfl) rfl (fun _ _ => Op_move rfl) ?_
    refine SJ_q rfl (want_none rfl) rfl (fun _ _ => Op_nilCheck rfl) ?_
    refine SJ_q rfl (want_none rfl) rfl (fun _ _ => Op_fieldAddr (o' := 0) rfl Try.underlying29 rfl sz27 rfl rfl) ?_
    refine SJ_load rfl (want_none rfl) rfl rfl (load_cell Try.underlying27 rfl (by first | ((repeat (first | with_reducible exact .here | apply Pick.there)); done) | ((repeat (first | exact .here | apply Pick.there)); done)) Nth.z) ?_
    refine SJ_q rfl (want_none rfl) rfl (fun _ _ => Op_len_slice rfl Try.underlying27) ?_
    refine SJ_q rfl (want_none rfl) rfl (fun _ _ => Op_gtr rfl rfl) ?_
    refine SJ_q rfl (want_none rfl) rfl (fun _ _ => Op_move rfl) ?_
    refine SJ_q rfl (want_yes (t := 13) rfl rfl rfl (decide_eq_true (by simp only [List.length_append, List.length_singleton]; omega))) rfl (fun _ _ => Op_move rfl) ?_
    refine SJ_q rfl (want_yes (t := 13) rfl rfl rfl (decide_eq_true (by simp only [List.length_append, List.length_singleton]; omega))) rfl (fun _ _ => Op_move rfl) ?_
    refine SJ_q rfl (want_yes (t := 13) rfl rfl rfl (decide_eq_true (by simp only [List.length_append, List.length_singleton]; omega))) rfl (fun _ _ => Op_nilCheck rfl) ?_
    refine SJ_q rfl (want_yes (t := 13) rfl rfl rfl (decide_eq_true (by simp only [List.length_append, List.length_singleton]; omega))) rfl (fun _ _ => Op_fieldAddr (o' := 1) rfl Try.underlying29 rfl sz3 rfl rfl) ?_
    refine SJ_load rfl (want_yes (t := 13) rfl rfl rfl (decide_eq_true (by simp only [List.length_append, List.length_singleton]; omega))) rfl rfl (load_cell Try.underlying3 rfl (by first | ((repeat (first | with_reducible exact .here | apply Pick.there)); done) | ((repeat (first | exact .here | apply Pick.there)); done)) (Nth.s Nth.z)) ?_
    refine SJ_q rfl (want_yes (t := 13) rfl rfl rfl (decide_eq_true (by simp only [List.length_append, List.length_singleton]; omega))) rfl (fun _ _ => Op_move rfl) ?_
    refine SJ_q rfl (want_yes (t := 13) rfl rfl rfl (decide_eq_true (by simp only [List.length_append, List.length_singleton]; omega))) rfl (fun _ _ => Op_sub64 rfl rfl (by omega)) ?_
    refine SJ_p (rd' := [⟨12, _, _, _⟩]) [12] rfl (want_yes (t := 13) rfl rfl rfl (decide_eq_true (by simp only [List.length_append, List.length_singleton]; omega))) rfl (Op_call (vs := [_]) Try.func20 rfl rfl (RUsed_raw g (L2 ++ [x]) room kept (some ga) cap hIl) rfl (.cons (by first | ((repeat (first | with_reducible exact .here | apply Pick.there)); done) | ((repeat (first | exact .here | apply Pick.there)); done)) (.cons (by first | ((repeat (first | with_reducible exact .here | apply Pick.there)); done) | ((repeat (first | exact .here | apply Pick.there)); done)) (Imp.refl _)))) (by kernel_rfl) rfl ?_
    rintro _ _ ⟨_, ⟨rfl, rfl⟩, rfl⟩
    refine OS_app2 ?_
    refine ⟨⟨(load_cell Try.underlying3 rfl (by first | ((repeat (first | with_reducible exact .here | apply Pick.there)); done) | ((repeat (first | exact .here | apply Pick.there)); done)) (Nth.s Nth.z)), trivial⟩, ?_⟩
    refine SJ_q rfl (want_yes (t := 13) rfl rfl rfl (decide_eq_true (by simp only [List.length_append, List.length_singleton]; omega))) rfl (fun _ _ => Op_gtr rfl rfl) ?_
    by_cases hl1 : room - n < szs (L2 ++ [x]) + kept
    · skip
      refine SJ_q rfl (want_none rfl) rfl (fun _ _ => Op_pick_t rfl (decide_eq_true (by simp only [List.length_append, List.length_singleton]; omega)) rfl) ?_
      have hst2 : stay (room - n - kept) L L.length = stay (room - n - kept) L L2.length := by
        rw [hst, hll, stay, htk, if_pos (by omega)]
      refine SJ_done ?_
      refine NJ_then ?_
      refine CJ_env (E' := [(0, _), (1, _), (5, _), (7, _), (8, _), (9, _), (10, _), (11, _), (12, _), (13, _), (14, _), (15, _), (16, _), (17, _), (18, _), (19, _), (20, _), (21, _), (22, _), (23, _)]) (.cons rfl rfl (.cons rfl rfl (.cons rfl rfl (.cons rfl rfl (.cons rfl rfl (.cons rfl rfl (.cons rfl rfl (.cons rfl rfl (.cons rfl rfl (.cons rfl rfl (.cons rfl rfl (.cons rfl rfl (.cons rfl rfl (.cons rfl rfl (.cons rfl rfl (.cons rfl rfl (.cons rfl rfl (.cons rfl rfl (.cons rfl rfl (.cons rfl rfl .nil)))))))))))))))))))) ?_
      refine CJ_then rfl (decide_eq_true hl1) ?_
      refine CJ_skip ?_
      refine NJ_then ?_
      refine CJ_env (E' := [(0, _), (1, _), (5, _), (7, _), (8, _), (9, _), (10, _), (11, _), (12, _), (13, _), (14, _), (15, _), (16, _), (17, _), (18, _), (19, _), (20, _), (21, _), (22, _), (23, _)]) (.cons rfl rfl (.cons rfl rfl (.cons rfl rfl (.cons rfl rfl (.cons rfl rfl (.cons rfl rfl (.cons rfl rfl (.cons rfl rfl (.cons rfl rfl (.cons rfl rfl (.cons rfl rfl (.cons rfl rfl (.cons rfl rfl (.cons rfl rfl (.cons rfl rfl (.cons rfl rfl (.cons rfl rfl (.cons rfl rfl (.cons rfl rfl (.cons rfl rfl .nil)))))))))))))))))))) ?_
      refine CJ_block ?_
      refine CJ_seq ?_
      refine CJ_draw (.q 0 (.q 1 (.q 2 (.q 3 (.q 4 (.q 5 (.q 6 (.q 7 (.q 8 (.q 9 (.q 10 (.q 11 (.q 12 (.q 13 (.e 14 (.e 15 (.q 16 .done))))))))))))))))) (by kernel_rfl) (by kernel_rfl) (by kernel_rfl) ?_
      refine SJ_q rfl (want_none rfl) rfl (fun _ _ => Op_move rfl) ?_
      refine SJ_q rfl (want_none rfl) rfl (fun _ _ => Op_move rfl) ?_
      refine SJ_q rfl (want_none rfl) rfl (fun _ _ => Op_nilCheck rfl) ?_
      refine SJ_q rfl (want_none rfl) rfl (fun _ _ => Op_fieldAddr (o' := 0) rfl Try.underlying29 rfl sz27 rfl rfl) ?_
      refine SJ_load rfl (want_none rfl) rfl rfl (load_cell Try.underlying27 rfl (by first | ((repeat (first | with_reducible exact .here | apply Pick.there)); done) | ((repeat (first | exact .here | apply Pick.there)); done)) Nth.z) ?_
      refine SJ_q rfl (want_none rfl) rfl (fun _ _ => Op_move rfl) ?_
      refine SJ_q rfl (want_none rfl) rfl (fun _ _ => Op_nilCheck rfl) ?_
      refine SJ_q rfl (want_none rfl) rfl (fun _ _ => Op_fieldAddr (o' := 0) rfl Try.underlying29 rfl sz27 rfl rfl) ?_
      refine SJ_load rfl (want_none rfl) rfl rfl (load_cell Try.underlying27 rfl (by first | ((repeat (first | with_reducible exact .here | apply Pick.there)); done) | ((repeat (first | exact .here | apply Pick.there)); done)) Nth.z) ?_
      refine SJ_q rfl (want_none rfl) rfl (fun _ _ => Op_len_slice rfl Try.underlying27) ?_
      refine SJ_q rfl (want_none rfl) rfl (fun _ _ => Op_subN (L2.length) rfl rfl (by omega) (by omega)) ?_
      refine SJ_q rfl (want_none rfl) rfl (fun _ _ => Op_indexAddr (o' := L2.length * ThT.sz + 0) rfl rfl Try.underlying27 sz37 (by omega) (by omega) (by simp [ThT])) ?_
      refine SJ_q rfl (want_none rfl) rfl (fun _ _ => Op_fieldAddr (o' := L2.length * ThT.sz + 0) rfl Try.underlying37 rfl sz9 rfl rfl) ?_
      refine SJ_load rfl (want_none rfl) rfl rfl (load_row_cell (o := 0) Try.underlying9 rfl (by first | ((repeat (first | with_reducible exact .here | apply Pick.there)); done) | ((repeat (first | exact .here | apply Pick.there)); done)) hx Nth.z) ?_
      refine SJ_p (rd' := []) [] rfl (want_none rfl) rfl (Op_buildSlice (vs := [_]) (cells := [_]) Try.underlying32 sz9 zr9 rfl rfl rfl rfl (by rfl)) (by kernel_rfl) rfl ?_
      rintro _ _ ⟨g38, rfl, rfl⟩
      refine ⟨trivial, ?_⟩
      refine SJ_p (rd' := []) [] rfl (want_none rfl) rfl (Op_append (T := StrT) (news := [x.key]) rfl rfl (by first | ((repeat (first | with_reducible exact .here | apply Pick.there)); done) | ((repeat (first | exact .here | apply Pick.there)); done)) rfl (by simp) (Reads_pt (by first | ((repeat (first | with_reducible exact .here | apply Pick.there)); done) | ((repeat (first | exact .here | apply Pick.there)); done)) (fun j u h => by simpa [Ty.flat, StrT] using h)) Try.underlying32 sz9 zr9 (by rfl) by9 (by simp [StrT, keysOf]; omega) (by simp [maxLen, keysOf]; omega)) (by kernel_rfl) rfl ?_
      rintro _ _ ⟨a39, c39, rfl, rfl⟩
      refine ⟨trivial, ?_⟩
      have he : (keysOf D).reverse ++ [x.key] = (keysOf (x :: D)).reverse := by simp [keysOf]
      refine SJ_q rfl (want_none rfl) rfl (fun _ _ => Op_assign rfl) ?_
      refine SJ_done ?_
      rw [he]
      refine NJ_then ?_
      refine CJ_env (E' := [(0, _), (1, _), (5, _), (7, _), (8, _), (9, _), (10, _), (11, _), (12, _), (13, _), (14, _), (15, _), (16, _), (17, _), (18, _), (19, _), (20, _), (21, _), (22, _), (23, _), (24, _), (25, _), (26, _), (27, _), (28, _), (29, _), (30, _), (31, _), (32, _), (33, _), (34, _), (35, _), (36, _), (37, _), (38, _), (39, _)]) (.cons rfl rfl (.cons rfl rfl (.cons rfl rfl (.cons rfl rfl (.cons rfl rfl (.cons rfl rfl (.cons rfl rfl (.cons rfl rfl (.cons rfl rfl (.cons rfl rfl (.cons rfl rfl (.cons rfl rfl (.cons rfl rfl (.cons rfl rfl (.cons rfl rfl (.cons rfl rfl (.cons rfl rfl (.cons rfl rfl (.cons rfl rfl (.cons rfl rfl (.cons rfl rfl (.cons rfl rfl (.cons rfl rfl (.cons rfl rfl (.cons rfl rfl (.cons rfl rfl (.cons rfl rfl (.cons rfl rfl (.cons rfl rfl (.cons rfl rfl (.cons rfl rfl (.cons rfl rfl (.cons rfl rfl (.cons rfl rfl (.cons rfl rfl (.cons rfl rfl .nil)))))))))))))))))))))))))))))))))))) ?_
      refine CJ_draw (.q 0 (.q 2 (.q 3 (.q 4 (.q 5 (.q 6 (.q 7 (.q 8 (.q 9 (.q 10 (.q 11 (.q 12 (.e 1 (.e 13 (.q 14 (.q 15 (.e 16 .done))))))))))))))))) (by kernel_rfl) (by kernel_rfl) (by kernel_rfl) ?_
      refine SJ_q rfl (want_none rfl) rfl (fun _ _ => Op_move rfl) ?_
      refine SJ_q rfl (want_none rfl) rfl (fun _ _ => Op_move rfl) ?_
      refine SJ_q rfl (want_none rfl) rfl (fun _ _ => Op_nilCheck rfl) ?_
      refine SJ_q rfl (want_none rfl) rfl (fun _ _ => Op_fieldAddr (o' := 0) rfl Try.underlying29 rfl sz27 rfl rfl) ?_
      refine SJ_load rfl (want_none rfl) rfl rfl (load_cell Try.underlying27 rfl (by first | ((repeat (first | with_reducible exact .here | apply Pick.there)); done) | ((repeat (first | exact .here | apply Pick.there)); done)) Nth.z) ?_
      refine SJ_q rfl (want_none rfl) rfl (fun _ _ => Op_move rfl) ?_
      refine SJ_q rfl (want_none rfl) rfl (fun _ _ => Op_nilCheck rfl) ?_
      refine SJ_q rfl (want_none rfl) rfl (fun _ _ => Op_fieldAddr (o' := 0) rfl Try.underlying29 rfl sz27 rfl rfl) ?_
      refine SJ_load rfl (want_none rfl) rfl rfl (load_cell Try.underlying27 rfl (by first | ((repeat (first | with_reducible exact .here | apply Pick.there)); done) | ((repeat (first | exact .here | apply Pick.there)); done)) Nth.z) ?_
      refine SJ_q rfl (want_none rfl) rfl (fun _ _ => Op_len_slice rfl Try.underlying27) ?_
      refine SJ_q rfl (want_none rfl) rfl (fun _ _ => Op_subN (L2.length) rfl rfl (by omega) (by omega)) ?_
      refine SJ_q rfl (want_none rfl) rfl (fun _ _ => Op_sliceN_hi rfl rfl Try.underlying27 sz37 (by omega)) ?_
      refine SJ_p (rd' := [⟨9, _, _, _⟩, ⟨5, _, _, _⟩]) [9, 5] rfl (want_none rfl) rfl (Op_buildSlice0 (T := ThT) Try.underlying27 sz37) (by kernel_rfl) rfl ?_
      rintro _ _ ⟨g41, rfl, rfl⟩
      refine ⟨⟨(load_cell Try.underlying27 rfl (by first | ((repeat (first | with_reducible exact .here | apply Pick.there)); done) | ((repeat (first | exact .here | apply Pick.there)); done)) Nth.z), ⟨(load_cell Try.underlying27 rfl (by first | ((repeat (first | with_reducible exact .here | apply Pick.there)); done) | ((repeat (first | exact .here | apply Pick.there)); done)) Nth.z), trivial⟩⟩, ?_⟩
      refine SJ_p (rd' := []) [] rfl (want_none rfl) rfl (Op_append_s (T := ThT) (news := (L2 ++ [x]).take L2.length) rfl rfl (by first | ((repeat (first | with_reducible exact .here | apply Pick.there)); done) | ((repeat (first | exact .here | apply Pick.there)); done)) rfl (by simp) (Reads_take L2.length (by first | ((repeat (first | with_reducible exact .here | apply Pick.there)); done) | ((repeat (first | exact .here | apply Pick.there)); done))) Try.underlying27 sz37 zr37 (by rfl) by37 (by simp [ThT]; omega) (by simp [maxLen]; omega)) (by kernel_rfl) rfl ?_
      rintro _ _ ⟨a53, c53, rfl, rfl⟩
      refine ⟨trivial, ?_⟩
      have he2 : [] ++ (L2 ++ [x]).take L2.length = L2 := by simp
      refine SJ_q rfl (want_none rfl) rfl (fun _ _ => Op_nilCheck rfl) ?_
      refine SJ_q rfl (want_none rfl) rfl (fun _ _ => Op_fieldAddr (o' := 0) rfl Try.underlying29 rfl sz27 rfl rfl) ?_
      refine SJ_d0 (rd' := []) [] rfl (want_none rfl) (Op_store (cs' := #[_, _, _]) rfl rfl sz27 (by rfl) (by simp [Value.cells, Value.oneCell']) (by repeat (first | exact .here | apply Repl.there)) rfl (free_zero _ _) (by rfl)) (by kernel_rfl) rfl trivial ?_
      refine SJ_done ?_
      rw [he2]
      refine NJ_blk ?_
      refine NJ_back ⟨L2, x :: D, a39, c39, ⟨by rw [hT1]; simp, hst2⟩, rfl, rfl, rfl⟩ (by simp) (.cons rfl (by first | rfl | (simp [keysOf, itsOf]; done)) (.cons rfl (by first | rfl | (simp [keysOf, itsOf]; done)) (.cons rfl (by first | rfl | (simp [keysOf, itsOf]; done)) .nil))) (.swap (C := [RfC g (some a53) L2.length c53 room kept, Row ThT (some a53) c53 L2]) (.cons (by first | ((repeat (first | with_reducible exact .here | apply Pick.there)); done) | ((repeat (first | exact .here | apply Pick.there)); done)) (.cons (by first | ((repeat (first | with_reducible exact .here | apply Pick.there)); done) | ((repeat (first | exact .here | apply Pick.there)); done)) (Imp.refl _))) (RCacheP_close rfl) (.cons (by first | ((repeat (first | with_reducible exact .here | apply Pick.there)); done) | ((repeat (first | exact .here | apply Pick.there)); done)) (.cons (by first | ((repeat (first | with_reducible exact .here | apply Pick.there)); done) | ((repeat (first | exact .here | apply Pick.there)); done)) (by repeat (first | exact Imp.refl _ | refine Imp.skip ?_)))))
    · skip
      refine SJ_q rfl (want_none rfl) rfl (fun _ _ => Op_pick_t rfl (decide_eq_true (by simp only [List.length_append, List.length_singleton]; omega)) rfl) ?_
      have hj : stay (room - n - kept) L L.length = (L2 ++ [x]).length := by
        rw [hst, hll, stay, htk, if_neg (by omega)]
      refine SJ_done ?_
      refine NJ_then ?_
      refine CJ_env (E' := [(0, _), (1, _), (5, _), (7, _), (8, _), (9, _), (10, _), (11, _), (12, _), (13, _), (14, _), (15, _), (16, _), (17, _), (18, _), (19, _), (20, _), (21, _), (22, _), (23, _)]) (.cons rfl rfl (.cons rfl rfl (.cons rfl rfl (.cons rfl rfl (.cons rfl rfl (.cons rfl rfl (.cons rfl rfl (.cons rfl rfl (.cons rfl rfl (.cons rfl rfl (.cons rfl rfl (.cons rfl rfl (.cons rfl rfl (.cons rfl rfl (.cons rfl rfl (.cons rfl rfl (.cons rfl rfl (.cons rfl rfl (.cons rfl rfl (.cons rfl rfl .nil)))))))))))))))))))) ?_
      refine CJ_else rfl (decide_eq_false hl1) ?_
      refine CJ_exit ?_
      refine NJ_then_x ?_
      refine NJ_then_x ?_
      refine NJ_blk_hit ?_
      refine NJ_then ?_
      refine CJ_env (E' := [(5, _)]) (.cons rfl rfl .nil) ?_
      refine CJ_seq ?_
      refine CJ_region ?_
      refine RJ_q (Op_move rfl) rfl ?_
      refine RJ_q (Op_assign rfl) rfl ?_
      refine RJ_nil ?_
      refine NJ_then ?_
      refine CJ_env (E' := [(4, _)]) (.cons rfl rfl .nil) ?_
      refine CJ_ret ?_
      have hj2 : goneFrom L (stay (room - n - kept) L L.length) = (keysOf D).reverse := by rw [hj, hT1]; unfold goneFrom; rw [List.drop_left]
      have hj3 : L.take (stay (room - n - kept) L L.length) = L2 ++ [x] := by rw [hj, hT1, List.take_left]
      rw [hj2, hj3]
      refine NJ_ret (.inl rfl) Try.results26 (ResJ_tmp rfl ResJ_nil) ⟨ag, capg, rfl, rfl⟩ (.swap (C := [RfC g (some ga) (L2 ++ [x]).length cap room kept, Row ThT (some ga) cap (L2 ++ [x])]) (.cons (by first | ((repeat (first | with_reducible exact .here | apply Pick.there)); done) | ((repeat (first | exact .here | apply Pick.there)); done)) (.cons (by first | ((repeat (first | with_reducible exact .here | apply Pick.there)); done) | ((repeat (first | exact .here | apply Pick.there)); done)) (Imp.refl _))) (RCacheP_close rfl) (.cons (by first | ((repeat (first | with_reducible exact .here | apply Pick.there)); done) | ((repeat (first | exact .here | apply Pick.there)); done)) (.cons (by first | ((repeat (first | with_reducible exact .here | apply Pick.there)); done) | ((repeat (first | exact .here | apply Pick.there)); done)) (by repeat (first | exact Imp.refl _ | refine Imp.skip ?_)))))
end Go.Proofs.Ytknddpcjmenmaaa.SL
