/- Contracts of ref06. -/
import Derived.Test.Ytknddpcjmenmaaas06RfX
import Derived.Test.Ytknddpcjmenmaaas06Facts
namespace Go.Proofs.Ytknddpcjmenmaaa.SL
open Go Go.RowKit
set_option maxRecDepth 20000 in
theorem RPut_any (g : Nat) (L : List It) (room kept : Int) (hI : LOk L room kept) (key : ByteArray) (size v : Int) (hl : L.length ≤ 1000000) : Spec Try.prog 7 #[.pointer (some ⟨g, 0, none⟩), .agg #[.string key, .int .i64 size, .int .i64 v]] [RCacheP g L room kept] (fun r C => ∃ a cap, r = .tuple #[.slice (sl a) (putR L room kept ⟨key, v, size⟩).1.length cap, .bool (putR L room kept ⟨key, v, size⟩).2.1] ∧ C = [RCacheP g (putR L room kept ⟨key, v, size⟩).2.2 room kept, Row StrT a cap (putR L room kept ⟨key, v, size⟩).1]) := by
  refine Spec_intro (n := 43) (args := [.pointer (some ⟨g, 0, none⟩), .agg #[.string key, .int .i64 size, .int .i64 v]]) Try.func7 rfl rfl rfl fun s R => ?_
  refine CJ_app1 ?_
  refine CJ_env (E' := [(0, _), (1, _)]) (.cons rfl rfl (.cons rfl rfl .nil)) ?_
  have hI1 := hI.kp
  have hI2 := hI.fit
  have hI3 := hI.top
  have hI4 := szs_nonneg hI.pos
  have hD := hI.drop key
  have hDl := dropK_len key L
  refine CJ_seq ?_
  refine CJ_region ?_
  refine RJ_p rfl (Op_box rfl) ?_
  rintro _ _ ⟨b3, rfl, rfl⟩
  refine RJ_q (Op_assign rfl) rfl ?_
  refine RJ_q (Op_assign rfl) rfl ?_
  refine RJ_nil ?_
  refine NJ_then ?_
  refine CJ_env (E' := [(0, _), (3, _), (4, _), (5, _)]) (.cons rfl rfl (.cons rfl rfl (.cons rfl rfl (.cons rfl rfl .nil)))) ?_
  refine CJ_seq ?_
  refine CJ_region ?_
  refine RJ_q (Op_move rfl) rfl ?_
  refine RJ_q (Op_fieldAddr (o' := 0) rfl Try.underlying37 rfl sz9 rfl rfl) rfl ?_
  refine RJ_q (Op_load rfl (load_cell Try.underlying9 rfl (by first | ((repeat (first | with_reducible exact .here | apply Pick.there)); done) | ((repeat (first | exact .here | apply Pick.there)); done)) Nth.z)) rfl ?_
  refine RJ_p rfl (Op_call (vs := [_, _]) Try.func13 rfl rfl (RDrop_any g L room kept key hl) rfl (.cons (by first | ((repeat (first | with_reducible exact .here | apply Pick.there)); done) | ((repeat (first | exact .here | apply Pick.there)); done)) (Imp.refl _))) ?_
  rintro _ _ ⟨_, ⟨rfl, rfl⟩, rfl⟩
  refine RJ_app1 ?_
  refine RJ_nil ?_
  refine NJ_then ?_
  refine CJ_env (E' := [(0, _), (3, _), (4, _), (5, _)]) (.cons rfl rfl (.cons rfl rfl (.cons rfl rfl (.cons rfl rfl .nil)))) ?_
  refine CJ_seq ?_
  refine CJ_seq ?_
  refine CJ_draw (.q 0 (.q 1 (.q 2 (.q 3 (.q 4 (.q 5 (.q 6 (.q 7 (.q 8 (.q 9 (.q 10 (.q 11 (.q 12 (.q 13 (.q 14 (.q 15 (.q 16 .done))))))))))))))))) (by kernel_rfl) (by kernel_rfl) (by kernel_rfl) ?_
  refine SJ_q rfl (want_none rfl) rfl (fun _ _ => Op_fieldAddr (o' := 1) rfl Try.underlying37 rfl sz3 rfl rfl) ?_
  refine SJ_load rfl (want_none rfl) rfl rfl (load_cell Try.underlying3 rfl (by first | ((repeat (first | with_reducible exact .here | apply Pick.there)); done) | ((repeat (first | exact .here | apply Pick.there)); done)) (Nth.s Nth.z)) ?_
  refine SJ_q rfl (want_none rfl) rfl (fun _ _ => Op_lss rfl rfl) ?_
  by_cases h1 : size < 0
  · skip
    refine SJ_q rfl (want_none rfl) rfl (fun _ _ => Op_move rfl) ?_
    refine SJ_no (t := 14) true rfl rfl rfl (decide_eq_true h1) (by decide) rfl ?_
    refine SJ_no (t := 14) true rfl rfl rfl (decide_eq_true h1) (by decide) rfl ?_
    refine SJ_no (t := 14) true rfl rfl rfl (decide_eq_true h1) (by decide) rfl ?_
    refine SJ_no (t := 14) true rfl rfl rfl (decide_eq_true h1) (by decide) rfl ?_
    refine SJ_no (t := 14) true rfl rfl rfl (decide_eq_true h1) (by decide) rfl ?_
    refine SJ_no (t := 14) true rfl rfl rfl (decide_eq_true h1) (by decide) rfl ?_
    refine SJ_no (t := 14) true rfl rfl rfl (decide_eq_true h1) (by decide) rfl ?_
    refine SJ_no (t := 14) true rfl rfl rfl (decide_eq_true h1) (by decide) rfl ?_
    refine SJ_no (t := 14) true rfl rfl rfl (decide_eq_true h1) (by decide) rfl ?_
    refine SJ_no (t := 14) true rfl rfl rfl (decide_eq_true h1) (by decide) rfl ?_
    refine SJ_no (t := 14) true rfl rfl rfl (decide_eq_true h1) (by decide) rfl ?_
    refine SJ_no (t := 14) true rfl rfl rfl (decide_eq_true h1) (by decide) rfl ?_
    refine SJ_q rfl (want_none rfl) rfl (fun _ _ => Op_pick_t rfl (decide_eq_true h1) rfl) ?_
    refine SJ_done ?_
    refine NJ_then ?_
    refine CJ_env (E' := [(0, _), (3, _), (4, _), (5, _), (27, _)]) (.cons rfl rfl (.cons rfl rfl (.cons rfl rfl (.cons rfl rfl (.cons rfl rfl .nil))))) ?_
    refine CJ_then rfl rfl ?_
    refine CJ_seq ?_
    refine CJ_region ?_
    refine RJ_q (Op_assign rfl) rfl ?_
    refine RJ_q (Op_assign rfl) rfl ?_
    refine RJ_nil ?_
    refine NJ_then ?_
    refine CJ_env (E' := [(0, _), (3, _), (4, _), (5, _)]) (.cons rfl rfl (.cons rfl rfl (.cons rfl rfl (.cons rfl rfl .nil)))) ?_
    refine CJ_ret ?_
    refine NJ_then_r ?_
    have hP : putR L room kept ⟨key, v, size⟩ = ([], false, (dropK key L)) := by unfold putR; rw [if_pos (.inl h1)]
    rw [hP]
    refine NJ_ret (.inl rfl) Try.results7 (ResJ_tmp rfl (ResJ_tmp rfl ResJ_nil)) ⟨none, 0, rfl, rfl⟩ (.trans (Row_none StrT).imp_add (.cons (by first | ((repeat (first | with_reducible exact .here | apply Pick.there)); done) | ((repeat (first | exact .here | apply Pick.there)); done)) (.cons (by first | ((repeat (first | with_reducible exact .here | apply Pick.there)); done) | ((repeat (first | exact .here | apply Pick.there)); done)) (by repeat (first | exact Imp.refl _ | refine Imp.skip ?_)))))
  · skip
    refine SJ_q rfl (want_none rfl) rfl (fun _ _ => Op_move rfl) ?_
    refine SJ_q rfl (want_yes (t := 14) rfl rfl rfl (decide_eq_false h1)) rfl (fun _ _ => Op_fieldAddr (o' := 1) rfl Try.underlying37 rfl sz3 rfl rfl) ?_
    refine SJ_load rfl (want_yes (t := 14) rfl rfl rfl (decide_eq_false h1)) rfl rfl (load_cell Try.underlying3 rfl (by first | ((repeat (first | with_reducible exact .here | apply Pick.there)); done) | ((repeat (first | exact .here | apply Pick.there)); done)) (Nth.s Nth.z)) ?_
    refine SJ_q rfl (want_yes (t := 14) rfl rfl rfl (decide_eq_false h1)) rfl (fun _ _ => Op_move rfl) ?_
    refine SJ_q rfl (want_yes (t := 14) rfl rfl rfl (decide_eq_false h1)) rfl (fun _ _ => Op_nilCheck rfl) ?_
    refine SJ_q rfl (want_yes (t := 14) rfl rfl rfl (decide_eq_false h1)) rfl (fun _ _ => Op_fieldAddr (o' := 1) rfl Try.underlying29 rfl sz3 rfl rfl) ?_
    refine SJ_load rfl (want_yes (t := 14) rfl rfl rfl (decide_eq_false h1)) rfl rfl (load_rroom Try.underlying3 (by first | ((repeat (first | with_reducible exact .here | apply Pick.there)); done) | ((repeat (first | exact .here | apply Pick.there)); done))) ?_
    refine SJ_q rfl (want_yes (t := 14) rfl rfl rfl (decide_eq_false h1)) rfl (fun _ _ => Op_move rfl) ?_
    refine SJ_q rfl (want_yes (t := 14) rfl rfl rfl (decide_eq_false h1)) rfl (fun _ _ => Op_nilCheck rfl) ?_
    refine SJ_q rfl (want_yes (t := 14) rfl rfl rfl (decide_eq_false h1)) rfl (fun _ _ => Op_fieldAddr (o' := 2) rfl Try.underlying29 rfl sz3 rfl rfl) ?_
    refine SJ_load rfl (want_yes (t := 14) rfl rfl rfl (decide_eq_false h1)) rfl rfl (load_rkept Try.underlying3 (by first | ((repeat (first | with_reducible exact .here | apply Pick.there)); done) | ((repeat (first | exact .here | apply Pick.there)); done))) ?_
    refine SJ_q rfl (want_yes (t := 14) rfl rfl rfl (decide_eq_false h1)) rfl (fun _ _ => Op_sub64 rfl rfl (by omega)) ?_
    refine SJ_q rfl (want_yes (t := 14) rfl rfl rfl (decide_eq_false h1)) rfl (fun _ _ => Op_gtr rfl rfl) ?_
    by_cases h2 : room - kept < size
    · skip
      refine SJ_q rfl (want_none rfl) rfl (fun _ _ => Op_pick_f rfl (decide_eq_false h1) rfl) ?_
      refine SJ_done ?_
      refine NJ_then ?_
      refine CJ_env (E' := [(0, _), (3, _), (4, _), (5, _), (27, _)]) (.cons rfl rfl (.cons rfl rfl (.cons rfl rfl (.cons rfl rfl (.cons rfl rfl .nil))))) ?_
      refine CJ_then rfl (decide_eq_true h2) ?_
      refine CJ_seq ?_
      refine CJ_region ?_
      refine RJ_q (Op_assign rfl) rfl ?_
      refine RJ_q (Op_assign rfl) rfl ?_
      refine RJ_nil ?_
      refine NJ_then ?_
      refine CJ_env (E' := [(0, _), (3, _), (4, _), (5, _)]) (.cons rfl rfl (.cons rfl rfl (.cons rfl rfl (.cons rfl rfl .nil)))) ?_
      refine CJ_ret ?_
      refine NJ_then_r ?_
      have hP : putR L room kept ⟨key, v, size⟩ = ([], false, (dropK key L)) := by unfold putR; rw [if_pos (.inr h2)]
      rw [hP]
      refine NJ_ret (.inl rfl) Try.results7 (ResJ_tmp rfl (ResJ_tmp rfl ResJ_nil)) ⟨none, 0, rfl, rfl⟩ (.trans (Row_none StrT).imp_add (.cons (by first | ((repeat (first | with_reducible exact .here | apply Pick.there)); done) | ((repeat (first | exact .here | apply Pick.there)); done)) (.cons (by first | ((repeat (first | with_reducible exact .here | apply Pick.there)); done) | ((repeat (first | exact .here | apply Pick.there)); done)) (by repeat (first | exact Imp.refl _ | refine Imp.skip ?_)))))
    · skip
      refine SJ_q rfl (want_none rfl) rfl (fun _ _ => Op_pick_f rfl (decide_eq_false h1) rfl) ?_
      refine SJ_done ?_
      refine NJ_then ?_
      refine CJ_env (E' := [(0, _), (3, _), (4, _), (5, _), (27, _)]) (.cons rfl rfl (.cons rfl rfl (.cons rfl rfl (.cons rfl rfl (.cons rfl rfl .nil))))) ?_
      refine CJ_else rfl (decide_eq_false h2) ?_
      refine CJ_skip ?_
      refine NJ_then ?_
      refine CJ_env (E' := [(0, _), (3, _), (4, _), (5, _)]) (.cons rfl rfl (.cons rfl rfl (.cons rfl rfl (.cons rfl rfl .nil)))) ?_
      refine CJ_seq ?_
      refine CJ_region ?_
      refine RJ_q (Op_move rfl) rfl ?_
      refine RJ_q (Op_fieldAddr (o' := 1) rfl Try.underlying37 rfl sz3 rfl rfl) rfl ?_
      refine RJ_q (Op_load rfl (load_cell Try.underlying3 rfl (by first | ((repeat (first | with_reducible exact .here | apply Pick.there)); done) | ((repeat (first | exact .here | apply Pick.there)); done)) (Nth.s Nth.z))) rfl ?_
      refine RJ_p rfl (Op_call (vs := [_, _]) Try.func26 rfl rfl (RWay_any g (dropK key L) room kept hD size (by omega) (by omega)) rfl (.cons (by first | ((repeat (first | with_reducible exact .here | apply Pick.there)); done) | ((repeat (first | exact .here | apply Pick.there)); done)) (Imp.refl _))) ?_
      rintro _ _ ⟨_, ⟨a, cap, rfl, rfl⟩, rfl⟩
      refine RJ_app2 ?_
      refine RJ_q (Op_assign rfl) rfl ?_
      refine RJ_nil ?_
      refine NJ_then ?_
      refine CJ_env (E' := [(0, _), (3, _), (4, _), (5, _), (6, _)]) (.cons rfl rfl (.cons rfl rfl (.cons rfl rfl (.cons rfl rfl (.cons rfl rfl .nil))))) ?_
      refine CJ_seq ?_
      have hjl := List.length_take_le (stay (room - size - kept) (dropK key L) (dropK key L).length) (dropK key L)
      refine CJ_open (RCacheP_opens _ _ _ _) (by first | ((repeat (first | with_reducible exact .here | apply Pick.there)); done) | ((repeat (first | exact .here | apply Pick.there)); done)) ?_
      rintro _ ⟨a2, cap2, rfl⟩
      refine CJ_app2 ?_
      refine CJ_know (Row_know (T := ThT) (by first | ((repeat (first | with_reducible exact .here | apply Pick.there)); done) | ((repeat (first | exact .here | apply Pick.there)); done))) ?_
      intro hkn2
      refine CJ_draw (.q 0 (.q 1 (.q 3 (.q 4 (.q 5 (.q 6 (.e 2 (.e 7 (.q 8 (.q 9 (.e 10 .done))))))))))) (by kernel_rfl) (by kernel_rfl) (by kernel_rfl) ?_
      refine SJ_q rfl (want_none rfl) rfl (fun _ _ => Op_move rfl) ?_
      refine SJ_load rfl (want_none rfl) rfl rfl (load_struct (o := 0) (vs := [_, _, _]) Try.underlying37 sz37 (by first | ((repeat (first | with_reducible exact .here | apply Pick.there)); done) | ((repeat (first | exact .here | apply Pick.there)); done)) (by rfl) rfl) ?_
      refine SJ_q rfl (want_none rfl) rfl (fun _ _ => Op_move rfl) ?_
      refine SJ_q rfl (want_none rfl) rfl (fun _ _ => Op_nilCheck rfl) ?_
      refine SJ_q rfl (want_none rfl) rfl (fun _ _ => Op_fieldAddr (o' := 0) rfl Try.underlying29 rfl sz27 rfl rfl) ?_
      refine SJ_load rfl (want_none rfl) rfl rfl (load_cell Try.underlying27 rfl (by first | ((repeat (first | with_reducible exact .here | apply Pick.there)); done) | ((repeat (first | exact .here | apply Pick.there)); done)) Nth.z) ?_
      refine SJ_p (rd' := [⟨6, _, _, _⟩]) [6] rfl (want_none rfl) rfl (Op_buildRow (T := ThT) (vs := [_]) [⟨key, v, size⟩] rfl Try.underlying27 sz37 zr37 rfl rfl rfl rfl rfl (by rfl)) (by kernel_rfl) rfl ?_
      rintro _ _ ⟨g34, rfl, rfl⟩
      refine ⟨⟨(load_cell Try.underlying27 rfl (by first | ((repeat (first | with_reducible exact .here | apply Pick.there)); done) | ((repeat (first | exact .here | apply Pick.there)); done)) Nth.z), trivial⟩, ?_⟩
      refine SJ_p (rd' := []) [] rfl (want_none rfl) rfl (Op_append_s (T := ThT) (news := (dropK key L).take (stay (room - size - kept) (dropK key L) (dropK key L).length)) rfl rfl (by first | ((repeat (first | with_reducible exact .here | apply Pick.there)); done) | ((repeat (first | exact .here | apply Pick.there)); done)) rfl rfl (Reads_row (by first | ((repeat (first | with_reducible exact .here | apply Pick.there)); done) | ((repeat (first | exact .here | apply Pick.there)); done))) Try.underlying27 sz37 zr37 (by rfl) by37 (by simp [ThT]; omega) (by simp [maxLen]; omega)) (by kernel_rfl) rfl ?_
      rintro _ _ ⟨a39, c39, rfl, rfl⟩
      refine ⟨trivial, ?_⟩
      refine SJ_q rfl (want_none rfl) rfl (fun _ _ => Op_nilCheck rfl) ?_
      refine SJ_q rfl (want_none rfl) rfl (fun _ _ => Op_fieldAddr (o' := 0) rfl Try.underlying29 rfl sz27 rfl rfl) ?_
      refine SJ_d0 (rd' := []) [] rfl (want_none rfl) (Op_store (cs' := #[_, _, _]) rfl rfl sz27 (by rfl) (by simp [Value.cells, Value.oneCell']) (by repeat (first | exact .here | apply Repl.there)) rfl (free_zero _ _) (by rfl)) (by kernel_rfl) rfl trivial ?_
      refine SJ_done ?_
      refine NJ_then ?_
      refine CJ_env (E' := [(4, _), (5, _), (6, _)]) (.cons rfl rfl (.cons rfl rfl (.cons rfl rfl .nil))) ?_
      refine CJ_seq ?_
      refine CJ_region ?_
      refine RJ_q (Op_move rfl) rfl ?_
      refine RJ_q (Op_assign rfl) rfl ?_
      refine RJ_q (Op_assign rfl) rfl ?_
      refine RJ_nil ?_
      refine NJ_then ?_
      refine CJ_env (E' := [(4, _), (5, _)]) (.cons rfl rfl (.cons rfl rfl .nil)) ?_
      refine CJ_ret ?_
      have hP : putR L room kept ⟨key, v, size⟩ = (goneFrom (dropK key L) (stay (room - size - kept) (dropK key L) (dropK key L).length), true, [⟨key, v, size⟩] ++ (dropK key L).take (stay (room - size - kept) (dropK key L) (dropK key L).length)) := by
        unfold putR; rw [if_neg (show ¬ (size < 0 ∨ room - kept < size) by omega)]; rfl
      rw [hP]
      refine NJ_ret (.inl rfl) Try.results7 (ResJ_tmp rfl (ResJ_tmp rfl ResJ_nil)) ⟨a, cap, rfl, rfl⟩ (.swap (C := [RfC g (some a39) ([(⟨key, v, size⟩ : It)] ++ (dropK key L).take (stay (room - size - kept) (dropK key L) (dropK key L).length)).length c39 room kept, Row ThT (some a39) c39 ([(⟨key, v, size⟩ : It)] ++ (dropK key L).take (stay (room - size - kept) (dropK key L) (dropK key L).length))]) (.cons (by first | ((repeat (first | with_reducible exact .here | apply Pick.there)); done) | ((repeat (first | exact .here | apply Pick.there)); done)) (.cons (by first | ((repeat (first | with_reducible exact .here | apply Pick.there)); done) | ((repeat (first | exact .here | apply Pick.there)); done)) (Imp.refl _))) (RCacheP_close rfl) (.cons (by first | ((repeat (first | with_reducible exact .here | apply Pick.there)); done) | ((repeat (first | exact .here | apply Pick.there)); done)) (.cons (by first | ((repeat (first | with_reducible exact .here | apply Pick.there)); done) | ((repeat (first | exact .here | apply Pick.there)); done)) (by repeat (first | exact Imp.refl _ | refine Imp.skip ?_)))))

set_option maxRecDepth 20000 in
theorem RGet_use (g : Nat) (A B : List It) (t : It) (room kept : Int) (hA : ∀ x ∈ A, x.key ≠ t.key) (hl : (A ++ t :: B).length ≤ 1000000) : Spec Try.prog 11 #[.pointer (some ⟨g, 0, none⟩), .string t.key, .bool true] [RCacheP g (A ++ t :: B) room kept] (fun v C => v = .tuple #[.int .i64 t.val, .bool true] ∧ C = [RCacheP g (t :: (A ++ B)) room kept]) := by
  refine Spec_intro (n := 38) (args := [.pointer (some ⟨g, 0, none⟩), .string t.key, .bool true]) Try.func11 rfl rfl rfl fun s R => ?_
  refine CJ_app1 ?_
  refine CJ_env (E' := [(0, _), (1, _), (2, _)]) (.cons rfl rfl (.cons rfl rfl (.cons rfl rfl .nil))) ?_
  refine CJ_open (RCacheP_opens _ _ _ _) (by first | ((repeat (first | with_reducible exact .here | apply Pick.there)); done) | ((repeat (first | exact .here | apply Pick.there)); done)) ?_
  rintro _ ⟨a, cap, rfl⟩
  refine CJ_app2 ?_
  refine CJ_know (Row_know (T := ThT) (by first | ((repeat (first | with_reducible exact .here | apply Pick.there)); done) | ((repeat (first | exact .here | apply Pick.there)); done))) ?_
  intro hkn
  have hll : (A ++ t :: B).length = A.length + B.length + 1 := by simp; omega
  have hx : (A ++ t :: B)[A.length]? = some t := by simp
  obtain ⟨ga, rfl⟩ := sliceNil hkn.2.2 hx
  refine CJ_seq ?_
  refine CJ_region ?_
  refine RJ_q (Op_assign rfl) rfl ?_
  refine RJ_q (Op_assign rfl) rfl ?_
  refine RJ_nil ?_
  refine NJ_then ?_
  refine CJ_env (E' := [(0, _), (1, _), (2, _), (6, _), (7, _)]) (.cons rfl rfl (.cons rfl rfl (.cons rfl rfl (.cons rfl rfl (.cons rfl rfl .nil))))) ?_
  refine CJ_seq ?_
  refine CJ_region ?_
  refine RJ_q (Op_move rfl) rfl ?_
  refine RJ_q (Op_move rfl) rfl ?_
  refine RJ_p rfl (Op_call (vs := [_, _]) Try.func28 rfl rfl (RFind_yes g A B t room kept (some ga) cap hA) rfl (.cons (by first | ((repeat (first | with_reducible exact .here | apply Pick.there)); done) | ((repeat (first | exact .here | apply Pick.there)); done)) (.cons (by first | ((repeat (first | with_reducible exact .here | apply Pick.there)); done) | ((repeat (first | exact .here | apply Pick.there)); done)) (Imp.refl _)))) ?_
  rintro _ _ ⟨_, ⟨rfl, rfl⟩, rfl⟩
  refine RJ_app2 ?_
  refine RJ_q (Op_assign rfl) rfl ?_
  refine RJ_nil ?_
  refine NJ_then ?_
  refine CJ_env (E' := [(0, _), (1, _), (2, _), (6, _), (7, _), (8, _)]) (.cons rfl rfl (.cons rfl rfl (.cons rfl rfl (.cons rfl rfl (.cons rfl rfl (.cons rfl rfl .nil)))))) ?_
  refine CJ_seq ?_
  refine CJ_seq ?_
  refine CJ_region ?_
  refine RJ_q (Op_move rfl) rfl ?_
  refine RJ_q (Op_lss rfl rfl) rfl ?_
  refine RJ_nil ?_
  refine NJ_then ?_
  refine CJ_env (E' := [(0, _), (1, _), (2, _), (6, _), (7, _), (8, _), (14, _)]) (.cons rfl rfl (.cons rfl rfl (.cons rfl rfl (.cons rfl rfl (.cons rfl rfl (.cons rfl rfl (.cons rfl rfl .nil))))))) ?_
  refine CJ_else rfl (decide_eq_false (by omega)) ?_
  refine CJ_skip ?_
  refine NJ_then ?_
  refine CJ_env (E' := [(0, _), (1, _), (2, _), (6, _), (7, _), (8, _)]) (.cons rfl rfl (.cons rfl rfl (.cons rfl rfl (.cons rfl rfl (.cons rfl rfl (.cons rfl rfl .nil)))))) ?_
  refine CJ_seq ?_
  refine CJ_region ?_
  refine RJ_q (Op_move rfl) rfl ?_
  refine RJ_q (Op_nilCheck rfl) rfl ?_
  refine RJ_q (Op_fieldAddr (o' := 0) rfl Try.underlying29 rfl sz27 rfl rfl) rfl ?_
  refine RJ_q (Op_load rfl (load_cell Try.underlying27 rfl (by first | ((repeat (first | with_reducible exact .here | apply Pick.there)); done) | ((repeat (first | exact .here | apply Pick.there)); done)) Nth.z)) rfl ?_
  refine RJ_q (Op_move rfl) rfl ?_
  refine RJ_q (Op_indexAddr (o' := A.length * ThT.sz + 0) rfl rfl Try.underlying27 sz37 (by omega) (by omega) (by simp [ThT])) rfl ?_
  refine RJ_q (Op_load rfl (load_row (o := 0) (vs := [_, _, _]) Try.underlying37 sz37 (by first | ((repeat (first | with_reducible exact .here | apply Pick.there)); done) | ((repeat (first | exact .here | apply Pick.there)); done)) hx rfl (by rfl))) rfl ?_
  refine RJ_p rfl (Op_alloc zr37) ?_
  rintro _ _ ⟨b9, rfl, rfl⟩
  refine RJ_d0 (Op_store (cs' := #[_, _, _]) rfl rfl sz37 (by rfl) (by simp [Value.cells, Value.oneCell']) (by repeat (first | exact .here | apply Repl.there)) rfl (free_zero _ _) (by rfl)) ?_
  refine RJ_nil ?_
  refine NJ_then ?_
  refine CJ_env (E' := [(0, _), (1, _), (2, _), (6, _), (7, _), (9, _)]) (.cons rfl rfl (.cons rfl rfl (.cons rfl rfl (.cons rfl rfl (.cons rfl rfl (.cons rfl rfl .nil)))))) ?_
  refine CJ_seq ?_
  refine CJ_seq ?_
  refine CJ_region ?_
  refine RJ_q (Op_move rfl) rfl ?_
  refine RJ_nil ?_
  refine NJ_then ?_
  refine CJ_env (E' := [(0, _), (1, _), (6, _), (7, _), (9, _), (22, _)]) (.cons rfl rfl (.cons rfl rfl (.cons rfl rfl (.cons rfl rfl (.cons rfl rfl (.cons rfl rfl .nil)))))) ?_
  refine CJ_then rfl rfl ?_
  refine CJ_seq ?_
  refine CJ_imp (.swap (C := [RfC g (some ga) (A ++ t :: B).length cap room kept, Row ThT (some ga) cap (A ++ t :: B)]) (.cons (by first | ((repeat (first | with_reducible exact .here | apply Pick.there)); done) | ((repeat (first | exact .here | apply Pick.there)); done)) (.cons (by first | ((repeat (first | with_reducible exact .here | apply Pick.there)); done) | ((repeat (first | exact .here | apply Pick.there)); done)) (Imp.refl _))) (RCacheP_close rfl) (.refl _)) (CJ_app1 ?_)
  refine CJ_region ?_
  refine RJ_q (Op_move rfl) rfl ?_
  refine RJ_q (Op_move rfl) rfl ?_
  refine RJ_p rfl (Op_call (vs := [_, _]) Try.func13 rfl rfl (RDrop_yes g A B t room kept hA hl) rfl (.cons (by first | ((repeat (first | with_reducible exact .here | apply Pick.there)); done) | ((repeat (first | exact .here | apply Pick.there)); done)) (Imp.refl _))) ?_
  rintro _ _ ⟨_, ⟨rfl, rfl⟩, rfl⟩
  refine RJ_app1 ?_
  refine RJ_nil ?_
  refine NJ_then ?_
  refine CJ_env (E' := [(0, _), (6, _), (7, _), (9, _)]) (.cons rfl rfl (.cons rfl rfl (.cons rfl rfl (.cons rfl rfl .nil)))) ?_
  refine CJ_open (RCacheP_opens _ _ _ _) (by first | ((repeat (first | with_reducible exact .here | apply Pick.there)); done) | ((repeat (first | exact .here | apply Pick.there)); done)) ?_
  rintro _ ⟨a2, cap2, rfl⟩
  refine CJ_app2 ?_
  refine CJ_know (Row_know (T := ThT) (by first | ((repeat (first | with_reducible exact .here | apply Pick.there)); done) | ((repeat (first | exact .here | apply Pick.there)); done))) ?_
  intro hkn2
  refine CJ_draw (.q 0 (.q 1 (.q 3 (.q 4 (.q 5 (.q 6 (.e 2 (.e 7 (.q 8 (.q 9 (.e 10 .done))))))))))) (by kernel_rfl) (by kernel_rfl) (by kernel_rfl) ?_
  refine SJ_q rfl (want_none rfl) rfl (fun _ _ => Op_move rfl) ?_
  refine SJ_load rfl (want_none rfl) rfl rfl (load_struct (o := 0) (vs := [_, _, _]) Try.underlying37 sz37 (by first | ((repeat (first | with_reducible exact .here | apply Pick.there)); done) | ((repeat (first | exact .here | apply Pick.there)); done)) (by rfl) rfl) ?_
  refine SJ_q rfl (want_none rfl) rfl (fun _ _ => Op_move rfl) ?_
  refine SJ_q rfl (want_none rfl) rfl (fun _ _ => Op_nilCheck rfl) ?_
  refine SJ_q rfl (want_none rfl) rfl (fun _ _ => Op_fieldAddr (o' := 0) rfl Try.underlying29 rfl sz27 rfl rfl) ?_
  refine SJ_load rfl (want_none rfl) rfl rfl (load_cell Try.underlying27 rfl (by first | ((repeat (first | with_reducible exact .here | apply Pick.there)); done) | ((repeat (first | exact .here | apply Pick.there)); done)) Nth.z) ?_
  refine SJ_p (rd' := [⟨6, _, _, _⟩]) [6] rfl (want_none rfl) rfl (Op_buildRow (T := ThT) (vs := [_]) [t] rfl Try.underlying27 sz37 zr37 rfl rfl rfl rfl rfl (by rfl)) (by kernel_rfl) rfl ?_
  rintro _ _ ⟨g28, rfl, rfl⟩
  refine ⟨⟨(load_cell Try.underlying27 rfl (by first | ((repeat (first | with_reducible exact .here | apply Pick.there)); done) | ((repeat (first | exact .here | apply Pick.there)); done)) Nth.z), trivial⟩, ?_⟩
  refine SJ_p (rd' := []) [] rfl (want_none rfl) rfl (Op_append_s (T := ThT) (news := A ++ B) rfl rfl (by first | ((repeat (first | with_reducible exact .here | apply Pick.there)); done) | ((repeat (first | exact .here | apply Pick.there)); done)) rfl rfl (Reads_row (by first | ((repeat (first | with_reducible exact .here | apply Pick.there)); done) | ((repeat (first | exact .here | apply Pick.there)); done))) Try.underlying27 sz37 zr37 (by rfl) by37 (by simp [ThT]; omega) (by simp [maxLen]; omega)) (by kernel_rfl) rfl ?_
  rintro _ _ ⟨a33, c33, rfl, rfl⟩
  refine ⟨trivial, ?_⟩
  refine SJ_q rfl (want_none rfl) rfl (fun _ _ => Op_nilCheck rfl) ?_
  refine SJ_q rfl (want_none rfl) rfl (fun _ _ => Op_fieldAddr (o' := 0) rfl Try.underlying29 rfl sz27 rfl rfl) ?_
  refine SJ_d0 (rd' := []) [] rfl (want_none rfl) (Op_store (cs' := #[_, _, _]) rfl rfl sz27 (by rfl) (by simp [Value.cells, Value.oneCell']) (by repeat (first | exact .here | apply Repl.there)) rfl (free_zero _ _) (by rfl)) (by kernel_rfl) rfl trivial ?_
  refine SJ_done ?_
  refine NJ_then ?_
  refine CJ_env (E' := [(6, _), (7, _), (9, _)]) (.cons rfl rfl (.cons rfl rfl (.cons rfl rfl .nil))) ?_
  refine CJ_seq ?_
  refine CJ_region ?_
  refine RJ_q (Op_fieldAddr (o' := 2) rfl Try.underlying37 rfl sz3 rfl rfl) rfl ?_
  refine RJ_q (Op_load rfl (load_cell Try.underlying3 rfl (by first | ((repeat (first | with_reducible exact .here | apply Pick.there)); done) | ((repeat (first | exact .here | apply Pick.there)); done)) (Nth.s (Nth.s Nth.z)))) rfl ?_
  refine RJ_q (Op_assign rfl) rfl ?_
  refine RJ_q (Op_assign rfl) rfl ?_
  refine RJ_nil ?_
  refine NJ_then ?_
  refine CJ_env (E' := [(6, _), (7, _)]) (.cons rfl rfl (.cons rfl rfl .nil)) ?_
  refine CJ_ret ?_
  refine NJ_ret (.inl rfl) Try.results11 (ResJ_tmp rfl (ResJ_tmp rfl ResJ_nil)) ⟨rfl, rfl⟩ (.swap (C := [RfC g (some a33) ([t] ++ (A ++ B)).length c33 room kept, Row ThT (some a33) c33 ([t] ++ (A ++ B))]) (.cons (by first | ((repeat (first | with_reducible exact .here | apply Pick.there)); done) | ((repeat (first | exact .here | apply Pick.there)); done)) (.cons (by first | ((repeat (first | with_reducible exact .here | apply Pick.there)); done) | ((repeat (first | exact .here | apply Pick.there)); done)) (Imp.refl _))) (RCacheP_close rfl) (.cons (by first | ((repeat (first | with_reducible exact .here | apply Pick.there)); done) | ((repeat (first | exact .here | apply Pick.there)); done)) (by repeat (first | exact Imp.refl _ | refine Imp.skip ?_))))

set_option maxRecDepth 20000 in
theorem RGet_see (g : Nat) (A B : List It) (t : It) (room kept : Int) (hA : ∀ x ∈ A, x.key ≠ t.key) (_hl : (A ++ t :: B).length ≤ 1000000) : Spec Try.prog 11 #[.pointer (some ⟨g, 0, none⟩), .string t.key, .bool false] [RCacheP g (A ++ t :: B) room kept] (fun v C => v = .tuple #[.int .i64 t.val, .bool true] ∧ C = [RCacheP g (A ++ t :: B) room kept]) := by
  refine Spec_intro (n := 38) (args := [.pointer (some ⟨g, 0, none⟩), .string t.key, .bool false]) Try.func11 rfl rfl rfl fun s R => ?_
  refine CJ_app1 ?_
  refine CJ_env (E' := [(0, _), (1, _), (2, _)]) (.cons rfl rfl (.cons rfl rfl (.cons rfl rfl .nil))) ?_
  refine CJ_open (RCacheP_opens _ _ _ _) (by first | ((repeat (first | with_reducible exact .here | apply Pick.there)); done) | ((repeat (first | exact .here | apply Pick.there)); done)) ?_
  rintro _ ⟨a, cap, rfl⟩
  refine CJ_app2 ?_
  refine CJ_know (Row_know (T := ThT) (by first | ((repeat (first | with_reducible exact .here | apply Pick.there)); done) | ((repeat (first | exact .here | apply Pick.there)); done))) ?_
  intro hkn
  have hll : (A ++ t :: B).length = A.length + B.length + 1 := by simp; omega
  have hx : (A ++ t :: B)[A.length]? = some t := by simp
  obtain ⟨ga, rfl⟩ := sliceNil hkn.2.2 hx
  refine CJ_seq ?_
  refine CJ_region ?_
  refine RJ_q (Op_assign rfl) rfl ?_
  refine RJ_q (Op_assign rfl) rfl ?_
  refine RJ_nil ?_
  refine NJ_then ?_
  refine CJ_env (E' := [(0, _), (1, _), (2, _), (6, _), (7, _)]) (.cons rfl rfl (.cons rfl rfl (.cons rfl rfl (.cons rfl rfl (.cons rfl rfl .nil))))) ?_
  refine CJ_seq ?_
  refine CJ_region ?_
  refine RJ_q (Op_move rfl) rfl ?_
  refine RJ_q (Op_move rfl) rfl ?_
  refine RJ_p rfl (Op_call (vs := [_, _]) Try.func28 rfl rfl (RFind_yes g A B t room kept (some ga) cap hA) rfl (.cons (by first | ((repeat (first | with_reducible exact .here | apply Pick.there)); done) | ((repeat (first | exact .here | apply Pick.there)); done)) (.cons (by first | ((repeat (first | with_reducible exact .here | apply Pick.there)); done) | ((repeat (first | exact .here | apply Pick.there)); done)) (Imp.refl _)))) ?_
  rintro _ _ ⟨_, ⟨rfl, rfl⟩, rfl⟩
  refine RJ_app2 ?_
  refine RJ_q (Op_assign rfl) rfl ?_
  refine RJ_nil ?_
  refine NJ_then ?_
  refine CJ_env (E' := [(0, _), (1, _), (2, _), (6, _), (7, _), (8, _)]) (.cons rfl rfl (.cons rfl rfl (.cons rfl rfl (.cons rfl rfl (.cons rfl rfl (.cons rfl rfl .nil)))))) ?_
  refine CJ_seq ?_
  refine CJ_seq ?_
  refine CJ_region ?_
  refine RJ_q (Op_move rfl) rfl ?_
  refine RJ_q (Op_lss rfl rfl) rfl ?_
  refine RJ_nil ?_
  refine NJ_then ?_
  refine CJ_env (E' := [(0, _), (1, _), (2, _), (6, _), (7, _), (8, _), (14, _)]) (.cons rfl rfl (.cons rfl rfl (.cons rfl rfl (.cons rfl rfl (.cons rfl rfl (.cons rfl rfl (.cons rfl rfl .nil))))))) ?_
  refine CJ_else rfl (decide_eq_false (by omega)) ?_
  refine CJ_skip ?_
  refine NJ_then ?_
  refine CJ_env (E' := [(0, _), (1, _), (2, _), (6, _), (7, _), (8, _)]) (.cons rfl rfl (.cons rfl rfl (.cons rfl rfl (.cons rfl rfl (.cons rfl rfl (.cons rfl rfl .nil)))))) ?_
  refine CJ_seq ?_
  refine CJ_region ?_
  refine RJ_q (Op_move rfl) rfl ?_
  refine RJ_q (Op_nilCheck rfl) rfl ?_
  refine RJ_q (Op_fieldAddr (o' := 0) rfl Try.underlying29 rfl sz27 rfl rfl) rfl ?_
  refine RJ_q (Op_load rfl (load_cell Try.underlying27 rfl (by first | ((repeat (first | with_reducible exact .here | apply Pick.there)); done) | ((repeat (first | exact .here | apply Pick.there)); done)) Nth.z)) rfl ?_
  refine RJ_q (Op_move rfl) rfl ?_
  refine RJ_q (Op_indexAddr (o' := A.length * ThT.sz + 0) rfl rfl Try.underlying27 sz37 (by omega) (by omega) (by simp [ThT])) rfl ?_
  refine RJ_q (Op_load rfl (load_row (o := 0) (vs := [_, _, _]) Try.underlying37 sz37 (by first | ((repeat (first | with_reducible exact .here | apply Pick.there)); done) | ((repeat (first | exact .here | apply Pick.there)); done)) hx rfl (by rfl))) rfl ?_
  refine RJ_p rfl (Op_alloc zr37) ?_
  rintro _ _ ⟨b9, rfl, rfl⟩
  refine RJ_d0 (Op_store (cs' := #[_, _, _]) rfl rfl sz37 (by rfl) (by simp [Value.cells, Value.oneCell']) (by repeat (first | exact .here | apply Repl.there)) rfl (free_zero _ _) (by rfl)) ?_
  refine RJ_nil ?_
  refine NJ_then ?_
  refine CJ_env (E' := [(0, _), (1, _), (2, _), (6, _), (7, _), (9, _)]) (.cons rfl rfl (.cons rfl rfl (.cons rfl rfl (.cons rfl rfl (.cons rfl rfl (.cons rfl rfl .nil)))))) ?_
  refine CJ_seq ?_
  refine CJ_seq ?_
  refine CJ_region ?_
  refine RJ_q (Op_move rfl) rfl ?_
  refine RJ_nil ?_
  refine NJ_then ?_
  refine CJ_env (E' := [(0, _), (1, _), (6, _), (7, _), (9, _), (22, _)]) (.cons rfl rfl (.cons rfl rfl (.cons rfl rfl (.cons rfl rfl (.cons rfl rfl (.cons rfl rfl .nil)))))) ?_
  refine CJ_else rfl rfl ?_
  refine CJ_skip ?_
  refine NJ_then ?_
  refine CJ_env (E' := [(6, _), (7, _), (9, _)]) (.cons rfl rfl (.cons rfl rfl (.cons rfl rfl .nil))) ?_
  refine CJ_seq ?_
  refine CJ_region ?_
  refine RJ_q (Op_fieldAddr (o' := 2) rfl Try.underlying37 rfl sz3 rfl rfl) rfl ?_
  refine RJ_q (Op_load rfl (load_cell Try.underlying3 rfl (by first | ((repeat (first | with_reducible exact .here | apply Pick.there)); done) | ((repeat (first | exact .here | apply Pick.there)); done)) (Nth.s (Nth.s Nth.z)))) rfl ?_
  refine RJ_q (Op_assign rfl) rfl ?_
  refine RJ_q (Op_assign rfl) rfl ?_
  refine RJ_nil ?_
  refine NJ_then ?_
  refine CJ_env (E' := [(6, _), (7, _)]) (.cons rfl rfl (.cons rfl rfl .nil)) ?_
  refine CJ_ret ?_
  refine NJ_ret (.inl rfl) Try.results11 (ResJ_tmp rfl (ResJ_tmp rfl ResJ_nil)) ⟨rfl, rfl⟩ (.swap (C := [RfC g (some ga) (A ++ t :: B).length cap room kept, Row ThT (some ga) cap (A ++ t :: B)]) (.cons (by first | ((repeat (first | with_reducible exact .here | apply Pick.there)); done) | ((repeat (first | exact .here | apply Pick.there)); done)) (.cons (by first | ((repeat (first | with_reducible exact .here | apply Pick.there)); done) | ((repeat (first | exact .here | apply Pick.there)); done)) (Imp.refl _))) (RCacheP_close rfl) (.cons (by first | ((repeat (first | with_reducible exact .here | apply Pick.there)); done) | ((repeat (first | exact .here | apply Pick.there)); done)) (by repeat (first | exact Imp.refl _ | refine Imp.skip ?_))))

set_option maxRecDepth 20000 in
theorem RGet_no (g : Nat) (L : List It) (room kept : Int) (key : ByteArray) (u : Bool) (hA : ∀ x ∈ L, x.key ≠ key) : Spec Try.prog 11 #[.pointer (some ⟨g, 0, none⟩), .string key, .bool u] [RCacheP g L room kept] (fun v C => v = .tuple #[.int .i64 0, .bool false] ∧ C = [RCacheP g L room kept]) := by
  refine Spec_intro (n := 38) (args := [.pointer (some ⟨g, 0, none⟩), .string key, .bool u]) Try.func11 rfl rfl rfl fun s R => ?_
  refine CJ_app1 ?_
  refine CJ_env (E' := [(0, _), (1, _), (2, _)]) (.cons rfl rfl (.cons rfl rfl (.cons rfl rfl .nil))) ?_
  refine CJ_open (RCacheP_opens _ _ _ _) (by first | ((repeat (first | with_reducible exact .here | apply Pick.there)); done) | ((repeat (first | exact .here | apply Pick.there)); done)) ?_
  rintro _ ⟨a, cap, rfl⟩
  refine CJ_app2 ?_
  refine CJ_know (Row_know (T := ThT) (by first | ((repeat (first | with_reducible exact .here | apply Pick.there)); done) | ((repeat (first | exact .here | apply Pick.there)); done))) ?_
  intro hkn
  refine CJ_seq ?_
  refine CJ_region ?_
  refine RJ_q (Op_assign rfl) rfl ?_
  refine RJ_q (Op_assign rfl) rfl ?_
  refine RJ_nil ?_
  refine NJ_then ?_
  refine CJ_env (E' := [(0, _), (1, _), (2, _), (6, _), (7, _)]) (.cons rfl rfl (.cons rfl rfl (.cons rfl rfl (.cons rfl rfl (.cons rfl rfl .nil))))) ?_
  refine CJ_seq ?_
  refine CJ_region ?_
  refine RJ_q (Op_move rfl) rfl ?_
  refine RJ_q (Op_move rfl) rfl ?_
  refine RJ_p rfl (Op_call (vs := [_, _]) Try.func28 rfl rfl (RFind_no g L room kept a cap key hA) rfl (.cons (by first | ((repeat (first | with_reducible exact .here | apply Pick.there)); done) | ((repeat (first | exact .here | apply Pick.there)); done)) (.cons (by first | ((repeat (first | with_reducible exact .here | apply Pick.there)); done) | ((repeat (first | exact .here | apply Pick.there)); done)) (Imp.refl _)))) ?_
  rintro _ _ ⟨_, ⟨rfl, rfl⟩, rfl⟩
  refine RJ_app2 ?_
  refine RJ_q (Op_assign rfl) rfl ?_
  refine RJ_nil ?_
  refine NJ_then ?_
  refine CJ_env (E' := [(0, _), (1, _), (2, _), (6, _), (7, _), (8, _)]) (.cons rfl rfl (.cons rfl rfl (.cons rfl rfl (.cons rfl rfl (.cons rfl rfl (.cons rfl rfl .nil)))))) ?_
  refine CJ_seq ?_
  refine CJ_seq ?_
  refine CJ_region ?_
  refine RJ_q (Op_move rfl) rfl ?_
  refine RJ_q (Op_lss rfl rfl) rfl ?_
  refine RJ_nil ?_
  refine NJ_then ?_
  refine CJ_env (E' := [(0, _), (1, _), (2, _), (6, _), (7, _), (8, _), (14, _)]) (.cons rfl rfl (.cons rfl rfl (.cons rfl rfl (.cons rfl rfl (.cons rfl rfl (.cons rfl rfl (.cons rfl rfl .nil))))))) ?_
  refine CJ_then rfl (by decide) ?_
  refine CJ_seq ?_
  refine CJ_region ?_
  refine RJ_q (Op_assign rfl) rfl ?_
  refine RJ_q (Op_assign rfl) rfl ?_
  refine RJ_nil ?_
  refine NJ_then ?_
  refine CJ_env (E' := [(0, _), (1, _), (2, _), (6, _), (7, _), (8, _)]) (.cons rfl rfl (.cons rfl rfl (.cons rfl rfl (.cons rfl rfl (.cons rfl rfl (.cons rfl rfl .nil)))))) ?_
  refine CJ_ret ?_
  refine NJ_then_r ?_
  refine NJ_ret (.inl rfl) Try.results11 (ResJ_tmp rfl (ResJ_tmp rfl ResJ_nil)) ⟨rfl, rfl⟩ (.swap (C := [RfC g a (L).length _ room (kept), Row ThT a _ (L)]) (.cons (by first | ((repeat (first | with_reducible exact .here | apply Pick.there)); done) | ((repeat (first | exact .here | apply Pick.there)); done)) (.cons (by first | ((repeat (first | with_reducible exact .here | apply Pick.there)); done) | ((repeat (first | exact .here | apply Pick.there)); done)) (by repeat (first | exact Imp.refl _ | refine Imp.skip ?_)))) (RCacheP_close rfl) (.cons (by first | ((repeat (first | with_reducible exact .here | apply Pick.there)); done) | ((repeat (first | exact .here | apply Pick.there)); done)) (by repeat (first | exact Imp.refl _ | refine Imp.skip ?_))))

set_option maxRecDepth 20000 in
theorem RReserve_any (g : Nat) (L : List It) (room kept : Int) (hI : LOk L room kept) (n : Int) (hl : L.length ≤ 1000000) : Spec Try.prog 15 #[.pointer (some ⟨g, 0, none⟩), .int .i64 n] [RCacheP g L room kept] (fun r C => ∃ a cap, r = .tuple #[.slice (sl a) (resR L room kept n).1.length cap, .bool (resR L room kept n).2.1] ∧ C = [RCacheP g (resR L room kept n).2.2.1 room (resR L room kept n).2.2.2, Row StrT a cap (resR L room kept n).1]) := by
  refine Spec_intro (n := 35) (args := [.pointer (some ⟨g, 0, none⟩), .int .i64 n]) Try.func15 rfl rfl rfl fun s R => ?_
  refine CJ_app1 ?_
  refine CJ_env (E' := [(0, _), (1, _)]) (.cons rfl rfl (.cons rfl rfl .nil)) ?_
  have hI1 := hI.kp
  have hI2 := hI.fit
  have hI3 := hI.top
  have hI4 := szs_nonneg hI.pos
  refine CJ_seq ?_
  refine CJ_region ?_
  refine RJ_q (Op_assign rfl) rfl ?_
  refine RJ_q (Op_assign rfl) rfl ?_
  refine RJ_nil ?_
  refine NJ_then ?_
  refine CJ_env (E' := [(0, _), (1, _), (4, _), (5, _)]) (.cons rfl rfl (.cons rfl rfl (.cons rfl rfl (.cons rfl rfl .nil)))) ?_
  refine CJ_seq ?_
  refine CJ_seq ?_
  refine CJ_draw (.q 0 (.q 1 (.q 2 (.q 3 (.q 4 (.q 5 (.q 6 (.q 7 (.q 8 (.q 9 (.q 10 (.q 11 (.q 12 (.q 13 (.q 14 .done))))))))))))))) (by kernel_rfl) (by kernel_rfl) (by kernel_rfl) ?_
  refine SJ_q rfl (want_none rfl) rfl (fun _ _ => Op_move rfl) ?_
  refine SJ_q rfl (want_none rfl) rfl (fun _ _ => Op_lss rfl rfl) ?_
  by_cases h1 : n < 0
  · skip
    refine SJ_q rfl (want_none rfl) rfl (fun _ _ => Op_move rfl) ?_
    refine SJ_no (t := 9) true rfl rfl rfl (decide_eq_true h1) (by decide) rfl ?_
    refine SJ_no (t := 9) true rfl rfl rfl (decide_eq_true h1) (by decide) rfl ?_
    refine SJ_no (t := 9) true rfl rfl rfl (decide_eq_true h1) (by decide) rfl ?_
    refine SJ_no (t := 9) true rfl rfl rfl (decide_eq_true h1) (by decide) rfl ?_
    refine SJ_no (t := 9) true rfl rfl rfl (decide_eq_true h1) (by decide) rfl ?_
    refine SJ_no (t := 9) true rfl rfl rfl (decide_eq_true h1) (by decide) rfl ?_
    refine SJ_no (t := 9) true rfl rfl rfl (decide_eq_true h1) (by decide) rfl ?_
    refine SJ_no (t := 9) true rfl rfl rfl (decide_eq_true h1) (by decide) rfl ?_
    refine SJ_no (t := 9) true rfl rfl rfl (decide_eq_true h1) (by decide) rfl ?_
    refine SJ_no (t := 9) true rfl rfl rfl (decide_eq_true h1) (by decide) rfl ?_
    refine SJ_no (t := 9) true rfl rfl rfl (decide_eq_true h1) (by decide) rfl ?_
    refine SJ_q rfl (want_none rfl) rfl (fun _ _ => Op_pick_t rfl (decide_eq_true h1) rfl) ?_
    refine SJ_done ?_
    refine NJ_then ?_
    refine CJ_env (E' := [(0, _), (1, _), (4, _), (5, _), (21, _)]) (.cons rfl rfl (.cons rfl rfl (.cons rfl rfl (.cons rfl rfl (.cons rfl rfl .nil))))) ?_
    refine CJ_then rfl rfl ?_
    refine CJ_seq ?_
    refine CJ_region ?_
    refine RJ_q (Op_assign rfl) rfl ?_
    refine RJ_q (Op_assign rfl) rfl ?_
    refine RJ_nil ?_
    refine NJ_then ?_
    refine CJ_env (E' := [(0, _), (1, _), (4, _), (5, _)]) (.cons rfl rfl (.cons rfl rfl (.cons rfl rfl (.cons rfl rfl .nil)))) ?_
    refine CJ_ret ?_
    refine NJ_then_r ?_
    have hP : resR L room kept n = ([], false, L, kept) := by unfold resR; rw [if_pos (.inl h1)]
    rw [hP]
    refine NJ_ret (.inl rfl) Try.results15 (ResJ_tmp rfl (ResJ_tmp rfl ResJ_nil)) ⟨none, 0, rfl, rfl⟩ (.trans (Row_none StrT).imp_add (.cons (by first | ((repeat (first | with_reducible exact .here | apply Pick.there)); done) | ((repeat (first | exact .here | apply Pick.there)); done)) (.cons (by first | ((repeat (first | with_reducible exact .here | apply Pick.there)); done) | ((repeat (first | exact .here | apply Pick.there)); done)) (by repeat (first | exact Imp.refl _ | refine Imp.skip ?_)))))
  · skip
    refine SJ_q rfl (want_none rfl) rfl (fun _ _ => Op_move rfl) ?_
    refine SJ_q rfl (want_yes (t := 9) rfl rfl rfl (decide_eq_false h1)) rfl (fun _ _ => Op_move rfl) ?_
    refine SJ_q rfl (want_yes (t := 9) rfl rfl rfl (decide_eq_false h1)) rfl (fun _ _ => Op_move rfl) ?_
    refine SJ_q rfl (want_yes (t := 9) rfl rfl rfl (decide_eq_false h1)) rfl (fun _ _ => Op_nilCheck rfl) ?_
    refine SJ_q rfl (want_yes (t := 9) rfl rfl rfl (decide_eq_false h1)) rfl (fun _ _ => Op_fieldAddr (o' := 1) rfl Try.underlying29 rfl sz3 rfl rfl) ?_
    refine SJ_load rfl (want_yes (t := 9) rfl rfl rfl (decide_eq_false h1)) rfl rfl (load_rroom Try.underlying3 (by first | ((repeat (first | with_reducible exact .here | apply Pick.there)); done) | ((repeat (first | exact .here | apply Pick.there)); done))) ?_
    refine SJ_q rfl (want_yes (t := 9) rfl rfl rfl (decide_eq_false h1)) rfl (fun _ _ => Op_move rfl) ?_
    refine SJ_q rfl (want_yes (t := 9) rfl rfl rfl (decide_eq_false h1)) rfl (fun _ _ => Op_nilCheck rfl) ?_
    refine SJ_q rfl (want_yes (t := 9) rfl rfl rfl (decide_eq_false h1)) rfl (fun _ _ => Op_fieldAddr (o' := 2) rfl Try.underlying29 rfl sz3 rfl rfl) ?_
    refine SJ_load rfl (want_yes (t := 9) rfl rfl rfl (decide_eq_false h1)) rfl rfl (load_rkept Try.underlying3 (by first | ((repeat (first | with_reducible exact .here | apply Pick.there)); done) | ((repeat (first | exact .here | apply Pick.there)); done))) ?_
    refine SJ_q rfl (want_yes (t := 9) rfl rfl rfl (decide_eq_false h1)) rfl (fun _ _ => Op_sub64 rfl rfl (by omega)) ?_
    refine SJ_q rfl (want_yes (t := 9) rfl rfl rfl (decide_eq_false h1)) rfl (fun _ _ => Op_gtr rfl rfl) ?_
    by_cases h2 : room - kept < n
    · skip
      refine SJ_q rfl (want_none rfl) rfl (fun _ _ => Op_pick_f rfl (decide_eq_false h1) rfl) ?_
      refine SJ_done ?_
      refine NJ_then ?_
      refine CJ_env (E' := [(0, _), (1, _), (4, _), (5, _), (21, _)]) (.cons rfl rfl (.cons rfl rfl (.cons rfl rfl (.cons rfl rfl (.cons rfl rfl .nil))))) ?_
      refine CJ_then rfl (decide_eq_true h2) ?_
      refine CJ_seq ?_
      refine CJ_region ?_
      refine RJ_q (Op_assign rfl) rfl ?_
      refine RJ_q (Op_assign rfl) rfl ?_
      refine RJ_nil ?_
      refine NJ_then ?_
      refine CJ_env (E' := [(0, _), (1, _), (4, _), (5, _)]) (.cons rfl rfl (.cons rfl rfl (.cons rfl rfl (.cons rfl rfl .nil)))) ?_
      refine CJ_ret ?_
      refine NJ_then_r ?_
      have hP : resR L room kept n = ([], false, L, kept) := by unfold resR; rw [if_pos (.inr h2)]
      rw [hP]
      refine NJ_ret (.inl rfl) Try.results15 (ResJ_tmp rfl (ResJ_tmp rfl ResJ_nil)) ⟨none, 0, rfl, rfl⟩ (.trans (Row_none StrT).imp_add (.cons (by first | ((repeat (first | with_reducible exact .here | apply Pick.there)); done) | ((repeat (first | exact .here | apply Pick.there)); done)) (.cons (by first | ((repeat (first | with_reducible exact .here | apply Pick.there)); done) | ((repeat (first | exact .here | apply Pick.there)); done)) (by repeat (first | exact Imp.refl _ | refine Imp.skip ?_)))))
    · skip
      refine SJ_q rfl (want_none rfl) rfl (fun _ _ => Op_pick_f rfl (decide_eq_false h1) rfl) ?_
      refine SJ_done ?_
      refine NJ_then ?_
      refine CJ_env (E' := [(0, _), (1, _), (4, _), (5, _), (21, _)]) (.cons rfl rfl (.cons rfl rfl (.cons rfl rfl (.cons rfl rfl (.cons rfl rfl .nil))))) ?_
      refine CJ_else rfl (decide_eq_false h2) ?_
      refine CJ_skip ?_
      refine NJ_then ?_
      refine CJ_env (E' := [(0, _), (1, _), (4, _), (5, _)]) (.cons rfl rfl (.cons rfl rfl (.cons rfl rfl (.cons rfl rfl .nil)))) ?_
      refine CJ_seq ?_
      refine CJ_region ?_
      refine RJ_q (Op_move rfl) rfl ?_
      refine RJ_q (Op_move rfl) rfl ?_
      refine RJ_p rfl (Op_call (vs := [_, _]) Try.func26 rfl rfl (RWay_any g L room kept hI n (by omega) hl) rfl (.cons (by first | ((repeat (first | with_reducible exact .here | apply Pick.there)); done) | ((repeat (first | exact .here | apply Pick.there)); done)) (Imp.refl _))) ?_
      rintro _ _ ⟨_, ⟨a, cap, rfl, rfl⟩, rfl⟩
      refine RJ_app2 ?_
      refine RJ_q (Op_assign rfl) rfl ?_
      refine RJ_nil ?_
      refine NJ_then ?_
      refine CJ_env (E' := [(0, _), (1, _), (4, _), (5, _), (6, _)]) (.cons rfl rfl (.cons rfl rfl (.cons rfl rfl (.cons rfl rfl (.cons rfl rfl .nil))))) ?_
      refine CJ_seq ?_
      refine CJ_open (RCacheP_opens _ _ _ _) (by first | ((repeat (first | with_reducible exact .here | apply Pick.there)); done) | ((repeat (first | exact .here | apply Pick.there)); done)) ?_
      rintro _ ⟨a2, cap2, rfl⟩
      refine CJ_app2 ?_
      refine CJ_know (Row_know (T := ThT) (by first | ((repeat (first | with_reducible exact .here | apply Pick.there)); done) | ((repeat (first | exact .here | apply Pick.there)); done))) ?_
      intro hkn2
      refine CJ_region ?_
      refine RJ_q (Op_move rfl) rfl ?_
      refine RJ_q (Op_move rfl) rfl ?_
      refine RJ_q (Op_nilCheck rfl) rfl ?_
      refine RJ_q (Op_fieldAddr (o' := 2) rfl Try.underlying29 rfl sz3 rfl rfl) rfl ?_
      refine RJ_q (Op_load rfl (load_cell Try.underlying3 rfl (by first | ((repeat (first | with_reducible exact .here | apply Pick.there)); done) | ((repeat (first | exact .here | apply Pick.there)); done)) (Nth.s (Nth.s Nth.z)))) rfl ?_
      refine RJ_q (Op_move rfl) rfl ?_
      refine RJ_q (Op_add64 rfl rfl (by omega)) rfl ?_
      refine RJ_q (Op_nilCheck rfl) rfl ?_
      refine RJ_q (Op_fieldAddr (o' := 2) rfl Try.underlying29 rfl sz3 rfl rfl) rfl ?_
      refine RJ_d0 (Op_store (cs' := #[_, _, _]) rfl rfl sz3 (by rfl) (by simp [Value.cells, Value.oneCell']) (by repeat (first | exact .here | apply Repl.there)) rfl (free_zero _ _) (by rfl)) ?_
      refine RJ_nil ?_
      refine NJ_then ?_
      refine CJ_env (E' := [(4, _), (5, _), (6, _)]) (.cons rfl rfl (.cons rfl rfl (.cons rfl rfl .nil))) ?_
      refine CJ_seq ?_
      refine CJ_region ?_
      refine RJ_q (Op_move rfl) rfl ?_
      refine RJ_q (Op_assign rfl) rfl ?_
      refine RJ_q (Op_assign rfl) rfl ?_
      refine RJ_nil ?_
      refine NJ_then ?_
      refine CJ_env (E' := [(4, _), (5, _)]) (.cons rfl rfl (.cons rfl rfl .nil)) ?_
      refine CJ_ret ?_
      have hP : resR L room kept n = (goneFrom L (stay (room - n - kept) L L.length), true, L.take (stay (room - n - kept) L L.length), kept + n) := by
        unfold resR; rw [if_neg (by omega)]
      rw [hP]
      refine NJ_ret (.inl rfl) Try.results15 (ResJ_tmp rfl (ResJ_tmp rfl ResJ_nil)) ⟨a, cap, rfl, rfl⟩ (.swap (C := [RfC g a2 (L.take (stay (room - n - kept) L L.length)).length cap2 room (kept + n), Row ThT a2 cap2 (L.take (stay (room - n - kept) L L.length))]) (.cons (by first | ((repeat (first | with_reducible exact .here | apply Pick.there)); done) | ((repeat (first | exact .here | apply Pick.there)); done)) (.cons (by first | ((repeat (first | with_reducible exact .here | apply Pick.there)); done) | ((repeat (first | exact .here | apply Pick.there)); done)) (Imp.refl _))) (RCacheP_close rfl) (.cons (by first | ((repeat (first | with_reducible exact .here | apply Pick.there)); done) | ((repeat (first | exact .here | apply Pick.there)); done)) (.cons (by first | ((repeat (first | with_reducible exact .here | apply Pick.there)); done) | ((repeat (first | exact .here | apply Pick.there)); done)) (by repeat (first | exact Imp.refl _ | refine Imp.skip ?_)))))

set_option maxRecDepth 20000 in
theorem RRelease_any (g : Nat) (L : List It) (room kept : Int) (hI : LOk L room kept) (n : Int) : Spec Try.prog 17 #[.pointer (some ⟨g, 0, none⟩), .int .i64 n] [RCacheP g L room kept] (fun r C => r = .tuple #[] ∧ C = [RCacheP g L room (relR kept n)]) := by
  refine Spec_intro (n := 25) (args := [.pointer (some ⟨g, 0, none⟩), .int .i64 n]) Try.func17 rfl rfl rfl fun s R => ?_
  refine CJ_app1 ?_
  refine CJ_env (E' := [(0, _), (1, _)]) (.cons rfl rfl (.cons rfl rfl .nil)) ?_
  refine CJ_open (RCacheP_opens _ _ _ _) (by first | ((repeat (first | with_reducible exact .here | apply Pick.there)); done) | ((repeat (first | exact .here | apply Pick.there)); done)) ?_
  rintro _ ⟨a, cap, rfl⟩
  refine CJ_app2 ?_
  refine CJ_know (Row_know (T := ThT) (by first | ((repeat (first | with_reducible exact .here | apply Pick.there)); done) | ((repeat (first | exact .here | apply Pick.there)); done))) ?_
  intro hkn
  have hI1 := hI.kp
  have hI2 := hI.fit
  have hI3 := hI.top
  have hI4 := szs_nonneg hI.pos
  refine CJ_seq ?_
  refine CJ_seq ?_
  refine CJ_region ?_
  refine RJ_q (Op_move rfl) rfl ?_
  refine RJ_q (Op_move rfl) rfl ?_
  refine RJ_q (Op_nilCheck rfl) rfl ?_
  refine RJ_q (Op_fieldAddr (o' := 2) rfl Try.underlying29 rfl sz3 rfl rfl) rfl ?_
  refine RJ_q (Op_load rfl (load_cell Try.underlying3 rfl (by first | ((repeat (first | with_reducible exact .here | apply Pick.there)); done) | ((repeat (first | exact .here | apply Pick.there)); done)) (Nth.s (Nth.s Nth.z)))) rfl ?_
  refine RJ_q (Op_gtr rfl rfl) rfl ?_
  by_cases h1 : kept < n
  · skip
    refine RJ_nil ?_
    refine NJ_then ?_
    refine CJ_env (E' := [(0, _), (1, _), (9, _)]) (.cons rfl rfl (.cons rfl rfl (.cons rfl rfl .nil))) ?_
    refine CJ_then rfl (decide_eq_true h1) ?_
    refine CJ_region ?_
    refine RJ_q (Op_move rfl) rfl ?_
    refine RJ_q (Op_nilCheck rfl) rfl ?_
    refine RJ_q (Op_fieldAddr (o' := 2) rfl Try.underlying29 rfl sz3 rfl rfl) rfl ?_
    refine RJ_q (Op_load rfl (load_cell Try.underlying3 rfl (by first | ((repeat (first | with_reducible exact .here | apply Pick.there)); done) | ((repeat (first | exact .here | apply Pick.there)); done)) (Nth.s (Nth.s Nth.z)))) rfl ?_
    refine RJ_q (Op_assign rfl) rfl ?_
    refine RJ_nil ?_
    refine NJ_then ?_
    refine CJ_env (E' := [(0, _), (1, _)]) (.cons rfl rfl (.cons rfl rfl .nil)) ?_
    refine CJ_seq ?_
    refine CJ_region ?_
    refine RJ_q (Op_move rfl) rfl ?_
    refine RJ_q (Op_gtr rfl rfl) rfl ?_
    by_cases h2 : 0 < kept
    · skip
      refine RJ_nil ?_
      refine NJ_then ?_
      refine CJ_env (E' := [(0, _), (1, _), (15, _)]) (.cons rfl rfl (.cons rfl rfl (.cons rfl rfl .nil))) ?_
      refine CJ_then rfl (decide_eq_true h2) ?_
      refine CJ_region ?_
      refine RJ_q (Op_move rfl) rfl ?_
      refine RJ_q (Op_move rfl) rfl ?_
      refine RJ_q (Op_nilCheck rfl) rfl ?_
      refine RJ_q (Op_fieldAddr (o' := 2) rfl Try.underlying29 rfl sz3 rfl rfl) rfl ?_
      refine RJ_q (Op_load rfl (load_cell Try.underlying3 rfl (by first | ((repeat (first | with_reducible exact .here | apply Pick.there)); done) | ((repeat (first | exact .here | apply Pick.there)); done)) (Nth.s (Nth.s Nth.z)))) rfl ?_
      refine RJ_q (Op_move rfl) rfl ?_
      refine RJ_q (Op_sub64 rfl rfl (by omega)) rfl ?_
      refine RJ_q (Op_nilCheck rfl) rfl ?_
      refine RJ_q (Op_fieldAddr (o' := 2) rfl Try.underlying29 rfl sz3 rfl rfl) rfl ?_
      refine RJ_d0 (Op_store (cs' := #[_, _, _]) rfl rfl sz3 (by rfl) (by simp [Value.cells, Value.oneCell']) (by repeat (first | exact .here | apply Repl.there)) rfl (free_zero _ _) (by rfl)) ?_
      refine RJ_nil ?_
      have hP : relR kept n = kept - kept := by unfold relR; split <;> omega
      rw [hP]
      refine NJ_ret (.inr rfl) Try.results17 ResJ_nil ⟨rfl, rfl⟩ (.swap (C := [RfC g a L.length cap room (kept - kept), Row ThT a cap L]) (.cons (by first | ((repeat (first | with_reducible exact .here | apply Pick.there)); done) | ((repeat (first | exact .here | apply Pick.there)); done)) (.cons (by first | ((repeat (first | with_reducible exact .here | apply Pick.there)); done) | ((repeat (first | exact .here | apply Pick.there)); done)) (Imp.refl _))) (RCacheP_close rfl) (.cons (by first | ((repeat (first | with_reducible exact .here | apply Pick.there)); done) | ((repeat (first | exact .here | apply Pick.there)); done)) (by repeat (first | exact Imp.refl _ | refine Imp.skip ?_))))
    · skip
      refine RJ_nil ?_
      refine NJ_then ?_
      refine CJ_env (E' := [(0, _), (1, _), (15, _)]) (.cons rfl rfl (.cons rfl rfl (.cons rfl rfl .nil))) ?_
      refine CJ_else rfl (decide_eq_false h2) ?_
      refine CJ_skip ?_
      have hP : relR kept n = kept := by unfold relR; split <;> omega
      rw [hP]
      refine NJ_ret (.inr rfl) Try.results17 ResJ_nil ⟨rfl, rfl⟩ (.swap (C := [RfC g a L.length cap room (kept), Row ThT a cap L]) (.cons (by first | ((repeat (first | with_reducible exact .here | apply Pick.there)); done) | ((repeat (first | exact .here | apply Pick.there)); done)) (.cons (by first | ((repeat (first | with_reducible exact .here | apply Pick.there)); done) | ((repeat (first | exact .here | apply Pick.there)); done)) (Imp.refl _))) (RCacheP_close rfl) (.cons (by first | ((repeat (first | with_reducible exact .here | apply Pick.there)); done) | ((repeat (first | exact .here | apply Pick.there)); done)) (by repeat (first | exact Imp.refl _ | refine Imp.skip ?_))))
  · skip
    refine RJ_nil ?_
    refine NJ_then ?_
    refine CJ_env (E' := [(0, _), (1, _), (9, _)]) (.cons rfl rfl (.cons rfl rfl (.cons rfl rfl .nil))) ?_
    refine CJ_else rfl (decide_eq_false h1) ?_
    refine CJ_skip ?_
    refine NJ_then ?_
    refine CJ_env (E' := [(0, _), (1, _)]) (.cons rfl rfl (.cons rfl rfl .nil)) ?_
    refine CJ_seq ?_
    refine CJ_region ?_
    refine RJ_q (Op_move rfl) rfl ?_
    refine RJ_q (Op_gtr rfl rfl) rfl ?_
    by_cases h2 : 0 < n
    · skip
      refine RJ_nil ?_
      refine NJ_then ?_
      refine CJ_env (E' := [(0, _), (1, _), (15, _)]) (.cons rfl rfl (.cons rfl rfl (.cons rfl rfl .nil))) ?_
      refine CJ_then rfl (decide_eq_true h2) ?_
      refine CJ_region ?_
      refine RJ_q (Op_move rfl) rfl ?_
      refine RJ_q (Op_move rfl) rfl ?_
      refine RJ_q (Op_nilCheck rfl) rfl ?_
      refine RJ_q (Op_fieldAddr (o' := 2) rfl Try.underlying29 rfl sz3 rfl rfl) rfl ?_
      refine RJ_q (Op_load rfl (load_cell Try.underlying3 rfl (by first | ((repeat (first | with_reducible exact .here | apply Pick.there)); done) | ((repeat (first | exact .here | apply Pick.there)); done)) (Nth.s (Nth.s Nth.z)))) rfl ?_
      refine RJ_q (Op_move rfl) rfl ?_
      refine RJ_q (Op_sub64 rfl rfl (by omega)) rfl ?_
      refine RJ_q (Op_nilCheck rfl) rfl ?_
      refine RJ_q (Op_fieldAddr (o' := 2) rfl Try.underlying29 rfl sz3 rfl rfl) rfl ?_
      refine RJ_d0 (Op_store (cs' := #[_, _, _]) rfl rfl sz3 (by rfl) (by simp [Value.cells, Value.oneCell']) (by repeat (first | exact .here | apply Repl.there)) rfl (free_zero _ _) (by rfl)) ?_
      refine RJ_nil ?_
      have hP : relR kept n = kept - n := by unfold relR; split <;> omega
      rw [hP]
      refine NJ_ret (.inr rfl) Try.results17 ResJ_nil ⟨rfl, rfl⟩ (.swap (C := [RfC g a L.length cap room (kept - n), Row ThT a cap L]) (.cons (by first | ((repeat (first | with_reducible exact .here | apply Pick.there)); done) | ((repeat (first | exact .here | apply Pick.there)); done)) (.cons (by first | ((repeat (first | with_reducible exact .here | apply Pick.there)); done) | ((repeat (first | exact .here | apply Pick.there)); done)) (Imp.refl _))) (RCacheP_close rfl) (.cons (by first | ((repeat (first | with_reducible exact .here | apply Pick.there)); done) | ((repeat (first | exact .here | apply Pick.there)); done)) (by repeat (first | exact Imp.refl _ | refine Imp.skip ?_))))
    · skip
      refine RJ_nil ?_
      refine NJ_then ?_
      refine CJ_env (E' := [(0, _), (1, _), (15, _)]) (.cons rfl rfl (.cons rfl rfl (.cons rfl rfl .nil))) ?_
      refine CJ_else rfl (decide_eq_false h2) ?_
      refine CJ_skip ?_
      have hP : relR kept n = kept := by unfold relR; split <;> omega
      rw [hP]
      refine NJ_ret (.inr rfl) Try.results17 ResJ_nil ⟨rfl, rfl⟩ (.swap (C := [RfC g a L.length cap room (kept), Row ThT a cap L]) (.cons (by first | ((repeat (first | with_reducible exact .here | apply Pick.there)); done) | ((repeat (first | exact .here | apply Pick.there)); done)) (.cons (by first | ((repeat (first | with_reducible exact .here | apply Pick.there)); done) | ((repeat (first | exact .here | apply Pick.there)); done)) (Imp.refl _))) (RCacheP_close rfl) (.cons (by first | ((repeat (first | with_reducible exact .here | apply Pick.there)); done) | ((repeat (first | exact .here | apply Pick.there)); done)) (by repeat (first | exact Imp.refl _ | refine Imp.skip ?_))))

set_option maxRecDepth 20000 in
theorem RKeys_any (g : Nat) (L : List It) (room kept : Int) (hl : L.length ≤ 1000000) : Spec Try.prog 23 #[.pointer (some ⟨g, 0, none⟩)] [RCacheP g L room kept] (fun v C => ∃ a cap, v = .slice (sl a) (keysOf L).length cap ∧ C = [RCacheP g L room kept, Row StrT a cap (keysOf L)]) := by
  refine Spec_intro (n := 27) (args := [.pointer (some ⟨g, 0, none⟩)]) Try.func23 rfl rfl rfl fun s R => ?_
  refine CJ_app1 ?_
  refine CJ_env (E' := [(0, _)]) (.cons rfl rfl .nil) ?_
  refine CJ_open (RCacheP_opens _ _ _ _) (by first | ((repeat (first | with_reducible exact .here | apply Pick.there)); done) | ((repeat (first | exact .here | apply Pick.there)); done)) ?_
  rintro _ ⟨a, cap, rfl⟩
  refine CJ_app2 ?_
  refine CJ_know (Row_know (T := ThT) (by first | ((repeat (first | with_reducible exact .here | apply Pick.there)); done) | ((repeat (first | exact .here | apply Pick.there)); done))) ?_
  intro hkn
  refine CJ_seq ?_
  refine CJ_region ?_
  refine RJ_q (Op_assign rfl) rfl ?_
  refine RJ_nil ?_
  refine NJ_then ?_
  refine CJ_env (E' := [(0, _), (2, _)]) (.cons rfl rfl (.cons rfl rfl .nil)) ?_
  refine CJ_seq ?_
  refine CJ_region ?_
  refine RJ_p rfl (Op_buildSlice0 (T := StrT) Try.underlying32 sz9) ?_
  rintro _ _ ⟨g5, rfl, rfl⟩
  refine RJ_q (Op_assign rfl) rfl ?_
  refine RJ_nil ?_
  refine NJ_then ?_
  refine CJ_env (E' := [(0, _), (2, _), (3, _)]) (.cons rfl rfl (.cons rfl rfl (.cons rfl rfl .nil))) ?_
  refine CJ_seq ?_
  refine CJ_seq ?_
  refine CJ_region ?_
  refine RJ_q (Op_assign rfl) rfl ?_
  refine RJ_nil ?_
  refine NJ_then ?_
  refine CJ_env (E' := [(0, _), (2, _), (3, _), (4, _)]) (.cons rfl rfl (.cons rfl rfl (.cons rfl rfl (.cons rfl rfl .nil)))) ?_
  refine CJ_block ?_
  refine CJ_loop (fun E H m => ∃ (i : Nat) (ak : Option Nat) (ck : Nat), (i ≤ L.length) ∧ E = [(0, .pointer (some ⟨g, 0, none⟩)), (3, .slice (sl ak) (keysOf (L.take i)).length ck), (4, .int .i64 (i : Nat))] ∧ H = [RfC g a L.length cap room kept, Row ThT a cap L, Row StrT ak ck (keysOf (L.take i))] ++ R ∧ m = L.length - i) (E' := [(0, .pointer (some ⟨g, 0, none⟩)), (3, .slice (sl (some g5)) (keysOf (L.take 0)).length 0), (4, .int .i64 (0 : Nat))]) (H' := [RfC g a L.length cap room kept, Row ThT a cap L, Row StrT (some g5) 0 (keysOf (L.take 0))] ++ R) (m := L.length - 0) ⟨0, some g5, 0, Nat.zero_le _, rfl, rfl, rfl⟩ (.cons rfl rfl (.cons rfl rfl (.cons rfl rfl .nil))) (.cons (by first | ((repeat (first | with_reducible exact .here | apply Pick.there)); done) | ((repeat (first | exact .here | apply Pick.there)); done)) (.cons (by first | ((repeat (first | with_reducible exact .here | apply Pick.there)); done) | ((repeat (first | exact .here | apply Pick.there)); done)) (.cons (by first | ((repeat (first | with_reducible exact .here | apply Pick.there)); done) | ((repeat (first | exact .here | apply Pick.there)); done)) (by repeat (first | exact Imp.refl _ | refine Imp.skip ?_))))) ?_
  rintro _ _ _ ⟨i, ak, ck, hi, rfl, rfl, rfl⟩
  refine CJ_app3 ?_
  refine CJ_seq ?_
  refine CJ_seq ?_
  by_cases hi1 : i < L.length
  · skip
    obtain ⟨x, hx⟩ : ∃ x, L[i]? = some x := ⟨L[i], List.getElem?_eq_getElem hi1⟩
    obtain ⟨ga, rfl⟩ := sliceNil hkn.2.2 hx
    refine CJ_region ?_
    refine RJ_q (Op_move rfl) rfl ?_
    refine RJ_q (Op_move rfl) rfl ?_
    refine RJ_q (Op_nilCheck rfl) rfl ?_
    refine RJ_q (Op_fieldAddr (o' := 0) rfl Try.underlying29 rfl sz27 rfl rfl) rfl ?_
    refine RJ_q (Op_load rfl (load_cell Try.underlying27 rfl (by first | ((repeat (first | with_reducible exact .here | apply Pick.there)); done) | ((repeat (first | exact .here | apply Pick.there)); done)) Nth.z)) rfl ?_
    refine RJ_q (Op_len_slice rfl Try.underlying27) rfl ?_
    refine RJ_q (Op_lss rfl rfl) rfl ?_
    refine RJ_nil ?_
    refine NJ_then ?_
    refine CJ_env (E' := [(0, _), (3, _), (4, _), (6, _), (7, _), (8, _), (9, _), (10, _), (11, _), (12, _)]) (.cons rfl rfl (.cons rfl rfl (.cons rfl rfl (.cons rfl rfl (.cons rfl rfl (.cons rfl rfl (.cons rfl rfl (.cons rfl rfl (.cons rfl rfl (.cons rfl rfl .nil)))))))))) ?_
    refine CJ_then rfl (decide_eq_true (by omega)) ?_
    refine CJ_skip ?_
    refine NJ_then ?_
    refine CJ_env (E' := [(0, _), (3, _), (4, _), (6, _), (7, _), (8, _), (9, _), (10, _), (11, _), (12, _)]) (.cons rfl rfl (.cons rfl rfl (.cons rfl rfl (.cons rfl rfl (.cons rfl rfl (.cons rfl rfl (.cons rfl rfl (.cons rfl rfl (.cons rfl rfl (.cons rfl rfl .nil)))))))))) ?_
    refine CJ_seq ?_
    refine CJ_block ?_
    refine CJ_region ?_
    refine RJ_q (Op_move rfl) rfl ?_
    refine RJ_q (Op_move rfl) rfl ?_
    refine RJ_q (Op_nilCheck rfl) rfl ?_
    refine RJ_q (Op_fieldAddr (o' := 0) rfl Try.underlying29 rfl sz27 rfl rfl) rfl ?_
    refine RJ_q (Op_load rfl (load_cell Try.underlying27 rfl (by first | ((repeat (first | with_reducible exact .here | apply Pick.there)); done) | ((repeat (first | exact .here | apply Pick.there)); done)) Nth.z)) rfl ?_
    refine RJ_q (Op_move rfl) rfl ?_
    refine RJ_q (Op_indexAddr (o' := i * ThT.sz + 0) rfl rfl Try.underlying27 sz37 (by omega) (by omega) (by simp [ThT])) rfl ?_
    refine RJ_q (Op_fieldAddr (o' := i * ThT.sz + 0) rfl Try.underlying37 rfl sz9 rfl rfl) rfl ?_
    refine RJ_q (Op_load rfl (load_row_cell (o := 0) Try.underlying9 rfl (by first | ((repeat (first | with_reducible exact .here | apply Pick.there)); done) | ((repeat (first | exact .here | apply Pick.there)); done)) hx Nth.z)) rfl ?_
    refine RJ_p rfl (Op_buildSlice (vs := [_]) (cells := [_]) Try.underlying32 sz9 zr9 rfl rfl rfl rfl (by rfl)) ?_
    rintro _ _ ⟨g24, rfl, rfl⟩
    refine RJ_p rfl (Op_append (T := StrT) (news := [x.key]) rfl rfl (by first | ((repeat (first | with_reducible exact .here | apply Pick.there)); done) | ((repeat (first | exact .here | apply Pick.there)); done)) rfl (by simp) (Reads_pt (by first | ((repeat (first | with_reducible exact .here | apply Pick.there)); done) | ((repeat (first | exact .here | apply Pick.there)); done)) (fun j u h => by simpa [Ty.flat, StrT] using h)) Try.underlying32 sz9 zr9 (by rfl) by9 (by simp [StrT, keysOf]; omega) (by simp [maxLen, keysOf]; omega)) ?_
    rintro _ _ ⟨a25, c25, rfl, rfl⟩
    have he : keysOf (L.take i) ++ [x.key] = keysOf (L.take (i + 1)) := by rw [List.take_add_one, hx]; simp [keysOf]
    rw [he]
    refine RJ_q (Op_assign rfl) rfl ?_
    refine RJ_nil ?_
    refine NJ_blk ?_
    refine NJ_then ?_
    refine CJ_env (E' := [(0, _), (3, _), (4, _), (6, _), (7, _), (8, _), (9, _), (10, _), (11, _), (12, _), (15, _), (16, _), (17, _), (18, _), (19, _), (20, _), (21, _), (22, _), (23, _), (24, _), (25, _)]) (.cons rfl rfl (.cons rfl rfl (.cons rfl rfl (.cons rfl rfl (.cons rfl rfl (.cons rfl rfl (.cons rfl rfl (.cons rfl rfl (.cons rfl rfl (.cons rfl rfl (.cons rfl rfl (.cons rfl rfl (.cons rfl rfl (.cons rfl rfl (.cons rfl rfl (.cons rfl rfl (.cons rfl rfl (.cons rfl rfl (.cons rfl rfl (.cons rfl rfl (.cons rfl rfl .nil))))))))))))))))))))) ?_
    refine CJ_region ?_
    refine RJ_q (Op_move rfl) rfl ?_
    refine RJ_q (Op_addN (i + 1) rfl rfl (by omega) (by omega)) rfl ?_
    refine RJ_q (Op_assign rfl) rfl ?_
    refine RJ_nil ?_
    refine NJ_back ⟨i + 1, a25, c25, by omega, rfl, rfl, rfl⟩ (by omega) (.cons rfl (by first | rfl | (simp [keysOf, itsOf]; done)) (.cons rfl (by first | rfl | (simp [keysOf, itsOf]; done)) (.cons rfl (by first | rfl | (simp [keysOf, itsOf]; done)) .nil))) (.cons (by first | ((repeat (first | with_reducible exact .here | apply Pick.there)); done) | ((repeat (first | exact .here | apply Pick.there)); done)) (.cons (by first | ((repeat (first | with_reducible exact .here | apply Pick.there)); done) | ((repeat (first | exact .here | apply Pick.there)); done)) (.cons (by first | ((repeat (first | with_reducible exact .here | apply Pick.there)); done) | ((repeat (first | exact .here | apply Pick.there)); done)) (by repeat (first | exact Imp.refl _ | refine Imp.skip ?_)))))
  · skip
    refine CJ_region ?_
    refine RJ_q (Op_move rfl) rfl ?_
    refine RJ_q (Op_move rfl) rfl ?_
    refine RJ_q (Op_nilCheck rfl) rfl ?_
    refine RJ_q (Op_fieldAddr (o' := 0) rfl Try.underlying29 rfl sz27 rfl rfl) rfl ?_
    refine RJ_q (Op_load rfl (load_cell Try.underlying27 rfl (by first | ((repeat (first | with_reducible exact .here | apply Pick.there)); done) | ((repeat (first | exact .here | apply Pick.there)); done)) Nth.z)) rfl ?_
    refine RJ_q (Op_len_slice rfl Try.underlying27) rfl ?_
    refine RJ_q (Op_lss rfl rfl) rfl ?_
    refine RJ_nil ?_
    refine NJ_then ?_
    refine CJ_env (E' := [(0, _), (3, _), (4, _), (6, _), (7, _), (8, _), (9, _), (10, _), (11, _), (12, _)]) (.cons rfl rfl (.cons rfl rfl (.cons rfl rfl (.cons rfl rfl (.cons rfl rfl (.cons rfl rfl (.cons rfl rfl (.cons rfl rfl (.cons rfl rfl (.cons rfl rfl .nil)))))))))) ?_
    refine CJ_else rfl (decide_eq_false (by omega)) ?_
    refine CJ_exit ?_
    refine NJ_then_x ?_
    refine NJ_then_x ?_
    refine NJ_blk_hit ?_
    refine NJ_then ?_
    refine CJ_env (E' := [(3, _)]) (.cons rfl rfl .nil) ?_
    refine CJ_seq ?_
    refine CJ_region ?_
    refine RJ_q (Op_move rfl) rfl ?_
    refine RJ_q (Op_assign rfl) rfl ?_
    refine RJ_nil ?_
    refine NJ_then ?_
    refine CJ_env (E' := [(2, _)]) (.cons rfl rfl .nil) ?_
    refine CJ_ret ?_
    have hil : i = L.length := by omega
    subst hil
    rw [List.take_length]
    refine NJ_ret (.inl rfl) Try.results23 (ResJ_tmp rfl ResJ_nil) ⟨ak, ck, rfl, rfl⟩ (.swap (C := [RfC g a (L).length _ room (kept), Row ThT a _ (L)]) (.cons (by first | ((repeat (first | with_reducible exact .here | apply Pick.there)); done) | ((repeat (first | exact .here | apply Pick.there)); done)) (.cons (by first | ((repeat (first | with_reducible exact .here | apply Pick.there)); done) | ((repeat (first | exact .here | apply Pick.there)); done)) (by repeat (first | exact Imp.refl _ | refine Imp.skip ?_)))) (RCacheP_close rfl) (.cons (by first | ((repeat (first | with_reducible exact .here | apply Pick.there)); done) | ((repeat (first | exact .here | apply Pick.there)); done)) (.cons (by first | ((repeat (first | with_reducible exact .here | apply Pick.there)); done) | ((repeat (first | exact .here | apply Pick.there)); done)) (by repeat (first | exact Imp.refl _ | refine Imp.skip ?_)))))

set_option maxRecDepth 20000 in
theorem RSame_eq (a1 a2 : Option Nat) (c1 c2 : Nat) (xs : List ByteArray) : Spec Try.prog 8 #[.slice (sl a1) xs.length c1, .slice (sl a2) xs.length c2] [Row StrT a1 c1 xs, Row StrT a2 c2 xs] (fun v C => v = .bool true ∧ C = [Row StrT a1 c1 xs, Row StrT a2 c2 xs]) := by
  refine Spec_intro (n := 26) (args := [.slice (sl a1) xs.length c1, .slice (sl a2) xs.length c2]) Try.func8 rfl rfl rfl fun s R => ?_
  refine CJ_app2 ?_
  refine CJ_env (E' := [(0, _), (1, _)]) (.cons rfl rfl (.cons rfl rfl .nil)) ?_
  refine CJ_know (Row_know (T := StrT) (a := a1) (by first | ((repeat (first | with_reducible exact .here | apply Pick.there)); done) | ((repeat (first | exact .here | apply Pick.there)); done))) ?_
  intro hk1
  refine CJ_know (Row_know (T := StrT) (a := a2) (by first | ((repeat (first | with_reducible exact .here | apply Pick.there)); done) | ((repeat (first | exact .here | apply Pick.there)); done))) ?_
  intro hk2
  have hml : maxLen ≤ 9223372036854775807 := by decide
  refine CJ_seq ?_
  refine CJ_region ?_
  refine RJ_q (Op_assign rfl) rfl ?_
  refine RJ_nil ?_
  refine NJ_then ?_
  refine CJ_env (E' := [(0, _), (1, _), (4, _)]) (.cons rfl rfl (.cons rfl rfl (.cons rfl rfl .nil))) ?_
  refine CJ_seq ?_
  refine CJ_seq ?_
  refine CJ_region ?_
  refine RJ_q (Op_move rfl) rfl ?_
  refine RJ_q (Op_len_slice rfl Try.underlying32) rfl ?_
  refine RJ_q (Op_move rfl) rfl ?_
  refine RJ_q (Op_len_slice rfl Try.underlying32) rfl ?_
  refine RJ_q (Op_neq rfl rfl) rfl ?_
  refine RJ_nil ?_
  refine NJ_then ?_
  refine CJ_env (E' := [(0, _), (1, _), (4, _), (10, _)]) (.cons rfl rfl (.cons rfl rfl (.cons rfl rfl (.cons rfl rfl .nil)))) ?_
  refine CJ_else rfl (decide_eq_false (fun h => h rfl)) ?_
  refine CJ_skip ?_
  refine NJ_then ?_
  refine CJ_env (E' := [(0, _), (1, _), (4, _)]) (.cons rfl rfl (.cons rfl rfl (.cons rfl rfl .nil))) ?_
  refine CJ_seq ?_
  refine CJ_seq ?_
  refine CJ_region ?_
  refine RJ_q (Op_assign rfl) rfl ?_
  refine RJ_nil ?_
  refine NJ_then ?_
  refine CJ_env (E' := [(0, _), (1, _), (4, _), (5, _)]) (.cons rfl rfl (.cons rfl rfl (.cons rfl rfl (.cons rfl rfl .nil)))) ?_
  refine CJ_block ?_
  refine CJ_loop (fun E H m => ∃ (i : Nat), (i ≤ xs.length) ∧ E = [(0, .slice (sl a1) xs.length c1), (1, .slice (sl a2) xs.length c2), (5, .int .i64 (i : Nat))] ∧ H = [Row StrT a1 c1 xs, Row StrT a2 c2 xs] ++ R ∧ m = xs.length - i) (E' := [(0, .slice (sl a1) xs.length c1), (1, .slice (sl a2) xs.length c2), (5, .int .i64 (0 : Nat))]) (H' := [Row StrT a1 c1 xs, Row StrT a2 c2 xs] ++ R) (m := xs.length - 0) ⟨0, Nat.zero_le _, rfl, rfl, rfl⟩ (.cons rfl rfl (.cons rfl rfl (.cons rfl rfl .nil))) (.cons (by first | ((repeat (first | with_reducible exact .here | apply Pick.there)); done) | ((repeat (first | exact .here | apply Pick.there)); done)) (.cons (by first | ((repeat (first | with_reducible exact .here | apply Pick.there)); done) | ((repeat (first | exact .here | apply Pick.there)); done)) (by repeat (first | exact Imp.refl _ | refine Imp.skip ?_)))) ?_
  rintro _ _ _ ⟨i, hi, rfl, rfl, rfl⟩
  refine CJ_app2 ?_
  refine CJ_seq ?_
  refine CJ_seq ?_
  by_cases hi1 : i < xs.length
  · skip
    obtain ⟨x, hx⟩ : ∃ x, xs[i]? = some x := ⟨xs[i], List.getElem?_eq_getElem hi1⟩
    obtain ⟨ga, rfl⟩ := sliceNil hk1.2.2 hx
    obtain ⟨gb, rfl⟩ := sliceNil hk2.2.2 hx
    refine CJ_region ?_
    refine RJ_q (Op_move rfl) rfl ?_
    refine RJ_q (Op_move rfl) rfl ?_
    refine RJ_q (Op_len_slice rfl Try.underlying32) rfl ?_
    refine RJ_q (Op_lss rfl rfl) rfl ?_
    refine RJ_nil ?_
    refine NJ_then ?_
    refine CJ_env (E' := [(0, _), (1, _), (5, _), (11, _), (12, _), (13, _), (14, _)]) (.cons rfl rfl (.cons rfl rfl (.cons rfl rfl (.cons rfl rfl (.cons rfl rfl (.cons rfl rfl (.cons rfl rfl .nil))))))) ?_
    refine CJ_then rfl (decide_eq_true (by omega)) ?_
    refine CJ_skip ?_
    refine NJ_then ?_
    refine CJ_env (E' := [(0, _), (1, _), (5, _), (11, _), (12, _), (13, _), (14, _)]) (.cons rfl rfl (.cons rfl rfl (.cons rfl rfl (.cons rfl rfl (.cons rfl rfl (.cons rfl rfl (.cons rfl rfl .nil))))))) ?_
    refine CJ_seq ?_
    refine CJ_block ?_
    refine CJ_seq ?_
    refine CJ_draw (.q 0 (.q 1 (.q 2 (.q 3 (.q 4 (.q 5 (.q 6 (.q 7 (.q 8 .done))))))))) (by kernel_rfl) (by kernel_rfl) (by kernel_rfl) ?_
    refine SJ_q rfl (want_none rfl) rfl (fun _ _ => Op_move rfl) ?_
    refine SJ_q rfl (want_none rfl) rfl (fun _ _ => Op_move rfl) ?_
    refine SJ_q rfl (want_none rfl) rfl (fun _ _ => Op_indexAddr (o' := i * StrT.sz + 0) rfl rfl Try.underlying32 sz9 (by omega) (by omega) (by simp [StrT])) ?_
    refine SJ_load rfl (want_none rfl) rfl rfl (load_row_cell (o := 0) Try.underlying9 rfl (by first | ((repeat (first | with_reducible exact .here | apply Pick.there)); done) | ((repeat (first | exact .here | apply Pick.there)); done)) hx Nth.z) ?_
    refine SJ_q rfl (want_none rfl) rfl (fun _ _ => Op_move rfl) ?_
    refine SJ_q rfl (want_none rfl) rfl (fun _ _ => Op_move rfl) ?_
    refine SJ_q rfl (want_none rfl) rfl (fun _ _ => Op_indexAddr (o' := i * StrT.sz + 0) rfl rfl Try.underlying32 sz9 (by omega) (by omega) (by simp [StrT])) ?_
    refine SJ_load rfl (want_none rfl) rfl rfl (load_row_cell (o := 0) Try.underlying9 rfl (by first | ((repeat (first | with_reducible exact .here | apply Pick.there)); done) | ((repeat (first | exact .here | apply Pick.there)); done)) hx Nth.z) ?_
    refine SJ_q rfl (want_none rfl) rfl (fun _ _ => Op_str_neq rfl rfl) ?_
    refine SJ_done ?_
    refine NJ_then ?_
    refine CJ_env (E' := [(0, _), (1, _), (5, _), (11, _), (12, _), (13, _), (14, _), (17, _), (18, _), (19, _), (20, _), (21, _), (22, _), (23, _), (24, _), (25, _)]) (.cons rfl rfl (.cons rfl rfl (.cons rfl rfl (.cons rfl rfl (.cons rfl rfl (.cons rfl rfl (.cons rfl rfl (.cons rfl rfl (.cons rfl rfl (.cons rfl rfl (.cons rfl rfl (.cons rfl rfl (.cons rfl rfl (.cons rfl rfl (.cons rfl rfl (.cons rfl rfl .nil)))))))))))))))) ?_
    refine CJ_else rfl (decide_eq_false (fun h => h rfl)) ?_
    refine CJ_skip ?_
    refine NJ_blk ?_
    refine NJ_then ?_
    refine CJ_env (E' := [(0, _), (1, _), (5, _), (11, _), (12, _), (13, _), (14, _), (17, _), (18, _), (19, _), (20, _), (21, _), (22, _), (23, _), (24, _), (25, _)]) (.cons rfl rfl (.cons rfl rfl (.cons rfl rfl (.cons rfl rfl (.cons rfl rfl (.cons rfl rfl (.cons rfl rfl (.cons rfl rfl (.cons rfl rfl (.cons rfl rfl (.cons rfl rfl (.cons rfl rfl (.cons rfl rfl (.cons rfl rfl (.cons rfl rfl (.cons rfl rfl .nil)))))))))))))))) ?_
    refine CJ_region ?_
    refine RJ_q (Op_move rfl) rfl ?_
    refine RJ_q (Op_addN (i + 1) rfl rfl (by omega) (by omega)) rfl ?_
    refine RJ_q (Op_assign rfl) rfl ?_
    refine RJ_nil ?_
    refine NJ_back ⟨i + 1, by omega, rfl, rfl, rfl⟩ (by omega) (.cons rfl (by first | rfl | (simp [keysOf, itsOf]; done)) (.cons rfl (by first | rfl | (simp [keysOf, itsOf]; done)) (.cons rfl (by first | rfl | (simp [keysOf, itsOf]; done)) .nil))) (.cons (by first | ((repeat (first | with_reducible exact .here | apply Pick.there)); done) | ((repeat (first | exact .here | apply Pick.there)); done)) (.cons (by first | ((repeat (first | with_reducible exact .here | apply Pick.there)); done) | ((repeat (first | exact .here | apply Pick.there)); done)) (by repeat (first | exact Imp.refl _ | refine Imp.skip ?_))))
  · skip
    refine CJ_region ?_
    refine RJ_q (Op_move rfl) rfl ?_
    refine RJ_q (Op_move rfl) rfl ?_
    refine RJ_q (Op_len_slice rfl Try.underlying32) rfl ?_
    refine RJ_q (Op_lss rfl rfl) rfl ?_
    refine RJ_nil ?_
    refine NJ_then ?_
    refine CJ_env (E' := [(0, _), (1, _), (5, _), (11, _), (12, _), (13, _), (14, _)]) (.cons rfl rfl (.cons rfl rfl (.cons rfl rfl (.cons rfl rfl (.cons rfl rfl (.cons rfl rfl (.cons rfl rfl .nil))))))) ?_
    refine CJ_else rfl (decide_eq_false (by omega)) ?_
    refine CJ_exit ?_
    refine NJ_then_x ?_
    refine NJ_then_x ?_
    refine NJ_blk_hit ?_
    refine NJ_then ?_
    refine CJ_env (E' := []) .nil ?_
    refine CJ_seq ?_
    refine CJ_region ?_
    refine RJ_q (Op_assign rfl) rfl ?_
    refine RJ_nil ?_
    refine NJ_then ?_
    refine CJ_env (E' := [(4, _)]) (.cons rfl rfl .nil) ?_
    refine CJ_ret ?_
    refine NJ_ret (.inl rfl) Try.results8 (ResJ_tmp rfl ResJ_nil) ⟨rfl, rfl⟩ (.cons (by first | ((repeat (first | with_reducible exact .here | apply Pick.there)); done) | ((repeat (first | exact .here | apply Pick.there)); done)) (.cons (by first | ((repeat (first | with_reducible exact .here | apply Pick.there)); done) | ((repeat (first | exact .here | apply Pick.there)); done)) (by repeat (first | exact Imp.refl _ | refine Imp.skip ?_))))
end Go.Proofs.Ytknddpcjmenmaaa.SL
