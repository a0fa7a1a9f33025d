/- Contracts of the functions of package meridianref18. -/
import Derived.Test.YtblcdhcjamedgaaRfD
namespace Go.Proofs.Ytblcdhcjamedgaa.SL
open Go Go.RowKit
set_option maxRecDepth 20000 in
theorem RSend_any (g : Nat) (room : Int) (ps : List Pkt) (sent : Int) (p : Pkt) (hp : ps.length ≤ 100000) (hs0 : 0 ≤ sent) (hs1 : sent ≤ 100000) : Spec Try.prog 7 #[.pointer (some ⟨g, 0, none⟩), .agg #[.int .i64 p.f, .int .i64 p.t, .string ⟨p.bs.toArray⟩, .bool p.turned]] [RefP g room ps sent] (fun v C => v = .bool (decide ((ps.length : Int) < room)) ∧ C = [if (ps.length : Int) < room then RefP g room (ps ++ [p]) (sent + 1) else RefP g room ps sent]) := by
  refine Spec_intro (n := 34) (args := [.pointer (some ⟨g, 0, none⟩), .agg #[.int .i64 p.f, .int .i64 p.t, .string ⟨p.bs.toArray⟩, .bool p.turned]]) Try.func7 rfl rfl rfl fun s R => ?_
  refine CJ_app1 ?_
  refine CJ_env (E' := [(0, _), (1, _)]) (.cons rfl rfl (.cons rfl rfl .nil)) ?_
  refine CJ_open (RefP_opens _ _ _ _) (by first | ((repeat (first | with_reducible exact .here | apply Pick.there)); done) | ((repeat (first | exact .here | apply Pick.there)); done)) ?_
  rintro _ ⟨a, cap, rfl⟩
  refine CJ_app2 ?_
  refine CJ_seq ?_
  refine CJ_region ?_
  refine RJ_p rfl (Op_box rfl) ?_
  rintro _ _ ⟨b3, rfl, rfl⟩
  refine RJ_q (Op_assign rfl) rfl ?_
  refine RJ_nil ?_
  refine NJ_then ?_
  refine CJ_env (E' := [(0, _), (3, _), (4, _)]) (.cons rfl rfl (.cons rfl rfl (.cons rfl rfl .nil))) ?_
  refine CJ_seq ?_
  refine CJ_seq ?_
  refine CJ_draw (.q 0 (.q 1 (.q 2 (.q 3 (.q 4 (.q 5 (.q 6 (.q 7 (.q 8 (.q 9 .done)))))))))) (by kernel_rfl) (by kernel_rfl) (by kernel_rfl) ?_
  refine SJ_q rfl (want_none rfl) rfl (fun _ _ => Op_move rfl) ?_
  refine SJ_q rfl (want_none rfl) rfl (fun _ _ => Op_nilCheck rfl) ?_
  refine SJ_q rfl (want_none rfl) rfl (fun _ _ => Op_fieldAddr (o' := 0) rfl Try.underlying29 rfl sz27 rfl rfl) ?_
  refine SJ_load rfl (want_none rfl) rfl rfl (load_cell Try.underlying27 rfl (by first | ((repeat (first | with_reducible exact .here | apply Pick.there)); done) | ((repeat (first | exact .here | apply Pick.there)); done)) Nth.z) ?_
  refine SJ_q rfl (want_none rfl) rfl (fun _ _ => Op_len_slice rfl Try.underlying27) ?_
  refine SJ_q rfl (want_none rfl) rfl (fun _ _ => Op_move rfl) ?_
  refine SJ_q rfl (want_none rfl) rfl (fun _ _ => Op_nilCheck rfl) ?_
  refine SJ_q rfl (want_none rfl) rfl (fun _ _ => Op_fieldAddr (o' := 1) rfl Try.underlying29 rfl sz3 rfl rfl) ?_
  refine SJ_load rfl (want_none rfl) rfl rfl (load_cell Try.underlying3 rfl (by first | ((repeat (first | with_reducible exact .here | apply Pick.there)); done) | ((repeat (first | exact .here | apply Pick.there)); done)) (Nth.s Nth.z)) ?_
  refine SJ_q rfl (want_none rfl) rfl (fun _ _ => Op_geq rfl rfl) ?_
  refine SJ_done ?_
  refine NJ_then ?_
  refine CJ_env (E' := [(0, _), (3, _), (4, _), (14, _)]) (.cons rfl rfl (.cons rfl rfl (.cons rfl rfl (.cons rfl rfl .nil)))) ?_
  refine CJ_cond rfl ?_ ?_
  · intro hc1
    try simp only [decide_eq_true_eq, decide_eq_false_iff_not, Bool.not_eq_true', Bool.not_eq_false'] at hc1
    refine CJ_seq ?_
    refine CJ_region ?_
    refine RJ_q (Op_assign rfl) rfl ?_
    refine RJ_nil ?_
    refine NJ_then ?_
    refine CJ_env (E' := [(0, _), (3, _), (4, _)]) (.cons rfl rfl (.cons rfl rfl (.cons rfl rfl .nil))) ?_
    refine CJ_ret ?_
    refine NJ_then_r ?_
    refine NJ_ret (.inl rfl) Try.results7 (ResJ_tmp rfl ResJ_nil) (C := [RefP g room ps sent]) ⟨by simp [packRes]; omega, by rw [if_neg (by omega)]⟩ (.swap (C := [pt g (.cells #[.slice (sl a) (ps).length cap, .int .i64 room, .int .i64 (sent)] 29 (0, 0)), Row RefT a cap (ps)]) (.cons (by first | ((repeat (first | with_reducible exact .here | apply Pick.there)); done) | ((repeat (first | exact .here | apply Pick.there)); done)) (.cons (by first | ((repeat (first | with_reducible exact .here | apply Pick.there)); done) | ((repeat (first | exact .here | apply Pick.there)); done)) (Imp.refl _))) (RefP_close rfl) (.cons (by first | ((repeat (first | with_reducible exact .here | apply Pick.there)); done) | ((repeat (first | exact .here | apply Pick.there)); done)) (by repeat (first | exact Imp.refl _ | refine Imp.skip ?_))))
  · intro hc1
    try simp only [decide_eq_true_eq, decide_eq_false_iff_not, Bool.not_eq_true', Bool.not_eq_false'] at hc1
    refine CJ_skip ?_
    refine NJ_then ?_
    refine CJ_env (E' := [(0, _), (3, _), (4, _)]) (.cons rfl rfl (.cons rfl rfl (.cons rfl rfl .nil))) ?_
    refine CJ_seq ?_
    refine CJ_draw (.q 0 (.q 2 (.q 3 (.q 4 (.q 5 (.q 7 (.br 1 (.br 6 (.e 8 (.e 9 (.q 10 (.q 11 (.e 12 .done))))) (.e 8 (.e 6 (.e 9 (.q 10 (.q 11 (.e 12 .done))))))) (.e 8 (.e 1 (.e 6 (.e 9 (.q 10 (.q 11 (.e 12 .done)))))))))))))) (by kernel_rfl) (by kernel_rfl) (by kernel_rfl) ?_
    refine SJ_q rfl (want_none rfl) rfl (fun _ _ => Op_move rfl) ?_
    refine SJ_q rfl (want_none rfl) rfl (fun _ _ => Op_move rfl) ?_
    refine SJ_q rfl (want_none rfl) rfl (fun _ _ => Op_nilCheck rfl) ?_
    refine SJ_q rfl (want_none rfl) rfl (fun _ _ => Op_fieldAddr (o' := 0) rfl Try.underlying29 rfl sz27 rfl rfl) ?_
    refine SJ_load rfl (want_none rfl) rfl rfl (load_cell Try.underlying27 rfl (by first | ((repeat (first | with_reducible exact .here | apply Pick.there)); done) | ((repeat (first | exact .here | apply Pick.there)); done)) Nth.z) ?_
    refine SJ_load rfl (want_none rfl) rfl rfl (load_struct (o := 0) (vs := [_, _, _, _]) Try.underlying36 sz36 (by first | ((repeat (first | with_reducible exact .here | apply Pick.there)); done) | ((repeat (first | exact .here | apply Pick.there)); done)) (by rfl) rfl) ?_
    refine SJ_br ?_ ?_
    · skip
      refine SJ_p (rd' := [⟨7, _, _, _⟩, ⟨5, _, _, _⟩]) [7, 5] rfl (want_none rfl) rfl (Op_buildSlice0 (T := RefT) Try.underlying27 sz36) (by kernel_rfl) rfl ?_
      rintro _ _ ⟨g16, rfl, rfl⟩
      refine ⟨⟨(load_struct (o := 0) (vs := [_, _, _, _]) Try.underlying36 sz36 (by first | ((repeat (first | with_reducible exact .here | apply Pick.there)); done) | ((repeat (first | exact .here | apply Pick.there)); done)) (by rfl) rfl), ⟨(load_cell Try.underlying27 rfl (by first | ((repeat (first | with_reducible exact .here | apply Pick.there)); done) | ((repeat (first | exact .here | apply Pick.there)); done)) Nth.z), trivial⟩⟩, ?_⟩
      refine SJ_br ?_ ?_
      · skip
        refine SJ_p (rd' := [⟨7, _, _, _⟩]) [7] rfl (want_none rfl) rfl (Op_append (T := RefT) (news := ps) rfl rfl (by first | exact Pick.here | exact Pick.there .here) rfl rfl (Reads_row (xs := ps) (by first | ((repeat (first | with_reducible exact .here | apply Pick.there)); done) | ((repeat (first | exact .here | apply Pick.there)); done))) Try.underlying27 sz36 zr36 (by rfl) by36 (by simp [RefT]; omega) (by simp [maxLen]; omega)) (by kernel_rfl) rfl ?_
        rintro _ _ ⟨a1, c1, rfl, rfl⟩
        refine ⟨⟨(load_struct (o := 0) (vs := [_, _, _, _]) Try.underlying36 sz36 (by first | ((repeat (first | with_reducible exact .here | apply Pick.there)); done) | ((repeat (first | exact .here | apply Pick.there)); done)) (by rfl) rfl), trivial⟩, ?_⟩
        refine SJ_p (rd' := []) [] rfl (want_none rfl) rfl (Op_buildSlice (vs := [_]) (cells := [_, _, _, _]) Try.underlying27 sz36 zr36 rfl rfl rfl rfl (by rfl)) (by kernel_rfl) rfl ?_
        rintro _ _ ⟨g23, rfl, rfl⟩
        refine ⟨trivial, ?_⟩
        refine SJ_p (rd' := []) [] rfl (want_none rfl) rfl (Op_append (T := RefT) (news := [p]) rfl rfl (by first | ((repeat (first | with_reducible exact .here | apply Pick.there)); done) | ((repeat (first | exact .here | apply Pick.there)); done)) rfl rfl (Reads_pt (by first | ((repeat (first | with_reducible exact .here | apply Pick.there)); done) | ((repeat (first | exact .here | apply Pick.there)); done)) (fun j u h => by simpa [Ty.flat, RefT, RefEnc] using h)) Try.underlying27 sz36 zr36 (by rfl) by36 (by simp [RefT]; omega) (by simp [maxLen]; omega)) (by kernel_rfl) rfl ?_
        rintro _ _ ⟨a2, c2, rfl, rfl⟩
        refine ⟨trivial, ?_⟩
        refine SJ_q rfl (want_none rfl) rfl (fun _ _ => Op_nilCheck rfl) ?_
        refine SJ_q rfl (want_none rfl) rfl (fun _ _ => Op_fieldAddr (o' := 0) rfl Try.underlying29 rfl sz27 rfl rfl) ?_
        refine SJ_d0 (rd' := []) [] rfl (want_none rfl) (Op_store (cs' := #[_, _, _]) rfl rfl sz27 (by rfl) (by simp [Value.cells, Value.oneCell']) (by repeat (first | exact .here | apply Repl.there)) rfl (free_zero _ _) (by rfl)) (by kernel_rfl) rfl trivial ?_
        refine SJ_done ?_
        refine NJ_then ?_
        refine CJ_env (E' := [(0, _), (4, _)]) (.cons rfl rfl (.cons rfl rfl .nil)) ?_
        refine CJ_seq ?_
        refine CJ_region ?_
        refine RJ_q (Op_move rfl) rfl ?_
        refine RJ_q (Op_nilCheck rfl) rfl ?_
        refine RJ_q (Op_fieldAddr (o' := 2) rfl Try.underlying29 rfl sz2 rfl rfl) rfl ?_
        refine RJ_q (Op_load rfl (load_cell Try.underlying2 rfl (by first | ((repeat (first | with_reducible exact .here | apply Pick.there)); done) | ((repeat (first | exact .here | apply Pick.there)); done)) (Nth.s (Nth.s Nth.z)))) rfl ?_
        refine RJ_q (Op_add64 rfl rfl (by omega)) rfl ?_
        refine RJ_q (Op_nilCheck rfl) rfl ?_
        refine RJ_q (Op_fieldAddr (o' := 2) rfl Try.underlying29 rfl sz2 rfl rfl) rfl ?_
        refine RJ_d0 (Op_store (cs' := #[_, _, _]) rfl rfl sz2 (by rfl) (by simp [Value.cells, Value.oneCell']) (by repeat (first | exact .here | apply Repl.there)) rfl (free_zero _ _) (by rfl)) ?_
        refine RJ_nil ?_
        refine NJ_then ?_
        refine CJ_env (E' := [(4, _)]) (.cons rfl rfl .nil) ?_
        refine CJ_seq ?_
        refine CJ_region ?_
        refine RJ_q (Op_assign rfl) rfl ?_
        refine RJ_nil ?_
        refine NJ_then ?_
        refine CJ_env (E' := [(4, _)]) (.cons rfl rfl .nil) ?_
        refine CJ_ret ?_
        refine NJ_ret (.inl rfl) Try.results7 (ResJ_tmp rfl ResJ_nil) (C := [RefP g room (ps ++ [p]) (sent + 1)]) ⟨by simp [packRes]; omega, by rw [if_pos (by omega)]⟩ (.swap (C := [pt g (.cells #[.slice (sl a2) (ps ++ [p]).length c2, .int .i64 room, .int .i64 (sent + 1)] 29 (0, 0)), Row RefT a2 c2 (ps ++ [p])]) (.cons (by first | ((repeat (first | with_reducible exact .here | apply Pick.there)); done) | ((repeat (first | exact .here | apply Pick.there)); done)) (.cons (by first | ((repeat (first | with_reducible exact .here | apply Pick.there)); done) | ((repeat (first | exact .here | apply Pick.there)); done)) (Imp.refl _))) (RefP_close rfl) (.cons (by first | ((repeat (first | with_reducible exact .here | apply Pick.there)); done) | ((repeat (first | exact .here | apply Pick.there)); done)) (by repeat (first | exact Imp.refl _ | refine Imp.skip ?_))))
      · skip
        refine SJ_p (rd' := [⟨5, _, _, _⟩]) [5] rfl (want_none rfl) rfl (Op_buildSlice (vs := [_]) (cells := [_, _, _, _]) Try.underlying27 sz36 zr36 rfl rfl rfl rfl (by rfl)) (by kernel_rfl) rfl ?_
        rintro _ _ ⟨g23, rfl, rfl⟩
        refine ⟨⟨(load_cell Try.underlying27 rfl (by first | ((repeat (first | with_reducible exact .here | apply Pick.there)); done) | ((repeat (first | exact .here | apply Pick.there)); done)) Nth.z), trivial⟩, ?_⟩
        refine SJ_p (rd' := []) [] rfl (want_none rfl) rfl (Op_append (T := RefT) (news := ps) rfl rfl (by first | exact Pick.here | exact Pick.there .here) rfl rfl (Reads_row (xs := ps) (by first | ((repeat (first | with_reducible exact .here | apply Pick.there)); done) | ((repeat (first | exact .here | apply Pick.there)); done))) Try.underlying27 sz36 zr36 (by rfl) by36 (by simp [RefT]; omega) (by simp [maxLen]; omega)) (by kernel_rfl) rfl ?_
        rintro _ _ ⟨a1, c1, rfl, rfl⟩
        refine ⟨trivial, ?_⟩
        refine SJ_p (rd' := []) [] rfl (want_none rfl) rfl (Op_append (T := RefT) (news := [p]) rfl rfl (by first | ((repeat (first | with_reducible exact .here | apply Pick.there)); done) | ((repeat (first | exact .here | apply Pick.there)); done)) rfl rfl (Reads_pt (by first | ((repeat (first | with_reducible exact .here | apply Pick.there)); done) | ((repeat (first | exact .here | apply Pick.there)); done)) (fun j u h => by simpa [Ty.flat, RefT, RefEnc] using h)) Try.underlying27 sz36 zr36 (by rfl) by36 (by simp [RefT]; omega) (by simp [maxLen]; omega)) (by kernel_rfl) rfl ?_
        rintro _ _ ⟨a2, c2, rfl, rfl⟩
        refine ⟨trivial, ?_⟩
        refine SJ_q rfl (want_none rfl) rfl (fun _ _ => Op_nilCheck rfl) ?_
        refine SJ_q rfl (want_none rfl) rfl (fun _ _ => Op_fieldAddr (o' := 0) rfl Try.underlying29 rfl sz27 rfl rfl) ?_
        refine SJ_d0 (rd' := []) [] rfl (want_none rfl) (Op_store (cs' := #[_, _, _]) rfl rfl sz27 (by rfl) (by simp [Value.cells, Value.oneCell']) (by repeat (first | exact .here | apply Repl.there)) rfl (free_zero _ _) (by rfl)) (by kernel_rfl) rfl trivial ?_
        refine SJ_done ?_
        refine NJ_then ?_
        refine CJ_env (E' := [(0, _), (4, _)]) (.cons rfl rfl (.cons rfl rfl .nil)) ?_
        refine CJ_seq ?_
        refine CJ_region ?_
        refine RJ_q (Op_move rfl) rfl ?_
        refine RJ_q (Op_nilCheck rfl) rfl ?_
        refine RJ_q (Op_fieldAddr (o' := 2) rfl Try.underlying29 rfl sz2 rfl rfl) rfl ?_
        refine RJ_q (Op_load rfl (load_cell Try.underlying2 rfl (by first | ((repeat (first | with_reducible exact .here | apply Pick.there)); done) | ((repeat (first | exact .here | apply Pick.there)); done)) (Nth.s (Nth.s Nth.z)))) rfl ?_
        refine RJ_q (Op_add64 rfl rfl (by omega)) rfl ?_
        refine RJ_q (Op_nilCheck rfl) rfl ?_
        refine RJ_q (Op_fieldAddr (o' := 2) rfl Try.underlying29 rfl sz2 rfl rfl) rfl ?_
        refine RJ_d0 (Op_store (cs' := #[_, _, _]) rfl rfl sz2 (by rfl) (by simp [Value.cells, Value.oneCell']) (by repeat (first | exact .here | apply Repl.there)) rfl (free_zero _ _) (by rfl)) ?_
        refine RJ_nil ?_
        refine NJ_then ?_
        refine CJ_env (E' := [(4, _)]) (.cons rfl rfl .nil) ?_
        refine CJ_seq ?_
        refine CJ_region ?_
        refine RJ_q (Op_assign rfl) rfl ?_
        refine RJ_nil ?_
        refine NJ_then ?_
        refine CJ_env (E' := [(4, _)]) (.cons rfl rfl .nil) ?_
        refine CJ_ret ?_
        refine NJ_ret (.inl rfl) Try.results7 (ResJ_tmp rfl ResJ_nil) (C := [RefP g room (ps ++ [p]) (sent + 1)]) ⟨by simp [packRes]; omega, by rw [if_pos (by omega)]⟩ (.swap (C := [pt g (.cells #[.slice (sl a2) (ps ++ [p]).length c2, .int .i64 room, .int .i64 (sent + 1)] 29 (0, 0)), Row RefT a2 c2 (ps ++ [p])]) (.cons (by first | ((repeat (first | with_reducible exact .here | apply Pick.there)); done) | ((repeat (first | exact .here | apply Pick.there)); done)) (.cons (by first | ((repeat (first | with_reducible exact .here | apply Pick.there)); done) | ((repeat (first | exact .here | apply Pick.there)); done)) (Imp.refl _))) (RefP_close rfl) (.cons (by first | ((repeat (first | with_reducible exact .here | apply Pick.there)); done) | ((repeat (first | exact .here | apply Pick.there)); done)) (by repeat (first | exact Imp.refl _ | refine Imp.skip ?_))))
    · skip
      refine SJ_p (rd' := [⟨5, _, _, _⟩]) [5] rfl (want_none rfl) rfl (Op_buildSlice (vs := [_]) (cells := [_, _, _, _]) Try.underlying27 sz36 zr36 rfl rfl rfl rfl (by rfl)) (by kernel_rfl) rfl ?_
      rintro _ _ ⟨g23, rfl, rfl⟩
      refine ⟨⟨(load_cell Try.underlying27 rfl (by first | ((repeat (first | with_reducible exact .here | apply Pick.there)); done) | ((repeat (first | exact .here | apply Pick.there)); done)) Nth.z), trivial⟩, ?_⟩
      refine SJ_p (rd' := [⟨5, _, _, _⟩]) [5] rfl (want_none rfl) rfl (Op_buildSlice0 (T := RefT) Try.underlying27 sz36) (by kernel_rfl) rfl ?_
      rintro _ _ ⟨g16, rfl, rfl⟩
      refine ⟨⟨(load_cell Try.underlying27 rfl (by first | ((repeat (first | with_reducible exact .here | apply Pick.there)); done) | ((repeat (first | exact .here | apply Pick.there)); done)) Nth.z), trivial⟩, ?_⟩
      refine SJ_p (rd' := []) [] rfl (want_none rfl) rfl (Op_append (T := RefT) (news := ps) rfl rfl (by first | exact Pick.here | exact Pick.there .here) rfl rfl (Reads_row (xs := ps) (by first | ((repeat (first | with_reducible exact .here | apply Pick.there)); done) | ((repeat (first | exact .here | apply Pick.there)); done))) Try.underlying27 sz36 zr36 (by rfl) by36 (by simp [RefT]; omega) (by simp [maxLen]; omega)) (by kernel_rfl) rfl ?_
      rintro _ _ ⟨a1, c1, rfl, rfl⟩
      refine ⟨trivial, ?_⟩
      refine SJ_p (rd' := []) [] rfl (want_none rfl) rfl (Op_append (T := RefT) (news := [p]) rfl rfl (by first | ((repeat (first | with_reducible exact .here | apply Pick.there)); done) | ((repeat (first | exact .here | apply Pick.there)); done)) rfl rfl (Reads_pt (by first | ((repeat (first | with_reducible exact .here | apply Pick.there)); done) | ((repeat (first | exact .here | apply Pick.there)); done)) (fun j u h => by simpa [Ty.flat, RefT, RefEnc] using h)) Try.underlying27 sz36 zr36 (by rfl) by36 (by simp [RefT]; omega) (by simp [maxLen]; omega)) (by kernel_rfl) rfl ?_
      rintro _ _ ⟨a2, c2, rfl, rfl⟩
      refine ⟨trivial, ?_⟩
      refine SJ_q rfl (want_none rfl) rfl (fun _ _ => Op_nilCheck rfl) ?_
      refine SJ_q rfl (want_none rfl) rfl (fun _ _ => Op_fieldAddr (o' := 0) rfl Try.underlying29 rfl sz27 rfl rfl) ?_
      refine SJ_d0 (rd' := []) [] rfl (want_none rfl) (Op_store (cs' := #[_, _, _]) rfl rfl sz27 (by rfl) (by simp [Value.cells, Value.oneCell']) (by repeat (first | exact .here | apply Repl.there)) rfl (free_zero _ _) (by rfl)) (by kernel_rfl) rfl trivial ?_
      refine SJ_done ?_
      refine NJ_then ?_
      refine CJ_env (E' := [(0, _), (4, _)]) (.cons rfl rfl (.cons rfl rfl .nil)) ?_
      refine CJ_seq ?_
      refine CJ_region ?_
      refine RJ_q (Op_move rfl) rfl ?_
      refine RJ_q (Op_nilCheck rfl) rfl ?_
      refine RJ_q (Op_fieldAddr (o' := 2) rfl Try.underlying29 rfl sz2 rfl rfl) rfl ?_
      refine RJ_q (Op_load rfl (load_cell Try.underlying2 rfl (by first | ((repeat (first | with_reducible exact .here | apply Pick.there)); done) | ((repeat (first | exact .here | apply Pick.there)); done)) (Nth.s (Nth.s Nth.z)))) rfl ?_
      refine RJ_q (Op_add64 rfl rfl (by omega)) rfl ?_
      refine RJ_q (Op_nilCheck rfl) rfl ?_
      refine RJ_q (Op_fieldAddr (o' := 2) rfl Try.underlying29 rfl sz2 rfl rfl) rfl ?_
      refine RJ_d0 (Op_store (cs' := #[_, _, _]) rfl rfl sz2 (by rfl) (by simp [Value.cells, Value.oneCell']) (by repeat (first | exact .here | apply Repl.there)) rfl (free_zero _ _) (by rfl)) ?_
      refine RJ_nil ?_
      refine NJ_then ?_
      refine CJ_env (E' := [(4, _)]) (.cons rfl rfl .nil) ?_
      refine CJ_seq ?_
      refine CJ_region ?_
      refine RJ_q (Op_assign rfl) rfl ?_
      refine RJ_nil ?_
      refine NJ_then ?_
      refine CJ_env (E' := [(4, _)]) (.cons rfl rfl .nil) ?_
      refine CJ_ret ?_
      refine NJ_ret (.inl rfl) Try.results7 (ResJ_tmp rfl ResJ_nil) (C := [RefP g room (ps ++ [p]) (sent + 1)]) ⟨by simp [packRes]; omega, by rw [if_pos (by omega)]⟩ (.swap (C := [pt g (.cells #[.slice (sl a2) (ps ++ [p]).length c2, .int .i64 room, .int .i64 (sent + 1)] 29 (0, 0)), Row RefT a2 c2 (ps ++ [p])]) (.cons (by first | ((repeat (first | with_reducible exact .here | apply Pick.there)); done) | ((repeat (first | exact .here | apply Pick.there)); done)) (.cons (by first | ((repeat (first | with_reducible exact .here | apply Pick.there)); done) | ((repeat (first | exact .here | apply Pick.there)); done)) (Imp.refl _))) (RefP_close rfl) (.cons (by first | ((repeat (first | with_reducible exact .here | apply Pick.there)); done) | ((repeat (first | exact .here | apply Pick.there)); done)) (by repeat (first | exact Imp.refl _ | refine Imp.skip ?_))))

set_option maxRecDepth 20000 in
theorem RHas_any (g : Nat) (room : Int) (ps : List Pkt) (sent : Int) (i : Int) : Spec Try.prog 9 #[.pointer (some ⟨g, 0, none⟩), .int .i64 i] [RefP g room ps sent] (fun v C => v = .bool (decide (0 ≤ i ∧ i < ps.length)) ∧ C = [RefP g room ps sent]) := by
  refine Spec_intro (n := 16) (args := [.pointer (some ⟨g, 0, none⟩), .int .i64 i]) Try.func9 rfl rfl rfl fun s R => ?_
  refine CJ_app1 ?_
  refine CJ_env (E' := [(0, _), (1, _)]) (.cons rfl rfl (.cons rfl rfl .nil)) ?_
  refine CJ_open (RefP_opens _ _ _ _) (by first | ((repeat (first | with_reducible exact .here | apply Pick.there)); done) | ((repeat (first | exact .here | apply Pick.there)); done)) ?_
  rintro _ ⟨a, cap, rfl⟩
  refine CJ_app2 ?_
  refine CJ_seq ?_
  refine CJ_region ?_
  refine RJ_q (Op_assign rfl) rfl ?_
  refine RJ_nil ?_
  refine NJ_then ?_
  refine CJ_env (E' := [(0, _), (1, _), (4, _)]) (.cons rfl rfl (.cons rfl rfl (.cons rfl rfl .nil))) ?_
  refine CJ_seq ?_
  refine CJ_region ?_
  refine RJ_q (Op_move rfl) rfl ?_
  refine RJ_q (Op_geq rfl rfl) rfl ?_
  by_cases h0 : 0 ≤ i
  · skip
    refine RJ_q (Op_move rfl) rfl ?_
    refine RJ_yes (t := 7) rfl rfl (decide_eq_true h0) ?_
    refine RJ_q (Op_move rfl) rfl ?_
    refine RJ_yes (t := 7) rfl rfl (decide_eq_true h0) ?_
    refine RJ_q (Op_move rfl) rfl ?_
    refine RJ_yes (t := 7) rfl rfl (decide_eq_true h0) ?_
    refine RJ_q (Op_nilCheck rfl) rfl ?_
    refine RJ_yes (t := 7) rfl rfl (decide_eq_true h0) ?_
    refine RJ_q (Op_fieldAddr (o' := 0) rfl Try.underlying29 rfl sz27 rfl rfl) rfl ?_
    refine RJ_yes (t := 7) rfl rfl (decide_eq_true h0) ?_
    refine RJ_q (Op_load rfl (load_cell Try.underlying27 rfl (by first | ((repeat (first | with_reducible exact .here | apply Pick.there)); done) | ((repeat (first | exact .here | apply Pick.there)); done)) Nth.z)) rfl ?_
    refine RJ_yes (t := 7) rfl rfl (decide_eq_true h0) ?_
    refine RJ_q (Op_len_slice rfl Try.underlying27) rfl ?_
    refine RJ_yes (t := 7) rfl rfl (decide_eq_true h0) ?_
    refine RJ_q (Op_lss rfl rfl) rfl ?_
    refine RJ_q (Op_pick_t rfl (decide_eq_true h0) rfl) rfl ?_
    refine RJ_q (Op_assign rfl) rfl ?_
    refine RJ_nil ?_
    refine NJ_then ?_
    refine CJ_env (E' := [(4, _)]) (.cons rfl rfl .nil) ?_
    refine CJ_ret ?_
    refine NJ_ret (.inl rfl) Try.results9 (ResJ_tmp rfl ResJ_nil) (C := [RefP g room ps sent]) ⟨by simp [packRes, h0], rfl⟩ (.swap (C := [pt g (.cells #[.slice (sl a) (ps).length cap, .int .i64 room, .int .i64 (sent)] 29 (0, 0)), Row RefT a cap (ps)]) (.cons (by first | ((repeat (first | with_reducible exact .here | apply Pick.there)); done) | ((repeat (first | exact .here | apply Pick.there)); done)) (.cons (by first | ((repeat (first | with_reducible exact .here | apply Pick.there)); done) | ((repeat (first | exact .here | apply Pick.there)); done)) (Imp.refl _))) (RefP_close rfl) (.cons (by first | ((repeat (first | with_reducible exact .here | apply Pick.there)); done) | ((repeat (first | exact .here | apply Pick.there)); done)) (by repeat (first | exact Imp.refl _ | refine Imp.skip ?_))))
  · skip
    refine RJ_q (Op_move rfl) rfl ?_
    refine RJ_no (t := 7) false rfl rfl (decide_eq_false h0) (by decide) rfl ?_
    refine RJ_no (t := 7) false rfl rfl (decide_eq_false h0) (by decide) rfl ?_
    refine RJ_no (t := 7) false rfl rfl (decide_eq_false h0) (by decide) rfl ?_
    refine RJ_no (t := 7) false rfl rfl (decide_eq_false h0) (by decide) rfl ?_
    refine RJ_no (t := 7) false rfl rfl (decide_eq_false h0) (by decide) rfl ?_
    refine RJ_no (t := 7) false rfl rfl (decide_eq_false h0) (by decide) rfl ?_
    refine RJ_no (t := 7) false rfl rfl (decide_eq_false h0) (by decide) rfl ?_
    refine RJ_q (Op_pick_f rfl (decide_eq_false h0) rfl) rfl ?_
    refine RJ_q (Op_assign rfl) rfl ?_
    refine RJ_nil ?_
    refine NJ_then ?_
    refine CJ_env (E' := [(4, _)]) (.cons rfl rfl .nil) ?_
    refine CJ_ret ?_
    refine NJ_ret (.inl rfl) Try.results9 (ResJ_tmp rfl ResJ_nil) (C := [RefP g room ps sent]) ⟨by simp [packRes, h0], rfl⟩ (.swap (C := [pt g (.cells #[.slice (sl a) (ps).length cap, .int .i64 room, .int .i64 (sent)] 29 (0, 0)), Row RefT a cap (ps)]) (.cons (by first | ((repeat (first | with_reducible exact .here | apply Pick.there)); done) | ((repeat (first | exact .here | apply Pick.there)); done)) (.cons (by first | ((repeat (first | with_reducible exact .here | apply Pick.there)); done) | ((repeat (first | exact .here | apply Pick.there)); done)) (Imp.refl _))) (RefP_close rfl) (.cons (by first | ((repeat (first | with_reducible exact .here | apply Pick.there)); done) | ((repeat (first | exact .here | apply Pick.there)); done)) (by repeat (first | exact Imp.refl _ | refine Imp.skip ?_))))

set_option maxRecDepth 20000 in
theorem RTake_no (g : Nat) (room : Int) (ps : List Pkt) (sent : Int) (i : Int) (h : i < 0 ∨ (ps.length : Int) ≤ i) : Spec Try.prog 12 #[.pointer (some ⟨g, 0, none⟩), .int .i64 i] [RefP g room ps sent] (fun v C => v = .tuple #[.agg #[.int .i64 0, .int .i64 0, .string ⟨#[]⟩, .bool false], .bool false] ∧ C = [RefP g room ps sent]) := by
  refine Spec_intro (n := 41) (args := [.pointer (some ⟨g, 0, none⟩), .int .i64 i]) Try.func12 rfl rfl rfl fun s R => ?_
  refine CJ_app1 ?_
  refine CJ_env (E' := [(0, _), (1, _)]) (.cons rfl rfl (.cons rfl rfl .nil)) ?_
  refine CJ_seq ?_
  refine CJ_region ?_
  refine RJ_p rfl (Op_alloc zr36) ?_
  rintro _ _ ⟨b4, rfl, rfl⟩
  refine RJ_q (Op_assign rfl) rfl ?_
  refine RJ_nil ?_
  refine NJ_then ?_
  refine CJ_env (E' := [(0, _), (1, _), (4, _), (5, _)]) (.cons rfl rfl (.cons rfl rfl (.cons rfl rfl (.cons rfl rfl .nil)))) ?_
  refine CJ_seq ?_
  refine CJ_seq ?_
  refine CJ_region ?_
  refine RJ_q (Op_move rfl) rfl ?_
  refine RJ_q (Op_move rfl) rfl ?_
  refine RJ_p rfl (Op_call (vs := [_, _]) Try.func9 rfl rfl (RHas_any _ _ _ _ _) rfl (.cons (by first | ((repeat (first | with_reducible exact .here | apply Pick.there)); done) | ((repeat (first | exact .here | apply Pick.there)); done)) (Imp.refl _))) ?_
  rintro _ _ ⟨_, ⟨rfl, rfl⟩, rfl⟩
  refine RJ_app1 ?_
  refine RJ_q (Op_not rfl) rfl ?_
  refine RJ_nil ?_
  refine NJ_then ?_
  refine CJ_env (E' := [(0, _), (1, _), (4, _), (5, _), (11, _)]) (.cons rfl rfl (.cons rfl rfl (.cons rfl rfl (.cons rfl rfl (.cons rfl rfl .nil))))) ?_
  refine CJ_then rfl (by rw [decide_eq_false (by omega)]; rfl) ?_
  refine CJ_seq ?_
  refine CJ_region ?_
  refine RJ_q (Op_build (vs := []) (cells := [_, _, _, _]) Try.underlying36 zr36 rfl pl36 (by rfl)) rfl ?_
  refine RJ_d0 (Op_store (cs' := #[_, _, _, _]) rfl rfl sz36 (by rfl) (by simp [Value.cells, Value.oneCell']) (by repeat (first | exact .here | apply Repl.there)) rfl (free_zero _ _) (by rfl)) ?_
  refine RJ_q (Op_assign rfl) rfl ?_
  refine RJ_nil ?_
  refine NJ_then ?_
  refine CJ_env (E' := [(0, _), (1, _), (4, _), (5, _)]) (.cons rfl rfl (.cons rfl rfl (.cons rfl rfl (.cons rfl rfl .nil)))) ?_
  refine CJ_ret ?_
  refine NJ_then_r ?_
  refine NJ_ret (.inl rfl) Try.results12 (ResJ_cell rfl (load_struct (o := 0) (vs := [_, _, _, _]) Try.underlying36 sz36 (by first | ((repeat (first | with_reducible exact .here | apply Pick.there)); done) | ((repeat (first | exact .here | apply Pick.there)); done)) (by rfl) rfl) (ResJ_tmp rfl ResJ_nil)) ⟨rfl, rfl⟩ (.cons (by first | ((repeat (first | with_reducible exact .here | apply Pick.there)); done) | ((repeat (first | exact .here | apply Pick.there)); done)) (by repeat (first | exact Imp.refl _ | refine Imp.skip ?_)))

set_option maxRecDepth 20000 in
theorem RTake_yes (g : Nat) (room : Int) (ps : List Pkt) (sent : Int) (k : Nat) (p : Pkt) (hk : ps[k]? = some p) (hp : ps.length ≤ 100000) : Spec Try.prog 12 #[.pointer (some ⟨g, 0, none⟩), .int .i64 k] [RefP g room ps sent] (fun v C => v = .tuple #[.agg #[.int .i64 p.f, .int .i64 p.t, .string ⟨p.bs.toArray⟩, .bool p.turned], .bool true] ∧ C = [RefP g room (ps.eraseIdx k) sent]) := by
  have hlt : k < ps.length := (List.getElem?_eq_some_iff.1 hk).1
  refine Spec_intro (n := 41) (args := [.pointer (some ⟨g, 0, none⟩), .int .i64 k]) Try.func12 rfl rfl rfl fun s R => ?_
  refine CJ_app1 ?_
  refine CJ_env (E' := [(0, _), (1, _)]) (.cons rfl rfl (.cons rfl rfl .nil)) ?_
  refine CJ_seq ?_
  refine CJ_region ?_
  refine RJ_p rfl (Op_alloc zr36) ?_
  rintro _ _ ⟨b4, rfl, rfl⟩
  refine RJ_q (Op_assign rfl) rfl ?_
  refine RJ_nil ?_
  refine NJ_then ?_
  refine CJ_env (E' := [(0, _), (1, _), (4, _), (5, _)]) (.cons rfl rfl (.cons rfl rfl (.cons rfl rfl (.cons rfl rfl .nil)))) ?_
  refine CJ_seq ?_
  refine CJ_seq ?_
  refine CJ_region ?_
  refine RJ_q (Op_move rfl) rfl ?_
  refine RJ_q (Op_move rfl) rfl ?_
  refine RJ_p rfl (Op_call (vs := [_, _]) Try.func9 rfl rfl (RHas_any _ _ _ _ _) rfl (.cons (by first | ((repeat (first | with_reducible exact .here | apply Pick.there)); done) | ((repeat (first | exact .here | apply Pick.there)); done)) (Imp.refl _))) ?_
  rintro _ _ ⟨_, ⟨rfl, rfl⟩, rfl⟩
  refine RJ_app1 ?_
  refine RJ_q (Op_not rfl) rfl ?_
  refine RJ_nil ?_
  refine NJ_then ?_
  refine CJ_env (E' := [(0, _), (1, _), (4, _), (5, _), (11, _)]) (.cons rfl rfl (.cons rfl rfl (.cons rfl rfl (.cons rfl rfl (.cons rfl rfl .nil))))) ?_
  refine CJ_else rfl (by rw [decide_eq_true (by omega)]; rfl) ?_
  refine CJ_skip ?_
  refine NJ_then ?_
  refine CJ_env (E' := [(0, _), (1, _), (4, _), (5, _)]) (.cons rfl rfl (.cons rfl rfl (.cons rfl rfl (.cons rfl rfl .nil)))) ?_
  refine CJ_seq ?_
  refine CJ_open (RefP_opens _ _ _ _) (by first | ((repeat (first | with_reducible exact .here | apply Pick.there)); done) | ((repeat (first | exact .here | apply Pick.there)); done)) ?_
  rintro _ ⟨a, cap, rfl⟩
  refine CJ_app2 ?_
  refine CJ_know (Row_know (T := RefT) (by first | ((repeat (first | with_reducible exact .here | apply Pick.there)); done) | ((repeat (first | exact .here | apply Pick.there)); done))) ?_
  intro hkn
  obtain ⟨ga, rfl⟩ : ∃ ga, a = some ga := by
    cases a with
    | none => obtain ⟨_, rfl⟩ := hkn.2.2 rfl; simp at hk
    | some ga => exact ⟨ga, rfl⟩
  refine CJ_region ?_
  refine RJ_q (Op_move rfl) rfl ?_
  refine RJ_q (Op_nilCheck rfl) rfl ?_
  refine RJ_q (Op_fieldAddr (o' := 0) rfl Try.underlying29 rfl sz27 rfl rfl) rfl ?_
  refine RJ_q (Op_load rfl (load_cell Try.underlying27 rfl (by first | ((repeat (first | with_reducible exact .here | apply Pick.there)); done) | ((repeat (first | exact .here | apply Pick.there)); done)) Nth.z)) rfl ?_
  refine RJ_q (Op_move rfl) rfl ?_
  refine RJ_q (Op_indexAddr (o' := k * RefT.sz + 0) rfl rfl Try.underlying27 sz36 (by omega) (by omega) (by simp [RefT])) rfl ?_
  refine RJ_q (Op_load rfl (load_row (o := 0) (vs := [_, _, _, _]) Try.underlying36 sz36 (by first | ((repeat (first | with_reducible exact .here | apply Pick.there)); done) | ((repeat (first | exact .here | apply Pick.there)); done)) hk rfl (by rfl))) rfl ?_
  refine RJ_p rfl (Op_alloc zr36) ?_
  rintro _ _ ⟨b6, rfl, rfl⟩
  refine RJ_d0 (Op_store (cs' := #[_, _, _, _]) rfl rfl sz36 (by rfl) (by simp [Value.cells, Value.oneCell']) (by repeat (first | exact .here | apply Repl.there)) rfl (free_zero _ _) (by rfl)) ?_
  refine RJ_nil ?_
  refine NJ_then ?_
  refine CJ_env (E' := [(0, _), (1, _), (4, _), (5, _), (6, _)]) (.cons rfl rfl (.cons rfl rfl (.cons rfl rfl (.cons rfl rfl (.cons rfl rfl .nil))))) ?_
  refine CJ_seq ?_
  refine CJ_region ?_
  refine RJ_p rfl (Op_buildSlice0 (T := RefT) Try.underlying27 sz36) ?_
  rintro _ _ ⟨g20, rfl, rfl⟩
  refine RJ_q (Op_move rfl) rfl ?_
  refine RJ_q (Op_nilCheck rfl) rfl ?_
  refine RJ_q (Op_fieldAddr (o' := 0) rfl Try.underlying29 rfl sz27 rfl rfl) rfl ?_
  refine RJ_q (Op_load rfl (load_cell Try.underlying27 rfl (by first | ((repeat (first | with_reducible exact .here | apply Pick.there)); done) | ((repeat (first | exact .here | apply Pick.there)); done)) Nth.z)) rfl ?_
  refine RJ_q (Op_move rfl) rfl ?_
  refine RJ_q (Op_sliceN_hi rfl rfl Try.underlying27 sz36 (by omega)) rfl ?_
  refine RJ_p rfl (Op_append (T := RefT) (news := ps.take k) rfl rfl .here rfl (by simp; omega) (Reads_take (T := RefT) (xs := ps) k (by first | ((repeat (first | with_reducible exact .here | apply Pick.there)); done) | ((repeat (first | exact .here | apply Pick.there)); done))) Try.underlying27 sz36 zr36 (by rfl) by36 (by simp [RefT]; omega) (by simp [maxLen]; omega)) ?_
  rintro _ _ ⟨a1, c1, rfl, rfl⟩
  refine RJ_q (Op_assign rfl) rfl ?_
  refine RJ_nil ?_
  refine NJ_then ?_
  refine CJ_env (E' := [(0, _), (1, _), (4, _), (5, _), (6, _), (7, _)]) (.cons rfl rfl (.cons rfl rfl (.cons rfl rfl (.cons rfl rfl (.cons rfl rfl (.cons rfl rfl .nil)))))) ?_
  refine CJ_seq ?_
  refine CJ_region ?_
  refine RJ_q (Op_move rfl) rfl ?_
  refine RJ_q (Op_move rfl) rfl ?_
  refine RJ_q (Op_move rfl) rfl ?_
  refine RJ_q (Op_nilCheck rfl) rfl ?_
  refine RJ_q (Op_fieldAddr (o' := 0) rfl Try.underlying29 rfl sz27 rfl rfl) rfl ?_
  refine RJ_q (Op_load rfl (load_cell Try.underlying27 rfl (by first | ((repeat (first | with_reducible exact .here | apply Pick.there)); done) | ((repeat (first | exact .here | apply Pick.there)); done)) Nth.z)) rfl ?_
  refine RJ_q (Op_move rfl) rfl ?_
  refine RJ_q (Op_addN (k + 1) rfl rfl (by omega) (by omega)) rfl ?_
  refine RJ_q (Op_sliceN_lo rfl rfl Try.underlying27 sz36 (by omega)) rfl ?_
  refine RJ_p rfl (Op_append (T := RefT) (news := ps.drop (k + 1)) rfl rfl .here rfl (by simp) (Reads_low (T := RefT) (xs := ps) (by first | ((repeat (first | with_reducible exact .here | apply Pick.there)); done) | ((repeat (first | exact .here | apply Pick.there)); done)) (by omega) rfl) Try.underlying27 sz36 zr36 (by rfl) by36 (by simp [RefT]; omega) (by simp [maxLen]; omega)) ?_
  rintro _ _ ⟨a2, c2, rfl, rfl⟩
  refine RJ_q (Op_nilCheck rfl) rfl ?_
  refine RJ_q (Op_fieldAddr (o' := 0) rfl Try.underlying29 rfl sz27 rfl rfl) rfl ?_
  refine RJ_d0 (Op_store (cs' := #[_, _, _]) rfl rfl sz27 (by rfl) (by simp [Value.cells, Value.oneCell']) (by repeat (first | exact .here | apply Repl.there)) rfl (free_zero _ _) (by rfl)) ?_
  refine RJ_nil ?_
  refine NJ_then ?_
  refine CJ_env (E' := [(4, _), (5, _), (6, _)]) (.cons rfl rfl (.cons rfl rfl (.cons rfl rfl .nil))) ?_
  refine CJ_seq ?_
  refine CJ_region ?_
  refine RJ_q (Op_load rfl (load_struct (o := 0) (vs := [_, _, _, _]) Try.underlying36 sz36 (by first | ((repeat (first | with_reducible exact .here | apply Pick.there)); done) | ((repeat (first | exact .here | apply Pick.there)); done)) (by rfl) rfl)) rfl ?_
  refine RJ_d0 (Op_store (cs' := #[_, _, _, _]) rfl rfl sz36 (by rfl) (by simp [Value.cells, Value.oneCell']) (by repeat (first | exact .here | apply Repl.there)) rfl (free_zero _ _) (by rfl)) ?_
  refine RJ_q (Op_assign rfl) rfl ?_
  refine RJ_nil ?_
  refine NJ_then ?_
  refine CJ_env (E' := [(4, _), (5, _)]) (.cons rfl rfl (.cons rfl rfl .nil)) ?_
  refine CJ_ret ?_
  refine NJ_ret (.inl rfl) Try.results12 (ResJ_cell rfl (load_struct (o := 0) (vs := [_, _, _, _]) Try.underlying36 sz36 (by first | ((repeat (first | with_reducible exact .here | apply Pick.there)); done) | ((repeat (first | exact .here | apply Pick.there)); done)) (by rfl) rfl) (ResJ_tmp rfl ResJ_nil)) (C := [RefP g room (ps.take k ++ ps.drop (k + 1)) sent]) ⟨rfl, by rw [List.eraseIdx_eq_take_drop_succ]⟩ (.swap (C := [pt g (.cells #[.slice (sl a2) (ps.take k ++ ps.drop (k + 1)).length c2, .int .i64 room, .int .i64 (sent)] 29 (0, 0)), Row RefT a2 c2 (ps.take k ++ ps.drop (k + 1))]) (.cons (by first | ((repeat (first | with_reducible exact .here | apply Pick.there)); done) | ((repeat (first | exact .here | apply Pick.there)); done)) (.cons (by first | ((repeat (first | with_reducible exact .here | apply Pick.there)); done) | ((repeat (first | exact .here | apply Pick.there)); done)) (Imp.refl _))) (RefP_close rfl) (.cons (by first | ((repeat (first | with_reducible exact .here | apply Pick.there)); done) | ((repeat (first | exact .here | apply Pick.there)); done)) (by repeat (first | exact Imp.refl _ | refine Imp.skip ?_))))

set_option maxRecDepth 20000 in
theorem RDouble_no (g : Nat) (room : Int) (ps : List Pkt) (sent : Int) (i : Int) (h : i < 0 ∨ (ps.length : Int) ≤ i) : Spec Try.prog 14 #[.pointer (some ⟨g, 0, none⟩), .int .i64 i] [RefP g room ps sent] (fun v C => v = .bool false ∧ C = [RefP g room ps sent]) := by
  refine Spec_intro (n := 39) (args := [.pointer (some ⟨g, 0, none⟩), .int .i64 i]) Try.func14 rfl rfl rfl fun s R => ?_
  refine CJ_app1 ?_
  refine CJ_env (E' := [(0, _), (1, _)]) (.cons rfl rfl (.cons rfl rfl .nil)) ?_
  refine CJ_seq ?_
  refine CJ_region ?_
  refine RJ_q (Op_assign rfl) rfl ?_
  refine RJ_nil ?_
  refine NJ_then ?_
  refine CJ_env (E' := [(0, _), (1, _), (4, _)]) (.cons rfl rfl (.cons rfl rfl (.cons rfl rfl .nil))) ?_
  refine CJ_seq ?_
  refine CJ_seq ?_
  refine CJ_draw (.q 0 (.q 1 (.e 2 (.q 3 (.q 4 (.q 5 (.q 6 (.q 7 (.q 8 (.q 9 (.q 10 (.q 11 (.q 12 (.q 13 (.q 14 (.q 15 .done)))))))))))))))) (by kernel_rfl) (by kernel_rfl) (by kernel_rfl) ?_
  refine SJ_q rfl (want_none rfl) rfl (fun _ _ => Op_move rfl) ?_
  refine SJ_q rfl (want_none rfl) rfl (fun _ _ => Op_move rfl) ?_
  refine SJ_p (rd' := []) [] rfl (want_none rfl) rfl (Op_call (vs := [_, _]) Try.func9 rfl rfl (RHas_any _ _ _ _ _) rfl (.cons (by first | ((repeat (first | with_reducible exact .here | apply Pick.there)); done) | ((repeat (first | exact .here | apply Pick.there)); done)) (Imp.refl _))) (by kernel_rfl) rfl ?_
  rintro _ _ ⟨_, ⟨rfl, rfl⟩, rfl⟩
  refine OS_app1 ?_
  refine ⟨trivial, ?_⟩
  refine SJ_q rfl (want_none rfl) rfl (fun _ _ => Op_not rfl) ?_
  refine SJ_q rfl (want_none rfl) rfl (fun _ _ => Op_move rfl) ?_
  refine SJ_no (t := 9) true rfl rfl rfl (by rw [decide_eq_false (by omega)]; rfl) (by decide) rfl ?_
  refine SJ_no (t := 9) true rfl rfl rfl (by rw [decide_eq_false (by omega)]; rfl) (by decide) rfl ?_
  refine SJ_no (t := 9) true rfl rfl rfl (by rw [decide_eq_false (by omega)]; rfl) (by decide) rfl ?_
  refine SJ_no (t := 9) true rfl rfl rfl (by rw [decide_eq_false (by omega)]; rfl) (by decide) rfl ?_
  refine SJ_no (t := 9) true rfl rfl rfl (by rw [decide_eq_false (by omega)]; rfl) (by decide) rfl ?_
  refine SJ_no (t := 9) true rfl rfl rfl (by rw [decide_eq_false (by omega)]; rfl) (by decide) rfl ?_
  refine SJ_no (t := 9) true rfl rfl rfl (by rw [decide_eq_false (by omega)]; rfl) (by decide) rfl ?_
  refine SJ_no (t := 9) true rfl rfl rfl (by rw [decide_eq_false (by omega)]; rfl) (by decide) rfl ?_
  refine SJ_no (t := 9) true rfl rfl rfl (by rw [decide_eq_false (by omega)]; rfl) (by decide) rfl ?_
  refine SJ_no (t := 9) true rfl rfl rfl (by rw [decide_eq_false (by omega)]; rfl) (by decide) rfl ?_
  refine SJ_q rfl (want_none rfl) rfl (fun _ _ => Op_pick_t rfl (by rw [decide_eq_false (by omega)]; rfl) rfl) ?_
  refine SJ_done ?_
  refine NJ_then ?_
  refine CJ_env (E' := [(0, _), (1, _), (4, _), (20, _)]) (.cons rfl rfl (.cons rfl rfl (.cons rfl rfl (.cons rfl rfl .nil)))) ?_
  refine CJ_then rfl rfl ?_
  refine CJ_seq ?_
  refine CJ_region ?_
  refine RJ_q (Op_assign rfl) rfl ?_
  refine RJ_nil ?_
  refine NJ_then ?_
  refine CJ_env (E' := [(0, _), (1, _), (4, _)]) (.cons rfl rfl (.cons rfl rfl (.cons rfl rfl .nil))) ?_
  refine CJ_ret ?_
  refine NJ_then_r ?_
  refine NJ_ret (.inl rfl) Try.results14 (ResJ_tmp rfl ResJ_nil) ⟨rfl, rfl⟩ (.cons (by first | ((repeat (first | with_reducible exact .here | apply Pick.there)); done) | ((repeat (first | exact .here | apply Pick.there)); done)) (by repeat (first | exact Imp.refl _ | refine Imp.skip ?_)))

set_option maxRecDepth 20000 in
theorem RDouble_yes (g : Nat) (room : Int) (ps : List Pkt) (sent : Int) (k : Nat) (p : Pkt) (hk : ps[k]? = some p) (hp : ps.length ≤ 100000) : Spec Try.prog 14 #[.pointer (some ⟨g, 0, none⟩), .int .i64 k] [RefP g room ps sent] (fun v C => v = .bool (decide ((ps.length : Int) < room)) ∧ C = [if (ps.length : Int) < room then RefP g room (ps ++ [p]) sent else RefP g room ps sent]) := by
  have hlt : k < ps.length := (List.getElem?_eq_some_iff.1 hk).1
  refine Spec_intro (n := 39) (args := [.pointer (some ⟨g, 0, none⟩), .int .i64 k]) Try.func14 rfl rfl rfl fun s R => ?_
  refine CJ_app1 ?_
  refine CJ_env (E' := [(0, _), (1, _)]) (.cons rfl rfl (.cons rfl rfl .nil)) ?_
  refine CJ_seq ?_
  refine CJ_region ?_
  refine RJ_q (Op_assign rfl) rfl ?_
  refine RJ_nil ?_
  refine NJ_then ?_
  refine CJ_env (E' := [(0, _), (1, _), (4, _)]) (.cons rfl rfl (.cons rfl rfl (.cons rfl rfl .nil))) ?_
  refine CJ_seq ?_
  refine CJ_seq ?_
  refine CJ_draw (.q 0 (.q 1 (.e 2 (.q 3 (.q 4 (.q 5 (.q 6 (.q 7 (.q 8 (.q 9 (.q 10 (.q 11 (.q 12 (.q 13 (.q 14 (.q 15 .done)))))))))))))))) (by kernel_rfl) (by kernel_rfl) (by kernel_rfl) ?_
  refine SJ_q rfl (want_none rfl) rfl (fun _ _ => Op_move rfl) ?_
  refine SJ_q rfl (want_none rfl) rfl (fun _ _ => Op_move rfl) ?_
  refine SJ_p (rd' := []) [] rfl (want_none rfl) rfl (Op_call (vs := [_, _]) Try.func9 rfl rfl (RHas_any _ _ _ _ _) rfl (.cons (by first | ((repeat (first | with_reducible exact .here | apply Pick.there)); done) | ((repeat (first | exact .here | apply Pick.there)); done)) (Imp.refl _))) (by kernel_rfl) rfl ?_
  rintro _ _ ⟨_, ⟨rfl, rfl⟩, rfl⟩
  refine OS_app1 ?_
  refine ⟨trivial, ?_⟩
  refine SJ_q rfl (want_none rfl) rfl (fun _ _ => Op_not rfl) ?_
  refine SJ_q rfl (want_none rfl) rfl (fun _ _ => Op_move rfl) ?_
  refine SJ_open (RefP_opens _ _ _ _) (by first | ((repeat (first | with_reducible exact .here | apply Pick.there)); done) | ((repeat (first | exact .here | apply Pick.there)); done)) ?_
  rintro _ ⟨a, cap, rfl⟩
  refine SJ_app2 ?_
  refine SJ_know (Row_know (T := RefT) (by first | ((repeat (first | with_reducible exact .here | apply Pick.there)); done) | ((repeat (first | exact .here | apply Pick.there)); done))) ?_
  intro hkn
  obtain ⟨ga, rfl⟩ : ∃ ga, a = some ga := by
    cases a with
    | none => obtain ⟨_, rfl⟩ := hkn.2.2 rfl; simp at hk
    | some ga => exact ⟨ga, rfl⟩
  refine SJ_q rfl (want_yes (t := 9) rfl rfl rfl (by rw [decide_eq_true (by omega)]; rfl)) rfl (fun _ _ => Op_move rfl) ?_
  refine SJ_q rfl (want_yes (t := 9) rfl rfl rfl (by rw [decide_eq_true (by omega)]; rfl)) rfl (fun _ _ => Op_nilCheck rfl) ?_
  refine SJ_q rfl (want_yes (t := 9) rfl rfl rfl (by rw [decide_eq_true (by omega)]; rfl)) rfl (fun _ _ => Op_fieldAddr (o' := 0) rfl Try.underlying29 rfl sz27 rfl rfl) ?_
  refine SJ_load rfl (want_yes (t := 9) rfl rfl rfl (by rw [decide_eq_true (by omega)]; rfl)) rfl rfl (load_cell Try.underlying27 rfl (by first | ((repeat (first | with_reducible exact .here | apply Pick.there)); done) | ((repeat (first | exact .here | apply Pick.there)); done)) Nth.z) ?_
  refine SJ_q rfl (want_yes (t := 9) rfl rfl rfl (by rw [decide_eq_true (by omega)]; rfl)) rfl (fun _ _ => Op_len_slice rfl Try.underlying27) ?_
  refine SJ_q rfl (want_yes (t := 9) rfl rfl rfl (by rw [decide_eq_true (by omega)]; rfl)) rfl (fun _ _ => Op_move rfl) ?_
  refine SJ_q rfl (want_yes (t := 9) rfl rfl rfl (by rw [decide_eq_true (by omega)]; rfl)) rfl (fun _ _ => Op_nilCheck rfl) ?_
  refine SJ_q rfl (want_yes (t := 9) rfl rfl rfl (by rw [decide_eq_true (by omega)]; rfl)) rfl (fun _ _ => Op_fieldAddr (o' := 1) rfl Try.underlying29 rfl sz3 rfl rfl) ?_
  refine SJ_load rfl (want_yes (t := 9) rfl rfl rfl (by rw [decide_eq_true (by omega)]; rfl)) rfl rfl (load_cell Try.underlying3 rfl (by first | ((repeat (first | with_reducible exact .here | apply Pick.there)); done) | ((repeat (first | exact .here | apply Pick.there)); done)) (Nth.s Nth.z)) ?_
  refine SJ_q rfl (want_yes (t := 9) rfl rfl rfl (by rw [decide_eq_true (by omega)]; rfl)) rfl (fun _ _ => Op_geq rfl rfl) ?_
  refine SJ_q rfl (want_none rfl) rfl (fun _ _ => Op_pick_f rfl (by rw [decide_eq_true (by omega)]; rfl) rfl) ?_
  refine SJ_done ?_
  refine NJ_then ?_
  refine CJ_env (E' := [(0, _), (1, _), (4, _), (20, _)]) (.cons rfl rfl (.cons rfl rfl (.cons rfl rfl (.cons rfl rfl .nil)))) ?_
  refine CJ_cond rfl ?_ ?_
  · intro hc1
    try simp only [decide_eq_true_eq, decide_eq_false_iff_not, Bool.not_eq_true', Bool.not_eq_false'] at hc1
    refine CJ_seq ?_
    refine CJ_region ?_
    refine RJ_q (Op_assign rfl) rfl ?_
    refine RJ_nil ?_
    refine NJ_then ?_
    refine CJ_env (E' := [(0, _), (1, _), (4, _)]) (.cons rfl rfl (.cons rfl rfl (.cons rfl rfl .nil))) ?_
    refine CJ_ret ?_
    refine NJ_then_r ?_
    refine NJ_ret (.inl rfl) Try.results14 (ResJ_tmp rfl ResJ_nil) (C := [RefP g room ps sent]) ⟨by simp [packRes]; omega, by rw [if_neg (by omega)]⟩ (.swap (C := [pt g (.cells #[.slice (sl (some ga)) (ps).length cap, .int .i64 room, .int .i64 (sent)] 29 (0, 0)), Row RefT (some ga) cap (ps)]) (.cons (by first | ((repeat (first | with_reducible exact .here | apply Pick.there)); done) | ((repeat (first | exact .here | apply Pick.there)); done)) (.cons (by first | ((repeat (first | with_reducible exact .here | apply Pick.there)); done) | ((repeat (first | exact .here | apply Pick.there)); done)) (Imp.refl _))) (RefP_close rfl) (.cons (by first | ((repeat (first | with_reducible exact .here | apply Pick.there)); done) | ((repeat (first | exact .here | apply Pick.there)); done)) (by repeat (first | exact Imp.refl _ | refine Imp.skip ?_))))
  · intro hc1
    try simp only [decide_eq_true_eq, decide_eq_false_iff_not, Bool.not_eq_true', Bool.not_eq_false'] at hc1
    refine CJ_skip ?_
    refine NJ_then ?_
    refine CJ_env (E' := [(0, _), (1, _), (4, _)]) (.cons rfl rfl (.cons rfl rfl (.cons rfl rfl .nil))) ?_
    refine CJ_seq ?_
    refine CJ_draw (.q 0 (.q 2 (.q 3 (.q 4 (.q 5 (.q 7 (.q 8 (.q 9 (.q 10 (.q 11 (.q 12 (.q 13 (.br 1 (.br 6 (.e 14 (.e 15 (.q 16 (.q 17 (.e 18 .done))))) (.e 14 (.e 6 (.e 15 (.q 16 (.q 17 (.e 18 .done))))))) (.e 14 (.e 1 (.e 6 (.e 15 (.q 16 (.q 17 (.e 18 .done)))))))))))))))))))) (by kernel_rfl) (by kernel_rfl) (by kernel_rfl) ?_
    refine SJ_q rfl (want_none rfl) rfl (fun _ _ => Op_move rfl) ?_
    refine SJ_q rfl (want_none rfl) rfl (fun _ _ => Op_move rfl) ?_
    refine SJ_q rfl (want_none rfl) rfl (fun _ _ => Op_nilCheck rfl) ?_
    refine SJ_q rfl (want_none rfl) rfl (fun _ _ => Op_fieldAddr (o' := 0) rfl Try.underlying29 rfl sz27 rfl rfl) ?_
    refine SJ_load rfl (want_none rfl) rfl rfl (load_cell Try.underlying27 rfl (by first | ((repeat (first | with_reducible exact .here | apply Pick.there)); done) | ((repeat (first | exact .here | apply Pick.there)); done)) Nth.z) ?_
    refine SJ_q rfl (want_none rfl) rfl (fun _ _ => Op_move rfl) ?_
    refine SJ_q rfl (want_none rfl) rfl (fun _ _ => Op_nilCheck rfl) ?_
    refine SJ_q rfl (want_none rfl) rfl (fun _ _ => Op_fieldAddr (o' := 0) rfl Try.underlying29 rfl sz27 rfl rfl) ?_
    refine SJ_load rfl (want_none rfl) rfl rfl (load_cell Try.underlying27 rfl (by first | ((repeat (first | with_reducible exact .here | apply Pick.there)); done) | ((repeat (first | exact .here | apply Pick.there)); done)) Nth.z) ?_
    refine SJ_q rfl (want_none rfl) rfl (fun _ _ => Op_move rfl) ?_
    refine SJ_q rfl (want_none rfl) rfl (fun _ _ => Op_indexAddr (o' := k * RefT.sz + 0) rfl rfl Try.underlying27 sz36 (by omega) (by omega) (by simp [RefT])) ?_
    refine SJ_load rfl (want_none rfl) rfl rfl (load_row (o := 0) (vs := [_, _, _, _]) Try.underlying36 sz36 (by first | ((repeat (first | with_reducible exact .here | apply Pick.there)); done) | ((repeat (first | exact .here | apply Pick.there)); done)) hk rfl (by rfl)) ?_
    refine SJ_br ?_ ?_
    · skip
      refine SJ_p (rd' := [⟨13, _, _, _⟩, ⟨10, _, _, _⟩, ⟨5, _, _, _⟩]) [13, 10, 5] rfl (want_none rfl) rfl (Op_buildSlice0 (T := RefT) Try.underlying27 sz36) (by kernel_rfl) rfl ?_
      rintro _ _ ⟨g22, rfl, rfl⟩
      refine ⟨⟨(load_row (o := 0) (vs := [_, _, _, _]) Try.underlying36 sz36 (by first | ((repeat (first | with_reducible exact .here | apply Pick.there)); done) | ((repeat (first | exact .here | apply Pick.there)); done)) hk rfl (by rfl)), ⟨(load_cell Try.underlying27 rfl (by first | ((repeat (first | with_reducible exact .here | apply Pick.there)); done) | ((repeat (first | exact .here | apply Pick.there)); done)) Nth.z), ⟨(load_cell Try.underlying27 rfl (by first | ((repeat (first | with_reducible exact .here | apply Pick.there)); done) | ((repeat (first | exact .here | apply Pick.there)); done)) Nth.z), trivial⟩⟩⟩, ?_⟩
      refine SJ_br ?_ ?_
      · skip
        refine SJ_p (rd' := [⟨13, _, _, _⟩, ⟨10, _, _, _⟩]) [13, 10] rfl (want_none rfl) rfl (Op_append (T := RefT) (news := ps) rfl rfl (by first | exact Pick.here | exact Pick.there .here) rfl rfl (Reads_row (xs := ps) (by first | ((repeat (first | with_reducible exact .here | apply Pick.there)); done) | ((repeat (first | exact .here | apply Pick.there)); done))) Try.underlying27 sz36 zr36 (by rfl) by36 (by simp [RefT]; omega) (by simp [maxLen]; omega)) (by kernel_rfl) rfl ?_
        rintro _ _ ⟨a1, c1, rfl, rfl⟩
        refine ⟨⟨(load_row (o := 0) (vs := [_, _, _, _]) Try.underlying36 sz36 (by first | ((repeat (first | with_reducible exact .here | apply Pick.there)); done) | ((repeat (first | exact .here | apply Pick.there)); done)) hk rfl (by rfl)), ⟨(load_cell Try.underlying27 rfl (by first | ((repeat (first | with_reducible exact .here | apply Pick.there)); done) | ((repeat (first | exact .here | apply Pick.there)); done)) Nth.z), trivial⟩⟩, ?_⟩
        refine SJ_p (rd' := []) [] rfl (want_none rfl) rfl (Op_buildSlice (vs := [_]) (cells := [_, _, _, _]) Try.underlying27 sz36 zr36 rfl rfl rfl rfl (by rfl)) (by kernel_rfl) rfl ?_
        rintro _ _ ⟨g35, rfl, rfl⟩
        refine ⟨trivial, ?_⟩
        refine SJ_p (rd' := []) [] rfl (want_none rfl) rfl (Op_append (T := RefT) (news := [p]) rfl rfl (by first | exact Pick.here | exact Pick.there .here) rfl rfl (Reads_pt (by first | ((repeat (first | with_reducible exact .here | apply Pick.there)); done) | ((repeat (first | exact .here | apply Pick.there)); done)) (fun j u h => by simpa [Ty.flat, RefT, RefEnc] using h)) Try.underlying27 sz36 zr36 (by rfl) by36 (by simp [RefT]; omega) (by simp [maxLen]; omega)) (by kernel_rfl) rfl ?_
        rintro _ _ ⟨a2, c2, rfl, rfl⟩
        refine ⟨trivial, ?_⟩
        refine SJ_q rfl (want_none rfl) rfl (fun _ _ => Op_nilCheck rfl) ?_
        refine SJ_q rfl (want_none rfl) rfl (fun _ _ => Op_fieldAddr (o' := 0) rfl Try.underlying29 rfl sz27 rfl rfl) ?_
        refine SJ_d0 (rd' := []) [] rfl (want_none rfl) (Op_store (cs' := #[_, _, _]) rfl rfl sz27 (by rfl) (by simp [Value.cells, Value.oneCell']) (by repeat (first | exact .here | apply Repl.there)) rfl (free_zero _ _) (by rfl)) (by kernel_rfl) rfl trivial ?_
        refine SJ_done ?_
        refine NJ_then ?_
        refine CJ_env (E' := [(4, _)]) (.cons rfl rfl .nil) ?_
        refine CJ_seq ?_
        refine CJ_region ?_
        refine RJ_q (Op_assign rfl) rfl ?_
        refine RJ_nil ?_
        refine NJ_then ?_
        refine CJ_env (E' := [(4, _)]) (.cons rfl rfl .nil) ?_
        refine CJ_ret ?_
        refine NJ_ret (.inl rfl) Try.results14 (ResJ_tmp rfl ResJ_nil) (C := [RefP g room (ps ++ [p]) sent]) ⟨by simp [packRes]; omega, by rw [if_pos (by omega)]⟩ (.swap (C := [pt g (.cells #[.slice (sl a2) (ps ++ [p]).length c2, .int .i64 room, .int .i64 (sent)] 29 (0, 0)), Row RefT a2 c2 (ps ++ [p])]) (.cons (by first | ((repeat (first | with_reducible exact .here | apply Pick.there)); done) | ((repeat (first | exact .here | apply Pick.there)); done)) (.cons (by first | ((repeat (first | with_reducible exact .here | apply Pick.there)); done) | ((repeat (first | exact .here | apply Pick.there)); done)) (Imp.refl _))) (RefP_close rfl) (.cons (by first | ((repeat (first | with_reducible exact .here | apply Pick.there)); done) | ((repeat (first | exact .here | apply Pick.there)); done)) (by repeat (first | exact Imp.refl _ | refine Imp.skip ?_))))
      · skip
        refine SJ_p (rd' := [⟨5, _, _, _⟩]) [5] rfl (want_none rfl) rfl (Op_buildSlice (vs := [_]) (cells := [_, _, _, _]) Try.underlying27 sz36 zr36 rfl rfl rfl rfl (by rfl)) (by kernel_rfl) rfl ?_
        rintro _ _ ⟨g35, rfl, rfl⟩
        refine ⟨⟨(load_cell Try.underlying27 rfl (by first | ((repeat (first | with_reducible exact .here | apply Pick.there)); done) | ((repeat (first | exact .here | apply Pick.there)); done)) Nth.z), trivial⟩, ?_⟩
        refine SJ_p (rd' := []) [] rfl (want_none rfl) rfl (Op_append (T := RefT) (news := ps) rfl rfl (by first | exact Pick.here | exact Pick.there .here) rfl rfl (Reads_row (xs := ps) (by first | ((repeat (first | with_reducible exact .here | apply Pick.there)); done) | ((repeat (first | exact .here | apply Pick.there)); done))) Try.underlying27 sz36 zr36 (by rfl) by36 (by simp [RefT]; omega) (by simp [maxLen]; omega)) (by kernel_rfl) rfl ?_
        rintro _ _ ⟨a1, c1, rfl, rfl⟩
        refine ⟨trivial, ?_⟩
        refine SJ_p (rd' := []) [] rfl (want_none rfl) rfl (Op_append (T := RefT) (news := [p]) rfl rfl (by first | exact Pick.here | exact Pick.there .here) rfl rfl (Reads_pt (by first | ((repeat (first | with_reducible exact .here | apply Pick.there)); done) | ((repeat (first | exact .here | apply Pick.there)); done)) (fun j u h => by simpa [Ty.flat, RefT, RefEnc] using h)) Try.underlying27 sz36 zr36 (by rfl) by36 (by simp [RefT]; omega) (by simp [maxLen]; omega)) (by kernel_rfl) rfl ?_
        rintro _ _ ⟨a2, c2, rfl, rfl⟩
        refine ⟨trivial, ?_⟩
        refine SJ_q rfl (want_none rfl) rfl (fun _ _ => Op_nilCheck rfl) ?_
        refine SJ_q rfl (want_none rfl) rfl (fun _ _ => Op_fieldAddr (o' := 0) rfl Try.underlying29 rfl sz27 rfl rfl) ?_
        refine SJ_d0 (rd' := []) [] rfl (want_none rfl) (Op_store (cs' := #[_, _, _]) rfl rfl sz27 (by rfl) (by simp [Value.cells, Value.oneCell']) (by repeat (first | exact .here | apply Repl.there)) rfl (free_zero _ _) (by rfl)) (by kernel_rfl) rfl trivial ?_
        refine SJ_done ?_
        refine NJ_then ?_
        refine CJ_env (E' := [(4, _)]) (.cons rfl rfl .nil) ?_
        refine CJ_seq ?_
        refine CJ_region ?_
        refine RJ_q (Op_assign rfl) rfl ?_
        refine RJ_nil ?_
        refine NJ_then ?_
        refine CJ_env (E' := [(4, _)]) (.cons rfl rfl .nil) ?_
        refine CJ_ret ?_
        refine NJ_ret (.inl rfl) Try.results14 (ResJ_tmp rfl ResJ_nil) (C := [RefP g room (ps ++ [p]) sent]) ⟨by simp [packRes]; omega, by rw [if_pos (by omega)]⟩ (.swap (C := [pt g (.cells #[.slice (sl a2) (ps ++ [p]).length c2, .int .i64 room, .int .i64 (sent)] 29 (0, 0)), Row RefT a2 c2 (ps ++ [p])]) (.cons (by first | ((repeat (first | with_reducible exact .here | apply Pick.there)); done) | ((repeat (first | exact .here | apply Pick.there)); done)) (.cons (by first | ((repeat (first | with_reducible exact .here | apply Pick.there)); done) | ((repeat (first | exact .here | apply Pick.there)); done)) (Imp.refl _))) (RefP_close rfl) (.cons (by first | ((repeat (first | with_reducible exact .here | apply Pick.there)); done) | ((repeat (first | exact .here | apply Pick.there)); done)) (by repeat (first | exact Imp.refl _ | refine Imp.skip ?_))))
    · skip
      refine SJ_p (rd' := [⟨5, _, _, _⟩]) [5] rfl (want_none rfl) rfl (Op_buildSlice (vs := [_]) (cells := [_, _, _, _]) Try.underlying27 sz36 zr36 rfl rfl rfl rfl (by rfl)) (by kernel_rfl) rfl ?_
      rintro _ _ ⟨g35, rfl, rfl⟩
      refine ⟨⟨(load_cell Try.underlying27 rfl (by first | ((repeat (first | with_reducible exact .here | apply Pick.there)); done) | ((repeat (first | exact .here | apply Pick.there)); done)) Nth.z), trivial⟩, ?_⟩
      refine SJ_p (rd' := [⟨5, _, _, _⟩]) [5] rfl (want_none rfl) rfl (Op_buildSlice0 (T := RefT) Try.underlying27 sz36) (by kernel_rfl) rfl ?_
      rintro _ _ ⟨g22, rfl, rfl⟩
      refine ⟨⟨(load_cell Try.underlying27 rfl (by first | ((repeat (first | with_reducible exact .here | apply Pick.there)); done) | ((repeat (first | exact .here | apply Pick.there)); done)) Nth.z), trivial⟩, ?_⟩
      refine SJ_p (rd' := []) [] rfl (want_none rfl) rfl (Op_append (T := RefT) (news := ps) rfl rfl (by first | exact Pick.here | exact Pick.there .here) rfl rfl (Reads_row (xs := ps) (by first | ((repeat (first | with_reducible exact .here | apply Pick.there)); done) | ((repeat (first | exact .here | apply Pick.there)); done))) Try.underlying27 sz36 zr36 (by rfl) by36 (by simp [RefT]; omega) (by simp [maxLen]; omega)) (by kernel_rfl) rfl ?_
      rintro _ _ ⟨a1, c1, rfl, rfl⟩
      refine ⟨trivial, ?_⟩
      refine SJ_p (rd' := []) [] rfl (want_none rfl) rfl (Op_append (T := RefT) (news := [p]) rfl rfl (by first | exact Pick.here | exact Pick.there .here) rfl rfl (Reads_pt (by first | ((repeat (first | with_reducible exact .here | apply Pick.there)); done) | ((repeat (first | exact .here | apply Pick.there)); done)) (fun j u h => by simpa [Ty.flat, RefT, RefEnc] using h)) Try.underlying27 sz36 zr36 (by rfl) by36 (by simp [RefT]; omega) (by simp [maxLen]; omega)) (by kernel_rfl) rfl ?_
      rintro _ _ ⟨a2, c2, rfl, rfl⟩
      refine ⟨trivial, ?_⟩
      refine SJ_q rfl (want_none rfl) rfl (fun _ _ => Op_nilCheck rfl) ?_
      refine SJ_q rfl (want_none rfl) rfl (fun _ _ => Op_fieldAddr (o' := 0) rfl Try.underlying29 rfl sz27 rfl rfl) ?_
      refine SJ_d0 (rd' := []) [] rfl (want_none rfl) (Op_store (cs' := #[_, _, _]) rfl rfl sz27 (by rfl) (by simp [Value.cells, Value.oneCell']) (by repeat (first | exact .here | apply Repl.there)) rfl (free_zero _ _) (by rfl)) (by kernel_rfl) rfl trivial ?_
      refine SJ_done ?_
      refine NJ_then ?_
      refine CJ_env (E' := [(4, _)]) (.cons rfl rfl .nil) ?_
      refine CJ_seq ?_
      refine CJ_region ?_
      refine RJ_q (Op_assign rfl) rfl ?_
      refine RJ_nil ?_
      refine NJ_then ?_
      refine CJ_env (E' := [(4, _)]) (.cons rfl rfl .nil) ?_
      refine CJ_ret ?_
      refine NJ_ret (.inl rfl) Try.results14 (ResJ_tmp rfl ResJ_nil) (C := [RefP g room (ps ++ [p]) sent]) ⟨by simp [packRes]; omega, by rw [if_pos (by omega)]⟩ (.swap (C := [pt g (.cells #[.slice (sl a2) (ps ++ [p]).length c2, .int .i64 room, .int .i64 (sent)] 29 (0, 0)), Row RefT a2 c2 (ps ++ [p])]) (.cons (by first | ((repeat (first | with_reducible exact .here | apply Pick.there)); done) | ((repeat (first | exact .here | apply Pick.there)); done)) (.cons (by first | ((repeat (first | with_reducible exact .here | apply Pick.there)); done) | ((repeat (first | exact .here | apply Pick.there)); done)) (Imp.refl _))) (RefP_close rfl) (.cons (by first | ((repeat (first | with_reducible exact .here | apply Pick.there)); done) | ((repeat (first | exact .here | apply Pick.there)); done)) (by repeat (first | exact Imp.refl _ | refine Imp.skip ?_))))

set_option maxRecDepth 20000 in
theorem RTurn_any (g : Nat) (room : Int) (ps : List Pkt) (sent : Int) (i j : Int) (d : UInt8) (hp : ps.length ≤ 100000) (hbs : ∀ p ∈ ps, p.bs.length ≤ 1000000) : Spec Try.prog 16 #[.pointer (some ⟨g, 0, none⟩), .int .i64 i, .int .i64 j, .int .u8 d.toNat] [RefP g room ps sent] (fun v C => v = .bool (turnAt ps i j d).isSome ∧ C = [RefP g room ((turnAt ps i j d).getD ps) sent]) := by
  refine Spec_intro (n := 75) (args := [.pointer (some ⟨g, 0, none⟩), .int .i64 i, .int .i64 j, .int .u8 d.toNat]) Try.func16 rfl rfl rfl fun s R => ?_
  refine CJ_app1 ?_
  refine CJ_env (E' := [(0, _), (1, _), (2, _), (3, _)]) (.cons rfl rfl (.cons rfl rfl (.cons rfl rfl (.cons rfl rfl .nil)))) ?_
  refine CJ_seq ?_
  refine CJ_region ?_
  refine RJ_q (Op_assign rfl) rfl ?_
  refine RJ_nil ?_
  refine NJ_then ?_
  refine CJ_env (E' := [(0, _), (1, _), (2, _), (3, _), (8, _)]) (.cons rfl rfl (.cons rfl rfl (.cons rfl rfl (.cons rfl rfl (.cons rfl rfl .nil))))) ?_
  refine CJ_seq ?_
  refine CJ_seq ?_
  refine CJ_region ?_
  refine RJ_q (Op_move rfl) rfl ?_
  refine RJ_q (Op_move rfl) rfl ?_
  refine RJ_p rfl (Op_call (vs := [_, _]) Try.func9 rfl rfl (RHas_any _ _ _ _ _) rfl (.cons (by first | ((repeat (first | with_reducible exact .here | apply Pick.there)); done) | ((repeat (first | exact .here | apply Pick.there)); done)) (Imp.refl _))) ?_
  rintro _ _ ⟨_, ⟨rfl, rfl⟩, rfl⟩
  refine RJ_app1 ?_
  refine RJ_q (Op_not rfl) rfl ?_
  by_cases h0 : 0 ≤ i ∧ i < ps.length
  · skip
    obtain ⟨k, rfl⟩ := Int.eq_ofNat_of_zero_le h0.1
    have hlt : k < ps.length := by omega
    obtain ⟨p, hk⟩ : ∃ p, ps[k]? = some p := ⟨ps[k], List.getElem?_eq_getElem hlt⟩
    have hpb := hbs p (List.mem_of_getElem? hk)
    clear hbs
    have hsz : (⟨p.bs.toArray⟩ : ByteArray).size = p.bs.length := by simp [ByteArray.size]
    refine RJ_q (Op_move rfl) rfl ?_
    refine RJ_yes (t := 14) rfl rfl (by rw [decide_eq_true h0]; rfl) ?_
    refine RJ_q (Op_move rfl) rfl ?_
    refine RJ_yes (t := 14) rfl rfl (by rw [decide_eq_true h0]; rfl) ?_
    refine RJ_q (Op_lss rfl rfl) rfl ?_
    by_cases h2 : j < 0
    · skip
      refine RJ_q (Op_pick_f rfl (by rw [decide_eq_true h0]; rfl) rfl) rfl ?_
      refine RJ_q (Op_move rfl) rfl ?_
      refine RJ_no (t := 18) true rfl rfl (decide_eq_true h2) (by decide) rfl ?_
      refine RJ_no (t := 18) true rfl rfl (decide_eq_true h2) (by decide) rfl ?_
      refine RJ_no (t := 18) true rfl rfl (decide_eq_true h2) (by decide) rfl ?_
      refine RJ_no (t := 18) true rfl rfl (decide_eq_true h2) (by decide) rfl ?_
      refine RJ_no (t := 18) true rfl rfl (decide_eq_true h2) (by decide) rfl ?_
      refine RJ_no (t := 18) true rfl rfl (decide_eq_true h2) (by decide) rfl ?_
      refine RJ_no (t := 18) true rfl rfl (decide_eq_true h2) (by decide) rfl ?_
      refine RJ_no (t := 18) true rfl rfl (decide_eq_true h2) (by decide) rfl ?_
      refine RJ_no (t := 18) true rfl rfl (decide_eq_true h2) (by decide) rfl ?_
      refine RJ_no (t := 18) true rfl rfl (decide_eq_true h2) (by decide) rfl ?_
      refine RJ_no (t := 18) true rfl rfl (decide_eq_true h2) (by decide) rfl ?_
      refine RJ_q (Op_pick_t rfl (decide_eq_true h2) rfl) rfl ?_
      refine RJ_q (Op_move rfl) rfl ?_
      refine RJ_no (t := 31) true rfl rfl rfl (by decide) rfl ?_
      refine RJ_no (t := 31) true rfl rfl rfl (by decide) rfl ?_
      refine RJ_no (t := 31) true rfl rfl rfl (by decide) rfl ?_
      refine RJ_no (t := 31) true rfl rfl rfl (by decide) rfl ?_
      refine RJ_no (t := 31) true rfl rfl rfl (by decide) rfl ?_
      refine RJ_no (t := 31) true rfl rfl rfl (by decide) rfl ?_
      refine RJ_no (t := 31) true rfl rfl rfl (by decide) rfl ?_
      refine RJ_no (t := 31) true rfl rfl rfl (by decide) rfl ?_
      refine RJ_q (Op_pick_t rfl rfl rfl) rfl ?_
      refine RJ_nil ?_
      refine NJ_then ?_
      refine CJ_env (E' := [(0, _), (1, _), (2, _), (3, _), (8, _), (40, _)]) (.cons rfl rfl (.cons rfl rfl (.cons rfl rfl (.cons rfl rfl (.cons rfl rfl (.cons rfl rfl .nil)))))) ?_
      refine CJ_then rfl rfl ?_
      refine CJ_seq ?_
      refine CJ_region ?_
      refine RJ_q (Op_assign rfl) rfl ?_
      refine RJ_nil ?_
      refine NJ_then ?_
      refine CJ_env (E' := [(0, _), (1, _), (2, _), (3, _), (8, _)]) (.cons rfl rfl (.cons rfl rfl (.cons rfl rfl (.cons rfl rfl (.cons rfl rfl .nil))))) ?_
      refine CJ_ret ?_
      refine NJ_then_r ?_
      refine NJ_ret (.inl rfl) Try.results16 (ResJ_tmp rfl ResJ_nil) (C := [RefP g room ps sent]) ⟨by rw [turnAt_no hk (.inl h2)]; rfl, by rw [turnAt_no hk (.inl h2)]; rfl⟩ (.cons (by first | ((repeat (first | with_reducible exact .here | apply Pick.there)); done) | ((repeat (first | exact .here | apply Pick.there)); done)) (by repeat (first | exact Imp.refl _ | refine Imp.skip ?_)))
    · skip
      obtain ⟨j, rfl⟩ := Int.eq_ofNat_of_zero_le (show 0 ≤ j by omega)
      refine RJ_q (Op_pick_f rfl (by rw [decide_eq_true h0]; rfl) rfl) rfl ?_
      refine RJ_q (Op_move rfl) rfl ?_
      refine RJ_yes (t := 18) rfl rfl (decide_eq_false h2) ?_
      refine RJ_q (Op_move rfl) rfl ?_
      refine RJ_open (RefP_opens _ _ _ _) (by first | ((repeat (first | with_reducible exact .here | apply Pick.there)); done) | ((repeat (first | exact .here | apply Pick.there)); done)) ?_
      rintro _ ⟨a, cap, rfl⟩
      refine RJ_app2 ?_
      refine RJ_know (Row_know (T := RefT) (by first | ((repeat (first | with_reducible exact .here | apply Pick.there)); done) | ((repeat (first | exact .here | apply Pick.there)); done))) ?_
      intro hkn
      obtain ⟨ga, rfl⟩ : ∃ ga, a = some ga := by
        cases a with
        | none => obtain ⟨_, rfl⟩ := hkn.2.2 rfl; simp at hk
        | some ga => exact ⟨ga, rfl⟩
      refine RJ_yes (t := 18) rfl rfl (decide_eq_false h2) ?_
      refine RJ_q (Op_move rfl) rfl ?_
      refine RJ_yes (t := 18) rfl rfl (decide_eq_false h2) ?_
      refine RJ_q (Op_nilCheck rfl) rfl ?_
      refine RJ_yes (t := 18) rfl rfl (decide_eq_false h2) ?_
      refine RJ_q (Op_fieldAddr (o' := 0) rfl Try.underlying29 rfl sz27 rfl rfl) rfl ?_
      refine RJ_yes (t := 18) rfl rfl (decide_eq_false h2) ?_
      refine RJ_q (Op_load rfl (load_cell Try.underlying27 rfl (by first | ((repeat (first | with_reducible exact .here | apply Pick.there)); done) | ((repeat (first | exact .here | apply Pick.there)); done)) Nth.z)) rfl ?_
      refine RJ_yes (t := 18) rfl rfl (decide_eq_false h2) ?_
      refine RJ_q (Op_move rfl) rfl ?_
      refine RJ_yes (t := 18) rfl rfl (decide_eq_false h2) ?_
      refine RJ_q (Op_indexAddr (o' := k * RefT.sz + 0) rfl rfl Try.underlying27 sz36 (by omega) (by omega) (by simp [RefT])) rfl ?_
      refine RJ_yes (t := 18) rfl rfl (decide_eq_false h2) ?_
      refine RJ_q (Op_fieldAddr (o' := k * RefT.sz + 2) rfl Try.underlying36 rfl sz9 rfl rfl) rfl ?_
      refine RJ_yes (t := 18) rfl rfl (decide_eq_false h2) ?_
      refine RJ_q (Op_load rfl (load_row_cell (o := 2) Try.underlying9 rfl (by first | ((repeat (first | with_reducible exact .here | apply Pick.there)); done) | ((repeat (first | exact .here | apply Pick.there)); done)) hk (Nth.s (Nth.s Nth.z)))) rfl ?_
      refine RJ_yes (t := 18) rfl rfl (decide_eq_false h2) ?_
      refine RJ_q (Op_len_str rfl Try.underlying9) rfl ?_
      refine RJ_yes (t := 18) rfl rfl (decide_eq_false h2) ?_
      refine RJ_q (Op_geq rfl rfl) rfl ?_
      by_cases h3 : ((⟨p.bs.toArray⟩ : ByteArray).size : Int) ≤ j
      · skip
        refine RJ_q (Op_pick_f rfl (decide_eq_false h2) rfl) rfl ?_
        refine RJ_q (Op_move rfl) rfl ?_
        refine RJ_no (t := 31) true rfl rfl (decide_eq_true h3) (by decide) rfl ?_
        refine RJ_no (t := 31) true rfl rfl (decide_eq_true h3) (by decide) rfl ?_
        refine RJ_no (t := 31) true rfl rfl (decide_eq_true h3) (by decide) rfl ?_
        refine RJ_no (t := 31) true rfl rfl (decide_eq_true h3) (by decide) rfl ?_
        refine RJ_no (t := 31) true rfl rfl (decide_eq_true h3) (by decide) rfl ?_
        refine RJ_no (t := 31) true rfl rfl (decide_eq_true h3) (by decide) rfl ?_
        refine RJ_no (t := 31) true rfl rfl (decide_eq_true h3) (by decide) rfl ?_
        refine RJ_no (t := 31) true rfl rfl (decide_eq_true h3) (by decide) rfl ?_
        refine RJ_q (Op_pick_t rfl (decide_eq_true h3) rfl) rfl ?_
        refine RJ_nil ?_
        refine NJ_then ?_
        refine CJ_env (E' := [(0, _), (1, _), (2, _), (3, _), (8, _), (40, _)]) (.cons rfl rfl (.cons rfl rfl (.cons rfl rfl (.cons rfl rfl (.cons rfl rfl (.cons rfl rfl .nil)))))) ?_
        refine CJ_then rfl rfl ?_
        refine CJ_seq ?_
        refine CJ_region ?_
        refine RJ_q (Op_assign rfl) rfl ?_
        refine RJ_nil ?_
        refine NJ_then ?_
        refine CJ_env (E' := [(0, _), (1, _), (2, _), (3, _), (8, _)]) (.cons rfl rfl (.cons rfl rfl (.cons rfl rfl (.cons rfl rfl (.cons rfl rfl .nil))))) ?_
        refine CJ_ret ?_
        refine NJ_then_r ?_
        refine NJ_ret (.inl rfl) Try.results16 (ResJ_tmp rfl ResJ_nil) (C := [RefP g room ps sent]) ⟨by rw [turnAt_no hk (.inr (.inl (by omega)))]; rfl, by rw [turnAt_no hk (.inr (.inl (by omega)))]; rfl⟩ (.swap (C := [pt g (.cells #[.slice (sl (some ga)) ps.length cap, .int .i64 room, .int .i64 sent] 29 (0, 0)), Row RefT (some ga) cap ps]) (.cons (by first | ((repeat (first | with_reducible exact .here | apply Pick.there)); done) | ((repeat (first | exact .here | apply Pick.there)); done)) (.cons (by first | ((repeat (first | with_reducible exact .here | apply Pick.there)); done) | ((repeat (first | exact .here | apply Pick.there)); done)) (Imp.refl _))) (RefP_close rfl) (.cons (by first | ((repeat (first | with_reducible exact .here | apply Pick.there)); done) | ((repeat (first | exact .here | apply Pick.there)); done)) (by repeat (first | exact Imp.refl _ | refine Imp.skip ?_))))
      · skip
        refine RJ_q (Op_pick_f rfl (decide_eq_false h2) rfl) rfl ?_
        refine RJ_q (Op_move rfl) rfl ?_
        refine RJ_yes (t := 31) rfl rfl (decide_eq_false h3) ?_
        refine RJ_q (Op_move rfl) rfl ?_
        refine RJ_yes (t := 31) rfl rfl (decide_eq_false h3) ?_
        refine RJ_q (Op_nilCheck rfl) rfl ?_
        refine RJ_yes (t := 31) rfl rfl (decide_eq_false h3) ?_
        refine RJ_q (Op_fieldAddr (o' := 0) rfl Try.underlying29 rfl sz27 rfl rfl) rfl ?_
        refine RJ_yes (t := 31) rfl rfl (decide_eq_false h3) ?_
        refine RJ_q (Op_load rfl (load_cell Try.underlying27 rfl (by first | ((repeat (first | with_reducible exact .here | apply Pick.there)); done) | ((repeat (first | exact .here | apply Pick.there)); done)) Nth.z)) rfl ?_
        refine RJ_yes (t := 31) rfl rfl (decide_eq_false h3) ?_
        refine RJ_q (Op_move rfl) rfl ?_
        refine RJ_yes (t := 31) rfl rfl (decide_eq_false h3) ?_
        refine RJ_q (Op_indexAddr (o' := k * RefT.sz + 0) rfl rfl Try.underlying27 sz36 (by omega) (by omega) (by simp [RefT])) rfl ?_
        refine RJ_yes (t := 31) rfl rfl (decide_eq_false h3) ?_
        refine RJ_q (Op_fieldAddr (o' := k * RefT.sz + 3) rfl Try.underlying36 rfl sz4 rfl rfl) rfl ?_
        refine RJ_yes (t := 31) rfl rfl (decide_eq_false h3) ?_
        refine RJ_q (Op_load rfl (load_row_cell (o := 3) Try.underlying4 rfl (by first | ((repeat (first | with_reducible exact .here | apply Pick.there)); done) | ((repeat (first | exact .here | apply Pick.there)); done)) hk (Nth.s (Nth.s (Nth.s Nth.z))))) rfl ?_
        refine RJ_q (Op_pick_f rfl (decide_eq_false h3) rfl) rfl ?_
        refine RJ_nil ?_
        refine NJ_then ?_
        refine CJ_env (E' := [(0, _), (1, _), (2, _), (3, _), (8, _), (40, _)]) (.cons rfl rfl (.cons rfl rfl (.cons rfl rfl (.cons rfl rfl (.cons rfl rfl (.cons rfl rfl .nil)))))) ?_
        refine CJ_cond rfl ?_ ?_
        · intro hu
          skip
          refine CJ_seq ?_
          refine CJ_region ?_
          refine RJ_q (Op_assign rfl) rfl ?_
          refine RJ_nil ?_
          refine NJ_then ?_
          refine CJ_env (E' := [(0, _), (1, _), (2, _), (3, _), (8, _)]) (.cons rfl rfl (.cons rfl rfl (.cons rfl rfl (.cons rfl rfl (.cons rfl rfl .nil))))) ?_
          refine CJ_ret ?_
          refine NJ_then_r ?_
          refine NJ_ret (.inl rfl) Try.results16 (ResJ_tmp rfl ResJ_nil) (C := [RefP g room ps sent]) ⟨by rw [turnAt_no hk (.inr (.inr hu))]; rfl, by rw [turnAt_no hk (.inr (.inr hu))]; rfl⟩ (.swap (C := [pt g (.cells #[.slice (sl (some ga)) ps.length cap, .int .i64 room, .int .i64 sent] 29 (0, 0)), Row RefT (some ga) cap ps]) (.cons (by first | ((repeat (first | with_reducible exact .here | apply Pick.there)); done) | ((repeat (first | exact .here | apply Pick.there)); done)) (.cons (by first | ((repeat (first | with_reducible exact .here | apply Pick.there)); done) | ((repeat (first | exact .here | apply Pick.there)); done)) (Imp.refl _))) (RefP_close rfl) (.cons (by first | ((repeat (first | with_reducible exact .here | apply Pick.there)); done) | ((repeat (first | exact .here | apply Pick.there)); done)) (by repeat (first | exact Imp.refl _ | refine Imp.skip ?_))))
        · intro hu
          skip
          refine CJ_skip ?_
          refine NJ_then ?_
          refine CJ_env (E' := [(0, _), (1, _), (2, _), (3, _), (8, _)]) (.cons rfl rfl (.cons rfl rfl (.cons rfl rfl (.cons rfl rfl (.cons rfl rfl .nil))))) ?_
          refine CJ_seq ?_
          refine CJ_region ?_
          refine RJ_q (Op_move rfl) rfl ?_
          refine RJ_q (Op_nilCheck rfl) rfl ?_
          refine RJ_q (Op_fieldAddr (o' := 0) rfl Try.underlying29 rfl sz27 rfl rfl) rfl ?_
          refine RJ_q (Op_load rfl (load_cell Try.underlying27 rfl (by first | ((repeat (first | with_reducible exact .here | apply Pick.there)); done) | ((repeat (first | exact .here | apply Pick.there)); done)) Nth.z)) rfl ?_
          refine RJ_q (Op_move rfl) rfl ?_
          refine RJ_q (Op_indexAddr (o' := k * RefT.sz + 0) rfl rfl Try.underlying27 sz36 (by omega) (by omega) (by simp [RefT])) rfl ?_
          refine RJ_q (Op_fieldAddr (o' := k * RefT.sz + 2) rfl Try.underlying36 rfl sz9 rfl rfl) rfl ?_
          refine RJ_q (Op_load rfl (load_row_cell (o := 2) Try.underlying9 rfl (by first | ((repeat (first | with_reducible exact .here | apply Pick.there)); done) | ((repeat (first | exact .here | apply Pick.there)); done)) hk (Nth.s (Nth.s Nth.z)))) rfl ?_
          refine RJ_p rfl (Op_bytes_of_string U8 (fun _ => rfl) rfl Try.underlying9 Try.underlying30 Try.underlying5 (by show (⟨p.bs.toArray⟩ : ByteArray).size ≤ maxLen; unfold maxLen; omega)) ?_
          rintro _ _ ⟨g49, c49, rfl, rfl⟩
          refine RJ_q (Op_assign rfl) rfl ?_
          refine RJ_nil ?_
          refine NJ_then ?_
          refine CJ_env (E' := [(0, _), (1, _), (2, _), (3, _), (8, _), (9, _)]) (.cons rfl rfl (.cons rfl rfl (.cons rfl rfl (.cons rfl rfl (.cons rfl rfl (.cons rfl rfl .nil)))))) ?_
          refine CJ_seq ?_
          obtain ⟨c, hj⟩ : ∃ c, p.bs[j]? = some c := ⟨p.bs[j]'(by omega), List.getElem?_eq_getElem _⟩
          refine CJ_region ?_
          refine RJ_q (Op_move rfl) rfl ?_
          refine RJ_q (Op_move rfl) rfl ?_
          refine RJ_q (Op_move rfl) rfl ?_
          refine RJ_q (Op_move rfl) rfl ?_
          refine RJ_q (Op_indexAddr (o' := j * U8.sz + 0) rfl rfl Try.underlying30 sz5 (by omega) (by show (j : Int) < (p.bs.length : Int); omega) (by simp [U8])) rfl ?_
          refine RJ_q (Op_load rfl (load_row_cell (o := 0) Try.underlying5 rfl (by first | ((repeat (first | with_reducible exact .here | apply Pick.there)); done) | ((repeat (first | exact .here | apply Pick.there)); done)) hj Nth.z)) rfl ?_
          refine RJ_q (Op_move rfl) rfl ?_
          refine RJ_q (Op_xor8 rfl rfl) rfl ?_
          refine RJ_q (Op_indexAddr (o' := j * U8.sz + 0) rfl rfl Try.underlying30 sz5 (by omega) (by show (j : Int) < (p.bs.length : Int); omega) (by simp [U8])) rfl ?_
          refine RJ_d0 (Op_store_row (i := j) (o := 0) (u' := (c ^^^ d)) rfl rfl sz5 (by rfl) (by simp [Value.cells, Value.oneCell']) (by repeat (first | exact .here | apply Repl.there)) hj (by decide) (by rfl)) ?_
          refine RJ_nil ?_
          refine NJ_then ?_
          refine CJ_env (E' := [(0, _), (1, _), (8, _), (9, _)]) (.cons rfl rfl (.cons rfl rfl (.cons rfl rfl (.cons rfl rfl .nil)))) ?_
          refine CJ_seq ?_
          refine CJ_draw (.q 0 (.q 1 (.q 2 (.q 3 (.q 4 (.q 5 (.e 6 (.q 7 (.q 8 (.e 9 .done)))))))))) (by kernel_rfl) (by kernel_rfl) (by kernel_rfl) ?_
          refine SJ_q rfl (want_none rfl) rfl (fun _ _ => Op_move rfl) ?_
          refine SJ_q rfl (want_none rfl) rfl (fun _ _ => Op_nilCheck rfl) ?_
          refine SJ_q rfl (want_none rfl) rfl (fun _ _ => Op_fieldAddr (o' := 0) rfl Try.underlying29 rfl sz27 rfl rfl) ?_
          refine SJ_load rfl (want_none rfl) rfl rfl (load_cell Try.underlying27 rfl (by first | ((repeat (first | with_reducible exact .here | apply Pick.there)); done) | ((repeat (first | exact .here | apply Pick.there)); done)) Nth.z) ?_
          refine SJ_q rfl (want_none rfl) rfl (fun _ _ => Op_move rfl) ?_
          refine SJ_q rfl (want_none rfl) rfl (fun _ _ => Op_move rfl) ?_
          refine SJ_d (rd' := [⟨3, _, _, _⟩]) [3] rfl (want_none rfl) rfl ((Op_string_of_bytes (bs := p.bs.set j (c ^^^ d)) rfl Try.underlying30 Try.underlying9 Try.underlying5 (by rw [List.length_set]) (reads_u8 (Reads_row (T := U8) (by first | ((repeat (first | with_reducible exact .here | apply Pick.there)); done) | ((repeat (first | exact .here | apply Pick.there)); done))))).opD) (by kernel_rfl) rfl ⟨(load_cell Try.underlying27 rfl (by first | ((repeat (first | with_reducible exact .here | apply Pick.there)); done) | ((repeat (first | exact .here | apply Pick.there)); done)) Nth.z), trivial⟩ ?_
          refine SJ_q rfl (want_none rfl) rfl (fun _ _ => Op_indexAddr (o' := k * RefT.sz + 0) rfl rfl Try.underlying27 sz36 (by omega) (by omega) (by simp [RefT])) ?_
          refine SJ_q rfl (want_none rfl) rfl (fun _ _ => Op_fieldAddr (o' := k * RefT.sz + 2) rfl Try.underlying36 rfl sz9 rfl rfl) ?_
          refine SJ_d0 (rd' := []) [] rfl (want_none rfl) (Op_store_row (i := k) (o := 2) (u' := ⟨p.f, p.t, p.bs.set j (c ^^^ d), p.turned⟩) rfl rfl sz9 (by rfl) (by simp [Value.cells, Value.oneCell']) (by repeat (first | exact .here | apply Repl.there)) hk (by decide) (by rfl)) (by kernel_rfl) rfl trivial ?_
          refine SJ_done ?_
          refine NJ_then ?_
          refine CJ_env (E' := [(0, _), (1, _), (8, _)]) (.cons rfl rfl (.cons rfl rfl (.cons rfl rfl .nil))) ?_
          refine CJ_seq ?_
          refine CJ_region ?_
          refine RJ_q (Op_move rfl) rfl ?_
          refine RJ_q (Op_nilCheck rfl) rfl ?_
          refine RJ_q (Op_fieldAddr (o' := 0) rfl Try.underlying29 rfl sz27 rfl rfl) rfl ?_
          refine RJ_q (Op_load rfl (load_cell Try.underlying27 rfl (by first | ((repeat (first | with_reducible exact .here | apply Pick.there)); done) | ((repeat (first | exact .here | apply Pick.there)); done)) Nth.z)) rfl ?_
          refine RJ_q (Op_move rfl) rfl ?_
          refine RJ_q (Op_indexAddr (o' := k * RefT.sz + 0) rfl rfl Try.underlying27 sz36 (by omega) (by omega) (by simp [RefT])) rfl ?_
          refine RJ_q (Op_fieldAddr (o' := k * RefT.sz + 3) rfl Try.underlying36 rfl sz4 rfl rfl) rfl ?_
          refine RJ_d0 (Op_store_row (i := k) (o := 3) (u' := ⟨p.f, p.t, p.bs.set j (c ^^^ d), true⟩) rfl rfl sz4 (by rfl) (by simp [Value.cells, Value.oneCell']) (by repeat (first | exact .here | apply Repl.there)) (u := ⟨p.f, p.t, p.bs.set j (c ^^^ d), p.turned⟩) (by rw [List.getElem?_set_self hlt]) (by decide) (by rfl)) ?_
          refine RJ_nil ?_
          refine NJ_then ?_
          refine CJ_env (E' := [(8, _)]) (.cons rfl rfl .nil) ?_
          refine CJ_seq ?_
          refine CJ_region ?_
          refine RJ_q (Op_assign rfl) rfl ?_
          refine RJ_nil ?_
          refine NJ_then ?_
          refine CJ_env (E' := [(8, _)]) (.cons rfl rfl .nil) ?_
          refine CJ_ret ?_
          rw [List.set_set]
          refine NJ_ret (.inl rfl) Try.results16 (ResJ_tmp rfl ResJ_nil) (C := [RefP g room (ps.set k ⟨p.f, p.t, p.bs.set j (c ^^^ d), true⟩) sent]) ⟨by rw [turnAt_yes hk hj hu]; rfl, by rw [turnAt_yes hk hj hu]; rfl⟩ (.swap (C := [pt g (.cells #[.slice (sl (some ga)) ps.length cap, .int .i64 room, .int .i64 sent] 29 (0, 0)), Row RefT (some ga) cap (ps.set k ⟨p.f, p.t, p.bs.set j (c ^^^ d), true⟩)]) (.cons (by first | ((repeat (first | with_reducible exact .here | apply Pick.there)); done) | ((repeat (first | exact .here | apply Pick.there)); done)) (.cons (by first | ((repeat (first | with_reducible exact .here | apply Pick.there)); done) | ((repeat (first | exact .here | apply Pick.there)); done)) (Imp.refl _))) (RefP_close (by simp)) (.cons (by first | ((repeat (first | with_reducible exact .here | apply Pick.there)); done) | ((repeat (first | exact .here | apply Pick.there)); done)) (by repeat (first | exact Imp.refl _ | refine Imp.skip ?_))))
  · skip
    refine RJ_q (Op_move rfl) rfl ?_
    refine RJ_no (t := 14) true rfl rfl (by rw [decide_eq_false h0]; rfl) (by decide) rfl ?_
    refine RJ_no (t := 14) true rfl rfl (by rw [decide_eq_false h0]; rfl) (by decide) rfl ?_
    refine RJ_q (Op_pick_t rfl (by rw [decide_eq_false h0]; rfl) rfl) rfl ?_
    refine RJ_q (Op_move rfl) rfl ?_
    refine RJ_no (t := 18) true rfl rfl rfl (by decide) rfl ?_
    refine RJ_no (t := 18) true rfl rfl rfl (by decide) rfl ?_
    refine RJ_no (t := 18) true rfl rfl rfl (by decide) rfl ?_
    refine RJ_no (t := 18) true rfl rfl rfl (by decide) rfl ?_
    refine RJ_no (t := 18) true rfl rfl rfl (by decide) rfl ?_
    refine RJ_no (t := 18) true rfl rfl rfl (by decide) rfl ?_
    refine RJ_no (t := 18) true rfl rfl rfl (by decide) rfl ?_
    refine RJ_no (t := 18) true rfl rfl rfl (by decide) rfl ?_
    refine RJ_no (t := 18) true rfl rfl rfl (by decide) rfl ?_
    refine RJ_no (t := 18) true rfl rfl rfl (by decide) rfl ?_
    refine RJ_no (t := 18) true rfl rfl rfl (by decide) rfl ?_
    refine RJ_q (Op_pick_t rfl rfl rfl) rfl ?_
    refine RJ_q (Op_move rfl) rfl ?_
    refine RJ_no (t := 31) true rfl rfl rfl (by decide) rfl ?_
    refine RJ_no (t := 31) true rfl rfl rfl (by decide) rfl ?_
    refine RJ_no (t := 31) true rfl rfl rfl (by decide) rfl ?_
    refine RJ_no (t := 31) true rfl rfl rfl (by decide) rfl ?_
    refine RJ_no (t := 31) true rfl rfl rfl (by decide) rfl ?_
    refine RJ_no (t := 31) true rfl rfl rfl (by decide) rfl ?_
    refine RJ_no (t := 31) true rfl rfl rfl (by decide) rfl ?_
    refine RJ_no (t := 31) true rfl rfl rfl (by decide) rfl ?_
    refine RJ_q (Op_pick_t rfl rfl rfl) rfl ?_
    refine RJ_nil ?_
    refine NJ_then ?_
    refine CJ_env (E' := [(0, _), (1, _), (2, _), (3, _), (8, _), (40, _)]) (.cons rfl rfl (.cons rfl rfl (.cons rfl rfl (.cons rfl rfl (.cons rfl rfl (.cons rfl rfl .nil)))))) ?_
    refine CJ_then rfl rfl ?_
    refine CJ_seq ?_
    refine CJ_region ?_
    refine RJ_q (Op_assign rfl) rfl ?_
    refine RJ_nil ?_
    refine NJ_then ?_
    refine CJ_env (E' := [(0, _), (1, _), (2, _), (3, _), (8, _)]) (.cons rfl rfl (.cons rfl rfl (.cons rfl rfl (.cons rfl rfl (.cons rfl rfl .nil))))) ?_
    refine CJ_ret ?_
    refine NJ_then_r ?_
    refine NJ_ret (.inl rfl) Try.results16 (ResJ_tmp rfl ResJ_nil) (C := [RefP g room ps sent]) ⟨by rw [turnAt_out (by omega)]; rfl, by rw [turnAt_out (by omega)]; rfl⟩ (.cons (by first | ((repeat (first | with_reducible exact .here | apply Pick.there)); done) | ((repeat (first | exact .here | apply Pick.there)); done)) (by repeat (first | exact Imp.refl _ | refine Imp.skip ?_)))

set_option maxRecDepth 20000 in
theorem RDrop_any (g : Nat) (room : Int) (ps : List Pkt) (sent : Int) (who : Int) (hp : ps.length ≤ 100000) : Spec Try.prog 18 #[.pointer (some ⟨g, 0, none⟩), .int .i64 who] [RefP g room ps sent] (fun v C => v = .int .i64 ((ps.length - (ps.filter (fun p => decide (p.t ≠ who))).length : Nat) : Int) ∧ C = [RefP g room (ps.filter (fun p => decide (p.t ≠ who))) sent]) := by
  refine Spec_intro (n := 51) (args := [.pointer (some ⟨g, 0, none⟩), .int .i64 who]) Try.func18 rfl rfl rfl fun s R => ?_
  refine CJ_app1 ?_
  refine CJ_env (E' := [(0, _), (1, _)]) (.cons rfl rfl (.cons rfl rfl .nil)) ?_
  refine CJ_open (RefP_opens _ _ _ _) (by first | ((repeat (first | with_reducible exact .here | apply Pick.there)); done) | ((repeat (first | exact .here | apply Pick.there)); done)) ?_
  rintro _ ⟨a, cap, rfl⟩
  refine CJ_app2 ?_
  refine CJ_seq ?_
  refine CJ_region ?_
  refine RJ_q (Op_assign rfl) rfl ?_
  refine RJ_nil ?_
  refine NJ_then ?_
  refine CJ_env (E' := [(0, _), (1, _), (4, _)]) (.cons rfl rfl (.cons rfl rfl (.cons rfl rfl .nil))) ?_
  refine CJ_seq ?_
  refine CJ_region ?_
  refine RJ_p rfl (Op_buildSlice0 (T := RefT) Try.underlying27 sz36) ?_
  rintro _ _ ⟨g8, rfl, rfl⟩
  refine RJ_q (Op_assign rfl) rfl ?_
  refine RJ_nil ?_
  refine NJ_then ?_
  refine CJ_env (E' := [(0, _), (1, _), (4, _), (5, _)]) (.cons rfl rfl (.cons rfl rfl (.cons rfl rfl (.cons rfl rfl .nil)))) ?_
  refine CJ_seq ?_
  refine CJ_seq ?_
  refine CJ_region ?_
  refine RJ_q (Op_assign rfl) rfl ?_
  refine RJ_nil ?_
  refine NJ_then ?_
  refine CJ_env (E' := [(0, _), (1, _), (4, _), (5, _), (6, _)]) (.cons rfl rfl (.cons rfl rfl (.cons rfl rfl (.cons rfl rfl (.cons rfl rfl .nil))))) ?_
  refine CJ_block ?_
  refine CJ_loop (fun E H m => ∃ (i : Nat) (a1 : Option Nat) (c1 : Nat), (i ≤ ps.length) ∧ E = [(0, .pointer (some ⟨g, 0, none⟩)), (1, .int .i64 who), (5, .slice (sl a1) ((ps.take i).filter (fun p => decide (p.t ≠ who))).length c1), (6, .int .i64 (i : Int))] ∧ H = [pt g (.cells #[.slice (sl a) ps.length cap, .int .i64 room, .int .i64 sent] 29 (0, 0)), Row RefT a cap ps, Row RefT a1 c1 ((ps.take i).filter (fun p => decide (p.t ≠ who)))] ++ R ∧ m = ps.length - i) (E' := [(0, .pointer (some ⟨g, 0, none⟩)), (1, .int .i64 who), (5, .slice (sl (some g8)) 0 0), (6, .int .i64 0)]) (H' := [pt g (.cells #[.slice (sl a) ps.length cap, .int .i64 room, .int .i64 sent] 29 (0, 0)), Row RefT a cap ps, Row RefT (some g8) 0 []] ++ R) (m := ps.length - 0) ⟨0, some g8, 0, Nat.zero_le _, rfl, rfl, rfl⟩ (.cons rfl rfl (.cons rfl rfl (.cons rfl rfl (.cons rfl rfl .nil)))) (.cons (by first | ((repeat (first | with_reducible exact .here | apply Pick.there)); done) | ((repeat (first | exact .here | apply Pick.there)); done)) (.cons (by first | ((repeat (first | with_reducible exact .here | apply Pick.there)); done) | ((repeat (first | exact .here | apply Pick.there)); done)) (.cons (by first | ((repeat (first | with_reducible exact .here | apply Pick.there)); done) | ((repeat (first | exact .here | apply Pick.there)); done)) (Imp.refl _)))) ?_
  rintro _ _ _ ⟨i, a1, c1, hok, rfl, rfl, rfl⟩
  refine CJ_app3 ?_
  refine CJ_know (Row_know (T := RefT) (a := a) (xs := ps) (by first | ((repeat (first | with_reducible exact .here | apply Pick.there)); done) | ((repeat (first | exact .here | apply Pick.there)); done))) ?_
  intro hkn
  refine CJ_seq ?_
  refine CJ_seq ?_
  refine CJ_region ?_
  refine RJ_q (Op_move rfl) rfl ?_
  refine RJ_q (Op_move rfl) rfl ?_
  refine RJ_q (Op_nilCheck rfl) rfl ?_
  refine RJ_q (Op_fieldAddr (o' := 0) rfl Try.underlying29 rfl sz27 rfl rfl) rfl ?_
  refine RJ_q (Op_load rfl (load_cell Try.underlying27 rfl (by first | ((repeat (first | with_reducible exact .here | apply Pick.there)); done) | ((repeat (first | exact .here | apply Pick.there)); done)) Nth.z)) rfl ?_
  refine RJ_q (Op_len_slice rfl Try.underlying27) rfl ?_
  refine RJ_q (Op_lss rfl rfl) rfl ?_
  refine RJ_nil ?_
  refine NJ_then ?_
  refine CJ_env (E' := [(0, _), (1, _), (5, _), (6, _), (9, _), (10, _), (11, _), (12, _), (13, _), (14, _), (15, _)]) (.cons rfl rfl (.cons rfl rfl (.cons rfl rfl (.cons rfl rfl (.cons rfl rfl (.cons rfl rfl (.cons rfl rfl (.cons rfl rfl (.cons rfl rfl (.cons rfl rfl (.cons rfl rfl .nil))))))))))) ?_
  refine CJ_cond rfl ?_ ?_
  · intro hc2
    have hlt : i < ps.length := by have := of_decide_eq_true hc2; omega
    obtain ⟨x, hk⟩ : ∃ x, ps[i]? = some x := ⟨ps[i], List.getElem?_eq_getElem hlt⟩
    have htk : ps.take (i + 1) = ps.take i ++ [x] := by rw [List.take_add_one, hk]; rfl
    obtain ⟨ga, rfl⟩ : ∃ ga, a = some ga := by
      cases a with
      | none => obtain ⟨_, rfl⟩ := hkn.2.2 rfl; simp at hk
      | some ga => exact ⟨ga, rfl⟩
    refine CJ_skip ?_
    refine NJ_then ?_
    refine CJ_env (E' := [(0, _), (1, _), (5, _), (6, _), (9, _), (10, _), (11, _), (12, _), (13, _), (14, _), (15, _)]) (.cons rfl rfl (.cons rfl rfl (.cons rfl rfl (.cons rfl rfl (.cons rfl rfl (.cons rfl rfl (.cons rfl rfl (.cons rfl rfl (.cons rfl rfl (.cons rfl rfl (.cons rfl rfl .nil))))))))))) ?_
    refine CJ_seq ?_
    refine CJ_block ?_
    refine CJ_seq ?_
    refine CJ_region ?_
    refine RJ_q (Op_move rfl) rfl ?_
    refine RJ_q (Op_nilCheck rfl) rfl ?_
    refine RJ_q (Op_fieldAddr (o' := 0) rfl Try.underlying29 rfl sz27 rfl rfl) rfl ?_
    refine RJ_q (Op_load rfl (load_cell Try.underlying27 rfl (by first | ((repeat (first | with_reducible exact .here | apply Pick.there)); done) | ((repeat (first | exact .here | apply Pick.there)); done)) Nth.z)) rfl ?_
    refine RJ_q (Op_move rfl) rfl ?_
    refine RJ_q (Op_indexAddr (o' := i * RefT.sz + 0) rfl rfl Try.underlying27 sz36 (by omega) (by omega) (by simp [RefT])) rfl ?_
    refine RJ_q (Op_fieldAddr (o' := i * RefT.sz + 1) rfl Try.underlying36 rfl sz3 rfl rfl) rfl ?_
    refine RJ_q (Op_load rfl (load_row_cell (o := 1) Try.underlying3 rfl (by first | ((repeat (first | with_reducible exact .here | apply Pick.there)); done) | ((repeat (first | exact .here | apply Pick.there)); done)) hk (Nth.s Nth.z))) rfl ?_
    refine RJ_q (Op_move rfl) rfl ?_
    refine RJ_q (Op_neq rfl rfl) rfl ?_
    refine RJ_nil ?_
    refine NJ_then ?_
    refine CJ_env (E' := [(0, _), (1, _), (5, _), (6, _), (9, _), (10, _), (11, _), (12, _), (13, _), (14, _), (15, _), (18, _), (19, _), (20, _), (21, _), (22, _), (23, _), (24, _), (25, _), (26, _), (27, _)]) (.cons rfl rfl (.cons rfl rfl (.cons rfl rfl (.cons rfl rfl (.cons rfl rfl (.cons rfl rfl (.cons rfl rfl (.cons rfl rfl (.cons rfl rfl (.cons rfl rfl (.cons rfl rfl (.cons rfl rfl (.cons rfl rfl (.cons rfl rfl (.cons rfl rfl (.cons rfl rfl (.cons rfl rfl (.cons rfl rfl (.cons rfl rfl (.cons rfl rfl (.cons rfl rfl .nil))))))))))))))))))))) ?_
    refine CJ_cond rfl ?_ ?_
    · intro hc3
      have hf : (ps.take (i + 1)).filter (fun p => decide (p.t ≠ who)) = (ps.take i).filter (fun p => decide (p.t ≠ who)) ++ [x] := by rw [htk, List.filter_append]; simp [of_decide_eq_true hc3]
      refine CJ_region ?_
      refine RJ_q (Op_move rfl) rfl ?_
      refine RJ_q (Op_move rfl) rfl ?_
      refine RJ_q (Op_nilCheck rfl) rfl ?_
      refine RJ_q (Op_fieldAddr (o' := 0) rfl Try.underlying29 rfl sz27 rfl rfl) rfl ?_
      refine RJ_q (Op_load rfl (load_cell Try.underlying27 rfl (by first | ((repeat (first | with_reducible exact .here | apply Pick.there)); done) | ((repeat (first | exact .here | apply Pick.there)); done)) Nth.z)) rfl ?_
      refine RJ_q (Op_move rfl) rfl ?_
      refine RJ_q (Op_indexAddr (o' := i * RefT.sz + 0) rfl rfl Try.underlying27 sz36 (by omega) (by omega) (by simp [RefT])) rfl ?_
      refine RJ_q (Op_load rfl (load_row (o := 0) (vs := [_, _, _, _]) Try.underlying36 sz36 (by first | ((repeat (first | with_reducible exact .here | apply Pick.there)); done) | ((repeat (first | exact .here | apply Pick.there)); done)) hk rfl (by rfl))) rfl ?_
      refine RJ_p rfl (Op_buildSlice (vs := [_]) (cells := [_, _, _, _]) Try.underlying27 sz36 zr36 rfl rfl rfl rfl (by rfl)) ?_
      rintro _ _ ⟨g36, rfl, rfl⟩
      refine RJ_p rfl (Op_append (T := RefT) (news := [x]) rfl rfl (by first | exact Pick.there (.there (.there .here)) | exact Pick.there (.there .here)) rfl rfl (Reads_pt (by first | ((repeat (first | with_reducible exact .here | apply Pick.there)); done) | ((repeat (first | exact .here | apply Pick.there)); done)) (fun j u h => by simpa [Ty.flat, RefT, RefEnc] using h)) Try.underlying27 sz36 zr36 (by rfl) by36 (by have := List.length_filter_le (fun x : Pkt => decide (x.t ≠ who)) (ps.take i); have := List.length_take_le i ps; show (((ps.take i).filter (fun x => decide (x.t ≠ who))).length + 1) * 40 ≤ 140737488355328; omega) (by have := List.length_filter_le (fun x : Pkt => decide (x.t ≠ who)) (ps.take i); have := List.length_take_le i ps; unfold maxLen; omega)) ?_
      rintro _ _ ⟨a2, c2, rfl, rfl⟩
      refine RJ_q (Op_assign rfl) rfl ?_
      refine RJ_nil ?_
      refine NJ_blk ?_
      refine NJ_then ?_
      refine CJ_env (E' := [(0, _), (1, _), (5, _), (6, _), (9, _), (10, _), (11, _), (12, _), (13, _), (14, _), (15, _), (18, _), (19, _), (20, _), (21, _), (22, _), (23, _), (24, _), (25, _), (26, _), (27, _), (28, _), (29, _), (30, _), (31, _), (32, _), (33, _), (34, _), (35, _), (36, _), (37, _)]) (.cons rfl rfl (.cons rfl rfl (.cons rfl rfl (.cons rfl rfl (.cons rfl rfl (.cons rfl rfl (.cons rfl rfl (.cons rfl rfl (.cons rfl rfl (.cons rfl rfl (.cons rfl rfl (.cons rfl rfl (.cons rfl rfl (.cons rfl rfl (.cons rfl rfl (.cons rfl rfl (.cons rfl rfl (.cons rfl rfl (.cons rfl rfl (.cons rfl rfl (.cons rfl rfl (.cons rfl rfl (.cons rfl rfl (.cons rfl rfl (.cons rfl rfl (.cons rfl rfl (.cons rfl rfl (.cons rfl rfl (.cons rfl rfl (.cons rfl rfl (.cons rfl rfl .nil))))))))))))))))))))))))))))))) ?_
      refine CJ_region ?_
      refine RJ_q (Op_move rfl) rfl ?_
      refine RJ_q (Op_addN (i + 1) rfl rfl (by omega) (by omega)) rfl ?_
      refine RJ_q (Op_assign rfl) rfl ?_
      refine RJ_nil ?_
      refine NJ_back (E' := [(0, .pointer (some ⟨g, 0, none⟩)), (1, .int .i64 who), (5, .slice (sl a2) ((ps.take (i + 1)).filter (fun p => decide (p.t ≠ who))).length c2), (6, .int .i64 ((i + 1 : Nat) : Int))]) (m' := ps.length - (i + 1)) ⟨i + 1, a2, c2, (by omega), rfl, rfl, rfl⟩ (by omega) (.cons rfl rfl (.cons rfl rfl (.cons rfl (congrArg (fun l : List Pkt => Value.slice _ l.length _) hf.symm) (.cons rfl rfl .nil)))) (by rw [hf]; exact (.cons (by first | ((repeat (first | with_reducible exact .here | apply Pick.there)); done) | ((repeat (first | exact .here | apply Pick.there)); done)) (.cons (by first | ((repeat (first | with_reducible exact .here | apply Pick.there)); done) | ((repeat (first | exact .here | apply Pick.there)); done)) (.cons (by first | ((repeat (first | with_reducible exact .here | apply Pick.there)); done) | ((repeat (first | exact .here | apply Pick.there)); done)) (by repeat (first | exact Imp.refl _ | refine Imp.skip ?_))))))
    · intro hc3
      have hf : (ps.take (i + 1)).filter (fun p => decide (p.t ≠ who)) = (ps.take i).filter (fun p => decide (p.t ≠ who)) := by rw [htk, List.filter_append]; simpa using hc3
      refine CJ_skip ?_
      refine NJ_blk ?_
      refine NJ_then ?_
      refine CJ_env (E' := [(0, _), (1, _), (5, _), (6, _), (9, _), (10, _), (11, _), (12, _), (13, _), (14, _), (15, _), (18, _), (19, _), (20, _), (21, _), (22, _), (23, _), (24, _), (25, _), (26, _), (27, _)]) (.cons rfl rfl (.cons rfl rfl (.cons rfl rfl (.cons rfl rfl (.cons rfl rfl (.cons rfl rfl (.cons rfl rfl (.cons rfl rfl (.cons rfl rfl (.cons rfl rfl (.cons rfl rfl (.cons rfl rfl (.cons rfl rfl (.cons rfl rfl (.cons rfl rfl (.cons rfl rfl (.cons rfl rfl (.cons rfl rfl (.cons rfl rfl (.cons rfl rfl (.cons rfl rfl .nil))))))))))))))))))))) ?_
      refine CJ_region ?_
      refine RJ_q (Op_move rfl) rfl ?_
      refine RJ_q (Op_addN (i + 1) rfl rfl (by omega) (by omega)) rfl ?_
      refine RJ_q (Op_assign rfl) rfl ?_
      refine RJ_nil ?_
      refine NJ_back (E' := [(0, .pointer (some ⟨g, 0, none⟩)), (1, .int .i64 who), (5, .slice (sl a1) ((ps.take (i + 1)).filter (fun p => decide (p.t ≠ who))).length c1), (6, .int .i64 ((i + 1 : Nat) : Int))]) (m' := ps.length - (i + 1)) ⟨i + 1, a1, c1, (by omega), rfl, rfl, rfl⟩ (by omega) (.cons rfl rfl (.cons rfl rfl (.cons rfl (congrArg (fun l : List Pkt => Value.slice _ l.length _) hf.symm) (.cons rfl rfl .nil)))) (by rw [hf]; exact (.cons (by first | ((repeat (first | with_reducible exact .here | apply Pick.there)); done) | ((repeat (first | exact .here | apply Pick.there)); done)) (.cons (by first | ((repeat (first | with_reducible exact .here | apply Pick.there)); done) | ((repeat (first | exact .here | apply Pick.there)); done)) (.cons (by first | ((repeat (first | with_reducible exact .here | apply Pick.there)); done) | ((repeat (first | exact .here | apply Pick.there)); done)) (by repeat (first | exact Imp.refl _ | refine Imp.skip ?_))))))
  · intro hc2
    have hie : i = ps.length := by have := of_decide_eq_false hc2; omega
    subst hie
    refine CJ_exit ?_
    refine NJ_then_x ?_
    refine NJ_then_x ?_
    refine NJ_blk_hit ?_
    refine NJ_then ?_
    refine CJ_env (E' := [(0, _), (5, _)]) (.cons rfl rfl (.cons rfl rfl .nil)) ?_
    refine CJ_seq ?_
    refine CJ_region ?_
    refine RJ_q (Op_move rfl) rfl ?_
    refine RJ_q (Op_nilCheck rfl) rfl ?_
    refine RJ_q (Op_fieldAddr (o' := 0) rfl Try.underlying29 rfl sz27 rfl rfl) rfl ?_
    refine RJ_q (Op_load rfl (load_cell Try.underlying27 rfl (by first | ((repeat (first | with_reducible exact .here | apply Pick.there)); done) | ((repeat (first | exact .here | apply Pick.there)); done)) Nth.z)) rfl ?_
    refine RJ_q (Op_len_slice rfl Try.underlying27) rfl ?_
    refine RJ_q (Op_move rfl) rfl ?_
    refine RJ_q (Op_len_slice rfl Try.underlying27) rfl ?_
    refine RJ_q (Op_subN (ps.length - ((ps.take ps.length).filter (fun x => decide (x.t ≠ who))).length) rfl rfl (by have := List.length_filter_le (fun x : Pkt => decide (x.t ≠ who)) (ps.take ps.length); have := List.length_take_le ps.length ps; omega) (by omega)) rfl ?_
    refine RJ_q (Op_assign rfl) rfl ?_
    refine RJ_nil ?_
    refine NJ_then ?_
    refine CJ_env (E' := [(0, _), (5, _), (7, _)]) (.cons rfl rfl (.cons rfl rfl (.cons rfl rfl .nil))) ?_
    refine CJ_seq ?_
    refine CJ_region ?_
    refine RJ_q (Op_move rfl) rfl ?_
    refine RJ_q (Op_move rfl) rfl ?_
    refine RJ_q (Op_nilCheck rfl) rfl ?_
    refine RJ_q (Op_fieldAddr (o' := 0) rfl Try.underlying29 rfl sz27 rfl rfl) rfl ?_
    refine RJ_d0 (Op_store (cs' := #[_, _, _]) rfl rfl sz27 (by rfl) (by simp [Value.cells, Value.oneCell']) (by repeat (first | exact .here | apply Repl.there)) rfl (free_zero _ _) (by rfl)) ?_
    refine RJ_nil ?_
    refine NJ_then ?_
    refine CJ_env (E' := [(7, _)]) (.cons rfl rfl .nil) ?_
    refine CJ_seq ?_
    refine CJ_region ?_
    refine RJ_q (Op_move rfl) rfl ?_
    refine RJ_q (Op_assign rfl) rfl ?_
    refine RJ_nil ?_
    refine NJ_then ?_
    refine CJ_env (E' := [(4, _)]) (.cons rfl rfl .nil) ?_
    refine CJ_ret ?_
    rw [List.take_length]
    refine NJ_ret (.inl rfl) Try.results18 (ResJ_tmp rfl ResJ_nil) (C := [RefP g room (ps.filter (fun x => decide (x.t ≠ who))) sent]) ⟨rfl, rfl⟩ (.swap (C := [pt g (.cells #[.slice (sl a1) (ps.filter (fun x => decide (x.t ≠ who))).length c1, .int .i64 room, .int .i64 (sent)] 29 (0, 0)), Row RefT a1 c1 (ps.filter (fun x => decide (x.t ≠ who)))]) (.cons (by first | ((repeat (first | with_reducible exact .here | apply Pick.there)); done) | ((repeat (first | exact .here | apply Pick.there)); done)) (.cons (by first | ((repeat (first | with_reducible exact .here | apply Pick.there)); done) | ((repeat (first | exact .here | apply Pick.there)); done)) (Imp.refl _))) (RefP_close rfl) (.cons (by first | ((repeat (first | with_reducible exact .here | apply Pick.there)); done) | ((repeat (first | exact .here | apply Pick.there)); done)) (by repeat (first | exact Imp.refl _ | refine Imp.skip ?_))))
end Go.Proofs.Ytblcdhcjamedgaa.SL
