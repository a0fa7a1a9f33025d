/- Contracts of the functions of package link. -/
import Derived.Test.YtblcdhcjamedgaaLkD
namespace Go.Proofs.Ytblcdhcjamedgaa.SL
open Go Go.RowKit
set_option maxRecDepth 20000 in
theorem Len_nil  : Spec Try.prog 19 #[.pointer none] [] (fun v C => v = .int .i64 0 ∧ C = []) := by
  refine Spec_intro (n := 10) (args := [.pointer none]) Try.func19 rfl rfl rfl fun s R => ?_
  refine CJ_app0 ?_
  refine CJ_env (E' := [(0, _)]) (.cons rfl rfl .nil) ?_
  refine CJ_seq ?_
  refine CJ_region ?_
  refine RJ_q (Op_assign rfl) rfl ?_
  refine RJ_nil ?_
  refine NJ_then ?_
  refine CJ_env (E' := [(0, _), (2, _)]) (.cons rfl rfl (.cons rfl rfl .nil)) ?_
  refine CJ_seq ?_
  refine CJ_seq ?_
  refine CJ_region ?_
  refine RJ_q (Op_move rfl) rfl ?_
  refine RJ_q (Op_ptr_eq_nil rfl rfl Try.underlying24) rfl ?_
  refine RJ_nil ?_
  refine NJ_then ?_
  refine CJ_env (E' := [(0, _), (2, _), (4, _)]) (.cons rfl rfl (.cons rfl rfl (.cons rfl rfl .nil))) ?_
  refine CJ_cond rfl ?_ ?_
  · intro hc1
    try simp only [decide_eq_true_eq, decide_eq_false_iff_not] at hc1
    refine CJ_seq ?_
    refine CJ_region ?_
    refine RJ_q (Op_assign rfl) rfl ?_
    refine RJ_nil ?_
    refine NJ_then ?_
    refine CJ_env (E' := [(0, _), (2, _)]) (.cons rfl rfl (.cons rfl rfl .nil)) ?_
    refine CJ_ret ?_
    refine NJ_then_r ?_
    refine NJ_ret (.inl rfl) Try.results19 (ResJ_tmp rfl ResJ_nil) ⟨rfl, rfl⟩ (by repeat (first | exact Imp.refl _ | refine Imp.skip ?_))
  · intro hc1
    exact absurd hc1 (by simp)

set_option maxRecDepth 20000 in
theorem Len_any (g : Nat) (room : Int) (ps : List Pkt) (sent : Int) : Spec Try.prog 19 #[.pointer (some ⟨g, 0, none⟩)] [NetP g room ps sent] (fun v C => v = .int .i64 ps.length ∧ C = [NetP g room ps sent]) := by
  refine Spec_intro (n := 10) (args := [.pointer (some ⟨g, 0, none⟩)]) Try.func19 rfl rfl rfl fun s R => ?_
  refine CJ_app1 ?_
  refine CJ_env (E' := [(0, _)]) (.cons rfl rfl .nil) ?_
  refine CJ_open (NetP_opens _ _ _ _) (by first | ((repeat (first | with_reducible exact .here | apply Pick.there)); done) | ((repeat (first | exact .here | apply Pick.there)); done)) ?_
  rintro _ ⟨a, cap, L, rfl, rfl⟩
  refine CJ_app3 ?_
  refine CJ_seq ?_
  refine CJ_region ?_
  refine RJ_q (Op_assign rfl) rfl ?_
  refine RJ_nil ?_
  refine NJ_then ?_
  refine CJ_env (E' := [(0, _), (2, _)]) (.cons rfl rfl (.cons rfl rfl .nil)) ?_
  refine CJ_seq ?_
  refine CJ_seq ?_
  refine CJ_region ?_
  refine RJ_q (Op_move rfl) rfl ?_
  refine RJ_q (Op_ptr_eq_nil rfl rfl Try.underlying24) rfl ?_
  refine RJ_nil ?_
  refine NJ_then ?_
  refine CJ_env (E' := [(0, _), (2, _), (4, _)]) (.cons rfl rfl (.cons rfl rfl (.cons rfl rfl .nil))) ?_
  refine CJ_cond rfl ?_ ?_
  · intro hc1
    exact absurd hc1 (by simp)
  · intro hc1
    try simp only [decide_eq_true_eq, decide_eq_false_iff_not] at hc1
    refine CJ_skip ?_
    refine NJ_then ?_
    refine CJ_env (E' := [(0, _), (2, _)]) (.cons rfl rfl (.cons rfl rfl .nil)) ?_
    refine CJ_seq ?_
    refine CJ_region ?_
    refine RJ_q (Op_move rfl) rfl ?_
    refine RJ_q (Op_nilCheck rfl) rfl ?_
    refine RJ_q (Op_fieldAddr (o' := 1) rfl Try.underlying57 rfl sz50 rfl rfl) rfl ?_
    refine RJ_q (Op_load rfl (load_cell Try.underlying50 rfl (by first | ((repeat (first | with_reducible exact .here | apply Pick.there)); done) | ((repeat (first | exact .here | apply Pick.there)); done)) (Nth.s Nth.z))) rfl ?_
    refine RJ_q (Op_len_slice rfl Try.underlying50) rfl ?_
    refine RJ_q (Op_assign rfl) rfl ?_
    refine RJ_nil ?_
    refine NJ_then ?_
    refine CJ_env (E' := [(2, _)]) (.cons rfl rfl .nil) ?_
    refine CJ_ret ?_
    refine NJ_ret (.inl rfl) Try.results19 (ResJ_tmp rfl ResJ_nil) (C := [NetP g room (L.map HeldG.pk) sent]) ⟨by simp [packRes], rfl⟩ (.swap (C := NetRaw g room a cap L sent) (.cons (by first | ((repeat (first | with_reducible exact .here | apply Pick.there)); done) | ((repeat (first | exact .here | apply Pick.there)); done)) (.cons (by first | ((repeat (first | with_reducible exact .here | apply Pick.there)); done) | ((repeat (first | exact .here | apply Pick.there)); done)) (.cons (by first | ((repeat (first | with_reducible exact .here | apply Pick.there)); done) | ((repeat (first | exact .here | apply Pick.there)); done)) (Imp.refl _)))) NetP_close (.cons (by first | ((repeat (first | with_reducible exact .here | apply Pick.there)); done) | ((repeat (first | exact .here | apply Pick.there)); done)) (by repeat (first | exact Imp.refl _ | refine Imp.skip ?_))))

set_option maxRecDepth 20000 in
theorem fresh_any (f t : Int) (a : Option Nat) (cap : Nat) (bs : List UInt8) (hb : bs.length ≤ 1000000) : Spec Try.prog 21 #[.agg #[.int .i64 f, .int .i64 t, .slice (sl a) bs.length cap]] [Row U8 a cap bs] (fun v C => ∃ g, v = .agg #[.int .i64 f, .int .i64 t, .slice (sl (some g)) bs.length bs.length] ∧ C = [Row U8 a cap bs, Row U8 (some g) bs.length bs]) := by
  refine Spec_intro (n := 15) (args := [.agg #[.int .i64 f, .int .i64 t, .slice (sl a) bs.length cap]]) Try.func21 rfl rfl rfl fun s R => ?_
  refine CJ_app1 ?_
  refine CJ_env (E' := [(0, _)]) (.cons rfl rfl .nil) ?_
  refine CJ_seq ?_
  refine CJ_region ?_
  refine RJ_p rfl (Op_box rfl) ?_
  rintro _ _ ⟨b1, rfl, rfl⟩
  refine RJ_p rfl (Op_alloc zr38) ?_
  rintro _ _ ⟨b2, rfl, rfl⟩
  refine RJ_nil ?_
  refine NJ_then ?_
  refine CJ_env (E' := [(1, _), (2, _)]) (.cons rfl rfl (.cons rfl rfl .nil)) ?_
  refine CJ_seq ?_
  refine CJ_region ?_
  refine RJ_q (Op_fieldAddr (o' := 2) rfl Try.underlying38 rfl sz30 rfl rfl) rfl ?_
  refine RJ_q (Op_load rfl (load_cell Try.underlying30 rfl (by first | ((repeat (first | with_reducible exact .here | apply Pick.there)); done) | ((repeat (first | exact .here | apply Pick.there)); done)) (Nth.s (Nth.s Nth.z)))) rfl ?_
  refine RJ_q (Op_len_slice rfl Try.underlying30) rfl ?_
  refine RJ_p rfl (Op_make (T := U8) (0 : UInt8) rfl rfl Try.underlying30 sz5 zr5 (by rfl) by5 (by simp [U8]; omega) (by omega)) ?_
  rintro _ _ ⟨g7, rfl, rfl⟩
  refine RJ_q (Op_assign rfl) rfl ?_
  refine RJ_nil ?_
  refine NJ_then ?_
  refine CJ_env (E' := [(1, _), (2, _), (3, _)]) (.cons rfl rfl (.cons rfl rfl (.cons rfl rfl .nil))) ?_
  refine CJ_seq ?_
  refine CJ_region ?_
  refine RJ_q (Op_move rfl) rfl ?_
  refine RJ_q (Op_fieldAddr (o' := 2) rfl Try.underlying38 rfl sz30 rfl rfl) rfl ?_
  refine RJ_q (Op_load rfl (load_cell Try.underlying30 rfl (by first | ((repeat (first | with_reducible exact .here | apply Pick.there)); done) | ((repeat (first | exact .here | apply Pick.there)); done)) (Nth.s (Nth.s Nth.z)))) rfl ?_
  refine RJ_p rfl (Op_copy (T := U8) (news := bs) rfl rfl (by first | ((repeat (first | with_reducible exact .here | apply Pick.there)); done) | ((repeat (first | exact .here | apply Pick.there)); done)) rfl (by simp) (Reads_row (by first | ((repeat (first | with_reducible exact .here | apply Pick.there)); done) | ((repeat (first | exact .here | apply Pick.there)); done))) Try.underlying30 sz5) ?_
  rintro _ _ ⟨rfl, rfl⟩
  refine RJ_nil ?_
  refine NJ_then ?_
  refine CJ_env (E' := [(1, _), (2, _), (3, _)]) (.cons rfl rfl (.cons rfl rfl (.cons rfl rfl .nil))) ?_
  refine CJ_seq ?_
  refine CJ_region ?_
  refine RJ_q (Op_move rfl) rfl ?_
  refine RJ_q (Op_fieldAddr (o' := 2) rfl Try.underlying38 rfl sz30 rfl rfl) rfl ?_
  refine RJ_d0 (Op_store (cs' := #[_, _, _]) rfl rfl sz30 (by rfl) (by simp [Value.cells, Value.oneCell']) (by repeat (first | exact .here | apply Repl.there)) rfl (free_zero _ _) (by rfl)) ?_
  refine RJ_nil ?_
  refine NJ_then ?_
  refine CJ_env (E' := [(1, _), (2, _)]) (.cons rfl rfl (.cons rfl rfl .nil)) ?_
  refine CJ_seq ?_
  refine CJ_region ?_
  refine RJ_q (Op_load rfl (load_struct (o := 0) (vs := [_, _, _]) Try.underlying38 sz38 (by first | ((repeat (first | with_reducible exact .here | apply Pick.there)); done) | ((repeat (first | exact .here | apply Pick.there)); done)) (by rfl) rfl)) rfl ?_
  refine RJ_d0 (Op_store (cs' := #[_, _, _]) rfl rfl sz38 (by rfl) (by simp [Value.cells, Value.oneCell']) (by repeat (first | exact .here | apply Repl.there)) rfl (free_zero _ _) (by rfl)) ?_
  refine RJ_nil ?_
  refine NJ_then ?_
  refine CJ_env (E' := [(2, _)]) (.cons rfl rfl .nil) ?_
  refine CJ_ret ?_
  refine NJ_ret (.inl rfl) Try.results21 (ResJ_cell rfl (load_struct (o := 0) (vs := [_, _, _]) Try.underlying38 sz38 (by first | ((repeat (first | with_reducible exact .here | apply Pick.there)); done) | ((repeat (first | exact .here | apply Pick.there)); done)) (by rfl) rfl) ResJ_nil) (C := [Row U8 a cap bs, Row U8 (some g7) bs.length bs]) ⟨g7, rfl, rfl⟩ (.cons (by first | ((repeat (first | with_reducible exact .here | apply Pick.there)); done) | ((repeat (first | exact .here | apply Pick.there)); done)) (.cons (by first | ((repeat (first | with_reducible exact .here | apply Pick.there)); done) | ((repeat (first | exact .here | apply Pick.there)); done)) (by repeat (first | exact Imp.refl _ | refine Imp.skip ?_))))

set_option maxRecDepth 20000 in
theorem New_any (room : Int) : Spec Try.prog 5 #[.int .i64 room] [] (fun v C => ∃ g, v = .pointer (some ⟨g, 0, none⟩) ∧ C = [NetP g room [] 0]) := by
  refine Spec_intro (n := 6) (args := [.int .i64 room]) Try.func5 rfl rfl rfl fun s R => ?_
  refine CJ_app0 ?_
  refine CJ_env (E' := [(0, _)]) (.cons rfl rfl .nil) ?_
  refine CJ_seq ?_
  refine CJ_region ?_
  refine RJ_q (Op_assign rfl) rfl ?_
  refine RJ_nil ?_
  refine NJ_then ?_
  refine CJ_env (E' := [(0, _), (2, _)]) (.cons rfl rfl (.cons rfl rfl .nil)) ?_
  refine CJ_seq ?_
  refine CJ_region ?_
  refine RJ_q (Op_move rfl) rfl ?_
  refine RJ_q (Op_build (vs := [_]) (cells := [_, _, _]) Try.underlying57 zr57 rfl pl57 (by rfl)) rfl ?_
  refine RJ_p rfl (Op_box rfl) ?_
  rintro _ _ ⟨b5, rfl, rfl⟩
  refine RJ_q (Op_assign rfl) rfl ?_
  refine RJ_nil ?_
  refine NJ_then ?_
  refine CJ_env (E' := [(2, _)]) (.cons rfl rfl .nil) ?_
  refine CJ_ret ?_
  refine NJ_ret (.inl rfl) Try.results5 (ResJ_tmp rfl ResJ_nil) (C := [NetP b5 room [] 0]) ⟨b5, rfl, rfl⟩ (.trans (NetP_new b5 room R) (.refl _))

set_option maxRecDepth 20000 in
theorem Add_any (g : Nat) (v0 v1 : Value) (x d : Int) (hr : -9223372036854775808 ≤ x + d ∧ x + d ≤ 9223372036854775807) : Spec Try.prog 22 #[.pointer (some ⟨g, 2, none⟩), .int .i64 d] [pt g (.cells #[v0, v1, .int .i64 x] 57 (0, 0))] (fun v C => v = .int .i64 (x + d) ∧ C = [pt g (.cells #[v0, v1, .int .i64 (x + d)] 57 (0, 0))]) := by
  refine Spec_intro (n := 10) (args := [.pointer (some ⟨g, 2, none⟩), .int .i64 d]) Try.func22 rfl rfl rfl fun s R => ?_
  refine CJ_app1 ?_
  refine CJ_env (E' := [(0, _), (1, _)]) (.cons rfl rfl (.cons rfl rfl .nil)) ?_
  refine CJ_seq ?_
  refine CJ_region ?_
  refine RJ_q (Op_assign rfl) rfl ?_
  refine RJ_nil ?_
  refine NJ_then ?_
  refine CJ_env (E' := [(0, _), (1, _), (4, _)]) (.cons rfl rfl (.cons rfl rfl (.cons rfl rfl .nil))) ?_
  refine CJ_seq ?_
  refine CJ_region ?_
  refine RJ_q (Op_move rfl) rfl ?_
  refine RJ_q (Op_nilCheck rfl) rfl ?_
  refine RJ_q (Op_fieldAddr (o' := 2) rfl Try.underlying55 rfl sz2 rfl rfl) rfl ?_
  refine RJ_q (Op_move rfl) rfl ?_
  refine RJ_p rfl (Op_atomic_add (cs' := #[_, _, _]) Try.func24 rfl rfl (by kernel_rfl) (by kernel_rfl) rfl rfl (by repeat (first | exact .here | apply Repl.there)) (Nth.s (Nth.s Nth.z)) hr (free_zero _ _) (by rfl)) ?_
  rintro _ _ ⟨rfl, rfl⟩
  refine RJ_q (Op_assign rfl) rfl ?_
  refine RJ_nil ?_
  refine NJ_then ?_
  refine CJ_env (E' := [(4, _)]) (.cons rfl rfl .nil) ?_
  refine CJ_ret ?_
  refine NJ_ret (.inl rfl) Try.results22 (ResJ_tmp rfl ResJ_nil) ⟨rfl, rfl⟩ (.cons (by first | ((repeat (first | with_reducible exact .here | apply Pick.there)); done) | ((repeat (first | exact .here | apply Pick.there)); done)) (by repeat (first | exact Imp.refl _ | refine Imp.skip ?_)))

set_option maxRecDepth 20000 in
theorem Load_any (g : Nat) (v0 v1 : Value) (x : Int) : Spec Try.prog 23 #[.pointer (some ⟨g, 2, none⟩)] [pt g (.cells #[v0, v1, .int .i64 x] 57 (0, 0))] (fun v C => v = .int .i64 x ∧ C = [pt g (.cells #[v0, v1, .int .i64 x] 57 (0, 0))]) := by
  refine Spec_intro (n := 7) (args := [.pointer (some ⟨g, 2, none⟩)]) Try.func23 rfl rfl rfl fun s R => ?_
  refine CJ_app1 ?_
  refine CJ_env (E' := [(0, _)]) (.cons rfl rfl .nil) ?_
  refine CJ_seq ?_
  refine CJ_region ?_
  refine RJ_q (Op_assign rfl) rfl ?_
  refine RJ_nil ?_
  refine NJ_then ?_
  refine CJ_env (E' := [(0, _), (2, _)]) (.cons rfl rfl (.cons rfl rfl .nil)) ?_
  refine CJ_seq ?_
  refine CJ_region ?_
  refine RJ_q (Op_move rfl) rfl ?_
  refine RJ_q (Op_nilCheck rfl) rfl ?_
  refine RJ_q (Op_fieldAddr (o' := 2) rfl Try.underlying55 rfl sz2 rfl rfl) rfl ?_
  refine RJ_p rfl (Op_atomic_load Try.func25 rfl rfl (by kernel_rfl) (by kernel_rfl) rfl (by first | ((repeat (first | with_reducible exact .here | apply Pick.there)); done) | ((repeat (first | exact .here | apply Pick.there)); done)) (Nth.s (Nth.s Nth.z))) ?_
  rintro _ _ ⟨rfl, rfl⟩
  refine RJ_q (Op_assign rfl) rfl ?_
  refine RJ_nil ?_
  refine NJ_then ?_
  refine CJ_env (E' := [(2, _)]) (.cons rfl rfl .nil) ?_
  refine CJ_ret ?_
  refine NJ_ret (.inl rfl) Try.results23 (ResJ_tmp rfl ResJ_nil) ⟨rfl, rfl⟩ (.cons (by first | ((repeat (first | with_reducible exact .here | apply Pick.there)); done) | ((repeat (first | exact .here | apply Pick.there)); done)) (by repeat (first | exact Imp.refl _ | refine Imp.skip ?_)))

set_option maxRecDepth 20000 in
theorem Sent_nil  : Spec Try.prog 20 #[.pointer none] [] (fun v C => v = .int .i64 0 ∧ C = []) := by
  refine Spec_intro (n := 9) (args := [.pointer none]) Try.func20 rfl rfl rfl fun s R => ?_
  refine CJ_app0 ?_
  refine CJ_env (E' := [(0, _)]) (.cons rfl rfl .nil) ?_
  refine CJ_seq ?_
  refine CJ_region ?_
  refine RJ_q (Op_assign rfl) rfl ?_
  refine RJ_nil ?_
  refine NJ_then ?_
  refine CJ_env (E' := [(0, _), (2, _)]) (.cons rfl rfl (.cons rfl rfl .nil)) ?_
  refine CJ_seq ?_
  refine CJ_seq ?_
  refine CJ_region ?_
  refine RJ_q (Op_move rfl) rfl ?_
  refine RJ_q (Op_ptr_eq_nil rfl rfl Try.underlying24) rfl ?_
  refine RJ_nil ?_
  refine NJ_then ?_
  refine CJ_env (E' := [(0, _), (2, _), (4, _)]) (.cons rfl rfl (.cons rfl rfl (.cons rfl rfl .nil))) ?_
  refine CJ_cond rfl ?_ ?_
  · intro hc1
    try simp only [decide_eq_true_eq, decide_eq_false_iff_not] at hc1
    refine CJ_seq ?_
    refine CJ_region ?_
    refine RJ_q (Op_assign rfl) rfl ?_
    refine RJ_nil ?_
    refine NJ_then ?_
    refine CJ_env (E' := [(0, _), (2, _)]) (.cons rfl rfl (.cons rfl rfl .nil)) ?_
    refine CJ_ret ?_
    refine NJ_then_r ?_
    refine NJ_ret (.inl rfl) Try.results20 (ResJ_tmp rfl ResJ_nil) ⟨rfl, rfl⟩ (by repeat (first | exact Imp.refl _ | refine Imp.skip ?_))
  · intro hc1
    exact absurd hc1 (by simp)

set_option maxRecDepth 20000 in
theorem Sent_any (g : Nat) (room : Int) (ps : List Pkt) (sent : Int) : Spec Try.prog 20 #[.pointer (some ⟨g, 0, none⟩)] [NetP g room ps sent] (fun v C => v = .int .i64 sent ∧ C = [NetP g room ps sent]) := by
  refine Spec_intro (n := 9) (args := [.pointer (some ⟨g, 0, none⟩)]) Try.func20 rfl rfl rfl fun s R => ?_
  refine CJ_app1 ?_
  refine CJ_env (E' := [(0, _)]) (.cons rfl rfl .nil) ?_
  refine CJ_open (NetP_opens _ _ _ _) (by first | ((repeat (first | with_reducible exact .here | apply Pick.there)); done) | ((repeat (first | exact .here | apply Pick.there)); done)) ?_
  rintro _ ⟨a, cap, L, rfl, rfl⟩
  refine CJ_app3 ?_
  refine CJ_seq ?_
  refine CJ_region ?_
  refine RJ_q (Op_assign rfl) rfl ?_
  refine RJ_nil ?_
  refine NJ_then ?_
  refine CJ_env (E' := [(0, _), (2, _)]) (.cons rfl rfl (.cons rfl rfl .nil)) ?_
  refine CJ_seq ?_
  refine CJ_seq ?_
  refine CJ_region ?_
  refine RJ_q (Op_move rfl) rfl ?_
  refine RJ_q (Op_ptr_eq_nil rfl rfl Try.underlying24) rfl ?_
  refine RJ_nil ?_
  refine NJ_then ?_
  refine CJ_env (E' := [(0, _), (2, _), (4, _)]) (.cons rfl rfl (.cons rfl rfl (.cons rfl rfl .nil))) ?_
  refine CJ_cond rfl ?_ ?_
  · intro hc1
    exact absurd hc1 (by simp)
  · intro hc1
    try simp only [decide_eq_true_eq, decide_eq_false_iff_not] at hc1
    refine CJ_skip ?_
    refine NJ_then ?_
    refine CJ_env (E' := [(0, _), (2, _)]) (.cons rfl rfl (.cons rfl rfl .nil)) ?_
    refine CJ_seq ?_
    refine CJ_region ?_
    refine RJ_q (Op_move rfl) rfl ?_
    refine RJ_q (Op_nilCheck rfl) rfl ?_
    refine RJ_q (Op_fieldAddr (o' := 2) rfl Try.underlying57 rfl sz55 rfl rfl) rfl ?_
    refine RJ_p rfl (Op_call (vs := [_]) Try.func23 rfl rfl (Load_any _ _ _ _) rfl (.cons (by first | ((repeat (first | with_reducible exact .here | apply Pick.there)); done) | ((repeat (first | exact .here | apply Pick.there)); done)) (Imp.refl _))) ?_
    rintro _ _ ⟨_, ⟨rfl, rfl⟩, rfl⟩
    refine RJ_app1 ?_
    refine RJ_q (Op_assign rfl) rfl ?_
    refine RJ_nil ?_
    refine NJ_then ?_
    refine CJ_env (E' := [(2, _)]) (.cons rfl rfl .nil) ?_
    refine CJ_ret ?_
    refine NJ_ret (.inl rfl) Try.results20 (ResJ_tmp rfl ResJ_nil) (C := [NetP g room (L.map HeldG.pk) sent]) ⟨rfl, rfl⟩ (.swap (C := NetRaw g room a cap L sent) (.cons (by first | ((repeat (first | with_reducible exact .here | apply Pick.there)); done) | ((repeat (first | exact .here | apply Pick.there)); done)) (.cons (by first | ((repeat (first | with_reducible exact .here | apply Pick.there)); done) | ((repeat (first | exact .here | apply Pick.there)); done)) (.cons (by first | ((repeat (first | with_reducible exact .here | apply Pick.there)); done) | ((repeat (first | exact .here | apply Pick.there)); done)) (Imp.refl _)))) NetP_close (.cons (by first | ((repeat (first | with_reducible exact .here | apply Pick.there)); done) | ((repeat (first | exact .here | apply Pick.there)); done)) (by repeat (first | exact Imp.refl _ | refine Imp.skip ?_))))

set_option maxRecDepth 20000 in
theorem Send_nil (f t : Int) (v : Value) : Spec Try.prog 6 #[.pointer none, .int .i64 f, .int .i64 t, v] [] (fun v C => v = .bool false ∧ C = []) := by
  refine Spec_intro (n := 42) (args := [.pointer none, .int .i64 f, .int .i64 t, v]) Try.func6 rfl rfl rfl fun s R => ?_
  refine CJ_app0 ?_
  refine CJ_env (E' := [(0, _), (1, _), (2, _), (3, _)]) (.cons rfl rfl (.cons rfl rfl (.cons rfl rfl (.cons rfl rfl .nil)))) ?_
  refine CJ_seq ?_
  refine CJ_region ?_
  refine RJ_q (Op_assign rfl) rfl ?_
  refine RJ_nil ?_
  refine NJ_then ?_
  refine CJ_env (E' := [(0, _), (1, _), (2, _), (3, _), (8, _)]) (.cons rfl rfl (.cons rfl rfl (.cons rfl rfl (.cons rfl rfl (.cons rfl rfl .nil))))) ?_
  refine CJ_seq ?_
  refine CJ_seq ?_
  refine CJ_draw (.q 0 (.q 1 (.q 2 (.q 3 (.q 4 (.q 5 (.q 6 (.q 7 (.q 8 (.q 9 (.q 10 (.q 11 (.q 12 (.q 13 .done)))))))))))))) (by kernel_rfl) (by kernel_rfl) (by kernel_rfl) ?_
  refine SJ_q rfl (want_none rfl) rfl (fun _ _ => Op_move rfl) ?_
  refine SJ_q rfl (want_none rfl) rfl (fun _ _ => Op_ptr_eq_nil rfl rfl Try.underlying24) ?_
  refine SJ_q rfl (want_none rfl) rfl (fun _ _ => Op_move rfl) ?_
  refine SJ_no (t := 11) true rfl rfl rfl rfl (by decide) rfl ?_
  refine SJ_no (t := 11) true rfl rfl rfl rfl (by decide) rfl ?_
  refine SJ_no (t := 11) true rfl rfl rfl rfl (by decide) rfl ?_
  refine SJ_no (t := 11) true rfl rfl rfl rfl (by decide) rfl ?_
  refine SJ_no (t := 11) true rfl rfl rfl rfl (by decide) rfl ?_
  refine SJ_no (t := 11) true rfl rfl rfl rfl (by decide) rfl ?_
  refine SJ_no (t := 11) true rfl rfl rfl rfl (by decide) rfl ?_
  refine SJ_no (t := 11) true rfl rfl rfl rfl (by decide) rfl ?_
  refine SJ_no (t := 11) true rfl rfl rfl rfl (by decide) rfl ?_
  refine SJ_no (t := 11) true rfl rfl rfl rfl (by decide) rfl ?_
  refine SJ_q rfl (want_none rfl) rfl (fun _ _ => Op_pick_t rfl rfl rfl) ?_
  refine SJ_done ?_
  refine NJ_then ?_
  refine CJ_env (E' := [(0, _), (1, _), (2, _), (3, _), (8, _), (22, _)]) (.cons rfl rfl (.cons rfl rfl (.cons rfl rfl (.cons rfl rfl (.cons rfl rfl (.cons rfl rfl .nil)))))) ?_
  refine CJ_then rfl rfl ?_
  refine CJ_seq ?_
  refine CJ_region ?_
  refine RJ_q (Op_assign rfl) rfl ?_
  refine RJ_nil ?_
  refine NJ_then ?_
  refine CJ_env (E' := [(0, _), (1, _), (2, _), (3, _), (8, _)]) (.cons rfl rfl (.cons rfl rfl (.cons rfl rfl (.cons rfl rfl (.cons rfl rfl .nil))))) ?_
  refine CJ_ret ?_
  refine NJ_then_r ?_
  refine NJ_ret (.inl rfl) Try.results6 (ResJ_tmp rfl ResJ_nil) ⟨rfl, rfl⟩ (by repeat (first | exact Imp.refl _ | refine Imp.skip ?_))

set_option maxRecDepth 20000 in
theorem Send_any (g : Nat) (room : Int) (ps : List Pkt) (sent f t : Int) (a0 : Option Nat) (cap0 : Nat) (bs : List UInt8) (hb : bs.length ≤ 1000000) (hp : ps.length ≤ 100000) (hs0 : 0 ≤ sent) (hs1 : sent ≤ 100000) : Spec Try.prog 6 #[.pointer (some ⟨g, 0, none⟩), .int .i64 f, .int .i64 t, .slice (sl a0) bs.length cap0] [NetP g room ps sent, Row U8 a0 cap0 bs] (fun v C => v = .bool (decide ((ps.length : Int) < room)) ∧ C = [if (ps.length : Int) < room then NetP g room (ps ++ [⟨f, t, bs, false⟩]) (sent + 1) else NetP g room ps sent, Row U8 a0 cap0 bs]) := by
  refine Spec_intro (n := 42) (args := [.pointer (some ⟨g, 0, none⟩), .int .i64 f, .int .i64 t, .slice (sl a0) bs.length cap0]) Try.func6 rfl rfl rfl fun s R => ?_
  refine CJ_app2 ?_
  refine CJ_env (E' := [(0, _), (1, _), (2, _), (3, _)]) (.cons rfl rfl (.cons rfl rfl (.cons rfl rfl (.cons rfl rfl .nil)))) ?_
  refine CJ_open (NetP_opens _ _ _ _) .here ?_
  rintro _ ⟨a, cap, L, rfl, rfl⟩
  refine CJ_app3 ?_
  simp only [List.length_map] at hp ⊢
  refine CJ_seq ?_
  refine CJ_region ?_
  refine RJ_q (Op_assign rfl) rfl ?_
  refine RJ_nil ?_
  refine NJ_then ?_
  refine CJ_env (E' := [(0, _), (1, _), (2, _), (3, _), (8, _)]) (.cons rfl rfl (.cons rfl rfl (.cons rfl rfl (.cons rfl rfl (.cons rfl rfl .nil))))) ?_
  refine CJ_seq ?_
  refine CJ_seq ?_
  refine CJ_draw (.q 0 (.q 1 (.q 2 (.q 3 (.q 4 (.q 5 (.q 6 (.q 7 (.q 8 (.q 9 (.q 10 (.q 11 (.q 12 (.q 13 .done)))))))))))))) (by kernel_rfl) (by kernel_rfl) (by kernel_rfl) ?_
  refine SJ_q rfl (want_none rfl) rfl (fun _ _ => Op_move rfl) ?_
  refine SJ_q rfl (want_none rfl) rfl (fun _ _ => Op_ptr_eq_nil rfl rfl Try.underlying24) ?_
  refine SJ_q rfl (want_none rfl) rfl (fun _ _ => Op_move rfl) ?_
  refine SJ_q rfl (want_yes (t := 11) rfl rfl rfl rfl) rfl (fun _ _ => Op_move rfl) ?_
  refine SJ_q rfl (want_yes (t := 11) rfl rfl rfl rfl) rfl (fun _ _ => Op_nilCheck rfl) ?_
  refine SJ_q rfl (want_yes (t := 11) rfl rfl rfl rfl) rfl (fun _ _ => Op_fieldAddr (o' := 1) rfl Try.underlying57 rfl sz50 rfl rfl) ?_
  refine SJ_load rfl (want_yes (t := 11) rfl rfl rfl rfl) rfl rfl (load_cell Try.underlying50 rfl (by first | ((repeat (first | with_reducible exact .here | apply Pick.there)); done) | ((repeat (first | exact .here | apply Pick.there)); done)) (Nth.s Nth.z)) ?_
  refine SJ_q rfl (want_yes (t := 11) rfl rfl rfl rfl) rfl (fun _ _ => Op_len_slice rfl Try.underlying50) ?_
  refine SJ_q rfl (want_yes (t := 11) rfl rfl rfl rfl) rfl (fun _ _ => Op_move rfl) ?_
  refine SJ_q rfl (want_yes (t := 11) rfl rfl rfl rfl) rfl (fun _ _ => Op_nilCheck rfl) ?_
  refine SJ_q rfl (want_yes (t := 11) rfl rfl rfl rfl) rfl (fun _ _ => Op_fieldAddr (o' := 0) rfl Try.underlying57 rfl sz3 rfl rfl) ?_
  refine SJ_load rfl (want_yes (t := 11) rfl rfl rfl rfl) rfl rfl (load_cell Try.underlying3 rfl (by first | ((repeat (first | with_reducible exact .here | apply Pick.there)); done) | ((repeat (first | exact .here | apply Pick.there)); done)) Nth.z) ?_
  refine SJ_q rfl (want_yes (t := 11) rfl rfl rfl rfl) rfl (fun _ _ => Op_geq rfl rfl) ?_
  refine SJ_q rfl (want_none rfl) rfl (fun _ _ => Op_pick_f rfl rfl rfl) ?_
  refine SJ_done ?_
  refine NJ_then ?_
  refine CJ_env (E' := [(0, _), (1, _), (2, _), (3, _), (8, _), (22, _)]) (.cons rfl rfl (.cons rfl rfl (.cons rfl rfl (.cons rfl rfl (.cons rfl rfl (.cons rfl rfl .nil)))))) ?_
  refine CJ_cond rfl ?_ ?_
  · intro hc1
    try simp only [decide_eq_true_eq, decide_eq_false_iff_not, Bool.not_eq_true', Bool.not_eq_false'] at hc1
    refine CJ_seq ?_
    refine CJ_region ?_
    refine RJ_q (Op_assign rfl) rfl ?_
    refine RJ_nil ?_
    refine NJ_then ?_
    refine CJ_env (E' := [(0, _), (1, _), (2, _), (3, _), (8, _)]) (.cons rfl rfl (.cons rfl rfl (.cons rfl rfl (.cons rfl rfl (.cons rfl rfl .nil))))) ?_
    refine CJ_ret ?_
    refine NJ_then_r ?_
    refine NJ_ret (.inl rfl) Try.results6 (ResJ_tmp rfl ResJ_nil) (C := [NetP g room (L.map HeldG.pk) sent, Row U8 a0 cap0 bs]) ⟨by simp [packRes]; omega, by rw [if_neg (by omega)]⟩ (.swap (C := NetRaw g room a cap L sent) (.cons (by first | ((repeat (first | with_reducible exact .here | apply Pick.there)); done) | ((repeat (first | exact .here | apply Pick.there)); done)) (.cons (by first | ((repeat (first | with_reducible exact .here | apply Pick.there)); done) | ((repeat (first | exact .here | apply Pick.there)); done)) (.cons (by first | ((repeat (first | with_reducible exact .here | apply Pick.there)); done) | ((repeat (first | exact .here | apply Pick.there)); done)) (Imp.refl _)))) NetP_close (.cons (by first | ((repeat (first | with_reducible exact .here | apply Pick.there)); done) | ((repeat (first | exact .here | apply Pick.there)); done)) (.cons (by first | ((repeat (first | with_reducible exact .here | apply Pick.there)); done) | ((repeat (first | exact .here | apply Pick.there)); done)) (by repeat (first | exact Imp.refl _ | refine Imp.skip ?_)))))
  · intro hc1
    try simp only [decide_eq_true_eq, decide_eq_false_iff_not, Bool.not_eq_true', Bool.not_eq_false'] at hc1
    refine CJ_skip ?_
    refine NJ_then ?_
    refine CJ_env (E' := [(0, _), (1, _), (2, _), (3, _), (8, _)]) (.cons rfl rfl (.cons rfl rfl (.cons rfl rfl (.cons rfl rfl (.cons rfl rfl .nil))))) ?_
    refine CJ_seq ?_
    refine CJ_draw (.q 0 (.q 1 (.q 2 (.q 3 (.q 4 (.q 5 (.q 6 (.q 7 (.q 8 (.e 9 (.q 10 (.e 11 (.e 12 (.q 13 (.q 14 (.e 15 .done)))))))))))))))) (by kernel_rfl) (by kernel_rfl) (by kernel_rfl) ?_
    refine SJ_q rfl (want_none rfl) rfl (fun _ _ => Op_move rfl) ?_
    refine SJ_q rfl (want_none rfl) rfl (fun _ _ => Op_move rfl) ?_
    refine SJ_q rfl (want_none rfl) rfl (fun _ _ => Op_nilCheck rfl) ?_
    refine SJ_q rfl (want_none rfl) rfl (fun _ _ => Op_fieldAddr (o' := 1) rfl Try.underlying57 rfl sz50 rfl rfl) ?_
    refine SJ_load rfl (want_none rfl) rfl rfl (load_cell Try.underlying50 rfl (by first | ((repeat (first | with_reducible exact .here | apply Pick.there)); done) | ((repeat (first | exact .here | apply Pick.there)); done)) (Nth.s Nth.z)) ?_
    refine SJ_q rfl (want_none rfl) rfl (fun _ _ => Op_move rfl) ?_
    refine SJ_q rfl (want_none rfl) rfl (fun _ _ => Op_move rfl) ?_
    refine SJ_q rfl (want_none rfl) rfl (fun _ _ => Op_move rfl) ?_
    refine SJ_q rfl (want_none rfl) rfl (fun _ _ => Op_build (vs := [_, _, _]) (cells := [_, _, _]) Try.underlying38 zr38 rfl pl38 (by rfl)) ?_
    refine SJ_p (rd' := [⟨4, _, _, _⟩]) [4] rfl (want_none rfl) rfl (Op_call (vs := [_]) Try.func21 rfl rfl (fresh_any _ _ _ _ _ hb) rfl (.cons (by first | ((repeat (first | with_reducible exact .here | apply Pick.there)); done) | ((repeat (first | exact .here | apply Pick.there)); done)) (Imp.refl _))) (by kernel_rfl) rfl ?_
    rintro _ _ ⟨_, ⟨g32, rfl, rfl⟩, rfl⟩
    refine OS_app2 ?_
    refine ⟨⟨(load_cell Try.underlying50 rfl (by first | ((repeat (first | with_reducible exact .here | apply Pick.there)); done) | ((repeat (first | exact .here | apply Pick.there)); done)) (Nth.s Nth.z)), trivial⟩, ?_⟩
    refine SJ_q rfl (want_none rfl) rfl (fun _ _ => Op_build (vs := [_]) (cells := [_, _, _, _]) Try.underlying60 zr60 rfl pl60 (by rfl)) ?_
    refine SJ_p (rd' := [⟨4, _, _, _⟩]) [4] rfl (want_none rfl) rfl (Op_buildSlice (vs := [_]) (cells := [_, _, _, _]) Try.underlying50 sz60 zr60 rfl rfl rfl rfl (by rfl)) (by kernel_rfl) rfl ?_
    rintro _ _ ⟨g34, rfl, rfl⟩
    refine ⟨⟨(load_cell Try.underlying50 rfl (by first | ((repeat (first | with_reducible exact .here | apply Pick.there)); done) | ((repeat (first | exact .here | apply Pick.there)); done)) (Nth.s Nth.z)), trivial⟩, ?_⟩
    refine SJ_p (rd' := []) [] rfl (want_none rfl) rfl (Op_append (T := HeldT) (news := [⟨f, t, some g32, bs.length, bs, false⟩]) rfl rfl (by first | ((repeat (first | with_reducible exact .here | apply Pick.there)); done) | ((repeat (first | exact .here | apply Pick.there)); done)) rfl (by simp) (Reads_pt (by first | ((repeat (first | with_reducible exact .here | apply Pick.there)); done) | ((repeat (first | exact .here | apply Pick.there)); done)) (fun j u h => by simpa [Ty.flat, HeldT, HeldG.enc] using h)) Try.underlying50 sz60 zr60 (by rfl) by60 (by simp [HeldT]; omega) (by unfold maxLen; omega)) (by kernel_rfl) rfl ?_
    rintro _ _ ⟨a', c', rfl, rfl⟩
    refine ⟨trivial, ?_⟩
    refine SJ_q rfl (want_none rfl) rfl (fun _ _ => Op_nilCheck rfl) ?_
    refine SJ_q rfl (want_none rfl) rfl (fun _ _ => Op_fieldAddr (o' := 1) rfl Try.underlying57 rfl sz50 rfl rfl) ?_
    refine SJ_d0 (rd' := []) [] rfl (want_none rfl) (Op_store (cs' := #[_, _, _]) rfl rfl sz50 (by rfl) (by simp [Value.cells, Value.oneCell']) (by repeat (first | exact .here | apply Repl.there)) rfl (free_zero _ _) (by rfl)) (by kernel_rfl) rfl trivial ?_
    refine SJ_done ?_
    refine NJ_then ?_
    refine CJ_env (E' := [(0, _), (8, _)]) (.cons rfl rfl (.cons rfl rfl .nil)) ?_
    refine CJ_seq ?_
    refine CJ_region ?_
    refine RJ_q (Op_move rfl) rfl ?_
    refine RJ_q (Op_nilCheck rfl) rfl ?_
    refine RJ_q (Op_fieldAddr (o' := 2) rfl Try.underlying57 rfl sz55 rfl rfl) rfl ?_
    refine RJ_p rfl (Op_call (vs := [_, _]) Try.func22 rfl rfl (Add_any _ _ _ sent 1 (by omega)) rfl (.cons (by first | ((repeat (first | with_reducible exact .here | apply Pick.there)); done) | ((repeat (first | exact .here | apply Pick.there)); done)) (Imp.refl _))) ?_
    rintro _ _ ⟨_, ⟨rfl, rfl⟩, rfl⟩
    refine RJ_app1 ?_
    refine RJ_nil ?_
    refine NJ_then ?_
    refine CJ_env (E' := [(8, _)]) (.cons rfl rfl .nil) ?_
    refine CJ_seq ?_
    refine CJ_region ?_
    refine RJ_q (Op_assign rfl) rfl ?_
    refine RJ_nil ?_
    refine NJ_then ?_
    refine CJ_env (E' := [(8, _)]) (.cons rfl rfl .nil) ?_
    refine CJ_ret ?_
    refine NJ_ret (.inl rfl) Try.results6 (ResJ_tmp rfl ResJ_nil) (C := [NetP g room (L.map HeldG.pk ++ [⟨f, t, bs, false⟩]) (sent + 1), Row U8 a0 cap0 bs]) ⟨by simp [packRes]; omega, by rw [if_pos (by omega)]⟩ (.swap (C := [pt g (.cells #[.int .i64 room, .slice (sl a') (L ++ [(⟨f, t, some g32, bs.length, bs, false⟩ : HeldG)]).length c', .int .i64 (sent + 1)] 57 (0, 0)), Row HeldT a' c' (L ++ [⟨f, t, some g32, bs.length, bs, false⟩]), Row U8 (some g32) bs.length bs, All BytesOf L]) (.cons (by first | ((repeat (first | with_reducible exact .here | apply Pick.there)); done) | ((repeat (first | exact .here | apply Pick.there)); done)) (.cons (by first | ((repeat (first | with_reducible exact .here | apply Pick.there)); done) | ((repeat (first | exact .here | apply Pick.there)); done)) (.cons (by first | ((repeat (first | with_reducible exact .here | apply Pick.there)); done) | ((repeat (first | exact .here | apply Pick.there)); done)) (.cons (by first | ((repeat (first | with_reducible exact .here | apply Pick.there)); done) | ((repeat (first | exact .here | apply Pick.there)); done)) (Imp.refl _))))) NetP_add (.cons (by first | ((repeat (first | with_reducible exact .here | apply Pick.there)); done) | ((repeat (first | exact .here | apply Pick.there)); done)) (.cons (by first | ((repeat (first | with_reducible exact .here | apply Pick.there)); done) | ((repeat (first | exact .here | apply Pick.there)); done)) (by repeat (first | exact Imp.refl _ | refine Imp.skip ?_)))))

set_option maxRecDepth 20000 in
theorem Look_nil (i : Int) : Spec Try.prog 8 #[.pointer none, .int .i64 i] [] (fun v C => v = .tuple #[.agg #[.int .i64 0, .int .i64 0, .slice none 0 0], .bool false] ∧ C = []) := by
  refine Spec_intro (n := 24) (args := [.pointer none, .int .i64 i]) Try.func8 rfl rfl rfl fun s R => ?_
  refine CJ_app0 ?_
  refine CJ_env (E' := [(0, _), (1, _)]) (.cons rfl rfl (.cons rfl rfl .nil)) ?_
  refine CJ_seq ?_
  refine CJ_region ?_
  refine RJ_p rfl (Op_alloc zr38) ?_
  rintro _ _ ⟨b4, rfl, rfl⟩
  refine RJ_q (Op_assign rfl) rfl ?_
  refine RJ_nil ?_
  refine NJ_then ?_
  refine CJ_env (E' := [(0, _), (1, _), (4, _), (5, _)]) (.cons rfl rfl (.cons rfl rfl (.cons rfl rfl (.cons rfl rfl .nil)))) ?_
  refine CJ_seq ?_
  refine CJ_seq ?_
  refine CJ_region ?_
  refine RJ_q (Op_move rfl) rfl ?_
  refine RJ_q (Op_lss rfl rfl) rfl ?_
  by_cases h0 : i < 0
  · skip
    refine RJ_q (Op_move rfl) rfl ?_
    refine RJ_no (t := 8) true rfl rfl (decide_eq_true h0) (by decide) rfl ?_
    refine RJ_no (t := 8) true rfl rfl (decide_eq_true h0) (by decide) rfl ?_
    refine RJ_no (t := 8) true rfl rfl (decide_eq_true h0) (by decide) rfl ?_
    refine RJ_no (t := 8) true rfl rfl (decide_eq_true h0) (by decide) rfl ?_
    refine RJ_q (Op_pick_t rfl (decide_eq_true h0) rfl) rfl ?_
    refine RJ_nil ?_
    refine NJ_then ?_
    refine CJ_env (E' := [(0, _), (1, _), (4, _), (5, _), (13, _)]) (.cons rfl rfl (.cons rfl rfl (.cons rfl rfl (.cons rfl rfl (.cons rfl rfl .nil))))) ?_
    refine CJ_then rfl rfl ?_
    refine CJ_seq ?_
    refine CJ_region ?_
    refine RJ_q (Op_build (vs := []) (cells := [_, _, _]) Try.underlying38 zr38 rfl pl38 (by rfl)) rfl ?_
    refine RJ_d0 (Op_store (cs' := #[_, _, _]) rfl rfl sz38 (by rfl) (by simp [Value.cells, Value.oneCell']) (by repeat (first | exact .here | apply Repl.there)) rfl (free_zero _ _) (by rfl)) ?_
    refine RJ_q (Op_assign rfl) rfl ?_
    refine RJ_nil ?_
    refine NJ_then ?_
    refine CJ_env (E' := [(0, _), (1, _), (4, _), (5, _)]) (.cons rfl rfl (.cons rfl rfl (.cons rfl rfl (.cons rfl rfl .nil)))) ?_
    refine CJ_ret ?_
    refine NJ_then_r ?_
    refine NJ_ret (.inl rfl) Try.results8 (ResJ_cell rfl (load_struct (o := 0) (vs := [_, _, _]) Try.underlying38 sz38 (by first | ((repeat (first | with_reducible exact .here | apply Pick.there)); done) | ((repeat (first | exact .here | apply Pick.there)); done)) (by rfl) rfl) (ResJ_tmp rfl ResJ_nil)) ⟨rfl, rfl⟩ (by repeat (first | exact Imp.refl _ | refine Imp.skip ?_))
  · skip
    refine RJ_q (Op_move rfl) rfl ?_
    refine RJ_yes (t := 8) rfl rfl (decide_eq_false h0) ?_
    refine RJ_q (Op_move rfl) rfl ?_
    refine RJ_yes (t := 8) rfl rfl (decide_eq_false h0) ?_
    refine RJ_q (Op_move rfl) rfl ?_
    refine RJ_yes (t := 8) rfl rfl (decide_eq_false h0) ?_
    refine RJ_p rfl (Op_call (vs := [_]) Try.func19 rfl rfl (Len_nil) rfl (Imp.refl _)) ?_
    rintro _ _ ⟨_, ⟨rfl, rfl⟩, rfl⟩
    refine RJ_app0 ?_
    refine RJ_yes (t := 8) rfl rfl (decide_eq_false h0) ?_
    refine RJ_q (Op_geq rfl rfl) rfl ?_
    refine RJ_q (Op_pick_f rfl (decide_eq_false h0) rfl) rfl ?_
    refine RJ_nil ?_
    refine NJ_then ?_
    refine CJ_env (E' := [(0, _), (1, _), (4, _), (5, _), (13, _)]) (.cons rfl rfl (.cons rfl rfl (.cons rfl rfl (.cons rfl rfl (.cons rfl rfl .nil))))) ?_
    refine CJ_then rfl (decide_eq_true (by omega)) ?_
    refine CJ_seq ?_
    refine CJ_region ?_
    refine RJ_q (Op_build (vs := []) (cells := [_, _, _]) Try.underlying38 zr38 rfl pl38 (by rfl)) rfl ?_
    refine RJ_d0 (Op_store (cs' := #[_, _, _]) rfl rfl sz38 (by rfl) (by simp [Value.cells, Value.oneCell']) (by repeat (first | exact .here | apply Repl.there)) rfl (free_zero _ _) (by rfl)) ?_
    refine RJ_q (Op_assign rfl) rfl ?_
    refine RJ_nil ?_
    refine NJ_then ?_
    refine CJ_env (E' := [(0, _), (1, _), (4, _), (5, _)]) (.cons rfl rfl (.cons rfl rfl (.cons rfl rfl (.cons rfl rfl .nil)))) ?_
    refine CJ_ret ?_
    refine NJ_then_r ?_
    refine NJ_ret (.inl rfl) Try.results8 (ResJ_cell rfl (load_struct (o := 0) (vs := [_, _, _]) Try.underlying38 sz38 (by first | ((repeat (first | with_reducible exact .here | apply Pick.there)); done) | ((repeat (first | exact .here | apply Pick.there)); done)) (by rfl) rfl) (ResJ_tmp rfl ResJ_nil)) ⟨rfl, rfl⟩ (by repeat (first | exact Imp.refl _ | refine Imp.skip ?_))

set_option maxRecDepth 20000 in
theorem Look_no (g : Nat) (room : Int) (ps : List Pkt) (sent : Int) (i : Int) (h : i < 0 ∨ (ps.length : Int) ≤ i) : Spec Try.prog 8 #[.pointer (some ⟨g, 0, none⟩), .int .i64 i] [NetP g room ps sent] (fun v C => v = .tuple #[.agg #[.int .i64 0, .int .i64 0, .slice none 0 0], .bool false] ∧ C = [NetP g room ps sent]) := by
  refine Spec_intro (n := 24) (args := [.pointer (some ⟨g, 0, none⟩), .int .i64 i]) Try.func8 rfl rfl rfl fun s R => ?_
  refine CJ_app1 ?_
  refine CJ_env (E' := [(0, _), (1, _)]) (.cons rfl rfl (.cons rfl rfl .nil)) ?_
  refine CJ_seq ?_
  refine CJ_region ?_
  refine RJ_p rfl (Op_alloc zr38) ?_
  rintro _ _ ⟨b4, rfl, rfl⟩
  refine RJ_q (Op_assign rfl) rfl ?_
  refine RJ_nil ?_
  refine NJ_then ?_
  refine CJ_env (E' := [(0, _), (1, _), (4, _), (5, _)]) (.cons rfl rfl (.cons rfl rfl (.cons rfl rfl (.cons rfl rfl .nil)))) ?_
  refine CJ_seq ?_
  refine CJ_seq ?_
  refine CJ_region ?_
  refine RJ_q (Op_move rfl) rfl ?_
  refine RJ_q (Op_lss rfl rfl) rfl ?_
  by_cases h0 : i < 0
  · skip
    refine RJ_q (Op_move rfl) rfl ?_
    refine RJ_no (t := 8) true rfl rfl (decide_eq_true h0) (by decide) rfl ?_
    refine RJ_no (t := 8) true rfl rfl (decide_eq_true h0) (by decide) rfl ?_
    refine RJ_no (t := 8) true rfl rfl (decide_eq_true h0) (by decide) rfl ?_
    refine RJ_no (t := 8) true rfl rfl (decide_eq_true h0) (by decide) rfl ?_
    refine RJ_q (Op_pick_t rfl (decide_eq_true h0) rfl) rfl ?_
    refine RJ_nil ?_
    refine NJ_then ?_
    refine CJ_env (E' := [(0, _), (1, _), (4, _), (5, _), (13, _)]) (.cons rfl rfl (.cons rfl rfl (.cons rfl rfl (.cons rfl rfl (.cons rfl rfl .nil))))) ?_
    refine CJ_then rfl rfl ?_
    refine CJ_seq ?_
    refine CJ_region ?_
    refine RJ_q (Op_build (vs := []) (cells := [_, _, _]) Try.underlying38 zr38 rfl pl38 (by rfl)) rfl ?_
    refine RJ_d0 (Op_store (cs' := #[_, _, _]) rfl rfl sz38 (by rfl) (by simp [Value.cells, Value.oneCell']) (by repeat (first | exact .here | apply Repl.there)) rfl (free_zero _ _) (by rfl)) ?_
    refine RJ_q (Op_assign rfl) rfl ?_
    refine RJ_nil ?_
    refine NJ_then ?_
    refine CJ_env (E' := [(0, _), (1, _), (4, _), (5, _)]) (.cons rfl rfl (.cons rfl rfl (.cons rfl rfl (.cons rfl rfl .nil)))) ?_
    refine CJ_ret ?_
    refine NJ_then_r ?_
    refine NJ_ret (.inl rfl) Try.results8 (ResJ_cell rfl (load_struct (o := 0) (vs := [_, _, _]) Try.underlying38 sz38 (by first | ((repeat (first | with_reducible exact .here | apply Pick.there)); done) | ((repeat (first | exact .here | apply Pick.there)); done)) (by rfl) rfl) (ResJ_tmp rfl ResJ_nil)) ⟨rfl, rfl⟩ (.cons (by first | ((repeat (first | with_reducible exact .here | apply Pick.there)); done) | ((repeat (first | exact .here | apply Pick.there)); done)) (by repeat (first | exact Imp.refl _ | refine Imp.skip ?_)))
  · skip
    refine RJ_q (Op_move rfl) rfl ?_
    refine RJ_yes (t := 8) rfl rfl (decide_eq_false h0) ?_
    refine RJ_q (Op_move rfl) rfl ?_
    refine RJ_yes (t := 8) rfl rfl (decide_eq_false h0) ?_
    refine RJ_q (Op_move rfl) rfl ?_
    refine RJ_yes (t := 8) rfl rfl (decide_eq_false h0) ?_
    refine RJ_p rfl (Op_call (vs := [_]) Try.func19 rfl rfl (Len_any _ _ _ _) rfl (.cons (by first | ((repeat (first | with_reducible exact .here | apply Pick.there)); done) | ((repeat (first | exact .here | apply Pick.there)); done)) (Imp.refl _))) ?_
    rintro _ _ ⟨_, ⟨rfl, rfl⟩, rfl⟩
    refine RJ_app1 ?_
    refine RJ_yes (t := 8) rfl rfl (decide_eq_false h0) ?_
    refine RJ_q (Op_geq rfl rfl) rfl ?_
    refine RJ_q (Op_pick_f rfl (decide_eq_false h0) rfl) rfl ?_
    refine RJ_nil ?_
    refine NJ_then ?_
    refine CJ_env (E' := [(0, _), (1, _), (4, _), (5, _), (13, _)]) (.cons rfl rfl (.cons rfl rfl (.cons rfl rfl (.cons rfl rfl (.cons rfl rfl .nil))))) ?_
    refine CJ_then rfl (decide_eq_true (by omega)) ?_
    refine CJ_seq ?_
    refine CJ_region ?_
    refine RJ_q (Op_build (vs := []) (cells := [_, _, _]) Try.underlying38 zr38 rfl pl38 (by rfl)) rfl ?_
    refine RJ_d0 (Op_store (cs' := #[_, _, _]) rfl rfl sz38 (by rfl) (by simp [Value.cells, Value.oneCell']) (by repeat (first | exact .here | apply Repl.there)) rfl (free_zero _ _) (by rfl)) ?_
    refine RJ_q (Op_assign rfl) rfl ?_
    refine RJ_nil ?_
    refine NJ_then ?_
    refine CJ_env (E' := [(0, _), (1, _), (4, _), (5, _)]) (.cons rfl rfl (.cons rfl rfl (.cons rfl rfl (.cons rfl rfl .nil)))) ?_
    refine CJ_ret ?_
    refine NJ_then_r ?_
    refine NJ_ret (.inl rfl) Try.results8 (ResJ_cell rfl (load_struct (o := 0) (vs := [_, _, _]) Try.underlying38 sz38 (by first | ((repeat (first | with_reducible exact .here | apply Pick.there)); done) | ((repeat (first | exact .here | apply Pick.there)); done)) (by rfl) rfl) (ResJ_tmp rfl ResJ_nil)) ⟨rfl, rfl⟩ (.cons (by first | ((repeat (first | with_reducible exact .here | apply Pick.there)); done) | ((repeat (first | exact .here | apply Pick.there)); done)) (by repeat (first | exact Imp.refl _ | refine Imp.skip ?_)))

set_option maxRecDepth 20000 in
theorem Look_yes (g : Nat) (room : Int) (ps : List Pkt) (sent : Int) (k : Nat) (p : Pkt) (hk : ps[k]? = some p) (hbs : ∀ p ∈ ps, p.bs.length ≤ 1000000) (hp : ps.length ≤ 100000) : Spec Try.prog 8 #[.pointer (some ⟨g, 0, none⟩), .int .i64 k] [NetP g room ps sent] (fun v C => ∃ g2, v = .tuple #[.agg #[.int .i64 p.f, .int .i64 p.t, .slice (sl (some g2)) p.bs.length p.bs.length], .bool true] ∧ C = [NetP g room ps sent, Row U8 (some g2) p.bs.length p.bs]) := by
  have hlt0 : k < ps.length := (List.getElem?_eq_some_iff.1 hk).1
  have hb0 : p.bs.length ≤ 1000000 := hbs p (List.mem_of_getElem? hk)
  clear hbs
  refine Spec_intro (n := 24) (args := [.pointer (some ⟨g, 0, none⟩), .int .i64 k]) Try.func8 rfl rfl rfl fun s R => ?_
  refine CJ_app1 ?_
  refine CJ_env (E' := [(0, _), (1, _)]) (.cons rfl rfl (.cons rfl rfl .nil)) ?_
  refine CJ_seq ?_
  refine CJ_region ?_
  refine RJ_p rfl (Op_alloc zr38) ?_
  rintro _ _ ⟨b4, rfl, rfl⟩
  refine RJ_q (Op_assign rfl) rfl ?_
  refine RJ_nil ?_
  refine NJ_then ?_
  refine CJ_env (E' := [(0, _), (1, _), (4, _), (5, _)]) (.cons rfl rfl (.cons rfl rfl (.cons rfl rfl (.cons rfl rfl .nil)))) ?_
  refine CJ_seq ?_
  refine CJ_seq ?_
  refine CJ_region ?_
  refine RJ_q (Op_move rfl) rfl ?_
  refine RJ_q (Op_lss rfl rfl) rfl ?_
  refine RJ_q (Op_move rfl) rfl ?_
  refine RJ_yes (t := 8) rfl rfl (decide_eq_false (by omega)) ?_
  refine RJ_q (Op_move rfl) rfl ?_
  refine RJ_yes (t := 8) rfl rfl (decide_eq_false (by omega)) ?_
  refine RJ_q (Op_move rfl) rfl ?_
  refine RJ_yes (t := 8) rfl rfl (decide_eq_false (by omega)) ?_
  refine RJ_p rfl (Op_call (vs := [_]) Try.func19 rfl rfl (Len_any _ _ _ _) rfl (.cons (by first | ((repeat (first | with_reducible exact .here | apply Pick.there)); done) | ((repeat (first | exact .here | apply Pick.there)); done)) (Imp.refl _))) ?_
  rintro _ _ ⟨_, ⟨rfl, rfl⟩, rfl⟩
  refine RJ_app1 ?_
  refine RJ_yes (t := 8) rfl rfl (decide_eq_false (by omega)) ?_
  refine RJ_q (Op_geq rfl rfl) rfl ?_
  refine RJ_q (Op_pick_f rfl (decide_eq_false (by omega)) rfl) rfl ?_
  refine RJ_nil ?_
  refine NJ_then ?_
  refine CJ_env (E' := [(0, _), (1, _), (4, _), (5, _), (13, _)]) (.cons rfl rfl (.cons rfl rfl (.cons rfl rfl (.cons rfl rfl (.cons rfl rfl .nil))))) ?_
  refine CJ_else rfl (decide_eq_false (by omega)) ?_
  refine CJ_skip ?_
  refine NJ_then ?_
  refine CJ_env (E' := [(0, _), (1, _), (4, _), (5, _)]) (.cons rfl rfl (.cons rfl rfl (.cons rfl rfl (.cons rfl rfl .nil)))) ?_
  refine CJ_seq ?_
  refine CJ_open (NetP_opens _ _ _ _) (by first | ((repeat (first | with_reducible exact .here | apply Pick.there)); done) | ((repeat (first | exact .here | apply Pick.there)); done)) ?_
  rintro _ ⟨a, cap, L, rfl, rfl⟩
  refine CJ_app3 ?_
  obtain ⟨x, hx, rfl⟩ : ∃ x, L[k]? = some x ∧ x.pk = p := by simpa using hk
  have hlt : k < L.length := (List.getElem?_eq_some_iff.1 hx).1
  simp only [List.length_map] at hp
  refine CJ_know (Row_know (T := HeldT) (by first | ((repeat (first | with_reducible exact .here | apply Pick.there)); done) | ((repeat (first | exact .here | apply Pick.there)); done))) ?_
  intro hkn
  obtain ⟨ga, rfl⟩ : ∃ ga, a = some ga := by
    cases a with
    | none => obtain ⟨_, rfl⟩ := hkn.2.2 rfl; simp at hx
    | some ga => exact ⟨ga, rfl⟩
  refine CJ_region ?_
  refine RJ_q (Op_move rfl) rfl ?_
  refine RJ_q (Op_nilCheck rfl) rfl ?_
  refine RJ_q (Op_fieldAddr (o' := 1) rfl Try.underlying57 rfl sz50 rfl rfl) rfl ?_
  refine RJ_q (Op_load rfl (load_cell Try.underlying50 rfl (by first | ((repeat (first | with_reducible exact .here | apply Pick.there)); done) | ((repeat (first | exact .here | apply Pick.there)); done)) (Nth.s Nth.z))) rfl ?_
  refine RJ_q (Op_move rfl) rfl ?_
  refine RJ_q (Op_indexAddr (o' := k * HeldT.sz + 0) rfl rfl Try.underlying50 sz60 (by omega) (by omega) (by simp [HeldT])) rfl ?_
  refine RJ_q (Op_fieldAddr (o' := k * HeldT.sz + 0) rfl Try.underlying60 rfl sz38 rfl rfl) rfl ?_
  refine RJ_q (Op_load rfl (load_row (o := 0) (vs := [_, _, _]) Try.underlying38 sz38 (by first | ((repeat (first | with_reducible exact .here | apply Pick.there)); done) | ((repeat (first | exact .here | apply Pick.there)); done)) hx rfl (by rfl))) rfl ?_
  refine RJ_imp (.swap (C := [All BytesOf L]) (.cons (by first | ((repeat (first | with_reducible exact .here | apply Pick.there)); done) | ((repeat (first | exact .here | apply Pick.there)); done)) (Imp.refl _)) (All_out hx).imp (.refl _)) (RJ_app2 ?_)
  refine RJ_p rfl (Op_call (vs := [_]) Try.func21 rfl rfl (fresh_any _ _ x.a x.cap x.bs hb0) rfl (.cons (by first | ((repeat (first | with_reducible exact .here | apply Pick.there)); done) | ((repeat (first | exact .here | apply Pick.there)); done)) (Imp.refl _))) ?_
  rintro _ _ ⟨_, ⟨g23, rfl, rfl⟩, rfl⟩
  refine RJ_app2 ?_
  refine RJ_d0 (Op_store (cs' := #[_, _, _]) rfl rfl sz38 (by rfl) (by simp [Value.cells, Value.oneCell']) (by repeat (first | exact .here | apply Repl.there)) rfl (free_zero _ _) (by rfl)) ?_
  refine RJ_q (Op_assign rfl) rfl ?_
  refine RJ_nil ?_
  refine NJ_then ?_
  refine CJ_env (E' := [(4, _), (5, _)]) (.cons rfl rfl (.cons rfl rfl .nil)) ?_
  refine CJ_ret ?_
  refine NJ_ret (.inl rfl) Try.results8 (ResJ_cell rfl (load_struct (o := 0) (vs := [_, _, _]) Try.underlying38 sz38 (by first | ((repeat (first | with_reducible exact .here | apply Pick.there)); done) | ((repeat (first | exact .here | apply Pick.there)); done)) (by rfl) rfl) (ResJ_tmp rfl ResJ_nil)) (C := [NetP g room (L.map HeldG.pk) sent, Row U8 (some g23) x.bs.length x.bs]) ⟨g23, rfl, rfl⟩ (.swap (C := [BytesOf x, All BytesOf (L.eraseIdx k)]) (.cons (by first | ((repeat (first | with_reducible exact .here | apply Pick.there)); done) | ((repeat (first | exact .here | apply Pick.there)); done)) (.cons (by first | ((repeat (first | with_reducible exact .here | apply Pick.there)); done) | ((repeat (first | exact .here | apply Pick.there)); done)) (Imp.refl _))) (All_back hx).imp (.swap (C := NetRaw g room (some ga) cap L sent) (.cons (by first | ((repeat (first | with_reducible exact .here | apply Pick.there)); done) | ((repeat (first | exact .here | apply Pick.there)); done)) (.cons (by first | ((repeat (first | with_reducible exact .here | apply Pick.there)); done) | ((repeat (first | exact .here | apply Pick.there)); done)) (.cons (by first | ((repeat (first | with_reducible exact .here | apply Pick.there)); done) | ((repeat (first | exact .here | apply Pick.there)); done)) (Imp.refl _)))) NetP_close (.cons (by first | ((repeat (first | with_reducible exact .here | apply Pick.there)); done) | ((repeat (first | exact .here | apply Pick.there)); done)) (.cons (by first | ((repeat (first | with_reducible exact .here | apply Pick.there)); done) | ((repeat (first | exact .here | apply Pick.there)); done)) (by repeat (first | exact Imp.refl _ | refine Imp.skip ?_))))))

set_option maxRecDepth 20000 in
theorem Take_nil (i : Int) : Spec Try.prog 11 #[.pointer none, .int .i64 i] [] (fun v C => v = .tuple #[.agg #[.int .i64 0, .int .i64 0, .slice none 0 0], .bool false] ∧ C = []) := by
  refine Spec_intro (n := 35) (args := [.pointer none, .int .i64 i]) Try.func11 rfl rfl rfl fun s R => ?_
  refine CJ_app0 ?_
  refine CJ_env (E' := [(0, _), (1, _)]) (.cons rfl rfl (.cons rfl rfl .nil)) ?_
  refine CJ_seq ?_
  refine CJ_region ?_
  refine RJ_p rfl (Op_alloc zr38) ?_
  rintro _ _ ⟨b4, rfl, rfl⟩
  refine RJ_q (Op_assign rfl) rfl ?_
  refine RJ_nil ?_
  refine NJ_then ?_
  refine CJ_env (E' := [(0, _), (1, _), (4, _), (5, _)]) (.cons rfl rfl (.cons rfl rfl (.cons rfl rfl (.cons rfl rfl .nil)))) ?_
  refine CJ_seq ?_
  refine CJ_region ?_
  refine RJ_q (Op_move rfl) rfl ?_
  refine RJ_q (Op_move rfl) rfl ?_
  refine RJ_p rfl (Op_call (vs := [_, _]) Try.func8 rfl rfl (Look_nil _) rfl (Imp.refl _)) ?_
  rintro _ _ ⟨_, ⟨rfl, rfl⟩, rfl⟩
  refine RJ_app0 ?_
  refine RJ_q (Op_move rfl) rfl ?_
  refine RJ_q (Op_extract rfl rfl) rfl ?_
  refine RJ_q (Op_extract rfl rfl) rfl ?_
  refine RJ_p rfl (Op_alloc zr38) ?_
  rintro _ _ ⟨b6, rfl, rfl⟩
  refine RJ_d0 (Op_store (cs' := #[_, _, _]) rfl rfl sz38 (by rfl) (by simp [Value.cells, Value.oneCell']) (by repeat (first | exact .here | apply Repl.there)) rfl (free_zero _ _) (by rfl)) ?_
  refine RJ_q (Op_assign rfl) rfl ?_
  refine RJ_nil ?_
  refine NJ_then ?_
  refine CJ_env (E' := [(0, _), (1, _), (4, _), (5, _), (6, _), (7, _)]) (.cons rfl rfl (.cons rfl rfl (.cons rfl rfl (.cons rfl rfl (.cons rfl rfl (.cons rfl rfl .nil)))))) ?_
  refine CJ_seq ?_
  refine CJ_seq ?_
  refine CJ_region ?_
  refine RJ_q (Op_move rfl) rfl ?_
  refine RJ_nil ?_
  refine NJ_then ?_
  refine CJ_env (E' := [(0, _), (1, _), (4, _), (5, _), (6, _), (7, _), (14, _)]) (.cons rfl rfl (.cons rfl rfl (.cons rfl rfl (.cons rfl rfl (.cons rfl rfl (.cons rfl rfl (.cons rfl rfl .nil))))))) ?_
  refine CJ_else rfl rfl ?_
  refine CJ_skip ?_
  refine NJ_then ?_
  refine CJ_env (E' := [(4, _), (5, _), (6, _), (7, _)]) (.cons rfl rfl (.cons rfl rfl (.cons rfl rfl (.cons rfl rfl .nil)))) ?_
  refine CJ_seq ?_
  refine CJ_region ?_
  refine RJ_q (Op_load rfl (load_struct (o := 0) (vs := [_, _, _]) Try.underlying38 sz38 (by first | ((repeat (first | with_reducible exact .here | apply Pick.there)); done) | ((repeat (first | exact .here | apply Pick.there)); done)) (by rfl) rfl)) rfl ?_
  refine RJ_q (Op_move rfl) rfl ?_
  refine RJ_d0 (Op_store (cs' := #[_, _, _]) rfl rfl sz38 (by rfl) (by simp [Value.cells, Value.oneCell']) (by repeat (first | exact .here | apply Repl.there)) rfl (free_zero _ _) (by rfl)) ?_
  refine RJ_q (Op_assign rfl) rfl ?_
  refine RJ_nil ?_
  refine NJ_then ?_
  refine CJ_env (E' := [(4, _), (5, _)]) (.cons rfl rfl (.cons rfl rfl .nil)) ?_
  refine CJ_ret ?_
  refine NJ_ret (.inl rfl) Try.results11 (ResJ_cell rfl (load_struct (o := 0) (vs := [_, _, _]) Try.underlying38 sz38 (by first | ((repeat (first | with_reducible exact .here | apply Pick.there)); done) | ((repeat (first | exact .here | apply Pick.there)); done)) (by rfl) rfl) (ResJ_tmp rfl ResJ_nil)) ⟨rfl, rfl⟩ (by repeat (first | exact Imp.refl _ | refine Imp.skip ?_))

set_option maxRecDepth 20000 in
theorem Take_no (g : Nat) (room : Int) (ps : List Pkt) (sent : Int) (i : Int) (h : i < 0 ∨ (ps.length : Int) ≤ i) : Spec Try.prog 11 #[.pointer (some ⟨g, 0, none⟩), .int .i64 i] [NetP g room ps sent] (fun v C => v = .tuple #[.agg #[.int .i64 0, .int .i64 0, .slice none 0 0], .bool false] ∧ C = [NetP g room ps sent]) := by
  refine Spec_intro (n := 35) (args := [.pointer (some ⟨g, 0, none⟩), .int .i64 i]) Try.func11 rfl rfl rfl fun s R => ?_
  refine CJ_app1 ?_
  refine CJ_env (E' := [(0, _), (1, _)]) (.cons rfl rfl (.cons rfl rfl .nil)) ?_
  refine CJ_seq ?_
  refine CJ_region ?_
  refine RJ_p rfl (Op_alloc zr38) ?_
  rintro _ _ ⟨b4, rfl, rfl⟩
  refine RJ_q (Op_assign rfl) rfl ?_
  refine RJ_nil ?_
  refine NJ_then ?_
  refine CJ_env (E' := [(0, _), (1, _), (4, _), (5, _)]) (.cons rfl rfl (.cons rfl rfl (.cons rfl rfl (.cons rfl rfl .nil)))) ?_
  refine CJ_seq ?_
  refine CJ_region ?_
  refine RJ_q (Op_move rfl) rfl ?_
  refine RJ_q (Op_move rfl) rfl ?_
  refine RJ_p rfl (Op_call (vs := [_, _]) Try.func8 rfl rfl (Look_no _ _ _ _ _ h) rfl (.cons (by first | ((repeat (first | with_reducible exact .here | apply Pick.there)); done) | ((repeat (first | exact .here | apply Pick.there)); done)) (Imp.refl _))) ?_
  rintro _ _ ⟨_, ⟨rfl, rfl⟩, rfl⟩
  refine RJ_app1 ?_
  refine RJ_q (Op_move rfl) rfl ?_
  refine RJ_q (Op_extract rfl rfl) rfl ?_
  refine RJ_q (Op_extract rfl rfl) rfl ?_
  refine RJ_p rfl (Op_alloc zr38) ?_
  rintro _ _ ⟨b6, rfl, rfl⟩
  refine RJ_d0 (Op_store (cs' := #[_, _, _]) rfl rfl sz38 (by rfl) (by simp [Value.cells, Value.oneCell']) (by repeat (first | exact .here | apply Repl.there)) rfl (free_zero _ _) (by rfl)) ?_
  refine RJ_q (Op_assign rfl) rfl ?_
  refine RJ_nil ?_
  refine NJ_then ?_
  refine CJ_env (E' := [(0, _), (1, _), (4, _), (5, _), (6, _), (7, _)]) (.cons rfl rfl (.cons rfl rfl (.cons rfl rfl (.cons rfl rfl (.cons rfl rfl (.cons rfl rfl .nil)))))) ?_
  refine CJ_seq ?_
  refine CJ_seq ?_
  refine CJ_region ?_
  refine RJ_q (Op_move rfl) rfl ?_
  refine RJ_nil ?_
  refine NJ_then ?_
  refine CJ_env (E' := [(0, _), (1, _), (4, _), (5, _), (6, _), (7, _), (14, _)]) (.cons rfl rfl (.cons rfl rfl (.cons rfl rfl (.cons rfl rfl (.cons rfl rfl (.cons rfl rfl (.cons rfl rfl .nil))))))) ?_
  refine CJ_else rfl rfl ?_
  refine CJ_skip ?_
  refine NJ_then ?_
  refine CJ_env (E' := [(4, _), (5, _), (6, _), (7, _)]) (.cons rfl rfl (.cons rfl rfl (.cons rfl rfl (.cons rfl rfl .nil)))) ?_
  refine CJ_seq ?_
  refine CJ_region ?_
  refine RJ_q (Op_load rfl (load_struct (o := 0) (vs := [_, _, _]) Try.underlying38 sz38 (by first | ((repeat (first | with_reducible exact .here | apply Pick.there)); done) | ((repeat (first | exact .here | apply Pick.there)); done)) (by rfl) rfl)) rfl ?_
  refine RJ_q (Op_move rfl) rfl ?_
  refine RJ_d0 (Op_store (cs' := #[_, _, _]) rfl rfl sz38 (by rfl) (by simp [Value.cells, Value.oneCell']) (by repeat (first | exact .here | apply Repl.there)) rfl (free_zero _ _) (by rfl)) ?_
  refine RJ_q (Op_assign rfl) rfl ?_
  refine RJ_nil ?_
  refine NJ_then ?_
  refine CJ_env (E' := [(4, _), (5, _)]) (.cons rfl rfl (.cons rfl rfl .nil)) ?_
  refine CJ_ret ?_
  refine NJ_ret (.inl rfl) Try.results11 (ResJ_cell rfl (load_struct (o := 0) (vs := [_, _, _]) Try.underlying38 sz38 (by first | ((repeat (first | with_reducible exact .here | apply Pick.there)); done) | ((repeat (first | exact .here | apply Pick.there)); done)) (by rfl) rfl) (ResJ_tmp rfl ResJ_nil)) ⟨rfl, rfl⟩ (.cons (by first | ((repeat (first | with_reducible exact .here | apply Pick.there)); done) | ((repeat (first | exact .here | apply Pick.there)); done)) (by repeat (first | exact Imp.refl _ | refine Imp.skip ?_)))

set_option maxRecDepth 20000 in
theorem Take_yes (g : Nat) (room : Int) (ps : List Pkt) (sent : Int) (k : Nat) (p : Pkt) (hk : ps[k]? = some p) (hbs : ∀ p ∈ ps, p.bs.length ≤ 1000000) (hp : ps.length ≤ 100000) : Spec Try.prog 11 #[.pointer (some ⟨g, 0, none⟩), .int .i64 k] [NetP g room ps sent] (fun v C => ∃ g2, v = .tuple #[.agg #[.int .i64 p.f, .int .i64 p.t, .slice (sl (some g2)) p.bs.length p.bs.length], .bool true] ∧ C = [NetP g room (ps.eraseIdx k) sent, Row U8 (some g2) p.bs.length p.bs]) := by
  refine Spec_intro (n := 35) (args := [.pointer (some ⟨g, 0, none⟩), .int .i64 k]) Try.func11 rfl rfl rfl fun s R => ?_
  refine CJ_app1 ?_
  refine CJ_env (E' := [(0, _), (1, _)]) (.cons rfl rfl (.cons rfl rfl .nil)) ?_
  refine CJ_seq ?_
  refine CJ_region ?_
  refine RJ_p rfl (Op_alloc zr38) ?_
  rintro _ _ ⟨b4, rfl, rfl⟩
  refine RJ_q (Op_assign rfl) rfl ?_
  refine RJ_nil ?_
  refine NJ_then ?_
  refine CJ_env (E' := [(0, _), (1, _), (4, _), (5, _)]) (.cons rfl rfl (.cons rfl rfl (.cons rfl rfl (.cons rfl rfl .nil)))) ?_
  refine CJ_seq ?_
  refine CJ_region ?_
  refine RJ_q (Op_move rfl) rfl ?_
  refine RJ_q (Op_move rfl) rfl ?_
  refine RJ_p rfl (Op_call (vs := [_, _]) Try.func8 rfl rfl (Look_yes _ _ _ _ _ _ hk hbs hp) rfl (.cons (by first | ((repeat (first | with_reducible exact .here | apply Pick.there)); done) | ((repeat (first | exact .here | apply Pick.there)); done)) (Imp.refl _))) ?_
  rintro _ _ ⟨_, ⟨g11, rfl, rfl⟩, rfl⟩
  refine RJ_app2 ?_
  refine RJ_q (Op_move rfl) rfl ?_
  refine RJ_q (Op_extract rfl rfl) rfl ?_
  refine RJ_q (Op_extract rfl rfl) rfl ?_
  refine RJ_p rfl (Op_alloc zr38) ?_
  rintro _ _ ⟨b6, rfl, rfl⟩
  refine RJ_d0 (Op_store (cs' := #[_, _, _]) rfl rfl sz38 (by rfl) (by simp [Value.cells, Value.oneCell']) (by repeat (first | exact .here | apply Repl.there)) rfl (free_zero _ _) (by rfl)) ?_
  refine RJ_q (Op_assign rfl) rfl ?_
  refine RJ_nil ?_
  refine NJ_then ?_
  refine CJ_env (E' := [(0, _), (1, _), (4, _), (5, _), (6, _), (7, _)]) (.cons rfl rfl (.cons rfl rfl (.cons rfl rfl (.cons rfl rfl (.cons rfl rfl (.cons rfl rfl .nil)))))) ?_
  refine CJ_seq ?_
  refine CJ_seq ?_
  refine CJ_region ?_
  refine RJ_q (Op_move rfl) rfl ?_
  refine RJ_nil ?_
  refine NJ_then ?_
  refine CJ_env (E' := [(0, _), (1, _), (4, _), (5, _), (6, _), (7, _), (14, _)]) (.cons rfl rfl (.cons rfl rfl (.cons rfl rfl (.cons rfl rfl (.cons rfl rfl (.cons rfl rfl (.cons rfl rfl .nil))))))) ?_
  refine CJ_then rfl rfl ?_
  refine CJ_open (NetP_opens _ _ _ _) (by first | ((repeat (first | with_reducible exact .here | apply Pick.there)); done) | ((repeat (first | exact .here | apply Pick.there)); done)) ?_
  rintro _ ⟨a, cap, L, rfl, rfl⟩
  refine CJ_app3 ?_
  obtain ⟨x, hx, rfl⟩ : ∃ x, L[k]? = some x ∧ x.pk = p := by simpa using hk
  have hlt : k < L.length := (List.getElem?_eq_some_iff.1 hx).1
  simp only [List.length_map] at hp
  refine CJ_know (Row_know (T := HeldT) (by first | ((repeat (first | with_reducible exact .here | apply Pick.there)); done) | ((repeat (first | exact .here | apply Pick.there)); done))) ?_
  intro hkn
  obtain ⟨ga, rfl⟩ : ∃ ga, a = some ga := by
    cases a with
    | none => obtain ⟨_, rfl⟩ := hkn.2.2 rfl; simp at hx
    | some ga => exact ⟨ga, rfl⟩
  clear hbs
  refine CJ_draw (.q 0 (.q 1 (.q 2 (.q 3 (.q 4 (.q 5 (.q 6 (.q 7 (.q 8 (.q 9 (.q 10 (.q 11 (.q 12 (.q 13 (.q 14 (.e 15 (.q 16 (.q 17 (.e 18 .done))))))))))))))))))) (by kernel_rfl) (by kernel_rfl) (by kernel_rfl) ?_
  refine SJ_q rfl (want_none rfl) rfl (fun _ _ => Op_move rfl) ?_
  refine SJ_q rfl (want_none rfl) rfl (fun _ _ => Op_move rfl) ?_
  refine SJ_q rfl (want_none rfl) rfl (fun _ _ => Op_nilCheck rfl) ?_
  refine SJ_q rfl (want_none rfl) rfl (fun _ _ => Op_fieldAddr (o' := 1) rfl Try.underlying57 rfl sz50 rfl rfl) ?_
  refine SJ_load rfl (want_none rfl) rfl rfl (load_cell Try.underlying50 rfl (by first | ((repeat (first | with_reducible exact .here | apply Pick.there)); done) | ((repeat (first | exact .here | apply Pick.there)); done)) (Nth.s Nth.z)) ?_
  refine SJ_q rfl (want_none rfl) rfl (fun _ _ => Op_move rfl) ?_
  refine SJ_q rfl (want_none rfl) rfl (fun _ _ => Op_move rfl) ?_
  refine SJ_q rfl (want_none rfl) rfl (fun _ _ => Op_sliceN_him rfl rfl rfl Try.underlying50 sz60 (Nat.le_refl _) (by omega)) ?_
  refine SJ_q rfl (want_none rfl) rfl (fun _ _ => Op_move rfl) ?_
  refine SJ_q rfl (want_none rfl) rfl (fun _ _ => Op_nilCheck rfl) ?_
  refine SJ_q rfl (want_none rfl) rfl (fun _ _ => Op_fieldAddr (o' := 1) rfl Try.underlying57 rfl sz50 rfl rfl) ?_
  refine SJ_load rfl (want_none rfl) rfl rfl (load_cell Try.underlying50 rfl (by first | ((repeat (first | with_reducible exact .here | apply Pick.there)); done) | ((repeat (first | exact .here | apply Pick.there)); done)) (Nth.s Nth.z)) ?_
  refine SJ_q rfl (want_none rfl) rfl (fun _ _ => Op_move rfl) ?_
  refine SJ_q rfl (want_none rfl) rfl (fun _ _ => Op_addN (k + 1) rfl rfl (by omega) (by omega)) ?_
  refine SJ_q rfl (want_none rfl) rfl (fun _ _ => Op_sliceN_lo rfl rfl Try.underlying50 sz60 (by omega)) ?_
  refine SJ_p (rd' := []) [] rfl (want_none rfl) rfl (Op_append_cut (T := HeldT) (news := L.drop (k + 1)) rfl rfl (by first | ((repeat (first | with_reducible exact .here | apply Pick.there)); done) | ((repeat (first | exact .here | apply Pick.there)); done)) (by omega) (by simp) (Reads_low (T := HeldT) (by first | ((repeat (first | with_reducible exact .here | apply Pick.there)); done) | ((repeat (first | exact .here | apply Pick.there)); done)) (by omega) rfl) Try.underlying50 sz60 zr60 (by rfl) by60 (by simp [HeldT]; omega) (by unfold maxLen; omega)) (by kernel_rfl) rfl ?_
  rintro _ _ ⟨a', c', rfl, rfl⟩
  refine ⟨trivial, ?_⟩
  refine SJ_q rfl (want_none rfl) rfl (fun _ _ => Op_nilCheck rfl) ?_
  refine SJ_q rfl (want_none rfl) rfl (fun _ _ => Op_fieldAddr (o' := 1) rfl Try.underlying57 rfl sz50 rfl rfl) ?_
  refine SJ_d0 (rd' := []) [] rfl (want_none rfl) (Op_store (cs' := #[_, _, _]) rfl rfl sz50 (by rfl) (by simp [Value.cells, Value.oneCell']) (by repeat (first | exact .here | apply Repl.there)) rfl (free_zero _ _) (by rfl)) (by kernel_rfl) rfl trivial ?_
  refine SJ_done ?_
  refine NJ_then ?_
  refine CJ_env (E' := [(4, _), (5, _), (6, _), (7, _)]) (.cons rfl rfl (.cons rfl rfl (.cons rfl rfl (.cons rfl rfl .nil)))) ?_
  refine CJ_seq ?_
  refine CJ_region ?_
  refine RJ_q (Op_load rfl (load_struct (o := 0) (vs := [_, _, _]) Try.underlying38 sz38 (by first | ((repeat (first | with_reducible exact .here | apply Pick.there)); done) | ((repeat (first | exact .here | apply Pick.there)); done)) (by rfl) rfl)) rfl ?_
  refine RJ_q (Op_move rfl) rfl ?_
  refine RJ_d0 (Op_store (cs' := #[_, _, _]) rfl rfl sz38 (by rfl) (by simp [Value.cells, Value.oneCell']) (by repeat (first | exact .here | apply Repl.there)) rfl (free_zero _ _) (by rfl)) ?_
  refine RJ_q (Op_assign rfl) rfl ?_
  refine RJ_nil ?_
  refine NJ_then ?_
  refine CJ_env (E' := [(4, _), (5, _)]) (.cons rfl rfl (.cons rfl rfl .nil)) ?_
  refine CJ_ret ?_
  refine NJ_ret (.inl rfl) Try.results11 (ResJ_cell rfl (load_struct (o := 0) (vs := [_, _, _]) Try.underlying38 sz38 (by first | ((repeat (first | with_reducible exact .here | apply Pick.there)); done) | ((repeat (first | exact .here | apply Pick.there)); done)) (by rfl) rfl) (ResJ_tmp rfl ResJ_nil)) (C := [NetP g room ((L.take k ++ L.drop (k + 1)).map HeldG.pk) sent, Row U8 (some g11) x.bs.length x.bs]) ⟨g11, rfl, by rw [List.eraseIdx_eq_take_drop_succ]; simp [HeldG.pk]⟩ (.swap (C := [All BytesOf L]) (.cons (by first | ((repeat (first | with_reducible exact .here | apply Pick.there)); done) | ((repeat (first | exact .here | apply Pick.there)); done)) (Imp.refl _)) (All_drop hx) (.swap (C := NetRaw g room a' c' (L.take k ++ L.drop (k + 1)) sent) (.cons (by first | ((repeat (first | with_reducible exact .here | apply Pick.there)); done) | ((repeat (first | exact .here | apply Pick.there)); done)) (.cons (by first | ((repeat (first | with_reducible exact .here | apply Pick.there)); done) | ((repeat (first | exact .here | apply Pick.there)); done)) (.cons (by first | ((repeat (first | with_reducible exact .here | apply Pick.there)); done) | ((repeat (first | exact .here | apply Pick.there)); done)) (Imp.refl _)))) NetP_close (.cons (by first | ((repeat (first | with_reducible exact .here | apply Pick.there)); done) | ((repeat (first | exact .here | apply Pick.there)); done)) (.cons (by first | ((repeat (first | with_reducible exact .here | apply Pick.there)); done) | ((repeat (first | exact .here | apply Pick.there)); done)) (by repeat (first | exact Imp.refl _ | refine Imp.skip ?_))))))

set_option maxRecDepth 20000 in
theorem Double_nil (i : Int) : Spec Try.prog 13 #[.pointer none, .int .i64 i] [] (fun v C => v = .bool false ∧ C = []) := by
  refine Spec_intro (n := 46) (args := [.pointer none, .int .i64 i]) Try.func13 rfl rfl rfl fun s R => ?_
  refine CJ_app0 ?_
  refine CJ_env (E' := [(0, _), (1, _)]) (.cons rfl rfl (.cons rfl rfl .nil)) ?_
  refine CJ_seq ?_
  refine CJ_region ?_
  refine RJ_q (Op_assign rfl) rfl ?_
  refine RJ_nil ?_
  refine NJ_then ?_
  refine CJ_env (E' := [(0, _), (1, _), (4, _)]) (.cons rfl rfl (.cons rfl rfl (.cons rfl rfl .nil))) ?_
  refine CJ_seq ?_
  refine CJ_region ?_
  refine RJ_q (Op_move rfl) rfl ?_
  refine RJ_q (Op_move rfl) rfl ?_
  refine RJ_p rfl (Op_call (vs := [_, _]) Try.func8 rfl rfl (Look_nil _) rfl (Imp.refl _)) ?_
  rintro _ _ ⟨_, ⟨rfl, rfl⟩, rfl⟩
  refine RJ_app0 ?_
  refine RJ_q (Op_move rfl) rfl ?_
  refine RJ_q (Op_extract rfl rfl) rfl ?_
  refine RJ_q (Op_extract rfl rfl) rfl ?_
  refine RJ_p rfl (Op_alloc zr38) ?_
  rintro _ _ ⟨b5, rfl, rfl⟩
  refine RJ_d0 (Op_store (cs' := #[_, _, _]) rfl rfl sz38 (by rfl) (by simp [Value.cells, Value.oneCell']) (by repeat (first | exact .here | apply Repl.there)) rfl (free_zero _ _) (by rfl)) ?_
  refine RJ_q (Op_assign rfl) rfl ?_
  refine RJ_nil ?_
  refine NJ_then ?_
  refine CJ_env (E' := [(0, _), (1, _), (4, _), (5, _), (6, _)]) (.cons rfl rfl (.cons rfl rfl (.cons rfl rfl (.cons rfl rfl (.cons rfl rfl .nil))))) ?_
  refine CJ_seq ?_
  refine CJ_seq ?_
  refine CJ_draw (.q 0 (.q 1 (.q 2 (.q 3 (.q 4 (.q 5 (.q 6 (.q 7 (.q 8 (.q 9 (.q 10 (.q 11 (.q 12 (.q 13 .done)))))))))))))) (by kernel_rfl) (by kernel_rfl) (by kernel_rfl) ?_
  refine SJ_q rfl (want_none rfl) rfl (fun _ _ => Op_move rfl) ?_
  refine SJ_q rfl (want_none rfl) rfl (fun _ _ => Op_not rfl) ?_
  refine SJ_q rfl (want_none rfl) rfl (fun _ _ => Op_move rfl) ?_
  refine SJ_no (t := 15) true rfl rfl rfl rfl (by decide) rfl ?_
  refine SJ_no (t := 15) true rfl rfl rfl rfl (by decide) rfl ?_
  refine SJ_no (t := 15) true rfl rfl rfl rfl (by decide) rfl ?_
  refine SJ_no (t := 15) true rfl rfl rfl rfl (by decide) rfl ?_
  refine SJ_no (t := 15) true rfl rfl rfl rfl (by decide) rfl ?_
  refine SJ_no (t := 15) true rfl rfl rfl rfl (by decide) rfl ?_
  refine SJ_no (t := 15) true rfl rfl rfl rfl (by decide) rfl ?_
  refine SJ_no (t := 15) true rfl rfl rfl rfl (by decide) rfl ?_
  refine SJ_no (t := 15) true rfl rfl rfl rfl (by decide) rfl ?_
  refine SJ_no (t := 15) true rfl rfl rfl rfl (by decide) rfl ?_
  refine SJ_q rfl (want_none rfl) rfl (fun _ _ => Op_pick_t rfl rfl rfl) ?_
  refine SJ_done ?_
  refine NJ_then ?_
  refine CJ_env (E' := [(0, _), (1, _), (4, _), (5, _), (26, _)]) (.cons rfl rfl (.cons rfl rfl (.cons rfl rfl (.cons rfl rfl (.cons rfl rfl .nil))))) ?_
  refine CJ_then rfl rfl ?_
  refine CJ_seq ?_
  refine CJ_region ?_
  refine RJ_q (Op_assign rfl) rfl ?_
  refine RJ_nil ?_
  refine NJ_then ?_
  refine CJ_env (E' := [(0, _), (1, _), (4, _), (5, _)]) (.cons rfl rfl (.cons rfl rfl (.cons rfl rfl (.cons rfl rfl .nil)))) ?_
  refine CJ_ret ?_
  refine NJ_then_r ?_
  refine NJ_ret (.inl rfl) Try.results13 (ResJ_tmp rfl ResJ_nil) ⟨rfl, rfl⟩ (by repeat (first | exact Imp.refl _ | refine Imp.skip ?_))

set_option maxRecDepth 20000 in
theorem Double_no (g : Nat) (room : Int) (ps : List Pkt) (sent : Int) (i : Int) (h : i < 0 ∨ (ps.length : Int) ≤ i) : Spec Try.prog 13 #[.pointer (some ⟨g, 0, none⟩), .int .i64 i] [NetP g room ps sent] (fun v C => v = .bool false ∧ C = [NetP g room ps sent]) := by
  refine Spec_intro (n := 46) (args := [.pointer (some ⟨g, 0, none⟩), .int .i64 i]) Try.func13 rfl rfl rfl fun s R => ?_
  refine CJ_app1 ?_
  refine CJ_env (E' := [(0, _), (1, _)]) (.cons rfl rfl (.cons rfl rfl .nil)) ?_
  refine CJ_seq ?_
  refine CJ_region ?_
  refine RJ_q (Op_assign rfl) rfl ?_
  refine RJ_nil ?_
  refine NJ_then ?_
  refine CJ_env (E' := [(0, _), (1, _), (4, _)]) (.cons rfl rfl (.cons rfl rfl (.cons rfl rfl .nil))) ?_
  refine CJ_seq ?_
  refine CJ_region ?_
  refine RJ_q (Op_move rfl) rfl ?_
  refine RJ_q (Op_move rfl) rfl ?_
  refine RJ_p rfl (Op_call (vs := [_, _]) Try.func8 rfl rfl (Look_no _ _ _ _ _ h) rfl (.cons (by first | ((repeat (first | with_reducible exact .here | apply Pick.there)); done) | ((repeat (first | exact .here | apply Pick.there)); done)) (Imp.refl _))) ?_
  rintro _ _ ⟨_, ⟨rfl, rfl⟩, rfl⟩
  refine RJ_app1 ?_
  refine RJ_q (Op_move rfl) rfl ?_
  refine RJ_q (Op_extract rfl rfl) rfl ?_
  refine RJ_q (Op_extract rfl rfl) rfl ?_
  refine RJ_p rfl (Op_alloc zr38) ?_
  rintro _ _ ⟨b5, rfl, rfl⟩
  refine RJ_d0 (Op_store (cs' := #[_, _, _]) rfl rfl sz38 (by rfl) (by simp [Value.cells, Value.oneCell']) (by repeat (first | exact .here | apply Repl.there)) rfl (free_zero _ _) (by rfl)) ?_
  refine RJ_q (Op_assign rfl) rfl ?_
  refine RJ_nil ?_
  refine NJ_then ?_
  refine CJ_env (E' := [(0, _), (1, _), (4, _), (5, _), (6, _)]) (.cons rfl rfl (.cons rfl rfl (.cons rfl rfl (.cons rfl rfl (.cons rfl rfl .nil))))) ?_
  refine CJ_seq ?_
  refine CJ_seq ?_
  refine CJ_draw (.q 0 (.q 1 (.q 2 (.q 3 (.q 4 (.q 5 (.q 6 (.q 7 (.q 8 (.q 9 (.q 10 (.q 11 (.q 12 (.q 13 .done)))))))))))))) (by kernel_rfl) (by kernel_rfl) (by kernel_rfl) ?_
  refine SJ_q rfl (want_none rfl) rfl (fun _ _ => Op_move rfl) ?_
  refine SJ_q rfl (want_none rfl) rfl (fun _ _ => Op_not rfl) ?_
  refine SJ_q rfl (want_none rfl) rfl (fun _ _ => Op_move rfl) ?_
  refine SJ_no (t := 15) true rfl rfl rfl rfl (by decide) rfl ?_
  refine SJ_no (t := 15) true rfl rfl rfl rfl (by decide) rfl ?_
  refine SJ_no (t := 15) true rfl rfl rfl rfl (by decide) rfl ?_
  refine SJ_no (t := 15) true rfl rfl rfl rfl (by decide) rfl ?_
  refine SJ_no (t := 15) true rfl rfl rfl rfl (by decide) rfl ?_
  refine SJ_no (t := 15) true rfl rfl rfl rfl (by decide) rfl ?_
  refine SJ_no (t := 15) true rfl rfl rfl rfl (by decide) rfl ?_
  refine SJ_no (t := 15) true rfl rfl rfl rfl (by decide) rfl ?_
  refine SJ_no (t := 15) true rfl rfl rfl rfl (by decide) rfl ?_
  refine SJ_no (t := 15) true rfl rfl rfl rfl (by decide) rfl ?_
  refine SJ_q rfl (want_none rfl) rfl (fun _ _ => Op_pick_t rfl rfl rfl) ?_
  refine SJ_done ?_
  refine NJ_then ?_
  refine CJ_env (E' := [(0, _), (1, _), (4, _), (5, _), (26, _)]) (.cons rfl rfl (.cons rfl rfl (.cons rfl rfl (.cons rfl rfl (.cons rfl rfl .nil))))) ?_
  refine CJ_then rfl rfl ?_
  refine CJ_seq ?_
  refine CJ_region ?_
  refine RJ_q (Op_assign rfl) rfl ?_
  refine RJ_nil ?_
  refine NJ_then ?_
  refine CJ_env (E' := [(0, _), (1, _), (4, _), (5, _)]) (.cons rfl rfl (.cons rfl rfl (.cons rfl rfl (.cons rfl rfl .nil)))) ?_
  refine CJ_ret ?_
  refine NJ_then_r ?_
  refine NJ_ret (.inl rfl) Try.results13 (ResJ_tmp rfl ResJ_nil) ⟨rfl, rfl⟩ (.cons (by first | ((repeat (first | with_reducible exact .here | apply Pick.there)); done) | ((repeat (first | exact .here | apply Pick.there)); done)) (by repeat (first | exact Imp.refl _ | refine Imp.skip ?_)))

set_option maxRecDepth 20000 in
theorem Double_yes (g : Nat) (room : Int) (ps : List Pkt) (sent : Int) (k : Nat) (p : Pkt) (hk : ps[k]? = some p) (hbs : ∀ p ∈ ps, p.bs.length ≤ 1000000) (hp : ps.length ≤ 100000) : Spec Try.prog 13 #[.pointer (some ⟨g, 0, none⟩), .int .i64 k] [NetP g room ps sent] (fun v C => v = .bool (decide ((ps.length : Int) < room)) ∧ C = [if (ps.length : Int) < room then NetP g room (ps ++ [p]) sent else NetP g room ps sent]) := by
  refine Spec_intro (n := 46) (args := [.pointer (some ⟨g, 0, none⟩), .int .i64 k]) Try.func13 rfl rfl rfl fun s R => ?_
  refine CJ_app1 ?_
  refine CJ_env (E' := [(0, _), (1, _)]) (.cons rfl rfl (.cons rfl rfl .nil)) ?_
  refine CJ_seq ?_
  refine CJ_region ?_
  refine RJ_q (Op_assign rfl) rfl ?_
  refine RJ_nil ?_
  refine NJ_then ?_
  refine CJ_env (E' := [(0, _), (1, _), (4, _)]) (.cons rfl rfl (.cons rfl rfl (.cons rfl rfl .nil))) ?_
  refine CJ_seq ?_
  refine CJ_region ?_
  refine RJ_q (Op_move rfl) rfl ?_
  refine RJ_q (Op_move rfl) rfl ?_
  refine RJ_p rfl (Op_call (vs := [_, _]) Try.func8 rfl rfl (Look_yes _ _ _ _ _ _ hk hbs hp) rfl (.cons (by first | ((repeat (first | with_reducible exact .here | apply Pick.there)); done) | ((repeat (first | exact .here | apply Pick.there)); done)) (Imp.refl _))) ?_
  rintro _ _ ⟨_, ⟨g10, rfl, rfl⟩, rfl⟩
  refine RJ_app2 ?_
  refine RJ_q (Op_move rfl) rfl ?_
  refine RJ_q (Op_extract rfl rfl) rfl ?_
  refine RJ_q (Op_extract rfl rfl) rfl ?_
  refine RJ_p rfl (Op_alloc zr38) ?_
  rintro _ _ ⟨b5, rfl, rfl⟩
  refine RJ_d0 (Op_store (cs' := #[_, _, _]) rfl rfl sz38 (by rfl) (by simp [Value.cells, Value.oneCell']) (by repeat (first | exact .here | apply Repl.there)) rfl (free_zero _ _) (by rfl)) ?_
  refine RJ_q (Op_assign rfl) rfl ?_
  refine RJ_nil ?_
  refine NJ_then ?_
  refine CJ_env (E' := [(0, _), (1, _), (4, _), (5, _), (6, _)]) (.cons rfl rfl (.cons rfl rfl (.cons rfl rfl (.cons rfl rfl (.cons rfl rfl .nil))))) ?_
  refine CJ_seq ?_
  refine CJ_seq ?_
  refine CJ_open (NetP_opens _ _ _ _) (by first | ((repeat (first | with_reducible exact .here | apply Pick.there)); done) | ((repeat (first | exact .here | apply Pick.there)); done)) ?_
  rintro _ ⟨a, cap, L, rfl, rfl⟩
  refine CJ_app3 ?_
  obtain ⟨x, hx, rfl⟩ : ∃ x, L[k]? = some x ∧ x.pk = p := by simpa using hk
  have hlt : k < L.length := (List.getElem?_eq_some_iff.1 hx).1
  simp only [List.length_map] at hp
  refine CJ_know (Row_know (T := HeldT) (by first | ((repeat (first | with_reducible exact .here | apply Pick.there)); done) | ((repeat (first | exact .here | apply Pick.there)); done))) ?_
  intro hkn
  obtain ⟨ga, rfl⟩ : ∃ ga, a = some ga := by
    cases a with
    | none => obtain ⟨_, rfl⟩ := hkn.2.2 rfl; simp at hx
    | some ga => exact ⟨ga, rfl⟩
  clear hbs
  simp only [List.length_map]
  refine CJ_draw (.q 0 (.q 1 (.q 2 (.q 3 (.q 4 (.q 5 (.q 6 (.q 7 (.q 8 (.q 9 (.q 10 (.q 11 (.q 12 (.q 13 .done)))))))))))))) (by kernel_rfl) (by kernel_rfl) (by kernel_rfl) ?_
  refine SJ_q rfl (want_none rfl) rfl (fun _ _ => Op_move rfl) ?_
  refine SJ_q rfl (want_none rfl) rfl (fun _ _ => Op_not rfl) ?_
  refine SJ_q rfl (want_none rfl) rfl (fun _ _ => Op_move rfl) ?_
  refine SJ_q rfl (want_yes (t := 15) rfl rfl rfl rfl) rfl (fun _ _ => Op_move rfl) ?_
  refine SJ_q rfl (want_yes (t := 15) rfl rfl rfl rfl) rfl (fun _ _ => Op_nilCheck rfl) ?_
  refine SJ_q rfl (want_yes (t := 15) rfl rfl rfl rfl) rfl (fun _ _ => Op_fieldAddr (o' := 1) rfl Try.underlying57 rfl sz50 rfl rfl) ?_
  refine SJ_load rfl (want_yes (t := 15) rfl rfl rfl rfl) rfl rfl (load_cell Try.underlying50 rfl (by first | ((repeat (first | with_reducible exact .here | apply Pick.there)); done) | ((repeat (first | exact .here | apply Pick.there)); done)) (Nth.s Nth.z)) ?_
  refine SJ_q rfl (want_yes (t := 15) rfl rfl rfl rfl) rfl (fun _ _ => Op_len_slice rfl Try.underlying50) ?_
  refine SJ_q rfl (want_yes (t := 15) rfl rfl rfl rfl) rfl (fun _ _ => Op_move rfl) ?_
  refine SJ_q rfl (want_yes (t := 15) rfl rfl rfl rfl) rfl (fun _ _ => Op_nilCheck rfl) ?_
  refine SJ_q rfl (want_yes (t := 15) rfl rfl rfl rfl) rfl (fun _ _ => Op_fieldAddr (o' := 0) rfl Try.underlying57 rfl sz3 rfl rfl) ?_
  refine SJ_load rfl (want_yes (t := 15) rfl rfl rfl rfl) rfl rfl (load_cell Try.underlying3 rfl (by first | ((repeat (first | with_reducible exact .here | apply Pick.there)); done) | ((repeat (first | exact .here | apply Pick.there)); done)) Nth.z) ?_
  refine SJ_q rfl (want_yes (t := 15) rfl rfl rfl rfl) rfl (fun _ _ => Op_geq rfl rfl) ?_
  refine SJ_q rfl (want_none rfl) rfl (fun _ _ => Op_pick_f rfl rfl rfl) ?_
  refine SJ_done ?_
  refine NJ_then ?_
  refine CJ_env (E' := [(0, _), (1, _), (4, _), (5, _), (26, _)]) (.cons rfl rfl (.cons rfl rfl (.cons rfl rfl (.cons rfl rfl (.cons rfl rfl .nil))))) ?_
  refine CJ_cond rfl ?_ ?_
  · intro hc1
    try simp only [decide_eq_true_eq, decide_eq_false_iff_not, Bool.not_eq_true', Bool.not_eq_false'] at hc1
    refine CJ_seq ?_
    refine CJ_region ?_
    refine RJ_q (Op_assign rfl) rfl ?_
    refine RJ_nil ?_
    refine NJ_then ?_
    refine CJ_env (E' := [(0, _), (1, _), (4, _), (5, _)]) (.cons rfl rfl (.cons rfl rfl (.cons rfl rfl (.cons rfl rfl .nil)))) ?_
    refine CJ_ret ?_
    refine NJ_then_r ?_
    refine NJ_ret (.inl rfl) Try.results13 (ResJ_tmp rfl ResJ_nil) (C := [NetP g room (L.map HeldG.pk) sent]) ⟨by simp [packRes]; omega, by rw [if_neg (by omega)]⟩ (.swap (C := NetRaw g room (some ga) cap L sent) (.cons (by first | ((repeat (first | with_reducible exact .here | apply Pick.there)); done) | ((repeat (first | exact .here | apply Pick.there)); done)) (.cons (by first | ((repeat (first | with_reducible exact .here | apply Pick.there)); done) | ((repeat (first | exact .here | apply Pick.there)); done)) (.cons (by first | ((repeat (first | with_reducible exact .here | apply Pick.there)); done) | ((repeat (first | exact .here | apply Pick.there)); done)) (Imp.refl _)))) NetP_close (.cons (by first | ((repeat (first | with_reducible exact .here | apply Pick.there)); done) | ((repeat (first | exact .here | apply Pick.there)); done)) (by repeat (first | exact Imp.refl _ | refine Imp.skip ?_))))
  · intro hc1
    try simp only [decide_eq_true_eq, decide_eq_false_iff_not, Bool.not_eq_true', Bool.not_eq_false'] at hc1
    refine CJ_skip ?_
    refine NJ_then ?_
    refine CJ_env (E' := [(0, _), (1, _), (4, _), (5, _)]) (.cons rfl rfl (.cons rfl rfl (.cons rfl rfl (.cons rfl rfl .nil)))) ?_
    refine CJ_seq ?_
    refine CJ_draw (.q 0 (.q 1 (.q 2 (.q 3 (.q 4 (.q 5 (.q 6 (.q 7 (.q 8 (.q 9 (.q 10 (.q 11 (.q 12 (.q 13 (.q 14 (.e 15 (.e 16 (.q 17 (.q 18 (.e 19 .done)))))))))))))))))))) (by kernel_rfl) (by kernel_rfl) (by kernel_rfl) ?_
    refine SJ_q rfl (want_none rfl) rfl (fun _ _ => Op_move rfl) ?_
    refine SJ_q rfl (want_none rfl) rfl (fun _ _ => Op_move rfl) ?_
    refine SJ_q rfl (want_none rfl) rfl (fun _ _ => Op_nilCheck rfl) ?_
    refine SJ_q rfl (want_none rfl) rfl (fun _ _ => Op_fieldAddr (o' := 1) rfl Try.underlying57 rfl sz50 rfl rfl) ?_
    refine SJ_load rfl (want_none rfl) rfl rfl (load_cell Try.underlying50 rfl (by first | ((repeat (first | with_reducible exact .here | apply Pick.there)); done) | ((repeat (first | exact .here | apply Pick.there)); done)) (Nth.s Nth.z)) ?_
    refine SJ_load rfl (want_none rfl) rfl rfl (load_struct (o := 0) (vs := [_, _, _]) Try.underlying38 sz38 (by first | ((repeat (first | with_reducible exact .here | apply Pick.there)); done) | ((repeat (first | exact .here | apply Pick.there)); done)) (by rfl) rfl) ?_
    refine SJ_q rfl (want_none rfl) rfl (fun _ _ => Op_move rfl) ?_
    refine SJ_q rfl (want_none rfl) rfl (fun _ _ => Op_nilCheck rfl) ?_
    refine SJ_q rfl (want_none rfl) rfl (fun _ _ => Op_fieldAddr (o' := 1) rfl Try.underlying57 rfl sz50 rfl rfl) ?_
    refine SJ_load rfl (want_none rfl) rfl rfl (load_cell Try.underlying50 rfl (by first | ((repeat (first | with_reducible exact .here | apply Pick.there)); done) | ((repeat (first | exact .here | apply Pick.there)); done)) (Nth.s Nth.z)) ?_
    refine SJ_q rfl (want_none rfl) rfl (fun _ _ => Op_move rfl) ?_
    refine SJ_q rfl (want_none rfl) rfl (fun _ _ => Op_indexAddr (o' := k * HeldT.sz + 0) rfl rfl Try.underlying50 sz60 (by omega) (by omega) (by simp [HeldT])) ?_
    refine SJ_q rfl (want_none rfl) rfl (fun _ _ => Op_fieldAddr (o' := k * HeldT.sz + 3) rfl Try.underlying60 rfl sz4 rfl rfl) ?_
    refine SJ_load rfl (want_none rfl) rfl rfl (load_row_cell (o := 3) Try.underlying4 rfl (by first | ((repeat (first | with_reducible exact .here | apply Pick.there)); done) | ((repeat (first | exact .here | apply Pick.there)); done)) hx (Nth.s (Nth.s (Nth.s Nth.z)))) ?_
    refine SJ_q rfl (want_none rfl) rfl (fun _ _ => Op_build (vs := [_, _]) (cells := [_, _, _, _]) Try.underlying60 zr60 rfl pl60 (by rfl)) ?_
    refine SJ_p (rd' := [⟨4, _, _, _⟩]) [4] rfl (want_none rfl) rfl (Op_buildSlice (vs := [_]) (cells := [_, _, _, _]) Try.underlying50 sz60 zr60 rfl rfl rfl rfl (by rfl)) (by kernel_rfl) rfl ?_
    rintro _ _ ⟨g42, rfl, rfl⟩
    refine ⟨⟨(load_cell Try.underlying50 rfl (by first | ((repeat (first | with_reducible exact .here | apply Pick.there)); done) | ((repeat (first | exact .here | apply Pick.there)); done)) (Nth.s Nth.z)), trivial⟩, ?_⟩
    refine SJ_p (rd' := []) [] rfl (want_none rfl) rfl (Op_append (T := HeldT) (news := [⟨x.f, x.t, some g10, x.bs.length, x.bs, x.turned⟩]) rfl rfl (by first | ((repeat (first | with_reducible exact .here | apply Pick.there)); done) | ((repeat (first | exact .here | apply Pick.there)); done)) rfl (by simp) (Reads_pt (by first | ((repeat (first | with_reducible exact .here | apply Pick.there)); done) | ((repeat (first | exact .here | apply Pick.there)); done)) (fun j u h => by simpa [Ty.flat, HeldT, HeldG.enc, HeldG.pk] using h)) Try.underlying50 sz60 zr60 (by rfl) by60 (by simp [HeldT]; omega) (by unfold maxLen; omega)) (by kernel_rfl) rfl ?_
    rintro _ _ ⟨a', c', rfl, rfl⟩
    refine ⟨trivial, ?_⟩
    refine SJ_q rfl (want_none rfl) rfl (fun _ _ => Op_nilCheck rfl) ?_
    refine SJ_q rfl (want_none rfl) rfl (fun _ _ => Op_fieldAddr (o' := 1) rfl Try.underlying57 rfl sz50 rfl rfl) ?_
    refine SJ_d0 (rd' := []) [] rfl (want_none rfl) (Op_store (cs' := #[_, _, _]) rfl rfl sz50 (by rfl) (by simp [Value.cells, Value.oneCell']) (by repeat (first | exact .here | apply Repl.there)) rfl (free_zero _ _) (by rfl)) (by kernel_rfl) rfl trivial ?_
    refine SJ_done ?_
    refine NJ_then ?_
    refine CJ_env (E' := [(4, _)]) (.cons rfl rfl .nil) ?_
    refine CJ_seq ?_
    refine CJ_region ?_
    refine RJ_q (Op_assign rfl) rfl ?_
    refine RJ_nil ?_
    refine NJ_then ?_
    refine CJ_env (E' := [(4, _)]) (.cons rfl rfl .nil) ?_
    refine CJ_ret ?_
    refine NJ_ret (.inl rfl) Try.results13 (ResJ_tmp rfl ResJ_nil) (C := [NetP g room (L.map HeldG.pk ++ [x.pk]) sent]) ⟨by simp [packRes]; omega, by rw [if_pos (by omega)]⟩ (.swap (C := [pt g (.cells #[.int .i64 room, .slice (sl a') (L ++ [(⟨x.f, x.t, some g10, x.bs.length, x.bs, x.turned⟩ : HeldG)]).length c', .int .i64 sent] 57 (0, 0)), Row HeldT a' c' (L ++ [⟨x.f, x.t, some g10, x.bs.length, x.bs, x.turned⟩]), BytesOf ⟨x.f, x.t, some g10, x.bs.length, x.bs, x.turned⟩, All BytesOf L]) (.cons (by first | ((repeat (first | with_reducible exact .here | apply Pick.there)); done) | ((repeat (first | exact .here | apply Pick.there)); done)) (.cons (by first | ((repeat (first | with_reducible exact .here | apply Pick.there)); done) | ((repeat (first | exact .here | apply Pick.there)); done)) (.cons (by first | ((repeat (first | with_reducible exact .here | apply Pick.there)); done) | ((repeat (first | exact .here | apply Pick.there)); done)) (.cons (by first | ((repeat (first | with_reducible exact .here | apply Pick.there)); done) | ((repeat (first | exact .here | apply Pick.there)); done)) (Imp.refl _))))) (NetP_add (x := ⟨x.f, x.t, some g10, x.bs.length, x.bs, x.turned⟩)) (.cons (by first | ((repeat (first | with_reducible exact .here | apply Pick.there)); done) | ((repeat (first | exact .here | apply Pick.there)); done)) (by repeat (first | exact Imp.refl _ | refine Imp.skip ?_))))

set_option maxRecDepth 20000 in
theorem Turn_nil (i j : Int) (d : UInt8) : Spec Try.prog 15 #[.pointer none, .int .i64 i, .int .i64 j, .int .u8 d.toNat] [] (fun v C => v = .bool false ∧ C = []) := by
  refine Spec_intro (n := 67) (args := [.pointer none, .int .i64 i, .int .i64 j, .int .u8 d.toNat]) Try.func15 rfl rfl rfl fun s R => ?_
  refine CJ_app0 ?_
  refine CJ_env (E' := [(0, _), (1, _), (2, _), (3, _)]) (.cons rfl rfl (.cons rfl rfl (.cons rfl rfl (.cons rfl rfl .nil)))) ?_
  refine CJ_seq ?_
  refine CJ_region ?_
  refine RJ_q (Op_assign rfl) rfl ?_
  refine RJ_nil ?_
  refine NJ_then ?_
  refine CJ_env (E' := [(0, _), (1, _), (2, _), (3, _), (8, _)]) (.cons rfl rfl (.cons rfl rfl (.cons rfl rfl (.cons rfl rfl (.cons rfl rfl .nil))))) ?_
  refine CJ_seq ?_
  refine CJ_seq ?_
  refine CJ_region ?_
  refine RJ_q (Op_move rfl) rfl ?_
  refine RJ_q (Op_lss rfl rfl) rfl ?_
  by_cases h0 : i < 0
  · skip
    refine RJ_q (Op_move rfl) rfl ?_
    refine RJ_no (t := 11) true rfl rfl (decide_eq_true h0) (by decide) rfl ?_
    refine RJ_no (t := 11) true rfl rfl (decide_eq_true h0) (by decide) rfl ?_
    refine RJ_no (t := 11) true rfl rfl (decide_eq_true h0) (by decide) rfl ?_
    refine RJ_no (t := 11) true rfl rfl (decide_eq_true h0) (by decide) rfl ?_
    refine RJ_q (Op_pick_t rfl (decide_eq_true h0) rfl) rfl ?_
    refine RJ_q (Op_move rfl) rfl ?_
    refine RJ_no (t := 17) true rfl rfl rfl (by decide) rfl ?_
    refine RJ_no (t := 17) true rfl rfl rfl (by decide) rfl ?_
    refine RJ_q (Op_pick_t rfl rfl rfl) rfl ?_
    refine RJ_q (Op_move rfl) rfl ?_
    refine RJ_no (t := 21) true rfl rfl rfl (by decide) rfl ?_
    refine RJ_no (t := 21) true rfl rfl rfl (by decide) rfl ?_
    refine RJ_no (t := 21) true rfl rfl rfl (by decide) rfl ?_
    refine RJ_no (t := 21) true rfl rfl rfl (by decide) rfl ?_
    refine RJ_no (t := 21) true rfl rfl rfl (by decide) rfl ?_
    refine RJ_no (t := 21) true rfl rfl rfl (by decide) rfl ?_
    refine RJ_no (t := 21) true rfl rfl rfl (by decide) rfl ?_
    refine RJ_no (t := 21) true rfl rfl rfl (by decide) rfl ?_
    refine RJ_no (t := 21) true rfl rfl rfl (by decide) rfl ?_
    refine RJ_no (t := 21) true rfl rfl rfl (by decide) rfl ?_
    refine RJ_no (t := 21) true rfl rfl rfl (by decide) rfl ?_
    refine RJ_no (t := 21) true rfl rfl rfl (by decide) rfl ?_
    refine RJ_q (Op_pick_t rfl rfl rfl) rfl ?_
    refine RJ_q (Op_move rfl) rfl ?_
    refine RJ_no (t := 35) true rfl rfl rfl (by decide) rfl ?_
    refine RJ_no (t := 35) true rfl rfl rfl (by decide) rfl ?_
    refine RJ_no (t := 35) true rfl rfl rfl (by decide) rfl ?_
    refine RJ_no (t := 35) true rfl rfl rfl (by decide) rfl ?_
    refine RJ_no (t := 35) true rfl rfl rfl (by decide) rfl ?_
    refine RJ_no (t := 35) true rfl rfl rfl (by decide) rfl ?_
    refine RJ_no (t := 35) true rfl rfl rfl (by decide) rfl ?_
    refine RJ_no (t := 35) true rfl rfl rfl (by decide) rfl ?_
    refine RJ_q (Op_pick_t rfl rfl rfl) rfl ?_
    refine RJ_nil ?_
    refine NJ_then ?_
    refine CJ_env (E' := [(0, _), (1, _), (2, _), (3, _), (8, _), (44, _)]) (.cons rfl rfl (.cons rfl rfl (.cons rfl rfl (.cons rfl rfl (.cons rfl rfl (.cons rfl rfl .nil)))))) ?_
    refine CJ_then rfl rfl ?_
    refine CJ_seq ?_
    refine CJ_region ?_
    refine RJ_q (Op_assign rfl) rfl ?_
    refine RJ_nil ?_
    refine NJ_then ?_
    refine CJ_env (E' := [(0, _), (1, _), (2, _), (3, _), (8, _)]) (.cons rfl rfl (.cons rfl rfl (.cons rfl rfl (.cons rfl rfl (.cons rfl rfl .nil))))) ?_
    refine CJ_ret ?_
    refine NJ_then_r ?_
    refine NJ_ret (.inl rfl) Try.results15 (ResJ_tmp rfl ResJ_nil) ⟨rfl, rfl⟩ (by repeat (first | exact Imp.refl _ | refine Imp.skip ?_))
  · skip
    refine RJ_q (Op_move rfl) rfl ?_
    refine RJ_yes (t := 11) rfl rfl (decide_eq_false h0) ?_
    refine RJ_q (Op_move rfl) rfl ?_
    refine RJ_yes (t := 11) rfl rfl (decide_eq_false h0) ?_
    refine RJ_q (Op_move rfl) rfl ?_
    refine RJ_yes (t := 11) rfl rfl (decide_eq_false h0) ?_
    refine RJ_p rfl (Op_call (vs := [_]) Try.func19 rfl rfl (Len_nil) rfl (Imp.refl _)) ?_
    rintro _ _ ⟨_, ⟨rfl, rfl⟩, rfl⟩
    refine RJ_app0 ?_
    refine RJ_yes (t := 11) rfl rfl (decide_eq_false h0) ?_
    refine RJ_q (Op_geq rfl rfl) rfl ?_
    refine RJ_q (Op_pick_f rfl (decide_eq_false h0) rfl) rfl ?_
    refine RJ_q (Op_move rfl) rfl ?_
    refine RJ_no (t := 17) true rfl rfl (decide_eq_true (by omega)) (by decide) rfl ?_
    refine RJ_no (t := 17) true rfl rfl (decide_eq_true (by omega)) (by decide) rfl ?_
    refine RJ_q (Op_pick_t rfl (decide_eq_true (by omega)) rfl) rfl ?_
    refine RJ_q (Op_move rfl) rfl ?_
    refine RJ_no (t := 21) true rfl rfl rfl (by decide) rfl ?_
    refine RJ_no (t := 21) true rfl rfl rfl (by decide) rfl ?_
    refine RJ_no (t := 21) true rfl rfl rfl (by decide) rfl ?_
    refine RJ_no (t := 21) true rfl rfl rfl (by decide) rfl ?_
    refine RJ_no (t := 21) true rfl rfl rfl (by decide) rfl ?_
    refine RJ_no (t := 21) true rfl rfl rfl (by decide) rfl ?_
    refine RJ_no (t := 21) true rfl rfl rfl (by decide) rfl ?_
    refine RJ_no (t := 21) true rfl rfl rfl (by decide) rfl ?_
    refine RJ_no (t := 21) true rfl rfl rfl (by decide) rfl ?_
    refine RJ_no (t := 21) true rfl rfl rfl (by decide) rfl ?_
    refine RJ_no (t := 21) true rfl rfl rfl (by decide) rfl ?_
    refine RJ_no (t := 21) true rfl rfl rfl (by decide) rfl ?_
    refine RJ_q (Op_pick_t rfl rfl rfl) rfl ?_
    refine RJ_q (Op_move rfl) rfl ?_
    refine RJ_no (t := 35) true rfl rfl rfl (by decide) rfl ?_
    refine RJ_no (t := 35) true rfl rfl rfl (by decide) rfl ?_
    refine RJ_no (t := 35) true rfl rfl rfl (by decide) rfl ?_
    refine RJ_no (t := 35) true rfl rfl rfl (by decide) rfl ?_
    refine RJ_no (t := 35) true rfl rfl rfl (by decide) rfl ?_
    refine RJ_no (t := 35) true rfl rfl rfl (by decide) rfl ?_
    refine RJ_no (t := 35) true rfl rfl rfl (by decide) rfl ?_
    refine RJ_no (t := 35) true rfl rfl rfl (by decide) rfl ?_
    refine RJ_q (Op_pick_t rfl rfl rfl) rfl ?_
    refine RJ_nil ?_
    refine NJ_then ?_
    refine CJ_env (E' := [(0, _), (1, _), (2, _), (3, _), (8, _), (44, _)]) (.cons rfl rfl (.cons rfl rfl (.cons rfl rfl (.cons rfl rfl (.cons rfl rfl (.cons rfl rfl .nil)))))) ?_
    refine CJ_then rfl rfl ?_
    refine CJ_seq ?_
    refine CJ_region ?_
    refine RJ_q (Op_assign rfl) rfl ?_
    refine RJ_nil ?_
    refine NJ_then ?_
    refine CJ_env (E' := [(0, _), (1, _), (2, _), (3, _), (8, _)]) (.cons rfl rfl (.cons rfl rfl (.cons rfl rfl (.cons rfl rfl (.cons rfl rfl .nil))))) ?_
    refine CJ_ret ?_
    refine NJ_then_r ?_
    refine NJ_ret (.inl rfl) Try.results15 (ResJ_tmp rfl ResJ_nil) ⟨rfl, rfl⟩ (by repeat (first | exact Imp.refl _ | refine Imp.skip ?_))

set_option maxRecDepth 20000 in
theorem Turn_any (g : Nat) (room : Int) (ps : List Pkt) (sent : Int) (i j : Int) (d : UInt8) (hp : ps.length ≤ 100000) : Spec Try.prog 15 #[.pointer (some ⟨g, 0, none⟩), .int .i64 i, .int .i64 j, .int .u8 d.toNat] [NetP g room ps sent] (fun v C => v = .bool (turnAt ps i j d).isSome ∧ C = [NetP g room ((turnAt ps i j d).getD ps) sent]) := by
  refine Spec_intro (n := 67) (args := [.pointer (some ⟨g, 0, none⟩), .int .i64 i, .int .i64 j, .int .u8 d.toNat]) Try.func15 rfl rfl rfl fun s R => ?_
  refine CJ_app1 ?_
  refine CJ_env (E' := [(0, _), (1, _), (2, _), (3, _)]) (.cons rfl rfl (.cons rfl rfl (.cons rfl rfl (.cons rfl rfl .nil)))) ?_
  refine CJ_seq ?_
  refine CJ_region ?_
  refine RJ_q (Op_assign rfl) rfl ?_
  refine RJ_nil ?_
  refine NJ_then ?_
  refine CJ_env (E' := [(0, _), (1, _), (2, _), (3, _), (8, _)]) (.cons rfl rfl (.cons rfl rfl (.cons rfl rfl (.cons rfl rfl (.cons rfl rfl .nil))))) ?_
  refine CJ_seq ?_
  refine CJ_seq ?_
  refine CJ_region ?_
  refine RJ_q (Op_move rfl) rfl ?_
  refine RJ_q (Op_lss rfl rfl) rfl ?_
  by_cases h0 : i < 0
  · skip
    refine RJ_q (Op_move rfl) rfl ?_
    refine RJ_no (t := 11) true rfl rfl (decide_eq_true h0) (by decide) rfl ?_
    refine RJ_no (t := 11) true rfl rfl (decide_eq_true h0) (by decide) rfl ?_
    refine RJ_no (t := 11) true rfl rfl (decide_eq_true h0) (by decide) rfl ?_
    refine RJ_no (t := 11) true rfl rfl (decide_eq_true h0) (by decide) rfl ?_
    refine RJ_q (Op_pick_t rfl (decide_eq_true h0) rfl) rfl ?_
    refine RJ_q (Op_move rfl) rfl ?_
    refine RJ_no (t := 17) true rfl rfl rfl (by decide) rfl ?_
    refine RJ_no (t := 17) true rfl rfl rfl (by decide) rfl ?_
    refine RJ_q (Op_pick_t rfl rfl rfl) rfl ?_
    refine RJ_q (Op_move rfl) rfl ?_
    refine RJ_no (t := 21) true rfl rfl rfl (by decide) rfl ?_
    refine RJ_no (t := 21) true rfl rfl rfl (by decide) rfl ?_
    refine RJ_no (t := 21) true rfl rfl rfl (by decide) rfl ?_
    refine RJ_no (t := 21) true rfl rfl rfl (by decide) rfl ?_
    refine RJ_no (t := 21) true rfl rfl rfl (by decide) rfl ?_
    refine RJ_no (t := 21) true rfl rfl rfl (by decide) rfl ?_
    refine RJ_no (t := 21) true rfl rfl rfl (by decide) rfl ?_
    refine RJ_no (t := 21) true rfl rfl rfl (by decide) rfl ?_
    refine RJ_no (t := 21) true rfl rfl rfl (by decide) rfl ?_
    refine RJ_no (t := 21) true rfl rfl rfl (by decide) rfl ?_
    refine RJ_no (t := 21) true rfl rfl rfl (by decide) rfl ?_
    refine RJ_no (t := 21) true rfl rfl rfl (by decide) rfl ?_
    refine RJ_q (Op_pick_t rfl rfl rfl) rfl ?_
    refine RJ_q (Op_move rfl) rfl ?_
    refine RJ_no (t := 35) true rfl rfl rfl (by decide) rfl ?_
    refine RJ_no (t := 35) true rfl rfl rfl (by decide) rfl ?_
    refine RJ_no (t := 35) true rfl rfl rfl (by decide) rfl ?_
    refine RJ_no (t := 35) true rfl rfl rfl (by decide) rfl ?_
    refine RJ_no (t := 35) true rfl rfl rfl (by decide) rfl ?_
    refine RJ_no (t := 35) true rfl rfl rfl (by decide) rfl ?_
    refine RJ_no (t := 35) true rfl rfl rfl (by decide) rfl ?_
    refine RJ_no (t := 35) true rfl rfl rfl (by decide) rfl ?_
    refine RJ_q (Op_pick_t rfl rfl rfl) rfl ?_
    refine RJ_nil ?_
    refine NJ_then ?_
    refine CJ_env (E' := [(0, _), (1, _), (2, _), (3, _), (8, _), (44, _)]) (.cons rfl rfl (.cons rfl rfl (.cons rfl rfl (.cons rfl rfl (.cons rfl rfl (.cons rfl rfl .nil)))))) ?_
    refine CJ_then rfl rfl ?_
    refine CJ_seq ?_
    refine CJ_region ?_
    refine RJ_q (Op_assign rfl) rfl ?_
    refine RJ_nil ?_
    refine NJ_then ?_
    refine CJ_env (E' := [(0, _), (1, _), (2, _), (3, _), (8, _)]) (.cons rfl rfl (.cons rfl rfl (.cons rfl rfl (.cons rfl rfl (.cons rfl rfl .nil))))) ?_
    refine CJ_ret ?_
    refine NJ_then_r ?_
    refine NJ_ret (.inl rfl) Try.results15 (ResJ_tmp rfl ResJ_nil) (C := [NetP g room ps sent]) ⟨by rw [turnAt_out (by omega)]; rfl, by rw [turnAt_out (by omega)]; rfl⟩ (.cons (by first | ((repeat (first | with_reducible exact .here | apply Pick.there)); done) | ((repeat (first | exact .here | apply Pick.there)); done)) (by repeat (first | exact Imp.refl _ | refine Imp.skip ?_)))
  · skip
    refine RJ_q (Op_move rfl) rfl ?_
    refine RJ_yes (t := 11) rfl rfl (decide_eq_false h0) ?_
    refine RJ_q (Op_move rfl) rfl ?_
    refine RJ_yes (t := 11) rfl rfl (decide_eq_false h0) ?_
    refine RJ_q (Op_move rfl) rfl ?_
    refine RJ_yes (t := 11) rfl rfl (decide_eq_false h0) ?_
    refine RJ_p rfl (Op_call (vs := [_]) Try.func19 rfl rfl (Len_any _ _ _ _) rfl (.cons (by first | ((repeat (first | with_reducible exact .here | apply Pick.there)); done) | ((repeat (first | exact .here | apply Pick.there)); done)) (Imp.refl _))) ?_
    rintro _ _ ⟨_, ⟨rfl, rfl⟩, rfl⟩
    refine RJ_app1 ?_
    refine RJ_yes (t := 11) rfl rfl (decide_eq_false h0) ?_
    refine RJ_q (Op_geq rfl rfl) rfl ?_
    by_cases h1 : (ps.length : Int) ≤ i
    · skip
      refine RJ_q (Op_pick_f rfl (decide_eq_false h0) rfl) rfl ?_
      refine RJ_q (Op_move rfl) rfl ?_
      refine RJ_no (t := 17) true rfl rfl (decide_eq_true h1) (by decide) rfl ?_
      refine RJ_no (t := 17) true rfl rfl (decide_eq_true h1) (by decide) rfl ?_
      refine RJ_q (Op_pick_t rfl (decide_eq_true h1) rfl) rfl ?_
      refine RJ_q (Op_move rfl) rfl ?_
      refine RJ_no (t := 21) true rfl rfl rfl (by decide) rfl ?_
      refine RJ_no (t := 21) true rfl rfl rfl (by decide) rfl ?_
      refine RJ_no (t := 21) true rfl rfl rfl (by decide) rfl ?_
      refine RJ_no (t := 21) true rfl rfl rfl (by decide) rfl ?_
      refine RJ_no (t := 21) true rfl rfl rfl (by decide) rfl ?_
      refine RJ_no (t := 21) true rfl rfl rfl (by decide) rfl ?_
      refine RJ_no (t := 21) true rfl rfl rfl (by decide) rfl ?_
      refine RJ_no (t := 21) true rfl rfl rfl (by decide) rfl ?_
      refine RJ_no (t := 21) true rfl rfl rfl (by decide) rfl ?_
      refine RJ_no (t := 21) true rfl rfl rfl (by decide) rfl ?_
      refine RJ_no (t := 21) true rfl rfl rfl (by decide) rfl ?_
      refine RJ_no (t := 21) true rfl rfl rfl (by decide) rfl ?_
      refine RJ_q (Op_pick_t rfl rfl rfl) rfl ?_
      refine RJ_q (Op_move rfl) rfl ?_
      refine RJ_no (t := 35) true rfl rfl rfl (by decide) rfl ?_
      refine RJ_no (t := 35) true rfl rfl rfl (by decide) rfl ?_
      refine RJ_no (t := 35) true rfl rfl rfl (by decide) rfl ?_
      refine RJ_no (t := 35) true rfl rfl rfl (by decide) rfl ?_
      refine RJ_no (t := 35) true rfl rfl rfl (by decide) rfl ?_
      refine RJ_no (t := 35) true rfl rfl rfl (by decide) rfl ?_
      refine RJ_no (t := 35) true rfl rfl rfl (by decide) rfl ?_
      refine RJ_no (t := 35) true rfl rfl rfl (by decide) rfl ?_
      refine RJ_q (Op_pick_t rfl rfl rfl) rfl ?_
      refine RJ_nil ?_
      refine NJ_then ?_
      refine CJ_env (E' := [(0, _), (1, _), (2, _), (3, _), (8, _), (44, _)]) (.cons rfl rfl (.cons rfl rfl (.cons rfl rfl (.cons rfl rfl (.cons rfl rfl (.cons rfl rfl .nil)))))) ?_
      refine CJ_then rfl rfl ?_
      refine CJ_seq ?_
      refine CJ_region ?_
      refine RJ_q (Op_assign rfl) rfl ?_
      refine RJ_nil ?_
      refine NJ_then ?_
      refine CJ_env (E' := [(0, _), (1, _), (2, _), (3, _), (8, _)]) (.cons rfl rfl (.cons rfl rfl (.cons rfl rfl (.cons rfl rfl (.cons rfl rfl .nil))))) ?_
      refine CJ_ret ?_
      refine NJ_then_r ?_
      refine NJ_ret (.inl rfl) Try.results15 (ResJ_tmp rfl ResJ_nil) (C := [NetP g room ps sent]) ⟨by rw [turnAt_out (by omega)]; rfl, by rw [turnAt_out (by omega)]; rfl⟩ (.cons (by first | ((repeat (first | with_reducible exact .here | apply Pick.there)); done) | ((repeat (first | exact .here | apply Pick.there)); done)) (by repeat (first | exact Imp.refl _ | refine Imp.skip ?_)))
    · skip
      obtain ⟨k, rfl⟩ := Int.eq_ofNat_of_zero_le (show 0 ≤ i by omega)
      have hlt0 : k < ps.length := by omega
      refine RJ_q (Op_pick_f rfl (decide_eq_false h0) rfl) rfl ?_
      refine RJ_q (Op_move rfl) rfl ?_
      refine RJ_yes (t := 17) rfl rfl (decide_eq_false h1) ?_
      refine RJ_q (Op_move rfl) rfl ?_
      refine RJ_yes (t := 17) rfl rfl (decide_eq_false h1) ?_
      refine RJ_q (Op_lss rfl rfl) rfl ?_
      by_cases h2 : j < 0
      · skip
        refine RJ_q (Op_pick_f rfl (decide_eq_false h1) rfl) rfl ?_
        refine RJ_q (Op_move rfl) rfl ?_
        refine RJ_no (t := 21) true rfl rfl (decide_eq_true h2) (by decide) rfl ?_
        refine RJ_no (t := 21) true rfl rfl (decide_eq_true h2) (by decide) rfl ?_
        refine RJ_no (t := 21) true rfl rfl (decide_eq_true h2) (by decide) rfl ?_
        refine RJ_no (t := 21) true rfl rfl (decide_eq_true h2) (by decide) rfl ?_
        refine RJ_no (t := 21) true rfl rfl (decide_eq_true h2) (by decide) rfl ?_
        refine RJ_no (t := 21) true rfl rfl (decide_eq_true h2) (by decide) rfl ?_
        refine RJ_no (t := 21) true rfl rfl (decide_eq_true h2) (by decide) rfl ?_
        refine RJ_no (t := 21) true rfl rfl (decide_eq_true h2) (by decide) rfl ?_
        refine RJ_no (t := 21) true rfl rfl (decide_eq_true h2) (by decide) rfl ?_
        refine RJ_no (t := 21) true rfl rfl (decide_eq_true h2) (by decide) rfl ?_
        refine RJ_no (t := 21) true rfl rfl (decide_eq_true h2) (by decide) rfl ?_
        refine RJ_no (t := 21) true rfl rfl (decide_eq_true h2) (by decide) rfl ?_
        refine RJ_q (Op_pick_t rfl (decide_eq_true h2) rfl) rfl ?_
        refine RJ_q (Op_move rfl) rfl ?_
        refine RJ_no (t := 35) true rfl rfl rfl (by decide) rfl ?_
        refine RJ_no (t := 35) true rfl rfl rfl (by decide) rfl ?_
        refine RJ_no (t := 35) true rfl rfl rfl (by decide) rfl ?_
        refine RJ_no (t := 35) true rfl rfl rfl (by decide) rfl ?_
        refine RJ_no (t := 35) true rfl rfl rfl (by decide) rfl ?_
        refine RJ_no (t := 35) true rfl rfl rfl (by decide) rfl ?_
        refine RJ_no (t := 35) true rfl rfl rfl (by decide) rfl ?_
        refine RJ_no (t := 35) true rfl rfl rfl (by decide) rfl ?_
        refine RJ_q (Op_pick_t rfl rfl rfl) rfl ?_
        refine RJ_nil ?_
        refine NJ_then ?_
        refine CJ_env (E' := [(0, _), (1, _), (2, _), (3, _), (8, _), (44, _)]) (.cons rfl rfl (.cons rfl rfl (.cons rfl rfl (.cons rfl rfl (.cons rfl rfl (.cons rfl rfl .nil)))))) ?_
        refine CJ_then rfl rfl ?_
        refine CJ_seq ?_
        refine CJ_region ?_
        refine RJ_q (Op_assign rfl) rfl ?_
        refine RJ_nil ?_
        refine NJ_then ?_
        refine CJ_env (E' := [(0, _), (1, _), (2, _), (3, _), (8, _)]) (.cons rfl rfl (.cons rfl rfl (.cons rfl rfl (.cons rfl rfl (.cons rfl rfl .nil))))) ?_
        refine CJ_ret ?_
        refine NJ_then_r ?_
        refine NJ_ret (.inl rfl) Try.results15 (ResJ_tmp rfl ResJ_nil) (C := [NetP g room ps sent]) ⟨by rw [turnAt_out (by omega)]; rfl, by rw [turnAt_out (by omega)]; rfl⟩ (.cons (by first | ((repeat (first | with_reducible exact .here | apply Pick.there)); done) | ((repeat (first | exact .here | apply Pick.there)); done)) (by repeat (first | exact Imp.refl _ | refine Imp.skip ?_)))
      · skip
        obtain ⟨j, rfl⟩ := Int.eq_ofNat_of_zero_le (show 0 ≤ j by omega)
        refine RJ_q (Op_pick_f rfl (decide_eq_false h1) rfl) rfl ?_
        refine RJ_q (Op_move rfl) rfl ?_
        refine RJ_yes (t := 21) rfl rfl (decide_eq_false h2) ?_
        refine RJ_q (Op_move rfl) rfl ?_
        refine RJ_open (NetP_opens _ _ _ _) (by first | ((repeat (first | with_reducible exact .here | apply Pick.there)); done) | ((repeat (first | exact .here | apply Pick.there)); done)) ?_
        rintro _ ⟨a, cap, L, rfl, rfl⟩
        refine RJ_app3 ?_
        obtain ⟨⟨xf, xt, xa, xc, xb, xu⟩, hx⟩ : ∃ x, L[k]? = some x := ⟨L[k]'(by simpa using hlt0), List.getElem?_eq_getElem _⟩
        have hlt : k < L.length := (List.getElem?_eq_some_iff.1 hx).1
        have hk : (L.map HeldG.pk)[k]? = some ⟨xf, xt, xb, xu⟩ := by simp [hx, HeldG.pk]
        refine RJ_know (Row_know (T := HeldT) (by first | ((repeat (first | with_reducible exact .here | apply Pick.there)); done) | ((repeat (first | exact .here | apply Pick.there)); done))) ?_
        intro hkn
        obtain ⟨ga, rfl⟩ : ∃ ga, a = some ga := by
          cases a with
          | none => obtain ⟨_, rfl⟩ := hkn.2.2 rfl; simp at hx
          | some ga => exact ⟨ga, rfl⟩
        refine RJ_yes (t := 21) rfl rfl (decide_eq_false h2) ?_
        refine RJ_q (Op_move rfl) rfl ?_
        refine RJ_yes (t := 21) rfl rfl (decide_eq_false h2) ?_
        refine RJ_q (Op_nilCheck rfl) rfl ?_
        refine RJ_yes (t := 21) rfl rfl (decide_eq_false h2) ?_
        refine RJ_q (Op_fieldAddr (o' := 1) rfl Try.underlying57 rfl sz50 rfl rfl) rfl ?_
        refine RJ_yes (t := 21) rfl rfl (decide_eq_false h2) ?_
        refine RJ_q (Op_load rfl (load_cell Try.underlying50 rfl (by first | ((repeat (first | with_reducible exact .here | apply Pick.there)); done) | ((repeat (first | exact .here | apply Pick.there)); done)) (Nth.s Nth.z))) rfl ?_
        refine RJ_yes (t := 21) rfl rfl (decide_eq_false h2) ?_
        refine RJ_q (Op_move rfl) rfl ?_
        refine RJ_yes (t := 21) rfl rfl (decide_eq_false h2) ?_
        refine RJ_q (Op_indexAddr (o' := k * HeldT.sz + 0) rfl rfl Try.underlying50 sz60 (by omega) (by omega) (by simp [HeldT])) rfl ?_
        refine RJ_yes (t := 21) rfl rfl (decide_eq_false h2) ?_
        refine RJ_q (Op_fieldAddr (o' := k * HeldT.sz + 0) rfl Try.underlying60 rfl sz38 rfl rfl) rfl ?_
        refine RJ_yes (t := 21) rfl rfl (decide_eq_false h2) ?_
        refine RJ_q (Op_fieldAddr (o' := k * HeldT.sz + 2) rfl Try.underlying38 rfl sz30 rfl rfl) rfl ?_
        refine RJ_yes (t := 21) rfl rfl (decide_eq_false h2) ?_
        refine RJ_q (Op_load rfl (load_row_cell (o := 2) Try.underlying30 rfl (by first | ((repeat (first | with_reducible exact .here | apply Pick.there)); done) | ((repeat (first | exact .here | apply Pick.there)); done)) hx (Nth.s (Nth.s Nth.z)))) rfl ?_
        refine RJ_yes (t := 21) rfl rfl (decide_eq_false h2) ?_
        refine RJ_q (Op_len_slice rfl Try.underlying30) rfl ?_
        refine RJ_yes (t := 21) rfl rfl (decide_eq_false h2) ?_
        refine RJ_q (Op_geq rfl rfl) rfl ?_
        by_cases h3 : (xb.length : Int) ≤ j
        · skip
          refine RJ_q (Op_pick_f rfl (decide_eq_false h2) rfl) rfl ?_
          refine RJ_q (Op_move rfl) rfl ?_
          refine RJ_no (t := 35) true rfl rfl (decide_eq_true h3) (by decide) rfl ?_
          refine RJ_no (t := 35) true rfl rfl (decide_eq_true h3) (by decide) rfl ?_
          refine RJ_no (t := 35) true rfl rfl (decide_eq_true h3) (by decide) rfl ?_
          refine RJ_no (t := 35) true rfl rfl (decide_eq_true h3) (by decide) rfl ?_
          refine RJ_no (t := 35) true rfl rfl (decide_eq_true h3) (by decide) rfl ?_
          refine RJ_no (t := 35) true rfl rfl (decide_eq_true h3) (by decide) rfl ?_
          refine RJ_no (t := 35) true rfl rfl (decide_eq_true h3) (by decide) rfl ?_
          refine RJ_no (t := 35) true rfl rfl (decide_eq_true h3) (by decide) rfl ?_
          refine RJ_q (Op_pick_t rfl (decide_eq_true h3) rfl) rfl ?_
          refine RJ_nil ?_
          refine NJ_then ?_
          refine CJ_env (E' := [(0, _), (1, _), (2, _), (3, _), (8, _), (44, _)]) (.cons rfl rfl (.cons rfl rfl (.cons rfl rfl (.cons rfl rfl (.cons rfl rfl (.cons rfl rfl .nil)))))) ?_
          refine CJ_then rfl rfl ?_
          refine CJ_seq ?_
          refine CJ_region ?_
          refine RJ_q (Op_assign rfl) rfl ?_
          refine RJ_nil ?_
          refine NJ_then ?_
          refine CJ_env (E' := [(0, _), (1, _), (2, _), (3, _), (8, _)]) (.cons rfl rfl (.cons rfl rfl (.cons rfl rfl (.cons rfl rfl (.cons rfl rfl .nil))))) ?_
          refine CJ_ret ?_
          refine NJ_then_r ?_
          refine NJ_ret (.inl rfl) Try.results15 (ResJ_tmp rfl ResJ_nil) (C := [NetP g room (L.map HeldG.pk) sent]) ⟨by rw [turnAt_no hk (.inr (.inl (by simpa using h3)))]; rfl, by rw [turnAt_no hk (.inr (.inl (by simpa using h3)))]; rfl⟩ (.swap (C := NetRaw g room (some ga) cap L sent) (.cons (by first | ((repeat (first | with_reducible exact .here | apply Pick.there)); done) | ((repeat (first | exact .here | apply Pick.there)); done)) (.cons (by first | ((repeat (first | with_reducible exact .here | apply Pick.there)); done) | ((repeat (first | exact .here | apply Pick.there)); done)) (.cons (by first | ((repeat (first | with_reducible exact .here | apply Pick.there)); done) | ((repeat (first | exact .here | apply Pick.there)); done)) (Imp.refl _)))) NetP_close (.cons (by first | ((repeat (first | with_reducible exact .here | apply Pick.there)); done) | ((repeat (first | exact .here | apply Pick.there)); done)) (by repeat (first | exact Imp.refl _ | refine Imp.skip ?_))))
        · skip
          simp only [List.length_map] at hp
          refine RJ_q (Op_pick_f rfl (decide_eq_false h2) rfl) rfl ?_
          refine RJ_q (Op_move rfl) rfl ?_
          refine RJ_yes (t := 35) rfl rfl (decide_eq_false h3) ?_
          refine RJ_q (Op_move rfl) rfl ?_
          refine RJ_yes (t := 35) rfl rfl (decide_eq_false h3) ?_
          refine RJ_q (Op_nilCheck rfl) rfl ?_
          refine RJ_yes (t := 35) rfl rfl (decide_eq_false h3) ?_
          refine RJ_q (Op_fieldAddr (o' := 1) rfl Try.underlying57 rfl sz50 rfl rfl) rfl ?_
          refine RJ_yes (t := 35) rfl rfl (decide_eq_false h3) ?_
          refine RJ_q (Op_load rfl (load_cell Try.underlying50 rfl (by first | ((repeat (first | with_reducible exact .here | apply Pick.there)); done) | ((repeat (first | exact .here | apply Pick.there)); done)) (Nth.s Nth.z))) rfl ?_
          refine RJ_yes (t := 35) rfl rfl (decide_eq_false h3) ?_
          refine RJ_q (Op_move rfl) rfl ?_
          refine RJ_yes (t := 35) rfl rfl (decide_eq_false h3) ?_
          refine RJ_q (Op_indexAddr (o' := k * HeldT.sz + 0) rfl rfl Try.underlying50 sz60 (by omega) (by omega) (by simp [HeldT])) rfl ?_
          refine RJ_yes (t := 35) rfl rfl (decide_eq_false h3) ?_
          refine RJ_q (Op_fieldAddr (o' := k * HeldT.sz + 3) rfl Try.underlying60 rfl sz4 rfl rfl) rfl ?_
          refine RJ_yes (t := 35) rfl rfl (decide_eq_false h3) ?_
          refine RJ_q (Op_load rfl (load_row_cell (o := 3) Try.underlying4 rfl (by first | ((repeat (first | with_reducible exact .here | apply Pick.there)); done) | ((repeat (first | exact .here | apply Pick.there)); done)) hx (Nth.s (Nth.s (Nth.s Nth.z))))) rfl ?_
          refine RJ_q (Op_pick_f rfl (decide_eq_false h3) rfl) rfl ?_
          refine RJ_nil ?_
          refine NJ_then ?_
          refine CJ_env (E' := [(0, _), (1, _), (2, _), (3, _), (8, _), (44, _)]) (.cons rfl rfl (.cons rfl rfl (.cons rfl rfl (.cons rfl rfl (.cons rfl rfl (.cons rfl rfl .nil)))))) ?_
          refine CJ_cond rfl ?_ ?_
          · intro hu
            subst hu
            refine CJ_seq ?_
            refine CJ_region ?_
            refine RJ_q (Op_assign rfl) rfl ?_
            refine RJ_nil ?_
            refine NJ_then ?_
            refine CJ_env (E' := [(0, _), (1, _), (2, _), (3, _), (8, _)]) (.cons rfl rfl (.cons rfl rfl (.cons rfl rfl (.cons rfl rfl (.cons rfl rfl .nil))))) ?_
            refine CJ_ret ?_
            refine NJ_then_r ?_
            refine NJ_ret (.inl rfl) Try.results15 (ResJ_tmp rfl ResJ_nil) (C := [NetP g room (L.map HeldG.pk) sent]) ⟨by rw [turnAt_no hk (.inr (.inr rfl))]; rfl, by rw [turnAt_no hk (.inr (.inr rfl))]; rfl⟩ (.swap (C := NetRaw g room (some ga) cap L sent) (.cons (by first | ((repeat (first | with_reducible exact .here | apply Pick.there)); done) | ((repeat (first | exact .here | apply Pick.there)); done)) (.cons (by first | ((repeat (first | with_reducible exact .here | apply Pick.there)); done) | ((repeat (first | exact .here | apply Pick.there)); done)) (.cons (by first | ((repeat (first | with_reducible exact .here | apply Pick.there)); done) | ((repeat (first | exact .here | apply Pick.there)); done)) (Imp.refl _)))) NetP_close (.cons (by first | ((repeat (first | with_reducible exact .here | apply Pick.there)); done) | ((repeat (first | exact .here | apply Pick.there)); done)) (by repeat (first | exact Imp.refl _ | refine Imp.skip ?_))))
          · intro hu
            subst hu
            refine CJ_skip ?_
            refine NJ_then ?_
            refine CJ_env (E' := [(0, _), (1, _), (2, _), (3, _), (8, _)]) (.cons rfl rfl (.cons rfl rfl (.cons rfl rfl (.cons rfl rfl (.cons rfl rfl .nil))))) ?_
            refine CJ_seq ?_
            refine CJ_imp (.swap (C := [All BytesOf L]) (.cons (by first | ((repeat (first | with_reducible exact .here | apply Pick.there)); done) | ((repeat (first | exact .here | apply Pick.there)); done)) (Imp.refl _)) (All_out hx).imp (.refl _)) (CJ_app2 ?_)
            refine CJ_know (Row_know (T := U8) (a := xa) (xs := xb) (by first | ((repeat (first | with_reducible exact .here | apply Pick.there)); done) | ((repeat (first | exact .here | apply Pick.there)); done))) ?_
            intro hkb
            obtain ⟨ba, rfl⟩ : ∃ ba, xa = some ba := by
              cases xa with
              | none => obtain ⟨_, rfl⟩ := hkb.2.2 rfl; simp at h3
              | some ba => exact ⟨ba, rfl⟩
            obtain ⟨c, hj⟩ : ∃ c, xb[j]? = some c := ⟨xb[j]'(by omega), List.getElem?_eq_getElem _⟩
            refine CJ_region ?_
            refine RJ_q (Op_move rfl) rfl ?_
            refine RJ_q (Op_nilCheck rfl) rfl ?_
            refine RJ_q (Op_fieldAddr (o' := 1) rfl Try.underlying57 rfl sz50 rfl rfl) rfl ?_
            refine RJ_q (Op_load rfl (load_cell Try.underlying50 rfl (by first | ((repeat (first | with_reducible exact .here | apply Pick.there)); done) | ((repeat (first | exact .here | apply Pick.there)); done)) (Nth.s Nth.z))) rfl ?_
            refine RJ_q (Op_move rfl) rfl ?_
            refine RJ_q (Op_indexAddr (o' := k * HeldT.sz + 0) rfl rfl Try.underlying50 sz60 (by omega) (by omega) (by simp [HeldT])) rfl ?_
            refine RJ_q (Op_fieldAddr (o' := k * HeldT.sz + 0) rfl Try.underlying60 rfl sz38 rfl rfl) rfl ?_
            refine RJ_q (Op_fieldAddr (o' := k * HeldT.sz + 2) rfl Try.underlying38 rfl sz30 rfl rfl) rfl ?_
            refine RJ_q (Op_load rfl (load_row_cell (o := 2) Try.underlying30 rfl (by first | ((repeat (first | with_reducible exact .here | apply Pick.there)); done) | ((repeat (first | exact .here | apply Pick.there)); done)) hx (Nth.s (Nth.s Nth.z)))) rfl ?_
            refine RJ_q (Op_move rfl) rfl ?_
            refine RJ_q (Op_indexAddr (o' := j * U8.sz + 0) rfl rfl Try.underlying30 sz5 (by omega) (by show (j : Int) < (xb.length : Int); omega) (by simp [U8])) rfl ?_
            refine RJ_q (Op_load rfl (load_row_cell (o := 0) Try.underlying5 rfl (by first | ((repeat (first | with_reducible exact .here | apply Pick.there)); done) | ((repeat (first | exact .here | apply Pick.there)); done)) hj Nth.z)) rfl ?_
            refine RJ_q (Op_move rfl) rfl ?_
            refine RJ_q (Op_xor8 rfl rfl) rfl ?_
            refine RJ_q (Op_indexAddr (o' := j * U8.sz + 0) rfl rfl Try.underlying30 sz5 (by omega) (by show (j : Int) < (xb.length : Int); omega) (by simp [U8])) rfl ?_
            refine RJ_d0 (Op_store_row (i := j) (o := 0) (u' := (c ^^^ d)) rfl rfl sz5 (by rfl) (by simp [Value.cells, Value.oneCell']) (by repeat (first | exact .here | apply Repl.there)) hj (by decide) (by rfl)) ?_
            refine RJ_nil ?_
            refine NJ_then ?_
            refine CJ_env (E' := [(0, _), (1, _), (8, _)]) (.cons rfl rfl (.cons rfl rfl (.cons rfl rfl .nil))) ?_
            refine CJ_seq ?_
            refine CJ_region ?_
            refine RJ_q (Op_move rfl) rfl ?_
            refine RJ_q (Op_nilCheck rfl) rfl ?_
            refine RJ_q (Op_fieldAddr (o' := 1) rfl Try.underlying57 rfl sz50 rfl rfl) rfl ?_
            refine RJ_q (Op_load rfl (load_cell Try.underlying50 rfl (by first | ((repeat (first | with_reducible exact .here | apply Pick.there)); done) | ((repeat (first | exact .here | apply Pick.there)); done)) (Nth.s Nth.z))) rfl ?_
            refine RJ_q (Op_move rfl) rfl ?_
            refine RJ_q (Op_indexAddr (o' := k * HeldT.sz + 0) rfl rfl Try.underlying50 sz60 (by omega) (by omega) (by simp [HeldT])) rfl ?_
            refine RJ_q (Op_fieldAddr (o' := k * HeldT.sz + 3) rfl Try.underlying60 rfl sz4 rfl rfl) rfl ?_
            refine RJ_d0 (Op_store_row (i := k) (o := 3) (u' := ⟨xf, xt, some ba, xc, xb.set j (c ^^^ d), true⟩) rfl rfl sz4 (by rfl) (by simp [Value.cells, Value.oneCell']) (by repeat (first | exact .here | apply Repl.there)) hx (by decide) (by simp [putCells, HeldT, HeldG.enc, Value.cells])) ?_
            refine RJ_nil ?_
            refine NJ_then ?_
            refine CJ_env (E' := [(8, _)]) (.cons rfl rfl .nil) ?_
            refine CJ_seq ?_
            refine CJ_region ?_
            refine RJ_q (Op_assign rfl) rfl ?_
            refine RJ_nil ?_
            refine NJ_then ?_
            refine CJ_env (E' := [(8, _)]) (.cons rfl rfl .nil) ?_
            refine CJ_ret ?_
            refine NJ_ret (.inl rfl) Try.results15 (ResJ_tmp rfl ResJ_nil) (C := [NetP g room ((L.set k ⟨xf, xt, some ba, xc, xb.set j (c ^^^ d), true⟩).map HeldG.pk) sent]) ⟨by rw [turnAt_yes hk hj rfl]; rfl, by rw [turnAt_yes hk hj rfl]; simp [HeldG.pk, List.map_set]⟩ (.swap (C := [BytesOf ⟨xf, xt, some ba, xc, xb.set j (c ^^^ d), true⟩, All BytesOf (L.eraseIdx k)]) (.cons (by first | ((repeat (first | with_reducible exact .here | apply Pick.there)); done) | ((repeat (first | exact .here | apply Pick.there)); done)) (.cons (by first | ((repeat (first | with_reducible exact .here | apply Pick.there)); done) | ((repeat (first | exact .here | apply Pick.there)); done)) (Imp.refl _))) (All_in (x := ⟨xf, xt, some ba, xc, xb.set j (c ^^^ d), true⟩) hlt).imp (.swap (C := [pt g (.cells #[.int .i64 room, .slice (sl (some ga)) L.length cap, .int .i64 sent] 57 (0, 0)), Row HeldT (some ga) cap (L.set k ⟨xf, xt, some ba, xc, xb.set j (c ^^^ d), true⟩), All BytesOf (L.set k ⟨xf, xt, some ba, xc, xb.set j (c ^^^ d), true⟩)]) (.cons (by first | ((repeat (first | with_reducible exact .here | apply Pick.there)); done) | ((repeat (first | exact .here | apply Pick.there)); done)) (.cons (by first | ((repeat (first | with_reducible exact .here | apply Pick.there)); done) | ((repeat (first | exact .here | apply Pick.there)); done)) (.cons (by first | ((repeat (first | with_reducible exact .here | apply Pick.there)); done) | ((repeat (first | exact .here | apply Pick.there)); done)) (Imp.refl _)))) (NetP_close2 (by simp)) (.cons (by first | ((repeat (first | with_reducible exact .here | apply Pick.there)); done) | ((repeat (first | exact .here | apply Pick.there)); done)) (by repeat (first | exact Imp.refl _ | refine Imp.skip ?_)))))

set_option maxRecDepth 20000 in
theorem Drop_nil (who : Int) : Spec Try.prog 17 #[.pointer none, .int .i64 who] [] (fun v C => v = .int .i64 0 ∧ C = []) := by
  refine Spec_intro (n := 43) (args := [.pointer none, .int .i64 who]) Try.func17 rfl rfl rfl fun s R => ?_
  refine CJ_app0 ?_
  refine CJ_env (E' := [(0, _), (1, _)]) (.cons rfl rfl (.cons rfl rfl .nil)) ?_
  refine CJ_seq ?_
  refine CJ_region ?_
  refine RJ_q (Op_assign rfl) rfl ?_
  refine RJ_nil ?_
  refine NJ_then ?_
  refine CJ_env (E' := [(0, _), (1, _), (4, _)]) (.cons rfl rfl (.cons rfl rfl (.cons rfl rfl .nil))) ?_
  refine CJ_seq ?_
  refine CJ_seq ?_
  refine CJ_region ?_
  refine RJ_q (Op_move rfl) rfl ?_
  refine RJ_q (Op_ptr_eq_nil rfl rfl Try.underlying24) rfl ?_
  refine RJ_nil ?_
  refine NJ_then ?_
  refine CJ_env (E' := [(0, _), (1, _), (4, _), (10, _)]) (.cons rfl rfl (.cons rfl rfl (.cons rfl rfl (.cons rfl rfl .nil)))) ?_
  refine CJ_cond rfl ?_ ?_
  · intro hc1
    try simp only [decide_eq_true_eq, decide_eq_false_iff_not] at hc1
    refine CJ_seq ?_
    refine CJ_region ?_
    refine RJ_q (Op_assign rfl) rfl ?_
    refine RJ_nil ?_
    refine NJ_then ?_
    refine CJ_env (E' := [(0, _), (1, _), (4, _)]) (.cons rfl rfl (.cons rfl rfl (.cons rfl rfl .nil))) ?_
    refine CJ_ret ?_
    refine NJ_then_r ?_
    refine NJ_ret (.inl rfl) Try.results17 (ResJ_tmp rfl ResJ_nil) ⟨rfl, rfl⟩ (by repeat (first | exact Imp.refl _ | refine Imp.skip ?_))
  · intro hc1
    exact absurd hc1 (by simp)

set_option maxRecDepth 20000 in
theorem Drop_any (g : Nat) (room : Int) (ps : List Pkt) (sent : Int) (who : Int) (hp : ps.length ≤ 100000) : Spec Try.prog 17 #[.pointer (some ⟨g, 0, none⟩), .int .i64 who] [NetP g room ps sent] (fun v C => v = .int .i64 ((ps.length - (ps.filter (fun p => decide (p.t ≠ who))).length : Nat) : Int) ∧ C = [NetP g room (ps.filter (fun p => decide (p.t ≠ who))) sent]) := by
  refine Spec_intro (n := 43) (args := [.pointer (some ⟨g, 0, none⟩), .int .i64 who]) Try.func17 rfl rfl rfl fun s R => ?_
  refine CJ_app1 ?_
  refine CJ_env (E' := [(0, _), (1, _)]) (.cons rfl rfl (.cons rfl rfl .nil)) ?_
  refine CJ_open (NetP_opens _ _ _ _) (by first | ((repeat (first | with_reducible exact .here | apply Pick.there)); done) | ((repeat (first | exact .here | apply Pick.there)); done)) ?_
  rintro _ ⟨a, cap, L, rfl, rfl⟩
  refine CJ_app3 ?_
  simp only [List.length_map] at hp ⊢
  refine CJ_seq ?_
  refine CJ_region ?_
  refine RJ_q (Op_assign rfl) rfl ?_
  refine RJ_nil ?_
  refine NJ_then ?_
  refine CJ_env (E' := [(0, _), (1, _), (4, _)]) (.cons rfl rfl (.cons rfl rfl (.cons rfl rfl .nil))) ?_
  refine CJ_seq ?_
  refine CJ_seq ?_
  refine CJ_region ?_
  refine RJ_q (Op_move rfl) rfl ?_
  refine RJ_q (Op_ptr_eq_nil rfl rfl Try.underlying24) rfl ?_
  refine RJ_nil ?_
  refine NJ_then ?_
  refine CJ_env (E' := [(0, _), (1, _), (4, _), (10, _)]) (.cons rfl rfl (.cons rfl rfl (.cons rfl rfl (.cons rfl rfl .nil)))) ?_
  refine CJ_cond rfl ?_ ?_
  · intro hc1
    exact absurd hc1 (by simp)
  · intro hc1
    try simp only [decide_eq_true_eq, decide_eq_false_iff_not] at hc1
    refine CJ_skip ?_
    refine NJ_then ?_
    refine CJ_env (E' := [(0, _), (1, _), (4, _)]) (.cons rfl rfl (.cons rfl rfl (.cons rfl rfl .nil))) ?_
    refine CJ_seq ?_
    refine CJ_region ?_
    refine RJ_q (Op_assign rfl) rfl ?_
    refine RJ_nil ?_
    refine NJ_then ?_
    refine CJ_env (E' := [(0, _), (1, _), (4, _), (5, _)]) (.cons rfl rfl (.cons rfl rfl (.cons rfl rfl (.cons rfl rfl .nil)))) ?_
    refine CJ_seq ?_
    refine CJ_seq ?_
    refine CJ_region ?_
    refine RJ_q (Op_move rfl) rfl ?_
    refine RJ_q (Op_nilCheck rfl) rfl ?_
    refine RJ_q (Op_fieldAddr (o' := 1) rfl Try.underlying57 rfl sz50 rfl rfl) rfl ?_
    refine RJ_q (Op_load rfl (load_cell Try.underlying50 rfl (by first | ((repeat (first | with_reducible exact .here | apply Pick.there)); done) | ((repeat (first | exact .here | apply Pick.there)); done)) (Nth.s Nth.z))) rfl ?_
    refine RJ_q (Op_len_slice rfl Try.underlying50) rfl ?_
    refine RJ_q (Op_move rfl) rfl ?_
    refine RJ_nil ?_
    refine NJ_then ?_
    refine CJ_env (E' := [(0, _), (1, _), (4, _), (5, _), (14, _), (15, _), (16, _)]) (.cons rfl rfl (.cons rfl rfl (.cons rfl rfl (.cons rfl rfl (.cons rfl rfl (.cons rfl rfl (.cons rfl rfl .nil))))))) ?_
    refine CJ_block ?_
    refine CJ_loop (fun E H m => ∃ (i : Nat) (a1 : Option Nat) (c1 : Nat), (i ≤ L.length) ∧ E = [(0, .pointer (some ⟨g, 0, none⟩)), (1, .int .i64 who), (5, .slice (sl a1) ((L.take i).filter (fun x => decide (x.t ≠ who))).length c1), (14, .slice (sl a) L.length cap), (15, .int .i64 L.length), (16, .int .i64 (i : Int))] ∧ H = [pt g (.cells #[.int .i64 room, .slice (sl a) L.length cap, .int .i64 sent] 57 (0, 0)), Row HeldT a cap L, Row HeldT a1 c1 ((L.take i).filter (fun x => decide (x.t ≠ who))), All BytesOf L] ++ R ∧ m = L.length - i) (E' := [(0, .pointer (some ⟨g, 0, none⟩)), (1, .int .i64 who), (5, .slice (sl none) 0 0), (14, .slice (sl a) L.length cap), (15, .int .i64 L.length), (16, .int .i64 0)]) (H' := [pt g (.cells #[.int .i64 room, .slice (sl a) L.length cap, .int .i64 sent] 57 (0, 0)), Row HeldT a cap L, Row HeldT none 0 [], All BytesOf L] ++ R) (m := L.length - 0) ⟨0, none, 0, Nat.zero_le _, rfl, rfl, rfl⟩ (.cons rfl rfl (.cons rfl rfl (.cons rfl rfl (.cons rfl rfl (.cons rfl rfl (.cons rfl rfl .nil)))))) (.swap (C := []) (.refl _) (Row_none HeldT).imp (.cons (by first | ((repeat (first | with_reducible exact .here | apply Pick.there)); done) | ((repeat (first | exact .here | apply Pick.there)); done)) (.cons (by first | ((repeat (first | with_reducible exact .here | apply Pick.there)); done) | ((repeat (first | exact .here | apply Pick.there)); done)) (.cons (by first | ((repeat (first | with_reducible exact .here | apply Pick.there)); done) | ((repeat (first | exact .here | apply Pick.there)); done)) (.cons (by first | ((repeat (first | with_reducible exact .here | apply Pick.there)); done) | ((repeat (first | exact .here | apply Pick.there)); done)) (Imp.refl _)))))) ?_
    rintro _ _ _ ⟨i, a1, c1, hok, rfl, rfl, rfl⟩
    refine CJ_app4 ?_
    refine CJ_know (Row_know (T := HeldT) (a := a) (xs := L) (by first | ((repeat (first | with_reducible exact .here | apply Pick.there)); done) | ((repeat (first | exact .here | apply Pick.there)); done))) ?_
    intro hkn
    refine CJ_seq ?_
    refine CJ_region ?_
    refine RJ_q (Op_lss rfl rfl) rfl ?_
    refine RJ_nil ?_
    refine NJ_then ?_
    refine CJ_env (E' := [(0, _), (1, _), (5, _), (14, _), (15, _), (16, _), (17, _)]) (.cons rfl rfl (.cons rfl rfl (.cons rfl rfl (.cons rfl rfl (.cons rfl rfl (.cons rfl rfl (.cons rfl rfl .nil))))))) ?_
    refine CJ_seq ?_
    refine CJ_cond rfl ?_ ?_
    · intro hc2
      have hlt : i < L.length := by simpa using hc2
      obtain ⟨x, hx⟩ : ∃ x, L[i]? = some x := ⟨L[i], List.getElem?_eq_getElem hlt⟩
      have htk : L.take (i + 1) = L.take i ++ [x] := by rw [List.take_add_one, hx]; rfl
      obtain ⟨ga, rfl⟩ : ∃ ga, a = some ga := by
        cases a with
        | none => obtain ⟨_, rfl⟩ := hkn.2.2 rfl; simp at hx
        | some ga => exact ⟨ga, rfl⟩
      refine CJ_skip ?_
      refine NJ_then ?_
      refine CJ_env (E' := [(0, _), (1, _), (5, _), (14, _), (15, _), (16, _), (17, _)]) (.cons rfl rfl (.cons rfl rfl (.cons rfl rfl (.cons rfl rfl (.cons rfl rfl (.cons rfl rfl (.cons rfl rfl .nil))))))) ?_
      refine CJ_seq ?_
      refine CJ_block ?_
      refine CJ_seq ?_
      refine CJ_region ?_
      refine RJ_q (Op_indexAddr (o' := i * HeldT.sz + 0) rfl rfl Try.underlying50 sz60 (by omega) (by omega) (by simp [HeldT])) rfl ?_
      refine RJ_q (Op_load rfl (load_row (o := 0) (vs := [_, _, _, _]) Try.underlying60 sz60 (by first | ((repeat (first | with_reducible exact .here | apply Pick.there)); done) | ((repeat (first | exact .here | apply Pick.there)); done)) hx rfl (by rfl))) rfl ?_
      refine RJ_p rfl (Op_alloc zr60) ?_
      rintro _ _ ⟨b7, rfl, rfl⟩
      refine RJ_d0 (Op_store (cs' := #[_, _, _, _]) rfl rfl sz60 (by rfl) (by simp [Value.cells, Value.oneCell']) (by repeat (first | exact .here | apply Repl.there)) rfl (free_zero _ _) (by rfl)) ?_
      refine RJ_nil ?_
      refine NJ_then ?_
      refine CJ_env (E' := [(0, _), (1, _), (5, _), (7, _), (14, _), (15, _), (16, _), (17, _), (18, _), (19, _)]) (.cons rfl rfl (.cons rfl rfl (.cons rfl rfl (.cons rfl rfl (.cons rfl rfl (.cons rfl rfl (.cons rfl rfl (.cons rfl rfl (.cons rfl rfl (.cons rfl rfl .nil)))))))))) ?_
      refine CJ_seq ?_
      refine CJ_region ?_
      refine RJ_q (Op_fieldAddr (o' := 0) rfl Try.underlying60 rfl sz38 rfl rfl) rfl ?_
      refine RJ_q (Op_fieldAddr (o' := 1) rfl Try.underlying38 rfl sz3 rfl rfl) rfl ?_
      refine RJ_q (Op_load rfl (load_cell Try.underlying3 rfl (by first | ((repeat (first | with_reducible exact .here | apply Pick.there)); done) | ((repeat (first | exact .here | apply Pick.there)); done)) (Nth.s Nth.z))) rfl ?_
      refine RJ_q (Op_move rfl) rfl ?_
      refine RJ_q (Op_neq rfl rfl) rfl ?_
      refine RJ_nil ?_
      refine NJ_then ?_
      refine CJ_env (E' := [(0, _), (1, _), (5, _), (7, _), (14, _), (15, _), (16, _), (17, _), (18, _), (19, _), (20, _), (21, _), (22, _), (23, _), (24, _)]) (.cons rfl rfl (.cons rfl rfl (.cons rfl rfl (.cons rfl rfl (.cons rfl rfl (.cons rfl rfl (.cons rfl rfl (.cons rfl rfl (.cons rfl rfl (.cons rfl rfl (.cons rfl rfl (.cons rfl rfl (.cons rfl rfl (.cons rfl rfl (.cons rfl rfl .nil))))))))))))))) ?_
      refine CJ_cond rfl ?_ ?_
      · intro hc3
        have hf : (L.take (i + 1)).filter (fun x => decide (x.t ≠ who)) = (L.take i).filter (fun x => decide (x.t ≠ who)) ++ [x] := by rw [htk, List.filter_append]; simp [of_decide_eq_true hc3]
        refine CJ_region ?_
        refine RJ_q (Op_move rfl) rfl ?_
        refine RJ_q (Op_load rfl (load_struct (o := 0) (vs := [_, _, _, _]) Try.underlying60 sz60 (by first | ((repeat (first | with_reducible exact .here | apply Pick.there)); done) | ((repeat (first | exact .here | apply Pick.there)); done)) (by rfl) rfl)) rfl ?_
        refine RJ_p rfl (Op_buildSlice (vs := [_]) (cells := [_, _, _, _]) Try.underlying50 sz60 zr60 rfl rfl rfl rfl (by rfl)) ?_
        rintro _ _ ⟨g27, rfl, rfl⟩
        refine RJ_p rfl (Op_append (T := HeldT) (news := [x]) rfl rfl (by first | ((repeat (first | with_reducible exact .here | apply Pick.there)); done) | ((repeat (first | exact .here | apply Pick.there)); done)) rfl (by simp) (Reads_pt (by first | ((repeat (first | with_reducible exact .here | apply Pick.there)); done) | ((repeat (first | exact .here | apply Pick.there)); done)) (fun j u h => by simpa [Ty.flat, HeldT, HeldG.enc] using h)) Try.underlying50 sz60 zr60 (by rfl) by60 (by have := List.length_filter_le (fun x : HeldG => decide (x.t ≠ who)) (L.take i); have := List.length_take_le i L; show (((L.take i).filter (fun x => decide (x.t ≠ who))).length + 1) * 48 ≤ 140737488355328; omega) (by have := List.length_filter_le (fun x : HeldG => decide (x.t ≠ who)) (L.take i); have := List.length_take_le i L; unfold maxLen; omega)) ?_
        rintro _ _ ⟨a2, c2, rfl, rfl⟩
        refine RJ_q (Op_assign rfl) rfl ?_
        refine RJ_nil ?_
        refine NJ_blk ?_
        refine NJ_then ?_
        refine CJ_env (E' := [(0, _), (1, _), (5, _), (7, _), (14, _), (15, _), (16, _), (17, _), (18, _), (19, _), (20, _), (21, _), (22, _), (23, _), (24, _), (25, _), (26, _), (27, _), (28, _)]) (.cons rfl rfl (.cons rfl rfl (.cons rfl rfl (.cons rfl rfl (.cons rfl rfl (.cons rfl rfl (.cons rfl rfl (.cons rfl rfl (.cons rfl rfl (.cons rfl rfl (.cons rfl rfl (.cons rfl rfl (.cons rfl rfl (.cons rfl rfl (.cons rfl rfl (.cons rfl rfl (.cons rfl rfl (.cons rfl rfl (.cons rfl rfl .nil))))))))))))))))))) ?_
        refine CJ_region ?_
        refine RJ_q (Op_add64 rfl rfl (by omega)) rfl ?_
        refine RJ_q (Op_move rfl) rfl ?_
        refine RJ_nil ?_
        refine NJ_back (E' := [(0, .pointer (some ⟨g, 0, none⟩)), (1, .int .i64 who), (5, .slice (sl a2) ((L.take (i + 1)).filter (fun x => decide (x.t ≠ who))).length c2), (14, .slice (sl (some ga)) L.length cap), (15, .int .i64 L.length), (16, .int .i64 ((i + 1 : Nat) : Int))]) (m' := L.length - (i + 1)) ⟨i + 1, a2, c2, (by omega), rfl, rfl, rfl⟩ (by omega) (.cons rfl rfl (.cons rfl rfl (.cons rfl (by first | exact congrArg (fun l : List HeldG => Value.slice _ l.length _) hf.symm | exact (by rw [hf])) (.cons rfl rfl (.cons rfl rfl (.cons rfl rfl .nil)))))) (by rw [hf]; exact (.cons (by first | ((repeat (first | with_reducible exact .here | apply Pick.there)); done) | ((repeat (first | exact .here | apply Pick.there)); done)) (.cons (by first | ((repeat (first | with_reducible exact .here | apply Pick.there)); done) | ((repeat (first | exact .here | apply Pick.there)); done)) (.cons (by first | ((repeat (first | with_reducible exact .here | apply Pick.there)); done) | ((repeat (first | exact .here | apply Pick.there)); done)) (.cons (by first | ((repeat (first | with_reducible exact .here | apply Pick.there)); done) | ((repeat (first | exact .here | apply Pick.there)); done)) (by repeat (first | exact Imp.refl _ | refine Imp.skip ?_)))))))
      · intro hc3
        have hf : (L.take (i + 1)).filter (fun x => decide (x.t ≠ who)) = (L.take i).filter (fun x => decide (x.t ≠ who)) := by rw [htk, List.filter_append]; simpa using hc3
        refine CJ_skip ?_
        refine NJ_blk ?_
        refine NJ_then ?_
        refine CJ_env (E' := [(0, _), (1, _), (5, _), (7, _), (14, _), (15, _), (16, _), (17, _), (18, _), (19, _), (20, _), (21, _), (22, _), (23, _), (24, _)]) (.cons rfl rfl (.cons rfl rfl (.cons rfl rfl (.cons rfl rfl (.cons rfl rfl (.cons rfl rfl (.cons rfl rfl (.cons rfl rfl (.cons rfl rfl (.cons rfl rfl (.cons rfl rfl (.cons rfl rfl (.cons rfl rfl (.cons rfl rfl (.cons rfl rfl .nil))))))))))))))) ?_
        refine CJ_region ?_
        refine RJ_q (Op_add64 rfl rfl (by omega)) rfl ?_
        refine RJ_q (Op_move rfl) rfl ?_
        refine RJ_nil ?_
        refine NJ_back (E' := [(0, .pointer (some ⟨g, 0, none⟩)), (1, .int .i64 who), (5, .slice (sl a1) ((L.take (i + 1)).filter (fun x => decide (x.t ≠ who))).length c1), (14, .slice (sl (some ga)) L.length cap), (15, .int .i64 L.length), (16, .int .i64 ((i + 1 : Nat) : Int))]) (m' := L.length - (i + 1)) ⟨i + 1, a1, c1, (by omega), rfl, rfl, rfl⟩ (by omega) (.cons rfl rfl (.cons rfl rfl (.cons rfl (by first | exact congrArg (fun l : List HeldG => Value.slice _ l.length _) hf.symm | exact (by rw [hf])) (.cons rfl rfl (.cons rfl rfl (.cons rfl rfl .nil)))))) (by rw [hf]; exact (.cons (by first | ((repeat (first | with_reducible exact .here | apply Pick.there)); done) | ((repeat (first | exact .here | apply Pick.there)); done)) (.cons (by first | ((repeat (first | with_reducible exact .here | apply Pick.there)); done) | ((repeat (first | exact .here | apply Pick.there)); done)) (.cons (by first | ((repeat (first | with_reducible exact .here | apply Pick.there)); done) | ((repeat (first | exact .here | apply Pick.there)); done)) (.cons (by first | ((repeat (first | with_reducible exact .here | apply Pick.there)); done) | ((repeat (first | exact .here | apply Pick.there)); done)) (by repeat (first | exact Imp.refl _ | refine Imp.skip ?_)))))))
    · intro hc2
      have hie : i = L.length := by have := of_decide_eq_false hc2; omega
      subst hie
      refine CJ_exit ?_
      refine NJ_then_x ?_
      refine NJ_then_x ?_
      refine NJ_blk_hit ?_
      refine NJ_then ?_
      refine CJ_env (E' := [(0, _), (5, _)]) (.cons rfl rfl (.cons rfl rfl .nil)) ?_
      refine CJ_seq ?_
      refine CJ_region ?_
      refine RJ_q (Op_move rfl) rfl ?_
      refine RJ_q (Op_nilCheck rfl) rfl ?_
      refine RJ_q (Op_fieldAddr (o' := 1) rfl Try.underlying57 rfl sz50 rfl rfl) rfl ?_
      refine RJ_q (Op_load rfl (load_cell Try.underlying50 rfl (by first | ((repeat (first | with_reducible exact .here | apply Pick.there)); done) | ((repeat (first | exact .here | apply Pick.there)); done)) (Nth.s Nth.z))) rfl ?_
      refine RJ_q (Op_len_slice rfl Try.underlying50) rfl ?_
      refine RJ_q (Op_move rfl) rfl ?_
      refine RJ_q (Op_len_slice rfl Try.underlying50) rfl ?_
      refine RJ_q (Op_subN (L.length - ((L.take L.length).filter (fun x => decide (x.t ≠ who))).length) rfl rfl (by have := List.length_filter_le (fun x : HeldG => decide (x.t ≠ who)) (L.take L.length); have := List.length_take_le L.length L; omega) (by omega)) rfl ?_
      refine RJ_q (Op_assign rfl) rfl ?_
      refine RJ_nil ?_
      refine NJ_then ?_
      refine CJ_env (E' := [(0, _), (5, _), (8, _)]) (.cons rfl rfl (.cons rfl rfl (.cons rfl rfl .nil))) ?_
      refine CJ_seq ?_
      refine CJ_region ?_
      refine RJ_q (Op_move rfl) rfl ?_
      refine RJ_q (Op_move rfl) rfl ?_
      refine RJ_q (Op_nilCheck rfl) rfl ?_
      refine RJ_q (Op_fieldAddr (o' := 1) rfl Try.underlying57 rfl sz50 rfl rfl) rfl ?_
      refine RJ_d0 (Op_store (cs' := #[_, _, _]) rfl rfl sz50 (by rfl) (by simp [Value.cells, Value.oneCell']) (by repeat (first | exact .here | apply Repl.there)) rfl (free_zero _ _) (by rfl)) ?_
      refine RJ_nil ?_
      refine NJ_then ?_
      refine CJ_env (E' := [(8, _)]) (.cons rfl rfl .nil) ?_
      refine CJ_seq ?_
      refine CJ_region ?_
      refine RJ_q (Op_move rfl) rfl ?_
      refine RJ_q (Op_assign rfl) rfl ?_
      refine RJ_nil ?_
      refine NJ_then ?_
      refine CJ_env (E' := [(4, _)]) (.cons rfl rfl .nil) ?_
      refine CJ_ret ?_
      rw [List.take_length]
      refine NJ_ret (.inl rfl) Try.results17 (ResJ_tmp rfl ResJ_nil) (C := [NetP g room ((L.filter (fun x => decide (x.t ≠ who))).map HeldG.pk) sent]) ⟨by rw [filter_pk, List.length_map]; rfl, by rw [filter_pk]⟩ (.swap (C := [All BytesOf L]) (.cons (by first | ((repeat (first | with_reducible exact .here | apply Pick.there)); done) | ((repeat (first | exact .here | apply Pick.there)); done)) (Imp.refl _)) (All_filter (fun x => decide (x.t ≠ who)) L) (.swap (C := NetRaw g room a1 c1 (L.filter (fun x => decide (x.t ≠ who))) sent) (.cons (by first | ((repeat (first | with_reducible exact .here | apply Pick.there)); done) | ((repeat (first | exact .here | apply Pick.there)); done)) (.cons (by first | ((repeat (first | with_reducible exact .here | apply Pick.there)); done) | ((repeat (first | exact .here | apply Pick.there)); done)) (.cons (by first | ((repeat (first | with_reducible exact .here | apply Pick.there)); done) | ((repeat (first | exact .here | apply Pick.there)); done)) (Imp.refl _)))) NetP_close (.cons (by first | ((repeat (first | with_reducible exact .here | apply Pick.there)); done) | ((repeat (first | exact .here | apply Pick.there)); done)) (by repeat (first | exact Imp.refl _ | refine Imp.skip ?_)))))
end Go.Proofs.Ytblcdhcjamedgaa.SL
