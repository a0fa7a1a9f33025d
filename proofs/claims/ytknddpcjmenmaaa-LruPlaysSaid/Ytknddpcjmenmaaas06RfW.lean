/- Contracts of ref06. -/
import Derived.Test.Ytknddpcjmenmaaas06RfD
import Derived.Test.Ytknddpcjmenmaaas06Facts
namespace Go.Proofs.Ytknddpcjmenmaaa.SL
open Go Go.RowKit
set_option maxRecDepth 20000 in
theorem RUsed_raw (g : Nat) (L : List It) (room kept : Int) (a : Option Nat) (cap : Nat) (hI : LOk L room kept) : Spec Try.prog 20 #[.pointer (some ⟨g, 0, none⟩)] [RfC g a L.length cap room kept, Row ThT a cap L] (fun v C => v = .int .i64 (szs L + kept) ∧ C = [RfC g a L.length cap room kept, Row ThT a cap L]) := by
  refine Spec_intro (n := 29) (args := [.pointer (some ⟨g, 0, none⟩)]) Try.func20 rfl rfl rfl fun s R => ?_
  refine CJ_app2 ?_
  refine CJ_env (E' := [(0, _)]) (.cons rfl rfl .nil) ?_
  refine CJ_know (Row_know (T := ThT) (by first | ((repeat (first | with_reducible exact .here | apply Pick.there)); done) | ((repeat (first | exact .here | apply Pick.there)); done))) ?_
  intro hkn
  have hI1 := hI.pos
  have hI2 := hI.kp
  have hI3 := hI.fit
  have hI4 := hI.top
  have hI5 := szs_nonneg hI.pos
  have hml : maxLen ≤ 9223372036854775807 := by decide
  refine CJ_seq ?_
  refine CJ_region ?_
  refine RJ_q (Op_assign rfl) rfl ?_
  refine RJ_nil ?_
  refine NJ_then ?_
  refine CJ_env (E' := [(0, _), (2, _)]) (.cons rfl rfl (.cons rfl rfl .nil)) ?_
  refine CJ_seq ?_
  refine CJ_region ?_
  refine RJ_q (Op_move rfl) rfl ?_
  refine RJ_q (Op_nilCheck rfl) rfl ?_
  refine RJ_q (Op_fieldAddr (o' := 2) rfl Try.underlying29 rfl sz3 rfl rfl) rfl ?_
  refine RJ_q (Op_load rfl (load_cell Try.underlying3 rfl (by first | ((repeat (first | with_reducible exact .here | apply Pick.there)); done) | ((repeat (first | exact .here | apply Pick.there)); done)) (Nth.s (Nth.s Nth.z)))) rfl ?_
  refine RJ_q (Op_assign rfl) rfl ?_
  refine RJ_nil ?_
  refine NJ_then ?_
  refine CJ_env (E' := [(0, _), (2, _), (3, _)]) (.cons rfl rfl (.cons rfl rfl (.cons rfl rfl .nil))) ?_
  refine CJ_seq ?_
  refine CJ_seq ?_
  refine CJ_region ?_
  refine RJ_q (Op_assign rfl) rfl ?_
  refine RJ_nil ?_
  refine NJ_then ?_
  refine CJ_env (E' := [(0, _), (2, _), (3, _), (4, _)]) (.cons rfl rfl (.cons rfl rfl (.cons rfl rfl (.cons rfl rfl .nil)))) ?_
  refine CJ_block ?_
  refine CJ_loop (fun E H m => ∃ (i : Nat), (i ≤ L.length) ∧ E = [(0, .pointer (some ⟨g, 0, none⟩)), (3, .int .i64 (szs (L.take i) + kept)), (4, .int .i64 (i : Nat))] ∧ H = [RfC g a L.length cap room kept, Row ThT a cap L] ++ R ∧ m = L.length - i) (E' := [(0, .pointer (some ⟨g, 0, none⟩)), (3, .int .i64 (szs (L.take 0) + kept)), (4, .int .i64 (0 : Nat))]) (H' := [RfC g a L.length cap room kept, Row ThT a cap L] ++ R) (m := L.length - 0) ⟨0, Nat.zero_le _, rfl, rfl, rfl⟩ (.cons rfl rfl (.cons rfl (by simp [szs]) (.cons rfl rfl .nil))) (.cons (by first | ((repeat (first | with_reducible exact .here | apply Pick.there)); done) | ((repeat (first | exact .here | apply Pick.there)); done)) (.cons (by first | ((repeat (first | with_reducible exact .here | apply Pick.there)); done) | ((repeat (first | exact .here | apply Pick.there)); done)) (by repeat (first | exact Imp.refl _ | refine Imp.skip ?_)))) ?_
  rintro _ _ _ ⟨i, hi, rfl, rfl, rfl⟩
  refine CJ_app2 ?_
  refine CJ_seq ?_
  refine CJ_seq ?_
  by_cases hi1 : i < L.length
  · skip
    obtain ⟨x, hx⟩ : ∃ x, L[i]? = some x := ⟨L[i], List.getElem?_eq_getElem hi1⟩
    obtain ⟨ga, rfl⟩ := sliceNil hkn.2.2 hx
    have hst := szs_step hx
    have h1 := szs_take hI1 (i + 1)
    have h2 := szs_nonneg (L := L.take (i + 1)) fun t ht => hI1 t (List.mem_of_mem_take ht)
    refine CJ_region ?_
    refine RJ_q (Op_move rfl) rfl ?_
    refine RJ_q (Op_move rfl) rfl ?_
    refine RJ_q (Op_nilCheck rfl) rfl ?_
    refine RJ_q (Op_fieldAddr (o' := 0) rfl Try.underlying29 rfl sz27 rfl rfl) rfl ?_
    refine RJ_q (Op_load rfl (load_cell Try.underlying27 rfl (by first | ((repeat (first | with_reducible exact .here | apply Pick.there)); done) | ((repeat (first | exact .here | apply Pick.there)); done)) Nth.z)) rfl ?_
    refine RJ_q (Op_len_slice rfl Try.underlying27) rfl ?_
    refine RJ_q (Op_lss rfl rfl) rfl ?_
    refine RJ_nil ?_
    refine NJ_then ?_
    refine CJ_env (E' := [(0, _), (3, _), (4, _), (9, _), (10, _), (11, _), (12, _), (13, _), (14, _), (15, _)]) (.cons rfl rfl (.cons rfl rfl (.cons rfl rfl (.cons rfl rfl (.cons rfl rfl (.cons rfl rfl (.cons rfl rfl (.cons rfl rfl (.cons rfl rfl (.cons rfl rfl .nil)))))))))) ?_
    refine CJ_then rfl (decide_eq_true (by omega)) ?_
    refine CJ_skip ?_
    refine NJ_then ?_
    refine CJ_env (E' := [(0, _), (3, _), (4, _), (9, _), (10, _), (11, _), (12, _), (13, _), (14, _), (15, _)]) (.cons rfl rfl (.cons rfl rfl (.cons rfl rfl (.cons rfl rfl (.cons rfl rfl (.cons rfl rfl (.cons rfl rfl (.cons rfl rfl (.cons rfl rfl (.cons rfl rfl .nil)))))))))) ?_
    refine CJ_seq ?_
    refine CJ_block ?_
    refine CJ_region ?_
    refine RJ_q (Op_move rfl) rfl ?_
    refine RJ_q (Op_move rfl) rfl ?_
    refine RJ_q (Op_nilCheck rfl) rfl ?_
    refine RJ_q (Op_fieldAddr (o' := 0) rfl Try.underlying29 rfl sz27 rfl rfl) rfl ?_
    refine RJ_q (Op_load rfl (load_cell Try.underlying27 rfl (by first | ((repeat (first | with_reducible exact .here | apply Pick.there)); done) | ((repeat (first | exact .here | apply Pick.there)); done)) Nth.z)) rfl ?_
    refine RJ_q (Op_move rfl) rfl ?_
    refine RJ_q (Op_indexAddr (o' := i * ThT.sz + 0) rfl rfl Try.underlying27 sz37 (by omega) (by omega) (by simp [ThT])) rfl ?_
    refine RJ_q (Op_fieldAddr (o' := i * ThT.sz + 1) rfl Try.underlying37 rfl sz3 rfl rfl) rfl ?_
    refine RJ_q (Op_load rfl (load_row_cell (o := 1) Try.underlying3 rfl (by first | ((repeat (first | with_reducible exact .here | apply Pick.there)); done) | ((repeat (first | exact .here | apply Pick.there)); done)) hx (Nth.s Nth.z))) rfl ?_
    refine RJ_q (Op_add64 rfl rfl (by omega)) rfl ?_
    have he : szs (L.take i) + kept + x.size = szs (L.take (i + 1)) + kept := by omega
    rw [he]
    refine RJ_q (Op_assign rfl) rfl ?_
    refine RJ_nil ?_
    refine NJ_blk ?_
    refine NJ_then ?_
    refine CJ_env (E' := [(0, _), (3, _), (4, _), (9, _), (10, _), (11, _), (12, _), (13, _), (14, _), (15, _), (18, _), (19, _), (20, _), (21, _), (22, _), (23, _), (24, _), (25, _), (26, _), (27, _)]) (.cons rfl rfl (.cons rfl rfl (.cons rfl rfl (.cons rfl rfl (.cons rfl rfl (.cons rfl rfl (.cons rfl rfl (.cons rfl rfl (.cons rfl rfl (.cons rfl rfl (.cons rfl rfl (.cons rfl rfl (.cons rfl rfl (.cons rfl rfl (.cons rfl rfl (.cons rfl rfl (.cons rfl rfl (.cons rfl rfl (.cons rfl rfl (.cons rfl rfl .nil)))))))))))))))))))) ?_
    refine CJ_region ?_
    refine RJ_q (Op_move rfl) rfl ?_
    refine RJ_q (Op_addN (i + 1) rfl rfl (by omega) (by omega)) rfl ?_
    refine RJ_q (Op_assign rfl) rfl ?_
    refine RJ_nil ?_
    refine NJ_back ⟨i + 1, by omega, rfl, rfl, rfl⟩ (by omega) (.cons rfl (by first | rfl | (simp [keysOf, itsOf]; done)) (.cons rfl (by first | rfl | (simp [keysOf, itsOf]; done)) (.cons rfl (by first | rfl | (simp [keysOf, itsOf]; done)) .nil))) (.cons (by first | ((repeat (first | with_reducible exact .here | apply Pick.there)); done) | ((repeat (first | exact .here | apply Pick.there)); done)) (.cons (by first | ((repeat (first | with_reducible exact .here | apply Pick.there)); done) | ((repeat (first | exact .here | apply Pick.there)); done)) (by repeat (first | exact Imp.refl _ | refine Imp.skip ?_))))
  · skip
    refine CJ_region ?_
    refine RJ_q (Op_move rfl) rfl ?_
    refine RJ_q (Op_move rfl) rfl ?_
    refine RJ_q (Op_nilCheck rfl) rfl ?_
    refine RJ_q (Op_fieldAddr (o' := 0) rfl Try.underlying29 rfl sz27 rfl rfl) rfl ?_
    refine RJ_q (Op_load rfl (load_cell Try.underlying27 rfl (by first | ((repeat (first | with_reducible exact .here | apply Pick.there)); done) | ((repeat (first | exact .here | apply Pick.there)); done)) Nth.z)) rfl ?_
    refine RJ_q (Op_len_slice rfl Try.underlying27) rfl ?_
    refine RJ_q (Op_lss rfl rfl) rfl ?_
    refine RJ_nil ?_
    refine NJ_then ?_
    refine CJ_env (E' := [(0, _), (3, _), (4, _), (9, _), (10, _), (11, _), (12, _), (13, _), (14, _), (15, _)]) (.cons rfl rfl (.cons rfl rfl (.cons rfl rfl (.cons rfl rfl (.cons rfl rfl (.cons rfl rfl (.cons rfl rfl (.cons rfl rfl (.cons rfl rfl (.cons rfl rfl .nil)))))))))) ?_
    refine CJ_else rfl (decide_eq_false (by omega)) ?_
    refine CJ_exit ?_
    refine NJ_then_x ?_
    refine NJ_then_x ?_
    refine NJ_blk_hit ?_
    refine NJ_then ?_
    refine CJ_env (E' := [(3, _)]) (.cons rfl rfl .nil) ?_
    refine CJ_seq ?_
    refine CJ_region ?_
    refine RJ_q (Op_move rfl) rfl ?_
    refine RJ_q (Op_assign rfl) rfl ?_
    refine RJ_nil ?_
    refine NJ_then ?_
    refine CJ_env (E' := [(2, _)]) (.cons rfl rfl .nil) ?_
    refine CJ_ret ?_
    have hil : i = L.length := by omega
    subst hil
    rw [List.take_length]
    refine NJ_ret (.inl rfl) Try.results20 (ResJ_tmp rfl ResJ_nil) ⟨rfl, rfl⟩ (.cons (by first | ((repeat (first | with_reducible exact .here | apply Pick.there)); done) | ((repeat (first | exact .here | apply Pick.there)); done)) (.cons (by first | ((repeat (first | with_reducible exact .here | apply Pick.there)); done) | ((repeat (first | exact .here | apply Pick.there)); done)) (by repeat (first | exact Imp.refl _ | refine Imp.skip ?_))))

set_option maxRecDepth 20000 in
theorem RFind_yes (g : Nat) (A B : List It) (t : It) (room kept : Int) (a : Option Nat) (cap : Nat) (hA : ∀ x ∈ A, x.key ≠ t.key) : Spec Try.prog 28 #[.pointer (some ⟨g, 0, none⟩), .string t.key] [RfC g a (A ++ t :: B).length cap room kept, Row ThT a cap (A ++ t :: B)] (fun v C => v = .int .i64 (A.length : Nat) ∧ C = [RfC g a (A ++ t :: B).length cap room kept, Row ThT a cap (A ++ t :: B)]) := by
  refine Spec_intro (n := 26) (args := [.pointer (some ⟨g, 0, none⟩), .string t.key]) Try.func28 rfl rfl rfl fun s R => ?_
  refine CJ_app2 ?_
  refine CJ_env (E' := [(0, _), (1, _)]) (.cons rfl rfl (.cons rfl rfl .nil)) ?_
  refine CJ_know (Row_know (T := ThT) (by first | ((repeat (first | with_reducible exact .here | apply Pick.there)); done) | ((repeat (first | exact .here | apply Pick.there)); done))) ?_
  intro hkn
  have hml : maxLen ≤ 9223372036854775807 := by decide
  refine CJ_seq ?_
  refine CJ_region ?_
  refine RJ_q (Op_assign rfl) rfl ?_
  refine RJ_nil ?_
  refine NJ_then ?_
  refine CJ_env (E' := [(0, _), (1, _), (4, _)]) (.cons rfl rfl (.cons rfl rfl (.cons rfl rfl .nil))) ?_
  refine CJ_seq ?_
  refine CJ_seq ?_
  refine CJ_region ?_
  refine RJ_q (Op_assign rfl) rfl ?_
  refine RJ_nil ?_
  refine NJ_then ?_
  refine CJ_env (E' := [(0, _), (1, _), (4, _), (5, _)]) (.cons rfl rfl (.cons rfl rfl (.cons rfl rfl (.cons rfl rfl .nil)))) ?_
  refine CJ_block ?_
  refine CJ_loop (fun E H m => ∃ (i : Nat), (i ≤ A.length) ∧ E = [(0, .pointer (some ⟨g, 0, none⟩)), (1, .string t.key), (5, .int .i64 (i : Nat))] ∧ H = [RfC g a (A ++ t :: B).length cap room kept, Row ThT a cap (A ++ t :: B)] ++ R ∧ m = A.length - i) (E' := [(0, .pointer (some ⟨g, 0, none⟩)), (1, .string t.key), (5, .int .i64 (0 : Nat))]) (H' := [RfC g a (A ++ t :: B).length cap room kept, Row ThT a cap (A ++ t :: B)] ++ R) (m := A.length - 0) ⟨0, Nat.zero_le _, rfl, rfl, rfl⟩ (.cons rfl rfl (.cons rfl rfl (.cons rfl rfl .nil))) (.cons (by first | ((repeat (first | with_reducible exact .here | apply Pick.there)); done) | ((repeat (first | exact .here | apply Pick.there)); done)) (.cons (by first | ((repeat (first | with_reducible exact .here | apply Pick.there)); done) | ((repeat (first | exact .here | apply Pick.there)); done)) (by repeat (first | exact Imp.refl _ | refine Imp.skip ?_)))) ?_
  rintro _ _ _ ⟨i, hi, rfl, rfl, rfl⟩
  refine CJ_app2 ?_
  refine CJ_seq ?_
  refine CJ_seq ?_
  have hll : (A ++ t :: B).length = A.length + B.length + 1 := by simp; omega
  by_cases hi1 : i = A.length
  · skip
    subst hi1
    have hx : (A ++ t :: B)[A.length]? = some t := by simp
    obtain ⟨ga, rfl⟩ := sliceNil hkn.2.2 hx
    refine CJ_region ?_
    refine RJ_q (Op_move rfl) rfl ?_
    refine RJ_q (Op_move rfl) rfl ?_
    refine RJ_q (Op_nilCheck rfl) rfl ?_
    refine RJ_q (Op_fieldAddr (o' := 0) rfl Try.underlying29 rfl sz27 rfl rfl) rfl ?_
    refine RJ_q (Op_load rfl (load_cell Try.underlying27 rfl (by first | ((repeat (first | with_reducible exact .here | apply Pick.there)); done) | ((repeat (first | exact .here | apply Pick.there)); done)) Nth.z)) rfl ?_
    refine RJ_q (Op_len_slice rfl Try.underlying27) rfl ?_
    refine RJ_q (Op_lss rfl rfl) rfl ?_
    refine RJ_nil ?_
    refine NJ_then ?_
    refine CJ_env (E' := [(0, _), (1, _), (5, _), (6, _), (7, _), (8, _), (9, _), (10, _), (11, _), (12, _)]) (.cons rfl rfl (.cons rfl rfl (.cons rfl rfl (.cons rfl rfl (.cons rfl rfl (.cons rfl rfl (.cons rfl rfl (.cons rfl rfl (.cons rfl rfl (.cons rfl rfl .nil)))))))))) ?_
    refine CJ_then rfl (decide_eq_true (by omega)) ?_
    refine CJ_skip ?_
    refine NJ_then ?_
    refine CJ_env (E' := [(0, _), (1, _), (5, _), (6, _), (7, _), (8, _), (9, _), (10, _), (11, _), (12, _)]) (.cons rfl rfl (.cons rfl rfl (.cons rfl rfl (.cons rfl rfl (.cons rfl rfl (.cons rfl rfl (.cons rfl rfl (.cons rfl rfl (.cons rfl rfl (.cons rfl rfl .nil)))))))))) ?_
    refine CJ_seq ?_
    refine CJ_block ?_
    refine CJ_seq ?_
    refine CJ_region ?_
    refine RJ_q (Op_move rfl) rfl ?_
    refine RJ_q (Op_nilCheck rfl) rfl ?_
    refine RJ_q (Op_fieldAddr (o' := 0) rfl Try.underlying29 rfl sz27 rfl rfl) rfl ?_
    refine RJ_q (Op_load rfl (load_cell Try.underlying27 rfl (by first | ((repeat (first | with_reducible exact .here | apply Pick.there)); done) | ((repeat (first | exact .here | apply Pick.there)); done)) Nth.z)) rfl ?_
    refine RJ_q (Op_move rfl) rfl ?_
    refine RJ_q (Op_indexAddr (o' := A.length * ThT.sz + 0) rfl rfl Try.underlying27 sz37 (by omega) (by omega) (by simp [ThT])) rfl ?_
    refine RJ_q (Op_fieldAddr (o' := A.length * ThT.sz + 0) rfl Try.underlying37 rfl sz9 rfl rfl) rfl ?_
    refine RJ_q (Op_load rfl (load_row_cell (o := 0) Try.underlying9 rfl (by first | ((repeat (first | with_reducible exact .here | apply Pick.there)); done) | ((repeat (first | exact .here | apply Pick.there)); done)) hx Nth.z)) rfl ?_
    refine RJ_q (Op_move rfl) rfl ?_
    refine RJ_q (Op_str_eql rfl rfl) rfl ?_
    refine RJ_nil ?_
    refine NJ_then ?_
    refine CJ_env (E' := [(0, _), (1, _), (5, _), (6, _), (7, _), (8, _), (9, _), (10, _), (11, _), (12, _), (15, _), (16, _), (17, _), (18, _), (19, _), (20, _), (21, _), (22, _), (23, _), (24, _)]) (.cons rfl rfl (.cons rfl rfl (.cons rfl rfl (.cons rfl rfl (.cons rfl rfl (.cons rfl rfl (.cons rfl rfl (.cons rfl rfl (.cons rfl rfl (.cons rfl rfl (.cons rfl rfl (.cons rfl rfl (.cons rfl rfl (.cons rfl rfl (.cons rfl rfl (.cons rfl rfl (.cons rfl rfl (.cons rfl rfl (.cons rfl rfl (.cons rfl rfl .nil)))))))))))))))))))) ?_
    refine CJ_then rfl (decide_eq_true rfl) ?_
    refine CJ_seq ?_
    refine CJ_region ?_
    refine RJ_q (Op_move rfl) rfl ?_
    refine RJ_q (Op_assign rfl) rfl ?_
    refine RJ_nil ?_
    refine NJ_then ?_
    refine CJ_env (E' := [(0, _), (1, _), (4, _), (5, _), (6, _), (7, _), (8, _), (9, _), (10, _), (11, _), (12, _), (15, _), (16, _), (17, _), (18, _), (19, _), (20, _), (21, _), (22, _), (23, _), (24, _), (25, _)]) (.cons rfl rfl (.cons rfl rfl (.cons rfl rfl (.cons rfl rfl (.cons rfl rfl (.cons rfl rfl (.cons rfl rfl (.cons rfl rfl (.cons rfl rfl (.cons rfl rfl (.cons rfl rfl (.cons rfl rfl (.cons rfl rfl (.cons rfl rfl (.cons rfl rfl (.cons rfl rfl (.cons rfl rfl (.cons rfl rfl (.cons rfl rfl (.cons rfl rfl (.cons rfl rfl (.cons rfl rfl .nil)))))))))))))))))))))) ?_
    refine CJ_ret ?_
    refine NJ_blk_r ?_
    refine NJ_then_r ?_
    refine NJ_then_r ?_
    refine NJ_blk_r ?_
    refine NJ_then_r ?_
    refine NJ_ret (.inl rfl) Try.results28 (ResJ_tmp rfl ResJ_nil) ⟨rfl, rfl⟩ (.cons (by first | ((repeat (first | with_reducible exact .here | apply Pick.there)); done) | ((repeat (first | exact .here | apply Pick.there)); done)) (.cons (by first | ((repeat (first | with_reducible exact .here | apply Pick.there)); done) | ((repeat (first | exact .here | apply Pick.there)); done)) (by repeat (first | exact Imp.refl _ | refine Imp.skip ?_))))
  · skip
    obtain ⟨x, hxA⟩ : ∃ x, A[i]? = some x := ⟨A[i]'(by omega), List.getElem?_eq_getElem _⟩
    have hx : (A ++ t :: B)[i]? = some x := by rw [List.getElem?_append_left (by omega)]; exact hxA
    have hxk := hA x (List.mem_of_getElem? hxA)
    obtain ⟨ga, rfl⟩ := sliceNil hkn.2.2 hx
    refine CJ_region ?_
    refine RJ_q (Op_move rfl) rfl ?_
    refine RJ_q (Op_move rfl) rfl ?_
    refine RJ_q (Op_nilCheck rfl) rfl ?_
    refine RJ_q (Op_fieldAddr (o' := 0) rfl Try.underlying29 rfl sz27 rfl rfl) rfl ?_
    refine RJ_q (Op_load rfl (load_cell Try.underlying27 rfl (by first | ((repeat (first | with_reducible exact .here | apply Pick.there)); done) | ((repeat (first | exact .here | apply Pick.there)); done)) Nth.z)) rfl ?_
    refine RJ_q (Op_len_slice rfl Try.underlying27) rfl ?_
    refine RJ_q (Op_lss rfl rfl) rfl ?_
    refine RJ_nil ?_
    refine NJ_then ?_
    refine CJ_env (E' := [(0, _), (1, _), (5, _), (6, _), (7, _), (8, _), (9, _), (10, _), (11, _), (12, _)]) (.cons rfl rfl (.cons rfl rfl (.cons rfl rfl (.cons rfl rfl (.cons rfl rfl (.cons rfl rfl (.cons rfl rfl (.cons rfl rfl (.cons rfl rfl (.cons rfl rfl .nil)))))))))) ?_
    refine CJ_then rfl (decide_eq_true (by omega)) ?_
    refine CJ_skip ?_
    refine NJ_then ?_
    refine CJ_env (E' := [(0, _), (1, _), (5, _), (6, _), (7, _), (8, _), (9, _), (10, _), (11, _), (12, _)]) (.cons rfl rfl (.cons rfl rfl (.cons rfl rfl (.cons rfl rfl (.cons rfl rfl (.cons rfl rfl (.cons rfl rfl (.cons rfl rfl (.cons rfl rfl (.cons rfl rfl .nil)))))))))) ?_
    refine CJ_seq ?_
    refine CJ_block ?_
    refine CJ_seq ?_
    refine CJ_region ?_
    refine RJ_q (Op_move rfl) rfl ?_
    refine RJ_q (Op_nilCheck rfl) rfl ?_
    refine RJ_q (Op_fieldAddr (o' := 0) rfl Try.underlying29 rfl sz27 rfl rfl) rfl ?_
    refine RJ_q (Op_load rfl (load_cell Try.underlying27 rfl (by first | ((repeat (first | with_reducible exact .here | apply Pick.there)); done) | ((repeat (first | exact .here | apply Pick.there)); done)) Nth.z)) rfl ?_
    refine RJ_q (Op_move rfl) rfl ?_
    refine RJ_q (Op_indexAddr (o' := i * ThT.sz + 0) rfl rfl Try.underlying27 sz37 (by omega) (by omega) (by simp [ThT])) rfl ?_
    refine RJ_q (Op_fieldAddr (o' := i * ThT.sz + 0) rfl Try.underlying37 rfl sz9 rfl rfl) rfl ?_
    refine RJ_q (Op_load rfl (load_row_cell (o := 0) Try.underlying9 rfl (by first | ((repeat (first | with_reducible exact .here | apply Pick.there)); done) | ((repeat (first | exact .here | apply Pick.there)); done)) hx Nth.z)) rfl ?_
    refine RJ_q (Op_move rfl) rfl ?_
    refine RJ_q (Op_str_eql rfl rfl) rfl ?_
    refine RJ_nil ?_
    refine NJ_then ?_
    refine CJ_env (E' := [(0, _), (1, _), (5, _), (6, _), (7, _), (8, _), (9, _), (10, _), (11, _), (12, _), (15, _), (16, _), (17, _), (18, _), (19, _), (20, _), (21, _), (22, _), (23, _), (24, _)]) (.cons rfl rfl (.cons rfl rfl (.cons rfl rfl (.cons rfl rfl (.cons rfl rfl (.cons rfl rfl (.cons rfl rfl (.cons rfl rfl (.cons rfl rfl (.cons rfl rfl (.cons rfl rfl (.cons rfl rfl (.cons rfl rfl (.cons rfl rfl (.cons rfl rfl (.cons rfl rfl (.cons rfl rfl (.cons rfl rfl (.cons rfl rfl (.cons rfl rfl .nil)))))))))))))))))))) ?_
    refine CJ_else rfl (decide_eq_false hxk) ?_
    refine CJ_skip ?_
    refine NJ_blk ?_
    refine NJ_then ?_
    refine CJ_env (E' := [(0, _), (1, _), (5, _), (6, _), (7, _), (8, _), (9, _), (10, _), (11, _), (12, _), (15, _), (16, _), (17, _), (18, _), (19, _), (20, _), (21, _), (22, _), (23, _), (24, _)]) (.cons rfl rfl (.cons rfl rfl (.cons rfl rfl (.cons rfl rfl (.cons rfl rfl (.cons rfl rfl (.cons rfl rfl (.cons rfl rfl (.cons rfl rfl (.cons rfl rfl (.cons rfl rfl (.cons rfl rfl (.cons rfl rfl (.cons rfl rfl (.cons rfl rfl (.cons rfl rfl (.cons rfl rfl (.cons rfl rfl (.cons rfl rfl (.cons rfl rfl .nil)))))))))))))))))))) ?_
    refine CJ_region ?_
    refine RJ_q (Op_move rfl) rfl ?_
    refine RJ_q (Op_addN (i + 1) rfl rfl (by omega) (by omega)) rfl ?_
    refine RJ_q (Op_assign rfl) rfl ?_
    refine RJ_nil ?_
    refine NJ_back ⟨i + 1, by omega, rfl, rfl, rfl⟩ (by omega) (.cons rfl (by first | rfl | (simp [keysOf, itsOf]; done)) (.cons rfl (by first | rfl | (simp [keysOf, itsOf]; done)) (.cons rfl (by first | rfl | (simp [keysOf, itsOf]; done)) .nil))) (.cons (by first | ((repeat (first | with_reducible exact .here | apply Pick.there)); done) | ((repeat (first | exact .here | apply Pick.there)); done)) (.cons (by first | ((repeat (first | with_reducible exact .here | apply Pick.there)); done) | ((repeat (first | exact .here | apply Pick.there)); done)) (by repeat (first | exact Imp.refl _ | refine Imp.skip ?_))))

set_option maxRecDepth 20000 in
theorem RFind_no (g : Nat) (L : List It) (room kept : Int) (a : Option Nat) (cap : Nat) (key : ByteArray) (hA : ∀ x ∈ L, x.key ≠ key) : Spec Try.prog 28 #[.pointer (some ⟨g, 0, none⟩), .string key] [RfC g a L.length cap room kept, Row ThT a cap L] (fun v C => v = .int .i64 (-1) ∧ C = [RfC g a L.length cap room kept, Row ThT a cap L]) := by
  refine Spec_intro (n := 26) (args := [.pointer (some ⟨g, 0, none⟩), .string key]) Try.func28 rfl rfl rfl fun s R => ?_
  refine CJ_app2 ?_
  refine CJ_env (E' := [(0, _), (1, _)]) (.cons rfl rfl (.cons rfl rfl .nil)) ?_
  refine CJ_know (Row_know (T := ThT) (by first | ((repeat (first | with_reducible exact .here | apply Pick.there)); done) | ((repeat (first | exact .here | apply Pick.there)); done))) ?_
  intro hkn
  have hml : maxLen ≤ 9223372036854775807 := by decide
  refine CJ_seq ?_
  refine CJ_region ?_
  refine RJ_q (Op_assign rfl) rfl ?_
  refine RJ_nil ?_
  refine NJ_then ?_
  refine CJ_env (E' := [(0, _), (1, _), (4, _)]) (.cons rfl rfl (.cons rfl rfl (.cons rfl rfl .nil))) ?_
  refine CJ_seq ?_
  refine CJ_seq ?_
  refine CJ_region ?_
  refine RJ_q (Op_assign rfl) rfl ?_
  refine RJ_nil ?_
  refine NJ_then ?_
  refine CJ_env (E' := [(0, _), (1, _), (4, _), (5, _)]) (.cons rfl rfl (.cons rfl rfl (.cons rfl rfl (.cons rfl rfl .nil)))) ?_
  refine CJ_block ?_
  refine CJ_loop (fun E H m => ∃ (i : Nat), (i ≤ L.length) ∧ E = [(0, .pointer (some ⟨g, 0, none⟩)), (1, .string key), (5, .int .i64 (i : Nat))] ∧ H = [RfC g a L.length cap room kept, Row ThT a cap L] ++ R ∧ m = L.length - i) (E' := [(0, .pointer (some ⟨g, 0, none⟩)), (1, .string key), (5, .int .i64 (0 : Nat))]) (H' := [RfC g a L.length cap room kept, Row ThT a cap L] ++ R) (m := L.length - 0) ⟨0, Nat.zero_le _, rfl, rfl, rfl⟩ (.cons rfl rfl (.cons rfl rfl (.cons rfl rfl .nil))) (.cons (by first | ((repeat (first | with_reducible exact .here | apply Pick.there)); done) | ((repeat (first | exact .here | apply Pick.there)); done)) (.cons (by first | ((repeat (first | with_reducible exact .here | apply Pick.there)); done) | ((repeat (first | exact .here | apply Pick.there)); done)) (by repeat (first | exact Imp.refl _ | refine Imp.skip ?_)))) ?_
  rintro _ _ _ ⟨i, hi, rfl, rfl, rfl⟩
  refine CJ_app2 ?_
  refine CJ_seq ?_
  refine CJ_seq ?_
  by_cases hi1 : i < L.length
  · skip
    obtain ⟨x, hx⟩ : ∃ x, L[i]? = some x := ⟨L[i], List.getElem?_eq_getElem hi1⟩
    have hxk := hA x (List.mem_of_getElem? hx)
    obtain ⟨ga, rfl⟩ := sliceNil hkn.2.2 hx
    refine CJ_region ?_
    refine RJ_q (Op_move rfl) rfl ?_
    refine RJ_q (Op_move rfl) rfl ?_
    refine RJ_q (Op_nilCheck rfl) rfl ?_
    refine RJ_q (Op_fieldAddr (o' := 0) rfl Try.underlying29 rfl sz27 rfl rfl) rfl ?_
    refine RJ_q (Op_load rfl (load_cell Try.underlying27 rfl (by first | ((repeat (first | with_reducible exact .here | apply Pick.there)); done) | ((repeat (first | exact .here | apply Pick.there)); done)) Nth.z)) rfl ?_
    refine RJ_q (Op_len_slice rfl Try.underlying27) rfl ?_
    refine RJ_q (Op_lss rfl rfl) rfl ?_
    refine RJ_nil ?_
    refine NJ_then ?_
    refine CJ_env (E' := [(0, _), (1, _), (5, _), (6, _), (7, _), (8, _), (9, _), (10, _), (11, _), (12, _)]) (.cons rfl rfl (.cons rfl rfl (.cons rfl rfl (.cons rfl rfl (.cons rfl rfl (.cons rfl rfl (.cons rfl rfl (.cons rfl rfl (.cons rfl rfl (.cons rfl rfl .nil)))))))))) ?_
    refine CJ_then rfl (decide_eq_true (by omega)) ?_
    refine CJ_skip ?_
    refine NJ_then ?_
    refine CJ_env (E' := [(0, _), (1, _), (5, _), (6, _), (7, _), (8, _), (9, _), (10, _), (11, _), (12, _)]) (.cons rfl rfl (.cons rfl rfl (.cons rfl rfl (.cons rfl rfl (.cons rfl rfl (.cons rfl rfl (.cons rfl rfl (.cons rfl rfl (.cons rfl rfl (.cons rfl rfl .nil)))))))))) ?_
    refine CJ_seq ?_
    refine CJ_block ?_
    refine CJ_seq ?_
    refine CJ_region ?_
    refine RJ_q (Op_move rfl) rfl ?_
    refine RJ_q (Op_nilCheck rfl) rfl ?_
    refine RJ_q (Op_fieldAddr (o' := 0) rfl Try.underlying29 rfl sz27 rfl rfl) rfl ?_
    refine RJ_q (Op_load rfl (load_cell Try.underlying27 rfl (by first | ((repeat (first | with_reducible exact .here | apply Pick.there)); done) | ((repeat (first | exact .here | apply Pick.there)); done)) Nth.z)) rfl ?_
    refine RJ_q (Op_move rfl) rfl ?_
    refine RJ_q (Op_indexAddr (o' := i * ThT.sz + 0) rfl rfl Try.underlying27 sz37 (by omega) (by omega) (by simp [ThT])) rfl ?_
    refine RJ_q (Op_fieldAddr (o' := i * ThT.sz + 0) rfl Try.underlying37 rfl sz9 rfl rfl) rfl ?_
    refine RJ_q (Op_load rfl (load_row_cell (o := 0) Try.underlying9 rfl (by first | ((repeat (first | with_reducible exact .here | apply Pick.there)); done) | ((repeat (first | exact .here | apply Pick.there)); done)) hx Nth.z)) rfl ?_
    refine RJ_q (Op_move rfl) rfl ?_
    refine RJ_q (Op_str_eql rfl rfl) rfl ?_
    refine RJ_nil ?_
    refine NJ_then ?_
    refine CJ_env (E' := [(0, _), (1, _), (5, _), (6, _), (7, _), (8, _), (9, _), (10, _), (11, _), (12, _), (15, _), (16, _), (17, _), (18, _), (19, _), (20, _), (21, _), (22, _), (23, _), (24, _)]) (.cons rfl rfl (.cons rfl rfl (.cons rfl rfl (.cons rfl rfl (.cons rfl rfl (.cons rfl rfl (.cons rfl rfl (.cons rfl rfl (.cons rfl rfl (.cons rfl rfl (.cons rfl rfl (.cons rfl rfl (.cons rfl rfl (.cons rfl rfl (.cons rfl rfl (.cons rfl rfl (.cons rfl rfl (.cons rfl rfl (.cons rfl rfl (.cons rfl rfl .nil)))))))))))))))))))) ?_
    refine CJ_else rfl (decide_eq_false hxk) ?_
    refine CJ_skip ?_
    refine NJ_blk ?_
    refine NJ_then ?_
    refine CJ_env (E' := [(0, _), (1, _), (5, _), (6, _), (7, _), (8, _), (9, _), (10, _), (11, _), (12, _), (15, _), (16, _), (17, _), (18, _), (19, _), (20, _), (21, _), (22, _), (23, _), (24, _)]) (.cons rfl rfl (.cons rfl rfl (.cons rfl rfl (.cons rfl rfl (.cons rfl rfl (.cons rfl rfl (.cons rfl rfl (.cons rfl rfl (.cons rfl rfl (.cons rfl rfl (.cons rfl rfl (.cons rfl rfl (.cons rfl rfl (.cons rfl rfl (.cons rfl rfl (.cons rfl rfl (.cons rfl rfl (.cons rfl rfl (.cons rfl rfl (.cons rfl rfl .nil)))))))))))))))))))) ?_
    refine CJ_region ?_
    refine RJ_q (Op_move rfl) rfl ?_
    refine RJ_q (Op_addN (i + 1) rfl rfl (by omega) (by omega)) rfl ?_
    refine RJ_q (Op_assign rfl) rfl ?_
    refine RJ_nil ?_
    refine NJ_back ⟨i + 1, by omega, rfl, rfl, rfl⟩ (by omega) (.cons rfl (by first | rfl | (simp [keysOf, itsOf]; done)) (.cons rfl (by first | rfl | (simp [keysOf, itsOf]; done)) (.cons rfl (by first | rfl | (simp [keysOf, itsOf]; done)) .nil))) (.cons (by first | ((repeat (first | with_reducible exact .here | apply Pick.there)); done) | ((repeat (first | exact .here | apply Pick.there)); done)) (.cons (by first | ((repeat (first | with_reducible exact .here | apply Pick.there)); done) | ((repeat (first | exact .here | apply Pick.there)); done)) (by repeat (first | exact Imp.refl _ | refine Imp.skip ?_))))
  · skip
    refine CJ_region ?_
    refine RJ_q (Op_move rfl) rfl ?_
    refine RJ_q (Op_move rfl) rfl ?_
    refine RJ_q (Op_nilCheck rfl) rfl ?_
    refine RJ_q (Op_fieldAddr (o' := 0) rfl Try.underlying29 rfl sz27 rfl rfl) rfl ?_
    refine RJ_q (Op_load rfl (load_cell Try.underlying27 rfl (by first | ((repeat (first | with_reducible exact .here | apply Pick.there)); done) | ((repeat (first | exact .here | apply Pick.there)); done)) Nth.z)) rfl ?_
    refine RJ_q (Op_len_slice rfl Try.underlying27) rfl ?_
    refine RJ_q (Op_lss rfl rfl) rfl ?_
    refine RJ_nil ?_
    refine NJ_then ?_
    refine CJ_env (E' := [(0, _), (1, _), (5, _), (6, _), (7, _), (8, _), (9, _), (10, _), (11, _), (12, _)]) (.cons rfl rfl (.cons rfl rfl (.cons rfl rfl (.cons rfl rfl (.cons rfl rfl (.cons rfl rfl (.cons rfl rfl (.cons rfl rfl (.cons rfl rfl (.cons rfl rfl .nil)))))))))) ?_
    refine CJ_else rfl (decide_eq_false (by omega)) ?_
    refine CJ_exit ?_
    refine NJ_then_x ?_
    refine NJ_then_x ?_
    refine NJ_blk_hit ?_
    refine NJ_then ?_
    refine CJ_env (E' := []) .nil ?_
    refine CJ_seq ?_
    refine CJ_region ?_
    refine RJ_q (Op_assign rfl) rfl ?_
    refine RJ_nil ?_
    refine NJ_then ?_
    refine CJ_env (E' := [(4, _)]) (.cons rfl rfl .nil) ?_
    refine CJ_ret ?_
    refine NJ_ret (.inl rfl) Try.results28 (ResJ_tmp rfl ResJ_nil) ⟨rfl, rfl⟩ (.cons (by first | ((repeat (first | with_reducible exact .here | apply Pick.there)); done) | ((repeat (first | exact .here | apply Pick.there)); done)) (.cons (by first | ((repeat (first | with_reducible exact .here | apply Pick.there)); done) | ((repeat (first | exact .here | apply Pick.there)); done)) (by repeat (first | exact Imp.refl _ | refine Imp.skip ?_))))

set_option maxRecDepth 20000 in
theorem RDrop_yes (g : Nat) (A B : List It) (t : It) (room kept : Int) (hA : ∀ x ∈ A, x.key ≠ t.key) (hl : (A ++ t :: B).length ≤ 1000000) : Spec Try.prog 13 #[.pointer (some ⟨g, 0, none⟩), .string t.key] [RCacheP g (A ++ t :: B) room kept] (fun v C => v = .bool true ∧ C = [RCacheP g (A ++ B) room kept]) := by
  refine Spec_intro (n := 32) (args := [.pointer (some ⟨g, 0, none⟩), .string t.key]) Try.func13 rfl rfl rfl fun s R => ?_
  refine CJ_app1 ?_
  refine CJ_env (E' := [(0, _), (1, _)]) (.cons rfl rfl (.cons rfl rfl .nil)) ?_
  refine CJ_open (RCacheP_opens _ _ _ _) (by first | ((repeat (first | with_reducible exact .here | apply Pick.there)); done) | ((repeat (first | exact .here | apply Pick.there)); done)) ?_
  rintro _ ⟨a, cap, rfl⟩
  refine CJ_app2 ?_
  refine CJ_know (Row_know (T := ThT) (by first | ((repeat (first | with_reducible exact .here | apply Pick.there)); done) | ((repeat (first | exact .here | apply Pick.there)); done))) ?_
  intro hkn
  have hll : (A ++ t :: B).length = A.length + B.length + 1 := by simp; omega
  have hx : (A ++ t :: B)[A.length]? = some t := by simp
  obtain ⟨ga, rfl⟩ := sliceNil hkn.2.2 hx
  refine CJ_seq ?_
  refine CJ_region ?_
  refine RJ_q (Op_assign rfl) rfl ?_
  refine RJ_nil ?_
  refine NJ_then ?_
  refine CJ_env (E' := [(0, _), (1, _), (4, _)]) (.cons rfl rfl (.cons rfl rfl (.cons rfl rfl .nil))) ?_
  refine CJ_seq ?_
  refine CJ_region ?_
  refine RJ_q (Op_move rfl) rfl ?_
  refine RJ_q (Op_move rfl) rfl ?_
  refine RJ_p rfl (Op_call (vs := [_, _]) Try.func28 rfl rfl (RFind_yes g A B t room kept (some ga) cap hA) rfl (.cons (by first | ((repeat (first | with_reducible exact .here | apply Pick.there)); done) | ((repeat (first | exact .here | apply Pick.there)); done)) (.cons (by first | ((repeat (first | with_reducible exact .here | apply Pick.there)); done) | ((repeat (first | exact .here | apply Pick.there)); done)) (Imp.refl _)))) ?_
  rintro _ _ ⟨_, ⟨rfl, rfl⟩, rfl⟩
  refine RJ_app2 ?_
  refine RJ_q (Op_assign rfl) rfl ?_
  refine RJ_nil ?_
  refine NJ_then ?_
  refine CJ_env (E' := [(0, _), (4, _), (5, _)]) (.cons rfl rfl (.cons rfl rfl (.cons rfl rfl .nil))) ?_
  refine CJ_seq ?_
  refine CJ_seq ?_
  refine CJ_region ?_
  refine RJ_q (Op_move rfl) rfl ?_
  refine RJ_q (Op_lss rfl rfl) rfl ?_
  refine RJ_nil ?_
  refine NJ_then ?_
  refine CJ_env (E' := [(0, _), (4, _), (5, _), (11, _)]) (.cons rfl rfl (.cons rfl rfl (.cons rfl rfl (.cons rfl rfl .nil)))) ?_
  refine CJ_else rfl (decide_eq_false (by omega)) ?_
  refine CJ_skip ?_
  refine NJ_then ?_
  refine CJ_env (E' := [(0, _), (4, _), (5, _)]) (.cons rfl rfl (.cons rfl rfl (.cons rfl rfl .nil))) ?_
  refine CJ_seq ?_
  refine CJ_region ?_
  refine RJ_p rfl (Op_buildSlice0 (T := ThT) Try.underlying27 sz37) ?_
  rintro _ _ ⟨g12, rfl, rfl⟩
  refine RJ_q (Op_move rfl) rfl ?_
  refine RJ_q (Op_nilCheck rfl) rfl ?_
  refine RJ_q (Op_fieldAddr (o' := 0) rfl Try.underlying29 rfl sz27 rfl rfl) rfl ?_
  refine RJ_q (Op_load rfl (load_cell Try.underlying27 rfl (by first | ((repeat (first | with_reducible exact .here | apply Pick.there)); done) | ((repeat (first | exact .here | apply Pick.there)); done)) Nth.z)) rfl ?_
  refine RJ_q (Op_move rfl) rfl ?_
  refine RJ_q (Op_sliceN_hi rfl rfl Try.underlying27 sz37 (by omega)) rfl ?_
  refine RJ_p rfl (Op_append_s (T := ThT) (news := (A ++ t :: B).take A.length) rfl rfl (by first | ((repeat (first | with_reducible exact .here | apply Pick.there)); done) | ((repeat (first | exact .here | apply Pick.there)); done)) rfl (by simp) (Reads_take A.length (by first | ((repeat (first | with_reducible exact .here | apply Pick.there)); done) | ((repeat (first | exact .here | apply Pick.there)); done))) Try.underlying27 sz37 zr37 (by rfl) by37 (by simp [ThT]; omega) (by simp [maxLen]; omega)) ?_
  rintro _ _ ⟨a19, c19, rfl, rfl⟩
  refine RJ_q (Op_assign rfl) rfl ?_
  refine RJ_nil ?_
  refine NJ_then ?_
  refine CJ_env (E' := [(0, _), (4, _), (5, _), (6, _)]) (.cons rfl rfl (.cons rfl rfl (.cons rfl rfl (.cons rfl rfl .nil)))) ?_
  refine CJ_seq ?_
  refine CJ_region ?_
  refine RJ_q (Op_move rfl) rfl ?_
  refine RJ_q (Op_move rfl) rfl ?_
  refine RJ_q (Op_move rfl) rfl ?_
  refine RJ_q (Op_nilCheck rfl) rfl ?_
  refine RJ_q (Op_fieldAddr (o' := 0) rfl Try.underlying29 rfl sz27 rfl rfl) rfl ?_
  refine RJ_q (Op_load rfl (load_cell Try.underlying27 rfl (by first | ((repeat (first | with_reducible exact .here | apply Pick.there)); done) | ((repeat (first | exact .here | apply Pick.there)); done)) Nth.z)) rfl ?_
  refine RJ_q (Op_move rfl) rfl ?_
  refine RJ_q (Op_addN (A.length + 1) rfl rfl (by omega) (by omega)) rfl ?_
  refine RJ_q (Op_sliceN_lo rfl rfl Try.underlying27 sz37 (by omega)) rfl ?_
  refine RJ_p rfl (Op_append_s (T := ThT) (news := (A ++ t :: B).drop (A.length + 1)) rfl rfl (by first | ((repeat (first | with_reducible exact .here | apply Pick.there)); done) | ((repeat (first | exact .here | apply Pick.there)); done)) rfl (by simp; omega) (Reads_low (by first | ((repeat (first | with_reducible exact .here | apply Pick.there)); done) | ((repeat (first | exact .here | apply Pick.there)); done)) (by simp) rfl) Try.underlying27 sz37 zr37 (by rfl) by37 (by simp [ThT]; omega) (by simp [maxLen]; omega)) ?_
  rintro _ _ ⟨a29, c29, rfl, rfl⟩
  have he : [] ++ (A ++ t :: B).take A.length ++ (A ++ t :: B).drop (A.length + 1) = A ++ B := by simp
  rw [he]
  refine RJ_q (Op_nilCheck rfl) rfl ?_
  refine RJ_q (Op_fieldAddr (o' := 0) rfl Try.underlying29 rfl sz27 rfl rfl) rfl ?_
  refine RJ_d0 (Op_store (cs' := #[_, _, _]) rfl rfl sz27 (by rfl) (by simp [Value.cells, Value.oneCell']) (by repeat (first | exact .here | apply Repl.there)) rfl (free_zero _ _) (by rfl)) ?_
  refine RJ_nil ?_
  refine NJ_then ?_
  refine CJ_env (E' := [(4, _)]) (.cons rfl rfl .nil) ?_
  refine CJ_seq ?_
  refine CJ_region ?_
  refine RJ_q (Op_assign rfl) rfl ?_
  refine RJ_nil ?_
  refine NJ_then ?_
  refine CJ_env (E' := [(4, _)]) (.cons rfl rfl .nil) ?_
  refine CJ_ret ?_
  refine NJ_ret (.inl rfl) Try.results13 (ResJ_tmp rfl ResJ_nil) ⟨rfl, rfl⟩ (.swap (C := [RfC g (some a29) (A ++ B).length c29 room kept, Row ThT (some a29) c29 (A ++ B)]) (.cons (by first | ((repeat (first | with_reducible exact .here | apply Pick.there)); done) | ((repeat (first | exact .here | apply Pick.there)); done)) (.cons (by first | ((repeat (first | with_reducible exact .here | apply Pick.there)); done) | ((repeat (first | exact .here | apply Pick.there)); done)) (Imp.refl _))) (RCacheP_close rfl) (.cons (by first | ((repeat (first | with_reducible exact .here | apply Pick.there)); done) | ((repeat (first | exact .here | apply Pick.there)); done)) (by repeat (first | exact Imp.refl _ | refine Imp.skip ?_))))

set_option maxRecDepth 20000 in
theorem RDrop_no (g : Nat) (L : List It) (room kept : Int) (key : ByteArray) (hA : ∀ x ∈ L, x.key ≠ key) : Spec Try.prog 13 #[.pointer (some ⟨g, 0, none⟩), .string key] [RCacheP g L room kept] (fun v C => v = .bool false ∧ C = [RCacheP g L room kept]) := by
  refine Spec_intro (n := 32) (args := [.pointer (some ⟨g, 0, none⟩), .string key]) Try.func13 rfl rfl rfl fun s R => ?_
  refine CJ_app1 ?_
  refine CJ_env (E' := [(0, _), (1, _)]) (.cons rfl rfl (.cons rfl rfl .nil)) ?_
  refine CJ_open (RCacheP_opens _ _ _ _) (by first | ((repeat (first | with_reducible exact .here | apply Pick.there)); done) | ((repeat (first | exact .here | apply Pick.there)); done)) ?_
  rintro _ ⟨a, cap, rfl⟩
  refine CJ_app2 ?_
  refine CJ_know (Row_know (T := ThT) (by first | ((repeat (first | with_reducible exact .here | apply Pick.there)); done) | ((repeat (first | exact .here | apply Pick.there)); done))) ?_
  intro hkn
  refine CJ_seq ?_
  refine CJ_region ?_
  refine RJ_q (Op_assign rfl) rfl ?_
  refine RJ_nil ?_
  refine NJ_then ?_
  refine CJ_env (E' := [(0, _), (1, _), (4, _)]) (.cons rfl rfl (.cons rfl rfl (.cons rfl rfl .nil))) ?_
  refine CJ_seq ?_
  refine CJ_region ?_
  refine RJ_q (Op_move rfl) rfl ?_
  refine RJ_q (Op_move rfl) rfl ?_
  refine RJ_p rfl (Op_call (vs := [_, _]) Try.func28 rfl rfl (RFind_no g L room kept a cap key hA) rfl (.cons (by first | ((repeat (first | with_reducible exact .here | apply Pick.there)); done) | ((repeat (first | exact .here | apply Pick.there)); done)) (.cons (by first | ((repeat (first | with_reducible exact .here | apply Pick.there)); done) | ((repeat (first | exact .here | apply Pick.there)); done)) (Imp.refl _)))) ?_
  rintro _ _ ⟨_, ⟨rfl, rfl⟩, rfl⟩
  refine RJ_app2 ?_
  refine RJ_q (Op_assign rfl) rfl ?_
  refine RJ_nil ?_
  refine NJ_then ?_
  refine CJ_env (E' := [(0, _), (4, _), (5, _)]) (.cons rfl rfl (.cons rfl rfl (.cons rfl rfl .nil))) ?_
  refine CJ_seq ?_
  refine CJ_seq ?_
  refine CJ_region ?_
  refine RJ_q (Op_move rfl) rfl ?_
  refine RJ_q (Op_lss rfl rfl) rfl ?_
  refine RJ_nil ?_
  refine NJ_then ?_
  refine CJ_env (E' := [(0, _), (4, _), (5, _), (11, _)]) (.cons rfl rfl (.cons rfl rfl (.cons rfl rfl (.cons rfl rfl .nil)))) ?_
  refine CJ_then rfl (by decide) ?_
  refine CJ_seq ?_
  refine CJ_region ?_
  refine RJ_q (Op_assign rfl) rfl ?_
  refine RJ_nil ?_
  refine NJ_then ?_
  refine CJ_env (E' := [(0, _), (4, _), (5, _)]) (.cons rfl rfl (.cons rfl rfl (.cons rfl rfl .nil))) ?_
  refine CJ_ret ?_
  refine NJ_then_r ?_
  refine NJ_ret (.inl rfl) Try.results13 (ResJ_tmp rfl ResJ_nil) ⟨rfl, rfl⟩ (.swap (C := [RfC g a (L).length _ room (kept), Row ThT a _ (L)]) (.cons (by first | ((repeat (first | with_reducible exact .here | apply Pick.there)); done) | ((repeat (first | exact .here | apply Pick.there)); done)) (.cons (by first | ((repeat (first | with_reducible exact .here | apply Pick.there)); done) | ((repeat (first | exact .here | apply Pick.there)); done)) (by repeat (first | exact Imp.refl _ | refine Imp.skip ?_)))) (RCacheP_close rfl) (.cons (by first | ((repeat (first | with_reducible exact .here | apply Pick.there)); done) | ((repeat (first | exact .here | apply Pick.there)); done)) (by repeat (first | exact Imp.refl _ | refine Imp.skip ?_))))
end Go.Proofs.Ytknddpcjmenmaaa.SL
