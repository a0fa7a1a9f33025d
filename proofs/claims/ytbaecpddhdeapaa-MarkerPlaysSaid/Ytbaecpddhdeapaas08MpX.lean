/- Contracts of the document's list of markers. -/
import Derived.Test.Ytbaecpddhdeapaas08MpW
import Derived.Test.Ytbaecpddhdeapaas08Fb
namespace Go.Proofs.Ytbaecpddhdeapaa.SL
open Go Go.RowKit
set_option maxRecDepth 20000 in
theorem RHas_any (g : Nat) (lim : Int) (a : Option Nat) (cap : Nat) (A : List Mark) (hl : A.length ≤ 1000000) (key : ByteArray) : Spec Try.prog 19 #[.pointer (some ⟨g, 0, none⟩), .string key] [RTabC g a A.length cap lim, Row RkT a cap A] (fun v C => v = .bool (hasR key A) ∧ C = [RTabC g a A.length cap lim, Row RkT a cap A]) := by
 refine Spec_intro (n := 25) (args := [.pointer (some ⟨g, 0, none⟩), .string key]) Try.func19 rfl rfl rfl fun s R => ?_
 refine CJ_app2 ?_
 refine CJ_env (E' := [(0, _), (1, _)]) (.cons rfl rfl (.cons rfl rfl .nil)) ?_
 refine CJ_seq ?_
 refine CJ_region ?_
 refine RJ_q (Op_assign rfl) rfl ?_
 refine RJ_nil ?_
 refine NJ_then ?_
 refine CJ_env (E' := [(0, _), (1, _), (4, _)]) (.cons rfl rfl (.cons rfl rfl (.cons rfl rfl .nil))) ?_
 refine CJ_seq ?_
 refine CJ_seq ?_
 refine CJ_region ?_
 refine RJ_q (Op_assign rfl) rfl ?_
 refine RJ_nil ?_
 refine NJ_then ?_
 refine CJ_env (E' := [(0, _), (1, _), (4, _), (5, _)]) (.cons rfl rfl (.cons rfl rfl (.cons rfl rfl (.cons rfl rfl .nil)))) ?_
 refine CJ_block ?_
 refine CJ_loop (fun E H mz => ∃ (i : Nat), (i ≤ A.length ∧ hasR key A = hasR key (A.drop i)) ∧ E = [(0, .pointer (some ⟨g, 0, none⟩)), (1, .string key), (5, .int .i64 (i : Nat))] ∧ H = [RTabC g a A.length cap lim, Row RkT a cap A] ++ R ∧ mz = A.length - i) (E' := [(0, .pointer (some ⟨g, 0, none⟩)), (1, .string key), (5, .int .i64 (0 : Nat))]) (H' := [RTabC g a A.length cap lim, Row RkT a cap A] ++ R) (m := A.length - 0) ⟨0, ⟨Nat.zero_le _, by simp⟩, rfl, rfl, rfl⟩ (.cons rfl rfl (.cons rfl rfl (.cons rfl rfl .nil))) (.k (e := (.k (e := skk)))) ?_
 rintro _ _ _ ⟨i, ⟨hi, ho⟩, rfl, rfl, rfl⟩
 refine CJ_app2 ?_
 refine CJ_seq ?_
 refine CJ_seq ?_
 refine CJ_region ?_
 refine RJ_q (Op_move rfl) rfl ?_
 refine RJ_q (Op_move rfl) rfl ?_
 refine RJ_q (Op_nilCheck rfl) rfl ?_
 refine RJ_q (Op_fieldAddr (o' := 0) rfl Try.underlying45 rfl sz43 rfl rfl) rfl ?_
 refine RJ_q (Op_load rfl (load_cell Try.underlying43 rfl pkk Nth.z)) rfl ?_
 refine RJ_q (Op_len_slice rfl Try.underlying43) rfl ?_
 refine RJ_q (Op_lss rfl rfl) rfl ?_
 by_cases hi1 : (i : Int) < A.length
 ·skip
  obtain ⟨x, hx⟩ : ∃ x, A[i]? = some x := ⟨A[i], List.getElem?_eq_getElem (by omega)⟩
  have hd : A.drop i = x :: A.drop (i + 1) := by
    rw [List.drop_eq_getElem_cons (by omega)]; congr 1; have := (List.getElem?_eq_some_iff.1 hx).2; exact this
  refine RJ_nil ?_
  refine NJ_then ?_
  refine CJ_env (E' := [(0, _), (1, _), (5, _), (12, _)]) (.cons rfl rfl (.cons rfl rfl (.cons rfl rfl (.cons rfl rfl .nil)))) ?_
  refine CJ_then rfl (decide_eq_true hi1) ?_
  refine CJ_skip ?_
  refine NJ_then ?_
  refine CJ_env (E' := [(0, _), (1, _), (5, _)]) (.cons rfl rfl (.cons rfl rfl (.cons rfl rfl .nil))) ?_
  refine CJ_seq ?_
  refine CJ_block ?_
  refine CJ_seq ?_
  refine CJ_know (Row_know (T := RkT) pkk) ?_
  intro hkn
  obtain ⟨ga, rfl⟩ := row_some hkn.2.2 (by intro e; rw [e] at hx; cases hx)
  refine CJ_region ?_
  refine RJ_q (Op_move rfl) rfl ?_
  refine RJ_q (Op_nilCheck rfl) rfl ?_
  refine RJ_q (Op_fieldAddr (o' := 0) rfl Try.underlying45 rfl sz43 rfl rfl) rfl ?_
  refine RJ_q (Op_load rfl (load_cell Try.underlying43 rfl pkk Nth.z)) rfl ?_
  refine RJ_q (Op_move rfl) rfl ?_
  refine RJ_q (Op_indexAddr (o' := i * RkT.sz + 0) rfl rfl Try.underlying43 sz46 (by omega) (by omega) (by simp [RkT])) rfl ?_
  refine RJ_q (Op_fieldAddr (o' := i * RkT.sz + 0) rfl Try.underlying46 rfl sz9 rfl rfl) rfl ?_
  refine RJ_q (Op_load rfl (load_row_cell (o := 0) Try.underlying9 rfl pkk hx Nth.z)) rfl ?_
  refine RJ_q (Op_move rfl) rfl ?_
  refine RJ_q (Op_str_eql rfl rfl) rfl ?_
  by_cases h1 : x.key = key
  ·skip
   refine RJ_nil ?_
   refine NJ_then ?_
   refine CJ_env (E' := [(0, _), (1, _), (5, _), (24, _)]) (.cons rfl rfl (.cons rfl rfl (.cons rfl rfl (.cons rfl rfl .nil)))) ?_
   refine CJ_then rfl (decide_eq_true h1) ?_
   refine CJ_seq ?_
   refine CJ_region ?_
   refine RJ_q (Op_assign rfl) rfl ?_
   refine RJ_nil ?_
   refine NJ_then ?_
   refine CJ_env (E' := [(4, _)]) (.cons rfl rfl .nil) ?_
   refine CJ_ret ?_
   refine NJ_blk_r ?_
   refine NJ_then_r ?_
   refine NJ_then_r ?_
   refine NJ_blk_r ?_
   refine NJ_then_r ?_
   have hU : hasR key A = true := by rw [ho, hd]; simp [hasR, h1]
   rw [hU]
   refine NJ_ret (.inl rfl) Try.results19 (ResJ_tmp rfl ResJ_nil) ⟨rfl, rfl⟩ (.k (e := (.k (e := skk))))
  ·skip
   refine RJ_nil ?_
   refine NJ_then ?_
   refine CJ_env (E' := [(0, _), (1, _), (5, _), (24, _)]) (.cons rfl rfl (.cons rfl rfl (.cons rfl rfl (.cons rfl rfl .nil)))) ?_
   refine CJ_else rfl (decide_eq_false h1) ?_
   refine CJ_skip ?_
   refine NJ_blk ?_
   refine NJ_then ?_
   refine CJ_env (E' := [(0, _), (1, _), (5, _)]) (.cons rfl rfl (.cons rfl rfl (.cons rfl rfl .nil))) ?_
   refine CJ_region ?_
   refine RJ_q (Op_move rfl) rfl ?_
   refine RJ_q (Op_addN (i + 1) rfl rfl (by omega) (by omega)) rfl ?_
   refine RJ_q (Op_assign rfl) rfl ?_
   refine RJ_nil ?_
   refine NJ_back ⟨i + 1, ⟨by omega, by rw [ho, hd]; simp [hasR, h1]⟩, rfl, rfl, rfl⟩ (by omega) (.cons rfl (by first | rfl | (simp; done)) (.cons rfl (by first | rfl | (simp; done)) (.cons rfl (by first | rfl | (simp; done)) .nil))) (.k (e := (.k (e := skk))))
 ·skip
  refine RJ_nil ?_
  refine NJ_then ?_
  refine CJ_env (E' := [(0, _), (1, _), (5, _), (12, _)]) (.cons rfl rfl (.cons rfl rfl (.cons rfl rfl (.cons rfl rfl .nil)))) ?_
  refine CJ_else rfl (decide_eq_false hi1) ?_
  refine CJ_exit ?_
  refine NJ_then_x ?_
  refine NJ_then_x ?_
  refine NJ_blk_hit ?_
  refine NJ_then ?_
  refine CJ_env (E' := []) .nil ?_
  refine CJ_seq ?_
  refine CJ_region ?_
  refine RJ_q (Op_assign rfl) rfl ?_
  refine RJ_nil ?_
  refine NJ_then ?_
  refine CJ_env (E' := [(4, _)]) (.cons rfl rfl .nil) ?_
  refine CJ_ret ?_
  have hU : hasR key A = false := by rw [ho, List.drop_of_length_le (by omega)]; rfl
  rw [hU]
  refine NJ_ret (.inl rfl) Try.results19 (ResJ_tmp rfl ResJ_nil) ⟨rfl, rfl⟩ (.k (e := (.k (e := skk))))

set_option maxRecDepth 20000 in
theorem RWithout_any (g : Nat) (lim : Int) (a : Option Nat) (cap : Nat) (A : List Mark) (hl : A.length ≤ 1000000) (m : Mark) (how : Int) (p : Mark → Bool) (hg : ∀ x : Mark, Spec Try.prog 30 #[.agg #[.string x.key, .int .i64 x.ses, .int .i64 x.req], .agg #[.string m.key, .int .i64 m.ses, .int .i64 m.req], .int .i64 how] [] fun v C => v = .bool (p x) ∧ C = []) : Spec Try.prog 17 #[.pointer (some ⟨g, 0, none⟩), .agg #[.string m.key, .int .i64 m.ses, .int .i64 m.req], .int .i64 how] [RTabC g a A.length cap lim, Row RkT a cap A] (fun v C => ∃ a2 c2, v = .int .i64 ((A.length : Int) - (A.filter fun x => !p x).length) ∧ C = [RTabC g a2 (A.filter fun x => !p x).length c2 lim, Row RkT a2 c2 (A.filter fun x => !p x)]) := by
 refine Spec_intro (n := 54) (args := [.pointer (some ⟨g, 0, none⟩), .agg #[.string m.key, .int .i64 m.ses, .int .i64 m.req], .int .i64 how]) Try.func17 rfl rfl rfl fun s R => ?_
 refine CJ_app2 ?_
 refine CJ_env (E' := [(0, _), (1, _), (2, _)]) (.cons rfl rfl (.cons rfl rfl (.cons rfl rfl .nil))) ?_
 refine CJ_seq ?_
 refine CJ_region ?_
 refine RJ_p rfl (Op_box rfl) ?_
 rintro _ _ ⟨b4, rfl, rfl⟩
 refine RJ_q (Op_assign rfl) rfl ?_
 refine RJ_nil ?_
 refine NJ_then ?_
 refine CJ_env (E' := [(0, _), (2, _), (4, _), (6, _)]) (.cons rfl rfl (.cons rfl rfl (.cons rfl rfl (.cons rfl rfl .nil)))) ?_
 refine CJ_seq ?_
 refine CJ_region ?_
 refine RJ_p rfl (Op_buildSlice0 (T := RkT) Try.underlying43 sz46) ?_
 rintro _ _ ⟨g10, rfl, rfl⟩
 refine RJ_q (Op_assign rfl) rfl ?_
 refine RJ_nil ?_
 refine NJ_then ?_
 refine CJ_env (E' := [(0, _), (2, _), (4, _), (6, _), (7, _)]) (.cons rfl rfl (.cons rfl rfl (.cons rfl rfl (.cons rfl rfl (.cons rfl rfl .nil))))) ?_
 refine CJ_seq ?_
 refine CJ_seq ?_
 refine CJ_region ?_
 refine RJ_q (Op_assign rfl) rfl ?_
 refine RJ_nil ?_
 refine NJ_then ?_
 refine CJ_env (E' := [(0, _), (2, _), (4, _), (6, _), (7, _), (8, _)]) (.cons rfl rfl (.cons rfl rfl (.cons rfl rfl (.cons rfl rfl (.cons rfl rfl (.cons rfl rfl .nil)))))) ?_
 refine CJ_block ?_
 refine CJ_loop (fun E H mz => ∃ (i : Nat) (a b : Option Nat) (c2 : Nat), (i ≤ A.length) ∧ E = [(0, .pointer (some ⟨g, 0, none⟩)), (2, .int .i64 how), (4, .pointer (some ⟨b4, 0, none⟩)), (7, .slice (sl b) (((A.take i).filter fun x => !p x)).length c2), (8, .int .i64 (i : Nat))] ∧ H = [RTabC g a A.length cap lim, Row RkT a cap A, Row RkT b c2 (((A.take i).filter fun x => !p x)), pt b4 (.cells #[.string m.key, .int .i64 m.ses, .int .i64 m.req] 46 (0, 0))] ++ R ∧ mz = A.length - i) (E' := [(0, .pointer (some ⟨g, 0, none⟩)), (2, .int .i64 how), (4, .pointer (some ⟨b4, 0, none⟩)), (7, .slice (sl (some g10)) (((A.take 0).filter fun x => !p x)).length 0), (8, .int .i64 (0 : Nat))]) (H' := [RTabC g a A.length cap lim, Row RkT a cap A, Row RkT (some g10) 0 (((A.take 0).filter fun x => !p x)), pt b4 (.cells #[.string m.key, .int .i64 m.ses, .int .i64 m.req] 46 (0, 0))] ++ R) (m := A.length - 0) ⟨0, a, some g10, 0, Nat.zero_le _, rfl, rfl, rfl⟩ (.cons rfl rfl (.cons rfl rfl (.cons rfl rfl (.cons rfl rfl (.cons rfl rfl .nil))))) (.k (e := (.k (e := (.k (e := (.k (e := skk)))))))) ?_
 rintro _ _ _ ⟨i, a, b, c2, hi, rfl, rfl, rfl⟩
 refine CJ_app4 ?_
 refine CJ_seq ?_
 refine CJ_seq ?_
 refine CJ_region ?_
 refine RJ_q (Op_move rfl) rfl ?_
 refine RJ_q (Op_move rfl) rfl ?_
 refine RJ_q (Op_nilCheck rfl) rfl ?_
 refine RJ_q (Op_fieldAddr (o' := 0) rfl Try.underlying45 rfl sz43 rfl rfl) rfl ?_
 refine RJ_q (Op_load rfl (load_cell Try.underlying43 rfl pkk Nth.z)) rfl ?_
 refine RJ_q (Op_len_slice rfl Try.underlying43) rfl ?_
 refine RJ_q (Op_lss rfl rfl) rfl ?_
 by_cases hi1 : (i : Int) < A.length
 ·skip
  obtain ⟨x, hx⟩ : ∃ x, A[i]? = some x := ⟨A[i], List.getElem?_eq_getElem (by omega)⟩
  have htk : A.take (i + 1) = A.take i ++ [x] := by rw [List.take_add_one, hx]; rfl
  refine RJ_nil ?_
  refine NJ_then ?_
  refine CJ_env (E' := [(0, _), (2, _), (4, _), (7, _), (8, _), (17, _)]) (.cons rfl rfl (.cons rfl rfl (.cons rfl rfl (.cons rfl rfl (.cons rfl rfl (.cons rfl rfl .nil)))))) ?_
  refine CJ_then rfl (decide_eq_true hi1) ?_
  refine CJ_skip ?_
  refine NJ_then ?_
  refine CJ_env (E' := [(0, _), (2, _), (4, _), (7, _), (8, _)]) (.cons rfl rfl (.cons rfl rfl (.cons rfl rfl (.cons rfl rfl (.cons rfl rfl .nil))))) ?_
  refine CJ_seq ?_
  refine CJ_block ?_
  refine CJ_seq ?_
  refine CJ_know (Row_know (T := RkT) pkk) ?_
  intro hkn
  obtain ⟨ga, rfl⟩ := row_some hkn.2.2 (by intro e; rw [e] at hx; cases hx)
  refine CJ_draw (.q 0 (.q 1 (.q 2 (.q 3 (.q 4 (.q 5 (.q 6 (.q 7 (.q 8 (.e 9 (.q 10 .done))))))))))) (by kernel_rfl) (by kernel_rfl) (by kernel_rfl) ?_
  refine SJ_q rfl (want_none rfl) rfl (fun _ _ => Op_move rfl) ?_
  refine SJ_q rfl (want_none rfl) rfl (fun _ _ => Op_nilCheck rfl) ?_
  refine SJ_q rfl (want_none rfl) rfl (fun _ _ => Op_fieldAddr (o' := 0) rfl Try.underlying45 rfl sz43 rfl rfl) ?_
  refine SJ_load rfl (want_none rfl) rfl rfl (load_cell Try.underlying43 rfl pkk Nth.z) ?_
  refine SJ_q rfl (want_none rfl) rfl (fun _ _ => Op_move rfl) ?_
  refine SJ_q rfl (want_none rfl) rfl (fun _ _ => Op_indexAddr (o' := i * RkT.sz + 0) rfl rfl Try.underlying43 sz46 (by omega) (by omega) (by simp [RkT])) ?_
  refine SJ_load rfl (want_none rfl) rfl rfl (load_row (o := 0) (vs := [_, _, _]) Try.underlying46 sz46 pkk hx rfl (by rfl)) ?_
  refine SJ_load rfl (want_none rfl) rfl rfl (load_struct (o := 0) (vs := [_, _, _]) Try.underlying46 sz46 pkk (by rfl) rfl) ?_
  refine SJ_q rfl (want_none rfl) rfl (fun _ _ => Op_move rfl) ?_
  refine SJ_p (rd' := []) [] rfl (want_none rfl) rfl (Op_call (vs := [_, _, _]) Try.func30 rfl rfl (hg x) rfl (Imp.refl _)) (by kernel_rfl) rfl ?_
  rintro _ _ ⟨_, ⟨rfl, rfl⟩, rfl⟩
  refine OS_app0 ?_
  refine ⟨trivial, ?_⟩
  by_cases hp : p x = true
  ·skip
   have hF : ((A.take (i + 1)).filter fun x => !p x) = ((A.take i).filter fun x => !p x) := by rw [htk, List.filter_append]; simp [hp]
   refine SJ_q rfl (want_none rfl) rfl (fun _ _ => Op_not rfl) ?_
   refine SJ_done ?_
   refine NJ_then ?_
   refine CJ_env (E' := [(0, _), (2, _), (4, _), (7, _), (8, _), (30, _)]) (.cons rfl rfl (.cons rfl rfl (.cons rfl rfl (.cons rfl rfl (.cons rfl rfl (.cons rfl rfl .nil)))))) ?_
   refine CJ_else rfl (congrArg Bool.not hp) ?_
   refine CJ_skip ?_
   refine NJ_blk ?_
   refine NJ_then ?_
   refine CJ_env (E' := [(0, _), (2, _), (4, _), (7, _), (8, _)]) (.cons rfl rfl (.cons rfl rfl (.cons rfl rfl (.cons rfl rfl (.cons rfl rfl .nil))))) ?_
   refine CJ_region ?_
   refine RJ_q (Op_move rfl) rfl ?_
   refine RJ_q (Op_addN (i + 1) rfl rfl (by omega) (by omega)) rfl ?_
   refine RJ_q (Op_assign rfl) rfl ?_
   refine RJ_nil ?_
   refine NJ_back ⟨i + 1, some ga, b, c2, by omega, rfl, rfl, rfl⟩ (by omega) (.cons rfl rfl (.cons rfl rfl (.cons rfl rfl (.cons rfl (by rw [hF]) (.cons rfl rfl .nil))))) (by rw [hF]; exact (.k (e := (.k (e := (.k (e := (.k (e := skk)))))))))
  ·skip
   refine SJ_q rfl (want_none rfl) rfl (fun _ _ => Op_not rfl) ?_
   refine SJ_done ?_
   refine NJ_then ?_
   refine CJ_env (E' := [(0, _), (2, _), (4, _), (7, _), (8, _), (30, _)]) (.cons rfl rfl (.cons rfl rfl (.cons rfl rfl (.cons rfl rfl (.cons rfl rfl (.cons rfl rfl .nil)))))) ?_
   refine CJ_then rfl (congrArg Bool.not (by simpa using hp)) ?_
   refine CJ_region ?_
   refine RJ_q (Op_move rfl) rfl ?_
   refine RJ_q (Op_move rfl) rfl ?_
   refine RJ_q (Op_nilCheck rfl) rfl ?_
   refine RJ_q (Op_fieldAddr (o' := 0) rfl Try.underlying45 rfl sz43 rfl rfl) rfl ?_
   refine RJ_q (Op_load rfl (load_cell Try.underlying43 rfl pkk Nth.z)) rfl ?_
   refine RJ_q (Op_move rfl) rfl ?_
   refine RJ_q (Op_indexAddr (o' := i * RkT.sz + 0) rfl rfl Try.underlying43 sz46 (by omega) (by omega) (by simp [RkT])) rfl ?_
   refine RJ_q (Op_load rfl (load_row (o := 0) (vs := [_, _, _]) Try.underlying46 sz46 pkk hx rfl (by rfl))) rfl ?_
   refine RJ_p rfl (Op_buildRow (T := RkT) (vs := [_]) [x] rfl Try.underlying43 sz46 zr46 rfl rfl rfl rfl rfl (by rfl)) ?_
   rintro _ _ ⟨g39, rfl, rfl⟩
   refine RJ_p rfl (Op_append (T := RkT) (news := [x]) rfl rfl pkk rfl (by simp) (Reads_row pkk) Try.underlying43 sz46 zr46 (by rfl) by46 (by have := List.length_filter_le (fun x => !p x) (A.take i); rw [List.length_take] at this; simp [RkT]; omega) (by have := List.length_filter_le (fun x => !p x) (A.take i); rw [List.length_take] at this; simp [maxLen]; omega)) ?_
   rintro _ _ ⟨a40, c40, rfl, rfl⟩
   have hF : (((A.take i).filter fun x => !p x)) ++ [x] = ((A.take (i + 1)).filter fun x => !p x) := by
     rw [htk, List.filter_append]; simp [show p x = false by simpa using hp]
   rw [hF]
   refine RJ_q (Op_assign rfl) rfl ?_
   refine RJ_nil ?_
   refine NJ_blk ?_
   refine NJ_then ?_
   refine CJ_env (E' := [(0, _), (2, _), (4, _), (7, _), (8, _)]) (.cons rfl rfl (.cons rfl rfl (.cons rfl rfl (.cons rfl rfl (.cons rfl rfl .nil))))) ?_
   refine CJ_region ?_
   refine RJ_q (Op_move rfl) rfl ?_
   refine RJ_q (Op_addN (i + 1) rfl rfl (by omega) (by omega)) rfl ?_
   refine RJ_q (Op_assign rfl) rfl ?_
   refine RJ_nil ?_
   refine NJ_back ⟨i + 1, some ga, a40, c40, by omega, rfl, rfl, rfl⟩ (by omega) (.cons rfl (by first | rfl | (simp; done)) (.cons rfl (by first | rfl | (simp; done)) (.cons rfl (by first | rfl | (simp; done)) (.cons rfl (by first | rfl | (simp; done)) (.cons rfl (by first | rfl | (simp; done)) .nil))))) (.k (e := (.k (e := (.k (e := (.k (e := skk))))))))
 ·skip
  refine RJ_nil ?_
  refine NJ_then ?_
  refine CJ_env (E' := [(0, _), (2, _), (4, _), (7, _), (8, _), (17, _)]) (.cons rfl rfl (.cons rfl rfl (.cons rfl rfl (.cons rfl rfl (.cons rfl rfl (.cons rfl rfl .nil)))))) ?_
  refine CJ_else rfl (decide_eq_false hi1) ?_
  refine CJ_exit ?_
  refine NJ_then_x ?_
  refine NJ_then_x ?_
  refine NJ_blk_hit ?_
  refine NJ_then ?_
  refine CJ_env (E' := [(0, _), (7, _)]) (.cons rfl rfl (.cons rfl rfl .nil)) ?_
  refine CJ_seq ?_
  have hie : i = A.length := by omega
  subst hie
  rw [List.take_length]
  refine CJ_region ?_
  refine RJ_q (Op_move rfl) rfl ?_
  refine RJ_q (Op_nilCheck rfl) rfl ?_
  refine RJ_q (Op_fieldAddr (o' := 0) rfl Try.underlying45 rfl sz43 rfl rfl) rfl ?_
  refine RJ_q (Op_load rfl (load_cell Try.underlying43 rfl pkk Nth.z)) rfl ?_
  refine RJ_q (Op_len_slice rfl Try.underlying43) rfl ?_
  refine RJ_q (Op_move rfl) rfl ?_
  refine RJ_q (Op_len_slice rfl Try.underlying43) rfl ?_
  have hfl := List.length_filter_le (fun x => !p x) A
  refine RJ_q (Op_sub64 rfl rfl (by omega)) rfl ?_
  refine RJ_q (Op_assign rfl) rfl ?_
  refine RJ_nil ?_
  refine NJ_then ?_
  refine CJ_env (E' := [(0, _), (7, _), (9, _)]) (.cons rfl rfl (.cons rfl rfl (.cons rfl rfl .nil))) ?_
  refine CJ_seq ?_
  refine CJ_region ?_
  refine RJ_q (Op_move rfl) rfl ?_
  refine RJ_q (Op_move rfl) rfl ?_
  refine RJ_q (Op_nilCheck rfl) rfl ?_
  refine RJ_q (Op_fieldAddr (o' := 0) rfl Try.underlying45 rfl sz43 rfl rfl) rfl ?_
  refine RJ_d0 (Op_store (cs' := #[_, _]) rfl rfl sz43 (by rfl) (by simp [Value.cells, Value.oneCell']) rpp rfl (free_zero _ _) (by rfl)) ?_
  refine RJ_nil ?_
  refine NJ_then ?_
  refine CJ_env (E' := [(9, _)]) (.cons rfl rfl .nil) ?_
  refine CJ_seq ?_
  refine CJ_region ?_
  refine RJ_q (Op_move rfl) rfl ?_
  refine RJ_q (Op_assign rfl) rfl ?_
  refine RJ_nil ?_
  refine NJ_then ?_
  refine CJ_env (E' := [(6, _)]) (.cons rfl rfl .nil) ?_
  refine CJ_ret ?_
  refine NJ_ret (.inl rfl) Try.results17 (ResJ_tmp rfl ResJ_nil) ⟨b, c2, rfl, rfl⟩ (.k (e := (.k (e := skk))))

set_option maxRecDepth 20000 in
set_option maxHeartbeats 2000000 in
theorem RSet_any (g : Nat) (lim : Int) (a : Option Nat) (cap : Nat) (A : List Mark) (hl : A.length ≤ 1000000) (m : Mark) : Spec Try.prog 16 #[.pointer (some ⟨g, 0, none⟩), .agg #[.string m.key, .int .i64 m.ses, .int .i64 m.req]] [RTabC g a A.length cap lim, Row RkT a cap A] (fun v C => ∃ a2 c2, v = .bool (rsetR m lim A).1 ∧ C = [RTabC g a2 (rsetR m lim A).2.length c2 lim, Row RkT a2 c2 (rsetR m lim A).2]) := by
 refine Spec_intro (n := 78) (args := [.pointer (some ⟨g, 0, none⟩), .agg #[.string m.key, .int .i64 m.ses, .int .i64 m.req]]) Try.func16 rfl rfl rfl fun s R => ?_
 refine CJ_app2 ?_
 refine CJ_env (E' := [(0, _), (1, _)]) (.cons rfl rfl (.cons rfl rfl .nil)) ?_
 refine CJ_seq ?_
 refine CJ_region ?_
 refine RJ_p rfl (Op_box rfl) ?_
 rintro _ _ ⟨b3, rfl, rfl⟩
 refine RJ_q (Op_assign rfl) rfl ?_
 refine RJ_nil ?_
 refine NJ_then ?_
 refine CJ_env (E' := [(0, _), (3, _), (4, _)]) (.cons rfl rfl (.cons rfl rfl (.cons rfl rfl .nil))) ?_
 refine CJ_seq ?_
 refine CJ_region ?_
 refine RJ_q (Op_assign rfl) rfl ?_
 refine RJ_nil ?_
 refine NJ_then ?_
 refine CJ_env (E' := [(0, _), (3, _), (4, _), (5, _)]) (.cons rfl rfl (.cons rfl rfl (.cons rfl rfl (.cons rfl rfl .nil)))) ?_
 refine CJ_seq ?_
 refine CJ_block ?_
 refine CJ_loop (fun E H mz => ∃ (i : Nat) (a : Option Nat), (i ≤ A.length ∧ i ≤ posR m A) ∧ E = [(0, .pointer (some ⟨g, 0, none⟩)), (3, .pointer (some ⟨b3, 0, none⟩)), (5, .int .i64 (i : Nat))] ∧ H = [RTabC g a A.length cap lim, Row RkT a cap A, pt b3 (.cells #[.string m.key, .int .i64 m.ses, .int .i64 m.req] 46 (0, 0))] ++ R ∧ mz = A.length - i) (E' := [(0, .pointer (some ⟨g, 0, none⟩)), (3, .pointer (some ⟨b3, 0, none⟩)), (5, .int .i64 (0 : Nat))]) (H' := [RTabC g a A.length cap lim, Row RkT a cap A, pt b3 (.cells #[.string m.key, .int .i64 m.ses, .int .i64 m.req] 46 (0, 0))] ++ R) (m := A.length - 0) ⟨0, a, ⟨Nat.zero_le _, Nat.zero_le _⟩, rfl, rfl, rfl⟩ (.cons rfl rfl (.cons rfl rfl (.cons rfl rfl .nil))) (.k (e := (.k (e := (.k (e := skk)))))) ?_
 rintro _ _ _ ⟨i, a, ⟨hi, hip⟩, rfl, rfl, rfl⟩
 refine CJ_app3 ?_
 refine CJ_seq ?_
 refine CJ_seq ?_
 by_cases hi1 : i < A.length
 ·skip
  obtain ⟨x, hx⟩ : ∃ x, A[i]? = some x := ⟨A[i], List.getElem?_eq_getElem (by omega)⟩
  refine CJ_know (Row_know (T := RkT) pkk) ?_
  intro hkn
  obtain ⟨ga, rfl⟩ := row_some hkn.2.2 (by intro e; rw [e] at hx; cases hx)
  refine CJ_draw (.q 0 (.q 1 (.q 2 (.q 3 (.q 4 (.q 5 (.q 6 (.q 7 (.q 8 (.q 9 (.q 10 (.q 11 (.q 12 (.q 13 (.q 14 (.q 15 (.e 16 (.q 17 .done)))))))))))))))))) (by kernel_rfl) (by kernel_rfl) (by kernel_rfl) ?_
  refine SJ_q rfl (want_none rfl) rfl (fun _ _ => Op_move rfl) ?_
  refine SJ_q rfl (want_none rfl) rfl (fun _ _ => Op_move rfl) ?_
  refine SJ_q rfl (want_none rfl) rfl (fun _ _ => Op_nilCheck rfl) ?_
  refine SJ_q rfl (want_none rfl) rfl (fun _ _ => Op_fieldAddr (o' := 0) rfl Try.underlying45 rfl sz43 rfl rfl) ?_
  refine SJ_load rfl (want_none rfl) rfl rfl (load_cell Try.underlying43 rfl pkk Nth.z) ?_
  refine SJ_q rfl (want_none rfl) rfl (fun _ _ => Op_len_slice rfl Try.underlying43) ?_
  refine SJ_q rfl (want_none rfl) rfl (fun _ _ => Op_lss rfl rfl) ?_
  refine SJ_q rfl (want_none rfl) rfl (fun _ _ => Op_move rfl) ?_
  refine SJ_q rfl (want_yes (t := 14) rfl rfl rfl (decide_eq_true (by omega))) rfl (fun _ _ => Op_move rfl) ?_
  refine SJ_q rfl (want_yes (t := 14) rfl rfl rfl (decide_eq_true (by omega))) rfl (fun _ _ => Op_nilCheck rfl) ?_
  refine SJ_q rfl (want_yes (t := 14) rfl rfl rfl (decide_eq_true (by omega))) rfl (fun _ _ => Op_fieldAddr (o' := 0) rfl Try.underlying45 rfl sz43 rfl rfl) ?_
  refine SJ_load rfl (want_yes (t := 14) rfl rfl rfl (decide_eq_true (by omega))) rfl rfl (load_cell Try.underlying43 rfl pkk Nth.z) ?_
  refine SJ_q rfl (want_yes (t := 14) rfl rfl rfl (decide_eq_true (by omega))) rfl (fun _ _ => Op_move rfl) ?_
  refine SJ_q rfl (want_yes (t := 14) rfl rfl rfl (decide_eq_true (by omega))) rfl (fun _ _ => Op_indexAddr (o' := i * RkT.sz + 0) rfl rfl Try.underlying43 sz46 (by omega) (by omega) (by simp [RkT])) ?_
  refine SJ_load rfl (want_yes (t := 14) rfl rfl rfl (decide_eq_true (by omega))) rfl rfl (load_row (o := 0) (vs := [_, _, _]) Try.underlying46 sz46 pkk hx rfl (by rfl)) ?_
  refine SJ_load rfl (want_yes (t := 14) rfl rfl rfl (decide_eq_true (by omega))) rfl rfl (load_struct (o := 0) (vs := [_, _, _]) Try.underlying46 sz46 pkk (by rfl) rfl) ?_
  refine SJ_p (rd' := []) [] rfl (want_yes (t := 14) rfl rfl rfl (decide_eq_true (by omega))) rfl (Op_call (vs := [_, _]) Try.func29 rfl rfl (RLess_any x m) rfl (Imp.refl _)) (by kernel_rfl) rfl ?_
  rintro _ _ ⟨_, ⟨rfl, rfl⟩, rfl⟩
  refine OS_app0 ?_
  refine ⟨trivial, ?_⟩
  by_cases hlt : lessB x m = true
  ·skip
   refine SJ_q rfl (want_none rfl) rfl (fun _ _ => Op_pick_t rfl (decide_eq_true (by omega)) rfl) ?_
   refine SJ_done ?_
   refine NJ_then ?_
   refine CJ_env (E' := [(0, _), (3, _), (5, _), (24, _)]) (.cons rfl rfl (.cons rfl rfl (.cons rfl rfl (.cons rfl rfl .nil)))) ?_
   refine CJ_then rfl hlt ?_
   refine CJ_skip ?_
   refine NJ_then ?_
   refine CJ_env (E' := [(0, _), (3, _), (5, _)]) (.cons rfl rfl (.cons rfl rfl (.cons rfl rfl .nil))) ?_
   refine CJ_block ?_
   refine CJ_region ?_
   refine RJ_q (Op_move rfl) rfl ?_
   refine RJ_q (Op_add64 rfl rfl (by omega)) rfl ?_
   refine RJ_q (Op_assign rfl) rfl ?_
   refine RJ_nil ?_
   refine NJ_blk ?_
   refine NJ_back ⟨i + 1, some ga, ⟨by omega, posR_more hip hx hlt⟩, rfl, rfl, rfl⟩ (by omega) (.cons rfl (by first | rfl | (simp; done)) (.cons rfl (by first | rfl | (simp; done)) (.cons rfl (by first | rfl | (simp; done)) .nil))) (.k (e := (.k (e := (.k (e := skk))))))
  ·skip
   have hpos : i = posR m A := posR_stop hip hx (by simpa using hlt)
   refine SJ_q rfl (want_none rfl) rfl (fun _ _ => Op_pick_t rfl (decide_eq_true (by omega)) rfl) ?_
   refine SJ_done ?_
   refine NJ_then ?_
   refine CJ_env (E' := [(0, _), (3, _), (5, _), (24, _)]) (.cons rfl rfl (.cons rfl rfl (.cons rfl rfl (.cons rfl rfl .nil)))) ?_
   refine CJ_else rfl (by simpa using hlt) ?_
   refine CJ_exit ?_
   refine NJ_then_x ?_
   refine NJ_then_x ?_
   refine NJ_blk_hit ?_
   refine NJ_then ?_
   refine CJ_env (E' := [(0, _), (3, _), (5, _)]) (.cons rfl rfl (.cons rfl rfl (.cons rfl rfl .nil))) ?_
   refine CJ_seq ?_
   refine CJ_seq ?_
   refine CJ_draw (.q 0 (.q 1 (.q 2 (.q 3 (.q 4 (.q 5 (.q 6 (.q 7 (.q 8 (.q 9 (.q 10 (.q 11 (.q 12 (.q 13 (.q 14 (.q 15 (.q 16 (.q 17 .done)))))))))))))))))) (by kernel_rfl) (by kernel_rfl) (by kernel_rfl) ?_
   refine SJ_q rfl (want_none rfl) rfl (fun _ _ => Op_move rfl) ?_
   refine SJ_q rfl (want_none rfl) rfl (fun _ _ => Op_move rfl) ?_
   refine SJ_q rfl (want_none rfl) rfl (fun _ _ => Op_nilCheck rfl) ?_
   refine SJ_q rfl (want_none rfl) rfl (fun _ _ => Op_fieldAddr (o' := 0) rfl Try.underlying45 rfl sz43 rfl rfl) ?_
   refine SJ_load rfl (want_none rfl) rfl rfl (load_cell Try.underlying43 rfl pkk Nth.z) ?_
   refine SJ_q rfl (want_none rfl) rfl (fun _ _ => Op_len_slice rfl Try.underlying43) ?_
   refine SJ_q rfl (want_none rfl) rfl (fun _ _ => Op_lss rfl rfl) ?_
   refine SJ_q rfl (want_none rfl) rfl (fun _ _ => Op_move rfl) ?_
   refine SJ_q rfl (want_yes (t := 34) rfl rfl rfl (decide_eq_true (by omega))) rfl (fun _ _ => Op_move rfl) ?_
   refine SJ_q rfl (want_yes (t := 34) rfl rfl rfl (decide_eq_true (by omega))) rfl (fun _ _ => Op_nilCheck rfl) ?_
   refine SJ_q rfl (want_yes (t := 34) rfl rfl rfl (decide_eq_true (by omega))) rfl (fun _ _ => Op_fieldAddr (o' := 0) rfl Try.underlying45 rfl sz43 rfl rfl) ?_
   refine SJ_load rfl (want_yes (t := 34) rfl rfl rfl (decide_eq_true (by omega))) rfl rfl (load_cell Try.underlying43 rfl pkk Nth.z) ?_
   refine SJ_q rfl (want_yes (t := 34) rfl rfl rfl (decide_eq_true (by omega))) rfl (fun _ _ => Op_move rfl) ?_
   refine SJ_q rfl (want_yes (t := 34) rfl rfl rfl (decide_eq_true (by omega))) rfl (fun _ _ => Op_indexAddr (o' := i * RkT.sz + 0) rfl rfl Try.underlying43 sz46 (by omega) (by omega) (by simp [RkT])) ?_
   refine SJ_load rfl (want_yes (t := 34) rfl rfl rfl (decide_eq_true (by omega))) rfl rfl (load_row (o := 0) (vs := [_, _, _]) Try.underlying46 sz46 pkk hx rfl (by rfl)) ?_
   refine SJ_load rfl (want_yes (t := 34) rfl rfl rfl (decide_eq_true (by omega))) rfl rfl (load_struct (o := 0) (vs := [_, _, _]) Try.underlying46 sz46 pkk (by rfl) rfl) ?_
   refine SJ_q rfl (want_yes (t := 34) rfl rfl rfl (decide_eq_true (by omega))) rfl (fun _ _ => Op_struct_eql rfl rfl (by kernel_rfl) (EqJ_markR x m)) ?_
   by_cases he : x = m
   ·skip
    refine SJ_q rfl (want_none rfl) rfl (fun _ _ => Op_pick_t rfl (decide_eq_true (by omega)) rfl) ?_
    refine SJ_done ?_
    refine NJ_then ?_
    refine CJ_env (E' := [(0, _), (3, _), (5, _), (44, _)]) (.cons rfl rfl (.cons rfl rfl (.cons rfl rfl (.cons rfl rfl .nil)))) ?_
    refine CJ_then rfl (decide_eq_true he) ?_
    refine CJ_seq ?_
    refine CJ_region ?_
    refine RJ_q (Op_assign rfl) rfl ?_
    refine RJ_nil ?_
    refine NJ_then ?_
    refine CJ_env (E' := [(4, _)]) (.cons rfl rfl .nil) ?_
    refine CJ_ret ?_
    refine NJ_then_r ?_
    have hU : rsetR m lim A = (true, A) := by unfold rsetR; rw [← hpos]; rw [if_pos (by rw [hx, he])]
    rw [hU]
    refine NJ_ret (.inl rfl) Try.results16 (ResJ_tmp rfl ResJ_nil) ⟨some ga, cap, rfl, rfl⟩ (.k (e := (.k (e := skk))))
   ·skip
    refine SJ_q rfl (want_none rfl) rfl (fun _ _ => Op_pick_t rfl (decide_eq_true (by omega)) rfl) ?_
    refine SJ_done ?_
    refine NJ_then ?_
    refine CJ_env (E' := [(0, _), (3, _), (5, _), (44, _)]) (.cons rfl rfl (.cons rfl rfl (.cons rfl rfl (.cons rfl rfl .nil)))) ?_
    refine CJ_else rfl (decide_eq_false he) ?_
    refine CJ_skip ?_
    refine NJ_then ?_
    refine CJ_env (E' := [(0, _), (3, _), (5, _)]) (.cons rfl rfl (.cons rfl rfl (.cons rfl rfl .nil))) ?_
    refine CJ_seq ?_
    refine CJ_seq ?_
    refine CJ_draw (.q 0 (.q 1 (.q 2 (.q 3 (.q 4 (.q 5 (.q 6 (.q 7 (.q 8 (.q 9 .done)))))))))) (by kernel_rfl) (by kernel_rfl) (by kernel_rfl) ?_
    refine SJ_q rfl (want_none rfl) rfl (fun _ _ => Op_move rfl) ?_
    refine SJ_q rfl (want_none rfl) rfl (fun _ _ => Op_nilCheck rfl) ?_
    refine SJ_q rfl (want_none rfl) rfl (fun _ _ => Op_fieldAddr (o' := 0) rfl Try.underlying45 rfl sz43 rfl rfl) ?_
    refine SJ_load rfl (want_none rfl) rfl rfl (load_cell Try.underlying43 rfl pkk Nth.z) ?_
    refine SJ_q rfl (want_none rfl) rfl (fun _ _ => Op_len_slice rfl Try.underlying43) ?_
    refine SJ_q rfl (want_none rfl) rfl (fun _ _ => Op_move rfl) ?_
    refine SJ_q rfl (want_none rfl) rfl (fun _ _ => Op_nilCheck rfl) ?_
    refine SJ_q rfl (want_none rfl) rfl (fun _ _ => Op_fieldAddr (o' := 1) rfl Try.underlying45 rfl sz3 rfl rfl) ?_
    refine SJ_load rfl (want_none rfl) rfl rfl (load_cell Try.underlying3 rfl pkk (Nth.s Nth.z)) ?_
    refine SJ_q rfl (want_none rfl) rfl (fun _ _ => Op_geq rfl rfl) ?_
    by_cases hl1 : lim ≤ (A.length : Int)
    ·skip
     refine SJ_done ?_
     refine NJ_then ?_
     refine CJ_env (E' := [(0, _), (3, _), (5, _), (54, _)]) (.cons rfl rfl (.cons rfl rfl (.cons rfl rfl (.cons rfl rfl .nil)))) ?_
     refine CJ_then rfl (decide_eq_true hl1) ?_
     refine CJ_seq ?_
     refine CJ_region ?_
     refine RJ_q (Op_assign rfl) rfl ?_
     refine RJ_nil ?_
     refine NJ_then ?_
     refine CJ_env (E' := [(4, _)]) (.cons rfl rfl .nil) ?_
     refine CJ_ret ?_
     refine NJ_then_r ?_
     have hU : rsetR m lim A = (false, A) := by unfold rsetR; rw [← hpos]; rw [if_neg (by rw [hx]; simpa using he)]; rw [if_pos hl1]
     rw [hU]
     refine NJ_ret (.inl rfl) Try.results16 (ResJ_tmp rfl ResJ_nil) ⟨some ga, cap, rfl, rfl⟩ (.k (e := (.k (e := skk))))
    ·skip
     refine SJ_done ?_
     refine NJ_then ?_
     refine CJ_env (E' := [(0, _), (3, _), (5, _), (54, _)]) (.cons rfl rfl (.cons rfl rfl (.cons rfl rfl (.cons rfl rfl .nil)))) ?_
     refine CJ_else rfl (decide_eq_false hl1) ?_
     refine CJ_skip ?_
     refine NJ_then ?_
     refine CJ_env (E' := [(0, _), (3, _), (5, _)]) (.cons rfl rfl (.cons rfl rfl (.cons rfl rfl .nil))) ?_
     refine CJ_seq ?_
     refine CJ_know (Row_know (T := RkT) pkk) ?_
     intro hk8
     refine CJ_region ?_
     refine RJ_p rfl (Op_buildSlice0 (T := RkT) Try.underlying43 sz46) ?_
     rintro _ _ ⟨g55, rfl, rfl⟩
     refine RJ_q (Op_move rfl) rfl ?_
     refine RJ_q (Op_nilCheck rfl) rfl ?_
     refine RJ_q (Op_fieldAddr (o' := 0) rfl Try.underlying45 rfl sz43 rfl rfl) rfl ?_
     refine RJ_q (Op_load rfl (load_cell Try.underlying43 rfl pkk Nth.z)) rfl ?_
     refine RJ_q (Op_move rfl) rfl ?_
     refine RJ_q (Op_sliceN_hi rfl rfl Try.underlying43 sz46 (by omega)) rfl ?_
     refine RJ_p rfl (Op_append_s (T := RkT) (news := A.take i) rfl rfl pkk rfl (by simp; omega) (Reads_take i pkk) Try.underlying43 sz46 zr46 (by rfl) by46 (by simp [RkT]; omega) (by simp [maxLen]; omega)) ?_
     rintro _ _ ⟨a62, c62, rfl, rfl⟩
     refine RJ_q (Op_assign rfl) rfl ?_
     refine RJ_nil ?_
     refine NJ_then ?_
     refine CJ_env (E' := [(0, _), (3, _), (5, _), (6, _)]) (.cons rfl rfl (.cons rfl rfl (.cons rfl rfl (.cons rfl rfl .nil)))) ?_
     refine CJ_seq ?_
     refine CJ_region ?_
     refine RJ_q (Op_move rfl) rfl ?_
     refine RJ_q (Op_load rfl (load_struct (o := 0) (vs := [_, _, _]) Try.underlying46 sz46 pkk (by rfl) rfl)) rfl ?_
     refine RJ_p rfl (Op_buildRow (T := RkT) (vs := [_]) [m] rfl Try.underlying43 sz46 zr46 rfl rfl rfl rfl rfl (by rfl)) ?_
     rintro _ _ ⟨g65, rfl, rfl⟩
     refine RJ_p rfl (Op_append_s (T := RkT) (news := [m]) rfl rfl pkk rfl rfl (Reads_row pkk) Try.underlying43 sz46 zr46 (by rfl) by46 (by simp [RkT]; omega) (by simp [maxLen]; omega)) ?_
     rintro _ _ ⟨a66, c66, rfl, rfl⟩
     refine RJ_q (Op_assign rfl) rfl ?_
     refine RJ_nil ?_
     refine NJ_then ?_
     refine CJ_env (E' := [(0, _), (5, _), (6, _)]) (.cons rfl rfl (.cons rfl rfl (.cons rfl rfl .nil))) ?_
     refine CJ_seq ?_
     refine CJ_region ?_
     refine RJ_q (Op_move rfl) rfl ?_
     refine RJ_q (Op_move rfl) rfl ?_
     refine RJ_q (Op_move rfl) rfl ?_
     refine RJ_q (Op_nilCheck rfl) rfl ?_
     refine RJ_q (Op_fieldAddr (o' := 0) rfl Try.underlying45 rfl sz43 rfl rfl) rfl ?_
     refine RJ_q (Op_load rfl (load_cell Try.underlying43 rfl pkk Nth.z)) rfl ?_
     refine RJ_q (Op_move rfl) rfl ?_
     refine RJ_q (Op_sliceN_lo rfl rfl Try.underlying43 sz46 (by omega)) rfl ?_
     refine RJ_p rfl (Op_append_s (T := RkT) (news := A.drop i) rfl rfl pkk rfl (by simp) (Reads_low pkk (by omega) rfl) Try.underlying43 sz46 zr46 (by rfl) by46 (by simp [RkT]; omega) (by simp [maxLen]; omega)) ?_
     rintro _ _ ⟨a75, c75, rfl, rfl⟩
     refine RJ_q (Op_nilCheck rfl) rfl ?_
     refine RJ_q (Op_fieldAddr (o' := 0) rfl Try.underlying45 rfl sz43 rfl rfl) rfl ?_
     refine RJ_d0 (Op_store (cs' := #[_, _]) rfl rfl sz43 (by rfl) (by simp [Value.cells, Value.oneCell']) rpp rfl (free_zero _ _) (by rfl)) ?_
     refine RJ_nil ?_
     refine NJ_then ?_
     refine CJ_env (E' := []) .nil ?_
     refine CJ_seq ?_
     refine CJ_region ?_
     refine RJ_q (Op_assign rfl) rfl ?_
     refine RJ_nil ?_
     refine NJ_then ?_
     refine CJ_env (E' := [(4, _)]) (.cons rfl rfl .nil) ?_
     refine CJ_ret ?_
     have hU : rsetR m lim A = (true, (A.take i ++ [m] ++ A.drop i)) := by unfold rsetR; rw [← hpos]; rw [if_neg (by rw [hx]; simpa using he)]; rw [if_neg hl1]
     rw [hU]
     refine NJ_ret (.inl rfl) Try.results16 (ResJ_tmp rfl ResJ_nil) ⟨some a75, c75, rfl, rfl⟩ (.k (e := (.k (e := skk))))
 ·skip
  have hpos : i = posR m A := by have := posR_le m A; omega
  refine CJ_draw (.q 0 (.q 1 (.q 2 (.q 3 (.q 4 (.q 5 (.q 6 (.q 7 (.q 8 (.q 9 (.q 10 (.q 11 (.q 12 (.q 13 (.q 14 (.q 15 (.e 16 (.q 17 .done)))))))))))))))))) (by kernel_rfl) (by kernel_rfl) (by kernel_rfl) ?_
  refine SJ_q rfl (want_none rfl) rfl (fun _ _ => Op_move rfl) ?_
  refine SJ_q rfl (want_none rfl) rfl (fun _ _ => Op_move rfl) ?_
  refine SJ_q rfl (want_none rfl) rfl (fun _ _ => Op_nilCheck rfl) ?_
  refine SJ_q rfl (want_none rfl) rfl (fun _ _ => Op_fieldAddr (o' := 0) rfl Try.underlying45 rfl sz43 rfl rfl) ?_
  refine SJ_load rfl (want_none rfl) rfl rfl (load_cell Try.underlying43 rfl pkk Nth.z) ?_
  refine SJ_q rfl (want_none rfl) rfl (fun _ _ => Op_len_slice rfl Try.underlying43) ?_
  refine SJ_q rfl (want_none rfl) rfl (fun _ _ => Op_lss rfl rfl) ?_
  refine SJ_q rfl (want_none rfl) rfl (fun _ _ => Op_move rfl) ?_
  refine SJ_no (t := 14) false rfl rfl rfl (decide_eq_false (by omega)) (by decide) rfl ?_
  refine SJ_no (t := 14) false rfl rfl rfl (decide_eq_false (by omega)) (by decide) rfl ?_
  refine SJ_no (t := 14) false rfl rfl rfl (decide_eq_false (by omega)) (by decide) rfl ?_
  refine SJ_no (t := 14) false rfl rfl rfl (decide_eq_false (by omega)) (by decide) rfl ?_
  refine SJ_no (t := 14) false rfl rfl rfl (decide_eq_false (by omega)) (by decide) rfl ?_
  refine SJ_no (t := 14) false rfl rfl rfl (decide_eq_false (by omega)) (by decide) rfl ?_
  refine SJ_no (t := 14) false rfl rfl rfl (decide_eq_false (by omega)) (by decide) rfl ?_
  refine SJ_no (t := 14) false rfl rfl rfl (decide_eq_false (by omega)) (by decide) rfl ?_
  refine SJ_no_e (t := 14) false (rd' := []) [] rfl rfl rfl (decide_eq_false (by omega)) (by decide) rfl (by kernel_rfl) rfl trivial ?_
  refine SJ_q rfl (want_none rfl) rfl (fun _ _ => Op_pick_f rfl (decide_eq_false (by omega)) rfl) ?_
  refine SJ_done ?_
  refine NJ_then ?_
  refine CJ_env (E' := [(0, _), (3, _), (5, _), (24, _)]) (.cons rfl rfl (.cons rfl rfl (.cons rfl rfl (.cons rfl rfl .nil)))) ?_
  refine CJ_else rfl rfl ?_
  refine CJ_exit ?_
  refine NJ_then_x ?_
  refine NJ_then_x ?_
  refine NJ_blk_hit ?_
  refine NJ_then ?_
  refine CJ_env (E' := [(0, _), (3, _), (5, _)]) (.cons rfl rfl (.cons rfl rfl (.cons rfl rfl .nil))) ?_
  refine CJ_seq ?_
  refine CJ_seq ?_
  refine CJ_draw (.q 0 (.q 1 (.q 2 (.q 3 (.q 4 (.q 5 (.q 6 (.q 7 (.q 8 (.q 9 (.q 10 (.q 11 (.q 12 (.q 13 (.q 14 (.q 15 (.q 16 (.q 17 .done)))))))))))))))))) (by kernel_rfl) (by kernel_rfl) (by kernel_rfl) ?_
  refine SJ_q rfl (want_none rfl) rfl (fun _ _ => Op_move rfl) ?_
  refine SJ_q rfl (want_none rfl) rfl (fun _ _ => Op_move rfl) ?_
  refine SJ_q rfl (want_none rfl) rfl (fun _ _ => Op_nilCheck rfl) ?_
  refine SJ_q rfl (want_none rfl) rfl (fun _ _ => Op_fieldAddr (o' := 0) rfl Try.underlying45 rfl sz43 rfl rfl) ?_
  refine SJ_load rfl (want_none rfl) rfl rfl (load_cell Try.underlying43 rfl pkk Nth.z) ?_
  refine SJ_q rfl (want_none rfl) rfl (fun _ _ => Op_len_slice rfl Try.underlying43) ?_
  refine SJ_q rfl (want_none rfl) rfl (fun _ _ => Op_lss rfl rfl) ?_
  refine SJ_q rfl (want_none rfl) rfl (fun _ _ => Op_move rfl) ?_
  refine SJ_no (t := 34) false rfl rfl rfl (decide_eq_false (by omega)) (by decide) rfl ?_
  refine SJ_no (t := 34) false rfl rfl rfl (decide_eq_false (by omega)) (by decide) rfl ?_
  refine SJ_no (t := 34) false rfl rfl rfl (decide_eq_false (by omega)) (by decide) rfl ?_
  refine SJ_no (t := 34) false rfl rfl rfl (decide_eq_false (by omega)) (by decide) rfl ?_
  refine SJ_no (t := 34) false rfl rfl rfl (decide_eq_false (by omega)) (by decide) rfl ?_
  refine SJ_no (t := 34) false rfl rfl rfl (decide_eq_false (by omega)) (by decide) rfl ?_
  refine SJ_no (t := 34) false rfl rfl rfl (decide_eq_false (by omega)) (by decide) rfl ?_
  refine SJ_no (t := 34) false rfl rfl rfl (decide_eq_false (by omega)) (by decide) rfl ?_
  refine SJ_no (t := 34) false rfl rfl rfl (decide_eq_false (by omega)) (by decide) rfl ?_
  refine SJ_q rfl (want_none rfl) rfl (fun _ _ => Op_pick_f rfl (decide_eq_false (by omega)) rfl) ?_
  refine SJ_done ?_
  refine NJ_then ?_
  refine CJ_env (E' := [(0, _), (3, _), (5, _), (44, _)]) (.cons rfl rfl (.cons rfl rfl (.cons rfl rfl (.cons rfl rfl .nil)))) ?_
  refine CJ_else rfl rfl ?_
  refine CJ_skip ?_
  refine NJ_then ?_
  refine CJ_env (E' := [(0, _), (3, _), (5, _)]) (.cons rfl rfl (.cons rfl rfl (.cons rfl rfl .nil))) ?_
  refine CJ_seq ?_
  refine CJ_seq ?_
  refine CJ_draw (.q 0 (.q 1 (.q 2 (.q 3 (.q 4 (.q 5 (.q 6 (.q 7 (.q 8 (.q 9 .done)))))))))) (by kernel_rfl) (by kernel_rfl) (by kernel_rfl) ?_
  refine SJ_q rfl (want_none rfl) rfl (fun _ _ => Op_move rfl) ?_
  refine SJ_q rfl (want_none rfl) rfl (fun _ _ => Op_nilCheck rfl) ?_
  refine SJ_q rfl (want_none rfl) rfl (fun _ _ => Op_fieldAddr (o' := 0) rfl Try.underlying45 rfl sz43 rfl rfl) ?_
  refine SJ_load rfl (want_none rfl) rfl rfl (load_cell Try.underlying43 rfl pkk Nth.z) ?_
  refine SJ_q rfl (want_none rfl) rfl (fun _ _ => Op_len_slice rfl Try.underlying43) ?_
  refine SJ_q rfl (want_none rfl) rfl (fun _ _ => Op_move rfl) ?_
  refine SJ_q rfl (want_none rfl) rfl (fun _ _ => Op_nilCheck rfl) ?_
  refine SJ_q rfl (want_none rfl) rfl (fun _ _ => Op_fieldAddr (o' := 1) rfl Try.underlying45 rfl sz3 rfl rfl) ?_
  refine SJ_load rfl (want_none rfl) rfl rfl (load_cell Try.underlying3 rfl pkk (Nth.s Nth.z)) ?_
  refine SJ_q rfl (want_none rfl) rfl (fun _ _ => Op_geq rfl rfl) ?_
  by_cases hl1 : lim ≤ (A.length : Int)
  ·skip
   refine SJ_done ?_
   refine NJ_then ?_
   refine CJ_env (E' := [(0, _), (3, _), (5, _), (54, _)]) (.cons rfl rfl (.cons rfl rfl (.cons rfl rfl (.cons rfl rfl .nil)))) ?_
   refine CJ_then rfl (decide_eq_true hl1) ?_
   refine CJ_seq ?_
   refine CJ_region ?_
   refine RJ_q (Op_assign rfl) rfl ?_
   refine RJ_nil ?_
   refine NJ_then ?_
   refine CJ_env (E' := [(4, _)]) (.cons rfl rfl .nil) ?_
   refine CJ_ret ?_
   refine NJ_then_r ?_
   have hU : rsetR m lim A = (false, A) := by unfold rsetR; rw [← hpos]; rw [if_neg (by rw [List.getElem?_eq_none (by omega)]; simp)]; rw [if_pos hl1]
   rw [hU]
   refine NJ_ret (.inl rfl) Try.results16 (ResJ_tmp rfl ResJ_nil) ⟨a, cap, rfl, rfl⟩ (.k (e := (.k (e := skk))))
  ·skip
   refine SJ_done ?_
   refine NJ_then ?_
   refine CJ_env (E' := [(0, _), (3, _), (5, _), (54, _)]) (.cons rfl rfl (.cons rfl rfl (.cons rfl rfl (.cons rfl rfl .nil)))) ?_
   refine CJ_else rfl (decide_eq_false hl1) ?_
   refine CJ_skip ?_
   refine NJ_then ?_
   refine CJ_env (E' := [(0, _), (3, _), (5, _)]) (.cons rfl rfl (.cons rfl rfl (.cons rfl rfl .nil))) ?_
   refine CJ_seq ?_
   refine CJ_know (Row_know (T := RkT) pkk) ?_
   intro hk8
   refine CJ_region ?_
   refine RJ_p rfl (Op_buildSlice0 (T := RkT) Try.underlying43 sz46) ?_
   rintro _ _ ⟨g55, rfl, rfl⟩
   refine RJ_q (Op_move rfl) rfl ?_
   refine RJ_q (Op_nilCheck rfl) rfl ?_
   refine RJ_q (Op_fieldAddr (o' := 0) rfl Try.underlying45 rfl sz43 rfl rfl) rfl ?_
   refine RJ_q (Op_load rfl (load_cell Try.underlying43 rfl pkk Nth.z)) rfl ?_
   refine RJ_q (Op_move rfl) rfl ?_
   refine RJ_q (Op_sliceN_hi rfl rfl Try.underlying43 sz46 (by omega)) rfl ?_
   refine RJ_p rfl (Op_append_s (T := RkT) (news := A.take i) rfl rfl pkk rfl (by simp; omega) (Reads_take i pkk) Try.underlying43 sz46 zr46 (by rfl) by46 (by simp [RkT]; omega) (by simp [maxLen]; omega)) ?_
   rintro _ _ ⟨a62, c62, rfl, rfl⟩
   refine RJ_q (Op_assign rfl) rfl ?_
   refine RJ_nil ?_
   refine NJ_then ?_
   refine CJ_env (E' := [(0, _), (3, _), (5, _), (6, _)]) (.cons rfl rfl (.cons rfl rfl (.cons rfl rfl (.cons rfl rfl .nil)))) ?_
   refine CJ_seq ?_
   refine CJ_region ?_
   refine RJ_q (Op_move rfl) rfl ?_
   refine RJ_q (Op_load rfl (load_struct (o := 0) (vs := [_, _, _]) Try.underlying46 sz46 pkk (by rfl) rfl)) rfl ?_
   refine RJ_p rfl (Op_buildRow (T := RkT) (vs := [_]) [m] rfl Try.underlying43 sz46 zr46 rfl rfl rfl rfl rfl (by rfl)) ?_
   rintro _ _ ⟨g65, rfl, rfl⟩
   refine RJ_p rfl (Op_append_s (T := RkT) (news := [m]) rfl rfl pkk rfl rfl (Reads_row pkk) Try.underlying43 sz46 zr46 (by rfl) by46 (by simp [RkT]; omega) (by simp [maxLen]; omega)) ?_
   rintro _ _ ⟨a66, c66, rfl, rfl⟩
   refine RJ_q (Op_assign rfl) rfl ?_
   refine RJ_nil ?_
   refine NJ_then ?_
   refine CJ_env (E' := [(0, _), (5, _), (6, _)]) (.cons rfl rfl (.cons rfl rfl (.cons rfl rfl .nil))) ?_
   refine CJ_seq ?_
   by_cases hna : a = none
   ·skip
    subst hna
    refine CJ_know (Row_know (T := RkT) (a := none) (xs := A) pkk) ?_
    intro hkn
    obtain ⟨hc0, hA0⟩ := hkn.2.2 rfl
    have hi0 : i = 0 := by rw [hA0] at hi; simpa using hi
    refine CJ_region ?_
    refine RJ_q (Op_move rfl) rfl ?_
    refine RJ_q (Op_move rfl) rfl ?_
    refine RJ_q (Op_move rfl) rfl ?_
    refine RJ_q (Op_nilCheck rfl) rfl ?_
    refine RJ_q (Op_fieldAddr (o' := 0) rfl Try.underlying45 rfl sz43 rfl rfl) rfl ?_
    refine RJ_q (Op_load rfl (load_cell Try.underlying43 rfl pkk Nth.z)) rfl ?_
    refine RJ_q (Op_move rfl) rfl ?_
    refine RJ_q (Op_slice_lo0 rfl rfl (by rw [hi0]; rfl) Try.underlying43 sz46) rfl ?_
    refine RJ_p rfl (Op_append_s (T := RkT) (news := A.drop i) rfl rfl pkk rfl (by simp [hi0]) (Reads_nil (by rw [hA0]; simp)) Try.underlying43 sz46 zr46 (by rfl) by46 (by simp [RkT]; omega) (by simp [maxLen]; omega)) ?_
    rintro _ _ ⟨a75, c75, rfl, rfl⟩
    refine RJ_q (Op_nilCheck rfl) rfl ?_
    refine RJ_q (Op_fieldAddr (o' := 0) rfl Try.underlying45 rfl sz43 rfl rfl) rfl ?_
    refine RJ_d0 (Op_store (cs' := #[_, _]) rfl rfl sz43 (by rfl) (by simp [Value.cells, Value.oneCell']) rpp rfl (free_zero _ _) (by rfl)) ?_
    refine RJ_nil ?_
    refine NJ_then ?_
    refine CJ_env (E' := []) .nil ?_
    refine CJ_seq ?_
    refine CJ_region ?_
    refine RJ_q (Op_assign rfl) rfl ?_
    refine RJ_nil ?_
    refine NJ_then ?_
    refine CJ_env (E' := [(4, _)]) (.cons rfl rfl .nil) ?_
    refine CJ_ret ?_
    have hU : rsetR m lim A = (true, (A.take i ++ [m] ++ A.drop i)) := by unfold rsetR; rw [← hpos]; rw [if_neg (by rw [List.getElem?_eq_none (by omega)]; simp)]; rw [if_neg hl1]
    rw [hU]
    refine NJ_ret (.inl rfl) Try.results16 (ResJ_tmp rfl ResJ_nil) ⟨some a75, c75, rfl, rfl⟩ (.k (e := (.k (e := skk))))
   ·skip
    obtain ⟨ga, rfl⟩ : ∃ ga, a = some ga := by cases a with | none => exact absurd rfl hna | some g => exact ⟨g, rfl⟩
    refine CJ_region ?_
    refine RJ_q (Op_move rfl) rfl ?_
    refine RJ_q (Op_move rfl) rfl ?_
    refine RJ_q (Op_move rfl) rfl ?_
    refine RJ_q (Op_nilCheck rfl) rfl ?_
    refine RJ_q (Op_fieldAddr (o' := 0) rfl Try.underlying45 rfl sz43 rfl rfl) rfl ?_
    refine RJ_q (Op_load rfl (load_cell Try.underlying43 rfl pkk Nth.z)) rfl ?_
    refine RJ_q (Op_move rfl) rfl ?_
    refine RJ_q (Op_sliceN_lo rfl rfl Try.underlying43 sz46 (by omega)) rfl ?_
    refine RJ_p rfl (Op_append_s (T := RkT) (news := A.drop i) rfl rfl pkk rfl (by simp) (Reads_low pkk (by omega) rfl) Try.underlying43 sz46 zr46 (by rfl) by46 (by simp [RkT]; omega) (by simp [maxLen]; omega)) ?_
    rintro _ _ ⟨a75, c75, rfl, rfl⟩
    refine RJ_q (Op_nilCheck rfl) rfl ?_
    refine RJ_q (Op_fieldAddr (o' := 0) rfl Try.underlying45 rfl sz43 rfl rfl) rfl ?_
    refine RJ_d0 (Op_store (cs' := #[_, _]) rfl rfl sz43 (by rfl) (by simp [Value.cells, Value.oneCell']) rpp rfl (free_zero _ _) (by rfl)) ?_
    refine RJ_nil ?_
    refine NJ_then ?_
    refine CJ_env (E' := []) .nil ?_
    refine CJ_seq ?_
    refine CJ_region ?_
    refine RJ_q (Op_assign rfl) rfl ?_
    refine RJ_nil ?_
    refine NJ_then ?_
    refine CJ_env (E' := [(4, _)]) (.cons rfl rfl .nil) ?_
    refine CJ_ret ?_
    have hU : rsetR m lim A = (true, (A.take i ++ [m] ++ A.drop i)) := by unfold rsetR; rw [← hpos]; rw [if_neg (by rw [List.getElem?_eq_none (by omega)]; simp)]; rw [if_neg hl1]
    rw [hU]
    refine NJ_ret (.inl rfl) Try.results16 (ResJ_tmp rfl ResJ_nil) ⟨some a75, c75, rfl, rfl⟩ (.k (e := (.k (e := skk))))
end Go.Proofs.Ytbaecpddhdeapaa.SL
