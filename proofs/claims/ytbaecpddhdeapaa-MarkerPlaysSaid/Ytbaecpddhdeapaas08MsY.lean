/- Contracts of marker, those. -/
import Derived.Test.Ytbaecpddhdeapaas08MsX
import Derived.Test.Ytbaecpddhdeapaas08Fb
namespace Go.Proofs.Ytbaecpddhdeapaa.SL
open Go Go.RowKit
set_option maxRecDepth 20000 in
theorem Those_any (g : Nat) (limit : Int) (L : List Mark) (hN : L.Nodup) (hl : L.length ≤ 1000000) (f : FuncId) (fn : Func) (cb : List Value) (F : HP) (p : Mark → Bool) (hf : Try.prog.funcs[f]? = some fn) (hb : fn.body.isSome = true) (hn : (fn.name == "runtime.NumGoroutine") = false) (hc : ∀ m, Spec Try.prog f (Value.agg #[.string m.key, .int .i64 m.ses, .int .i64 m.req] :: cb).toArray [F] fun v C => v = .bool (p m) ∧ C = [F]) : Spec Try.prog 26 #[.pointer (some ⟨g, 0, none⟩), .func (.func f) #[] cb.toArray] [MarksP g limit L, F] (fun v C => v = .int .i64 ((L.length : Int) - (restR p L).length) ∧ C = [MarksP g limit (restR p L), F]) := by
 refine Spec_intro (n := 27) (args := [.pointer (some ⟨g, 0, none⟩), .func (.func f) #[] cb.toArray]) Try.func26 rfl rfl rfl fun s R => ?_
 refine CJ_app2 ?_
 refine CJ_env (E' := [(0, _), (1, _)]) (.cons rfl rfl (.cons rfl rfl .nil)) ?_
 refine CJ_seq ?_
 refine CJ_region ?_
 refine RJ_q (Op_assign rfl) rfl ?_
 refine RJ_nil ?_
 refine NJ_then ?_
 refine CJ_env (E' := [(0, _), (1, _), (4, _)]) (.cons rfl rfl (.cons rfl rfl (.cons rfl rfl .nil))) ?_
 refine CJ_seq ?_
 refine CJ_region ?_
 refine RJ_q (Op_assign rfl) rfl ?_
 refine RJ_nil ?_
 refine NJ_then ?_
 refine CJ_env (E' := [(0, _), (1, _), (4, _), (5, _)]) (.cons rfl rfl (.cons rfl rfl (.cons rfl rfl (.cons rfl rfl .nil)))) ?_
 refine CJ_seq ?_
 refine CJ_seq ?_
 refine CJ_region ?_
 refine RJ_q (Op_move rfl) rfl ?_
 refine RJ_p rfl (Op_call (vs := [_]) Try.func10 rfl rfl (All_any g limit L hl) rfl (.k (e := (Imp.refl _)))) ?_
 rintro _ _ ⟨_, ⟨a9, c, rfl, rfl⟩, rfl⟩
 refine RJ_app2 ?_
 refine RJ_q (Op_len_slice rfl Try.underlying30) rfl ?_
 refine RJ_q (Op_move rfl) rfl ?_
 refine RJ_nil ?_
 refine NJ_then ?_
 refine CJ_env (E' := [(0, _), (1, _), (4, _), (5, _), (9, _), (10, _), (11, _)]) (.cons rfl rfl (.cons rfl rfl (.cons rfl rfl (.cons rfl rfl (.cons rfl rfl (.cons rfl rfl (.cons rfl rfl .nil))))))) ?_
 refine CJ_block ?_
 refine CJ_loop (fun E H mz => ∃ (i n : Nat) (a : Option Nat), (i ≤ (sortM L).length ∧ n + (restI p L i).length = L.length) ∧ E = [(0, .pointer (some ⟨g, 0, none⟩)), (1, .func (.func f) #[] cb.toArray), (5, .int .i64 (n : Nat)), (9, .slice (sl a) (sortM L).length c), (10, .int .i64 ((sortM L).length : Nat)), (11, .int .i64 (i : Nat))] ∧ H = [MarksP g limit (restI p L i), Row MkT a c (sortM L), F] ++ R ∧ mz = (sortM L).length - i) (E' := [(0, .pointer (some ⟨g, 0, none⟩)), (1, .func (.func f) #[] cb.toArray), (5, .int .i64 (0 : Nat)), (9, .slice (sl a9) (sortM L).length c), (10, .int .i64 ((sortM L).length : Nat)), (11, .int .i64 (0 : Nat))]) (H' := [MarksP g limit (restI p L 0), Row MkT a9 c (sortM L), F] ++ R) (m := (sortM L).length - 0) ⟨0, 0, a9, ⟨Nat.zero_le _, by rw [restI_zero]; simp⟩, rfl, rfl, rfl⟩ (.cons rfl rfl (.cons rfl rfl (.cons rfl rfl (.cons rfl rfl (.cons rfl rfl (.cons rfl rfl .nil)))))) (by rw [restI_zero]; exact (.k (e := (.k (e := (.k (e := skk))))))) ?_
 rintro _ _ _ ⟨i, n, a, ⟨hi, hnl⟩, rfl, rfl, rfl⟩
 refine CJ_app3 ?_
 refine CJ_seq ?_
 refine CJ_region ?_
 refine RJ_q (Op_lss rfl rfl) rfl ?_
 by_cases hi1 : (i : Int) < (sortM L).length
 ·skip
  obtain ⟨m, hm⟩ : ∃ m, (sortM L)[i]? = some m := ⟨(sortM L)[i], List.getElem?_eq_getElem (by omega)⟩
  refine RJ_nil ?_
  refine NJ_then ?_
  refine CJ_env (E' := [(0, _), (1, _), (5, _), (9, _), (10, _), (11, _), (12, _)]) (.cons rfl rfl (.cons rfl rfl (.cons rfl rfl (.cons rfl rfl (.cons rfl rfl (.cons rfl rfl (.cons rfl rfl .nil))))))) ?_
  refine CJ_seq ?_
  refine CJ_then rfl (decide_eq_true hi1) ?_
  refine CJ_skip ?_
  refine NJ_then ?_
  refine CJ_env (E' := [(0, _), (1, _), (5, _), (9, _), (10, _), (11, _)]) (.cons rfl rfl (.cons rfl rfl (.cons rfl rfl (.cons rfl rfl (.cons rfl rfl (.cons rfl rfl .nil)))))) ?_
  refine CJ_seq ?_
  refine CJ_block ?_
  refine CJ_seq ?_
  refine CJ_know (Row_know (T := MkT) pkk) ?_
  intro hkn
  obtain ⟨ga, rfl⟩ := row_some hkn.2.2 (by intro e; rw [e] at hm; cases hm)
  refine CJ_region ?_
  refine RJ_q (Op_indexAddr (o' := i * MkT.sz + 0) rfl rfl Try.underlying30 sz34 (by omega) (by omega) (by simp [MkT])) rfl ?_
  refine RJ_q (Op_load rfl (load_row (o := 0) (vs := [_, _, _]) Try.underlying34 sz34 pkk hm rfl (by rfl))) rfl ?_
  refine RJ_p rfl (Op_alloc zr34) ?_
  rintro _ _ ⟨b7, rfl, rfl⟩
  refine RJ_d0 (Op_store (cs' := #[_, _, _]) rfl rfl sz34 (by rfl) (by simp [Value.cells, Value.oneCell']) rpp rfl (free_zero _ _) (by rfl)) ?_
  refine RJ_nil ?_
  refine NJ_then ?_
  refine CJ_env (E' := [(0, _), (1, _), (5, _), (7, _), (9, _), (10, _), (11, _)]) (.cons rfl rfl (.cons rfl rfl (.cons rfl rfl (.cons rfl rfl (.cons rfl rfl (.cons rfl rfl (.cons rfl rfl .nil))))))) ?_
  refine CJ_seq ?_
  refine CJ_region ?_
  refine RJ_q (Op_move rfl) rfl ?_
  refine RJ_q (Op_load rfl (load_struct (o := 0) (vs := [_, _, _]) Try.underlying34 sz34 pkk (by rfl) rfl)) rfl ?_
  refine RJ_p rfl (Op_callv (vs := [_]) rfl hf hb hn (hc m) rfl (.k (e := (Imp.refl _)))) ?_
  rintro _ _ ⟨_, ⟨rfl, rfl⟩, rfl⟩
  refine RJ_app1 ?_
  by_cases hp : p m = true
  ·skip
   have hgo := restI_go hN hm hp
   have hin := restI_in (p := p) hN hm
   refine RJ_nil ?_
   refine NJ_then ?_
   refine CJ_env (E' := [(0, _), (1, _), (5, _), (7, _), (9, _), (10, _), (11, _), (17, _)]) (.cons rfl rfl (.cons rfl rfl (.cons rfl rfl (.cons rfl rfl (.cons rfl rfl (.cons rfl rfl (.cons rfl rfl (.cons rfl rfl .nil)))))))) ?_
   refine CJ_then rfl hp ?_
   refine CJ_seq ?_
   refine CJ_open (MarksP_opens _ _ _) pkk ?_
   rintro _ ⟨mm, rfl⟩
   refine CJ_app2 ?_
   refine CJ_draw (.q 0 (.q 1 (.q 2 (.q 3 (.q 4 (.e 5 .done)))))) (by kernel_rfl) (by kernel_rfl) (by kernel_rfl) ?_
   refine SJ_q rfl (want_none rfl) rfl (fun _ _ => Op_move rfl) ?_
   refine SJ_q rfl (want_none rfl) rfl (fun _ _ => Op_nilCheck rfl) ?_
   refine SJ_q rfl (want_none rfl) rfl (fun _ _ => Op_fieldAddr (o' := 1) rfl Try.underlying53 rfl sz51 rfl rfl) ?_
   refine SJ_load rfl (want_none rfl) rfl rfl (load_cell Try.underlying51 rfl pkk (Nth.s Nth.z)) ?_
   refine SJ_load rfl (want_none rfl) rfl rfl (load_struct (o := 0) (vs := [_, _, _]) Try.underlying34 sz34 pkk (by rfl) rfl) ?_
   refine SJ_d0 (rd' := []) [] rfl (want_none rfl) (Op_delete (K := KM) (k := m) rfl rfl Try.underlying51 KM_ok pkk) (by kernel_rfl) rfl trivial ?_
   rw [encM_del, ← hgo]
   refine SJ_done ?_
   refine NJ_then ?_
   refine CJ_env (E' := [(0, _), (1, _), (5, _), (9, _), (10, _), (11, _)]) (.cons rfl rfl (.cons rfl rfl (.cons rfl rfl (.cons rfl rfl (.cons rfl rfl (.cons rfl rfl .nil)))))) ?_
   refine CJ_region ?_
   refine RJ_q (Op_move rfl) rfl ?_
   refine RJ_q (Op_addN (n + 1) rfl rfl (by omega) (by have := sortM_len L; omega)) rfl ?_
   refine RJ_q (Op_assign rfl) rfl ?_
   refine RJ_nil ?_
   refine NJ_blk ?_
   refine NJ_then ?_
   refine CJ_env (E' := [(0, _), (1, _), (5, _), (9, _), (10, _), (11, _)]) (.cons rfl rfl (.cons rfl rfl (.cons rfl rfl (.cons rfl rfl (.cons rfl rfl (.cons rfl rfl .nil)))))) ?_
   refine CJ_region ?_
   refine RJ_q (Op_addN (i + 1) rfl rfl (by omega) (by have := sortM_len L; omega)) rfl ?_
   refine RJ_q (Op_move rfl) rfl ?_
   refine RJ_nil ?_
   refine NJ_back ⟨i + 1, n + 1, some ga, ⟨by omega, by rw [hgo, List.length_erase_of_mem hin]; have := List.length_pos_of_mem hin; omega⟩, rfl, rfl, rfl⟩ (by omega) (.cons rfl (by first | rfl | (simp; done)) (.cons rfl (by first | rfl | (simp; done)) (.cons rfl (by first | rfl | (simp; done)) (.cons rfl (by first | rfl | (simp; done)) (.cons rfl (by first | rfl | (simp; done)) (.cons rfl (by first | rfl | (simp; done)) .nil)))))) (.swap (C := [MkC g mm limit, Mp KM mm (encM (restI p L (i + 1)))]) (.k (e := (.k (e := (Imp.refl _))))) MarksP_close (.k (e := (.k (e := (.k (e := skk)))))))
  ·skip
   have hkeep := restI_keep hm (by simpa using hp)
   refine RJ_nil ?_
   refine NJ_then ?_
   refine CJ_env (E' := [(0, _), (1, _), (5, _), (7, _), (9, _), (10, _), (11, _), (17, _)]) (.cons rfl rfl (.cons rfl rfl (.cons rfl rfl (.cons rfl rfl (.cons rfl rfl (.cons rfl rfl (.cons rfl rfl (.cons rfl rfl .nil)))))))) ?_
   refine CJ_else rfl (by simpa using hp) ?_
   refine CJ_skip ?_
   refine NJ_blk ?_
   refine NJ_then ?_
   refine CJ_env (E' := [(0, _), (1, _), (5, _), (9, _), (10, _), (11, _)]) (.cons rfl rfl (.cons rfl rfl (.cons rfl rfl (.cons rfl rfl (.cons rfl rfl (.cons rfl rfl .nil)))))) ?_
   refine CJ_region ?_
   refine RJ_q (Op_addN (i + 1) rfl rfl (by omega) (by have := sortM_len L; omega)) rfl ?_
   refine RJ_q (Op_move rfl) rfl ?_
   refine RJ_nil ?_
   refine NJ_back ⟨i + 1, n, some ga, ⟨by omega, by rw [hkeep]; exact hnl⟩, rfl, rfl, rfl⟩ (by omega) (.cons rfl (by first | rfl | (simp; done)) (.cons rfl (by first | rfl | (simp; done)) (.cons rfl (by first | rfl | (simp; done)) (.cons rfl (by first | rfl | (simp; done)) (.cons rfl (by first | rfl | (simp; done)) (.cons rfl (by first | rfl | (simp; done)) .nil)))))) (by rw [hkeep]; exact (.k (e := (.k (e := (.k (e := skk)))))))
 ·skip
  refine RJ_nil ?_
  refine NJ_then ?_
  refine CJ_env (E' := [(0, _), (1, _), (5, _), (9, _), (10, _), (11, _), (12, _)]) (.cons rfl rfl (.cons rfl rfl (.cons rfl rfl (.cons rfl rfl (.cons rfl rfl (.cons rfl rfl (.cons rfl rfl .nil))))))) ?_
  refine CJ_seq ?_
  refine CJ_else rfl (decide_eq_false hi1) ?_
  refine CJ_exit ?_
  refine NJ_then_x ?_
  refine NJ_then_x ?_
  refine NJ_blk_hit ?_
  refine NJ_then ?_
  refine CJ_env (E' := [(5, _)]) (.cons rfl rfl .nil) ?_
  refine CJ_seq ?_
  refine CJ_region ?_
  refine RJ_q (Op_move rfl) rfl ?_
  refine RJ_q (Op_assign rfl) rfl ?_
  refine RJ_nil ?_
  refine NJ_then ?_
  refine CJ_env (E' := [(4, _)]) (.cons rfl rfl .nil) ?_
  refine CJ_ret ?_
  have hie : i = (sortM L).length := by omega
  subst hie
  rw [restI_all] at hnl ⊢
  refine NJ_ret (.inl rfl) Try.results26 (ResJ_tmp rfl ResJ_nil) ⟨by simp only [packRes]; congr 1; omega, rfl⟩ (.k (e := (.k (e := skk))))
end Go.Proofs.Ytbaecpddhdeapaa.SL
