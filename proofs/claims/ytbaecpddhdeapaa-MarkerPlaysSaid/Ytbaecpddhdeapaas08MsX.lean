/- Contracts of marker, all. -/
import Derived.Test.Ytbaecpddhdeapaas08MsE
import Derived.Test.Ytbaecpddhdeapaas08Fb
namespace Go.Proofs.Ytbaecpddhdeapaa.SL
open Go Go.RowKit
set_option maxRecDepth 20000 in
theorem All_any (g : Nat) (limit : Int) (L : List Mark) (hl : L.length ≤ 1000000) : Spec Try.prog 10 #[.pointer (some ⟨g, 0, none⟩)] [MarksP g limit L] (fun v C => ∃ a cap, v = .slice (sl a) (sortM L).length cap ∧ C = [MarksP g limit L, Row MkT a cap (sortM L)]) := by
 refine Spec_intro (n := 23) (args := [.pointer (some ⟨g, 0, none⟩)]) Try.func10 rfl rfl rfl fun s R => ?_
 refine CJ_app1 ?_
 refine CJ_env (E' := [(0, _)]) (.cons rfl rfl .nil) ?_
 refine CJ_open (MarksP_opens _ _ _) pkk ?_
 rintro _ ⟨mm, rfl⟩
 refine CJ_app2 ?_
 refine CJ_seq ?_
 refine CJ_region ?_
 refine RJ_q (Op_assign rfl) rfl ?_
 refine RJ_nil ?_
 refine NJ_then ?_
 refine CJ_env (E' := [(0, _), (2, _)]) (.cons rfl rfl (.cons rfl rfl .nil)) ?_
 refine CJ_seq ?_
 refine CJ_region ?_
 refine RJ_q (Op_assign rfl) rfl ?_
 refine RJ_nil ?_
 refine NJ_then ?_
 refine CJ_env (E' := [(0, _), (2, _), (3, _)]) (.cons rfl rfl (.cons rfl rfl (.cons rfl rfl .nil))) ?_
 refine CJ_seq ?_
 refine CJ_seq ?_
 refine CJ_region ?_
 refine RJ_q (Op_move rfl) rfl ?_
 refine RJ_q (Op_ptr_eq_nil rfl rfl Try.underlying24) rfl ?_
 refine RJ_nil ?_
 refine NJ_then ?_
 refine CJ_env (E' := [(0, _), (2, _), (3, _), (6, _)]) (.cons rfl rfl (.cons rfl rfl (.cons rfl rfl (.cons rfl rfl .nil)))) ?_
 refine CJ_else rfl rfl ?_
 refine CJ_skip ?_
 refine NJ_then ?_
 refine CJ_env (E' := [(0, _), (2, _), (3, _)]) (.cons rfl rfl (.cons rfl rfl (.cons rfl rfl .nil))) ?_
 refine CJ_seq ?_
 refine CJ_seq ?_
 refine CJ_region ?_
 refine RJ_q (Op_move rfl) rfl ?_
 refine RJ_q (Op_nilCheck rfl) rfl ?_
 refine RJ_q (Op_fieldAddr (o' := 1) rfl Try.underlying53 rfl sz51 rfl rfl) rfl ?_
 refine RJ_q (Op_load rfl (load_cell Try.underlying51 rfl pkk (Nth.s Nth.z))) rfl ?_
 refine RJ_p rfl (Op_range (K := KM) rfl Try.underlying51 pkk) ?_
 rintro _ _ ⟨g11, rfl, rfl⟩
 rw [encM_keys]
 refine RJ_nil ?_
 refine NJ_then ?_
 refine CJ_env (E' := [(2, _), (3, _), (11, _)]) (.cons rfl rfl (.cons rfl rfl (.cons rfl rfl .nil))) ?_
 refine CJ_block ?_
 refine CJ_loop (fun E H mz => ∃ (todo out : List Mark) (cur : Option (Mark × Value)) (a : Option Nat) (c : Nat), ((out ++ todo).Perm L) ∧ E = [(3, .slice (sl a) out.length c), (11, .pointer (some ⟨g11, 0, none⟩))] ∧ H = [MkC g mm limit, ItP KM mm g11 (encM L) todo cur, Row MkT a c out] ++ R ∧ mz = todo.length) (E' := [(3, .slice (sl none) ([] : List Mark).length 0), (11, .pointer (some ⟨g11, 0, none⟩))]) (H' := [MkC g mm limit, ItP KM mm g11 (encM L) L none, Row MkT none 0 []] ++ R) (m := L.length) ⟨L, [], none, none, 0, List.Perm.refl _, rfl, rfl, rfl⟩ (.cons rfl rfl (.cons rfl rfl .nil)) (.trans (Row_none MkT).imp_add (.k (e := (.k (e := (.k (e := skk))))))) ?_
 rintro _ _ _ ⟨todo, out, cur, a, c, hp, rfl, rfl, rfl⟩
 refine CJ_app3 ?_
 have hpl := hp.length_eq
 simp only [List.length_append] at hpl
 refine CJ_seq ?_
 by_cases ht : todo = []
 ·skip
  subst ht
  refine CJ_region ?_
  refine RJ_q (Op_next_done rfl pkk) rfl ?_
  refine RJ_q (Op_extract rfl rfl) rfl ?_
  refine RJ_nil ?_
  refine NJ_then ?_
  refine CJ_env (E' := [(3, _), (11, _), (13, _)]) (.cons rfl rfl (.cons rfl rfl (.cons rfl rfl .nil))) ?_
  refine CJ_seq ?_
  refine CJ_else rfl rfl ?_
  refine CJ_exit ?_
  refine NJ_then_x ?_
  refine NJ_then_x ?_
  refine NJ_blk_hit ?_
  refine NJ_then ?_
  refine CJ_env (E' := [(3, _)]) (.cons rfl rfl .nil) ?_
  refine CJ_seq ?_
  rw [List.append_nil] at hp
  refine CJ_imp (.swap (C := [ItP KM mm g11 (encM L) [] cur]) (.k (e := (Imp.refl _))) ItP_end (.refl _)) (CJ_app1 ?_)
  refine CJ_region ?_
  refine RJ_q (Op_move rfl) rfl ?_
  refine RJ_p rfl (Op_call (vs := [_, _]) Try.func21 rfl rfl (SortM_any a c out (by simp at hpl; omega)) rfl (.k (e := (Imp.refl _)))) ?_
  rintro _ _ ⟨_, ⟨rfl, rfl⟩, rfl⟩
  refine RJ_app1 ?_
  refine RJ_nil ?_
  refine NJ_then ?_
  refine CJ_env (E' := [(3, _)]) (.cons rfl rfl .nil) ?_
  refine CJ_seq ?_
  refine CJ_region ?_
  refine RJ_q (Op_move rfl) rfl ?_
  refine RJ_q (Op_assign rfl) rfl ?_
  refine RJ_nil ?_
  refine NJ_then ?_
  refine CJ_env (E' := [(2, _)]) (.cons rfl rfl .nil) ?_
  refine CJ_ret ?_
  have hso : sortM out = sortM L := sortM_unique hp
  have hlo : out.length = (sortM L).length := by rw [sortM_len]; exact hp.length_eq
  rw [hso, hlo]
  refine NJ_ret (.inl rfl) Try.results10 (ResJ_tmp rfl ResJ_nil) ⟨a, c, rfl, rfl⟩ (.swap (C := [MkC g mm limit, Mp KM mm (encM L)]) (.k (e := (.k (e := (Imp.refl _))))) MarksP_close (.k (e := (.k (e := skk)))))
 ·skip
  refine CJ_region ?_
  refine RJ_p rfl (Op_next_more rfl ht pkk) ?_
  rintro _ _ ⟨j, k, u, hj, hku, rfl, rfl⟩
  have hlt : (todo.eraseIdx j).length < todo.length := by have := (List.getElem?_eq_some_iff.1 hj).1; rw [List.length_eraseIdx_of_lt this]; omega
  have hj1 := (List.getElem?_eq_some_iff.1 hj).1
  refine RJ_q (Op_extract rfl rfl) rfl ?_
  refine RJ_nil ?_
  refine NJ_then ?_
  refine CJ_env (E' := [(3, _), (11, _), (13, _)]) (.cons rfl rfl (.cons rfl rfl (.cons rfl rfl .nil))) ?_
  refine CJ_seq ?_
  refine CJ_then rfl rfl ?_
  refine CJ_skip ?_
  refine NJ_then ?_
  refine CJ_env (E' := [(3, _), (11, _)]) (.cons rfl rfl (.cons rfl rfl .nil)) ?_
  refine CJ_block ?_
  refine CJ_seq ?_
  refine CJ_region ?_
  refine RJ_q (Op_entry rfl pkk) rfl ?_
  refine RJ_q (Op_extract rfl rfl) rfl ?_
  refine RJ_p rfl (Op_alloc zr34) ?_
  rintro _ _ ⟨b4, rfl, rfl⟩
  refine RJ_d0 (Op_store (cs' := #[_, _, _]) rfl rfl sz34 (by rfl) (by simp [KM, markV, Value.cells, Value.oneCell']) rpp rfl (free_zero _ _) (by rfl)) ?_
  refine RJ_nil ?_
  refine NJ_then ?_
  refine CJ_env (E' := [(3, _), (4, _), (11, _)]) (.cons rfl rfl (.cons rfl rfl (.cons rfl rfl .nil))) ?_
  refine CJ_region ?_
  refine RJ_q (Op_move rfl) rfl ?_
  refine RJ_q (Op_load rfl (load_struct (o := 0) (vs := [_, _, _]) Try.underlying34 sz34 pkk (by rfl) rfl)) rfl ?_
  refine RJ_p rfl (Op_buildRow (T := MkT) (vs := [_]) [k] rfl Try.underlying30 sz34 zr34 rfl rfl rfl rfl rfl (by rfl)) ?_
  rintro _ _ ⟨g18, rfl, rfl⟩
  refine RJ_p rfl (Op_append (T := MkT) (news := [k]) rfl rfl pkk rfl (by simp) (Reads_row pkk) Try.underlying30 sz34 zr34 (by rfl) by34 (by simp [MkT]; omega) (by simp [maxLen]; omega)) ?_
  rintro _ _ ⟨a19, c19, rfl, rfl⟩
  refine RJ_q (Op_assign rfl) rfl ?_
  refine RJ_nil ?_
  refine NJ_blk ?_
  refine NJ_back ⟨todo.eraseIdx j, out ++ [k], some (k, u), a19, c19, erase_perm hp hj, rfl, rfl, rfl⟩ hlt (.cons rfl (by first | rfl | (simp; done)) (.cons rfl (by first | rfl | (simp; done)) .nil)) (.k (e := (.k (e := (.k (e := skk))))))
end Go.Proofs.Ytbaecpddhdeapaa.SL
