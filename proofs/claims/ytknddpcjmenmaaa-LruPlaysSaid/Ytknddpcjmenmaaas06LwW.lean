/- Contracts of law06. -/
import Derived.Test.Ytknddpcjmenmaaas06LwD
import Derived.Test.Ytknddpcjmenmaaas06Facts
namespace Go.Proofs.Ytknddpcjmenmaaa.SL
open Go Go.RowKit
set_option maxRecDepth 20000 in
theorem awake_any  : Spec Try.prog 4 #[] [] (fun v C => v = .bool true ∧ C = []) := by
  refine Spec_intro (n := 35) (args := []) Try.func4 rfl rfl rfl fun s R => ?_
  refine CJ_app0 ?_
  refine CJ_env (E' := []) .nil ?_
  refine CJ_seq ?_
  refine CJ_region ?_
  refine RJ_q (Op_assign rfl) rfl ?_
  refine RJ_nil ?_
  refine NJ_then ?_
  refine CJ_env (E' := [(0, _)]) (.cons rfl rfl .nil) ?_
  refine CJ_seq ?_
  refine CJ_region ?_
  refine RJ_p rfl (Op_call (vs := [_]) Try.func5 rfl rfl (New_any 10) rfl (Imp.refl _)) ?_
  rintro _ _ ⟨_, ⟨g, rfl, rfl⟩, rfl⟩
  refine RJ_app1 ?_
  rw [show max (10 : Int) 0 = 10 from by decide]
  refine RJ_q (Op_assign rfl) rfl ?_
  refine RJ_nil ?_
  refine NJ_then ?_
  refine CJ_env (E' := [(0, _), (1, _)]) (.cons rfl rfl (.cons rfl rfl .nil)) ?_
  refine CJ_seq ?_
  refine CJ_seq ?_
  refine CJ_region ?_
  refine RJ_q (Op_move rfl) rfl ?_
  refine RJ_q (Op_ptr_eq_nil rfl rfl Try.underlying24) rfl ?_
  refine RJ_nil ?_
  refine NJ_then ?_
  refine CJ_env (E' := [(0, _), (1, _), (6, _)]) (.cons rfl rfl (.cons rfl rfl (.cons rfl rfl .nil))) ?_
  refine CJ_else rfl rfl ?_
  refine CJ_skip ?_
  refine NJ_then ?_
  refine CJ_env (E' := [(0, _), (1, _)]) (.cons rfl rfl (.cons rfl rfl .nil)) ?_
  refine CJ_seq ?_
  refine CJ_region ?_
  refine RJ_q (Op_move rfl) rfl ?_
  refine RJ_p rfl (Op_call (vs := [_, _, _, _]) Try.func6 rfl rfl (Put_any g [] 10 0 la0 ⟨#[97]⟩ 4 1 (by decide) (by decide)) rfl (.cons (by first | ((repeat (first | with_reducible exact .here | apply Pick.there)); done) | ((repeat (first | exact .here | apply Pick.there)); done)) (Imp.refl _))) ?_
  rintro _ _ ⟨_, ⟨a8, c8, rfl, rfl⟩, rfl⟩
  refine RJ_app2 ?_
  rw [pa1]
  refine RJ_nil ?_
  refine NJ_then ?_
  refine CJ_env (E' := [(0, _), (1, _)]) (.cons rfl rfl (.cons rfl rfl .nil)) ?_
  refine CJ_seq ?_
  refine CJ_region ?_
  refine RJ_q (Op_move rfl) rfl ?_
  refine RJ_p rfl (Op_call (vs := [_, _, _, _]) Try.func6 rfl rfl (Put_any g _ 10 0 la1 ⟨#[98]⟩ 4 2 (by decide) (by decide)) rfl (.cons (by first | ((repeat (first | with_reducible exact .here | apply Pick.there)); done) | ((repeat (first | exact .here | apply Pick.there)); done)) (Imp.refl _))) ?_
  rintro _ _ ⟨_, ⟨a10, c10, rfl, rfl⟩, rfl⟩
  refine RJ_app2 ?_
  rw [pa2]
  refine RJ_nil ?_
  refine NJ_then ?_
  refine CJ_env (E' := [(0, _), (1, _)]) (.cons rfl rfl (.cons rfl rfl .nil)) ?_
  refine CJ_seq ?_
  refine CJ_region ?_
  refine RJ_q (Op_move rfl) rfl ?_
  refine RJ_p rfl (Op_call (vs := [_, _]) Try.func10 rfl rfl (Get_yes g _ 10 0 la2 ⟨#[97]⟩ _ pa3) rfl (.cons (by first | ((repeat (first | with_reducible exact .here | apply Pick.there)); done) | ((repeat (first | exact .here | apply Pick.there)); done)) (Imp.refl _))) ?_
  rintro _ _ ⟨_, ⟨rfl, rfl⟩, rfl⟩
  refine RJ_app1 ?_
  rw [pa4]
  refine RJ_nil ?_
  refine NJ_then ?_
  refine CJ_env (E' := [(0, _), (1, _)]) (.cons rfl rfl (.cons rfl rfl .nil)) ?_
  refine CJ_seq ?_
  refine CJ_region ?_
  refine RJ_q (Op_move rfl) rfl ?_
  refine RJ_p rfl (Op_call (vs := [_, _, _, _]) Try.func6 rfl rfl (Put_any g _ 10 0 la3 ⟨#[99]⟩ 4 3 (by decide) (by decide)) rfl (.cons (by first | ((repeat (first | with_reducible exact .here | apply Pick.there)); done) | ((repeat (first | exact .here | apply Pick.there)); done)) (Imp.refl _))) ?_
  rintro _ _ ⟨_, ⟨a15, c15, rfl, rfl⟩, rfl⟩
  refine RJ_app2 ?_
  rw [pa5]
  refine RJ_know (Row_know (T := StrT) (a := a15) (by first | ((repeat (first | with_reducible exact .here | apply Pick.there)); done) | ((repeat (first | exact .here | apply Pick.there)); done))) ?_
  intro hkn
  obtain ⟨ga, rfl⟩ := sliceNil hkn.2.2 (i := 0) (x := ⟨#[98]⟩) rfl
  refine RJ_q (Op_move rfl) rfl ?_
  refine RJ_q (Op_extract rfl rfl) rfl ?_
  refine RJ_q (Op_extract rfl rfl) rfl ?_
  refine RJ_q (Op_assign rfl) rfl ?_
  refine RJ_q (Op_assign rfl) rfl ?_
  refine RJ_nil ?_
  refine NJ_then ?_
  refine CJ_env (E' := [(0, _), (1, _), (2, _), (3, _)]) (.cons rfl rfl (.cons rfl rfl (.cons rfl rfl (.cons rfl rfl .nil)))) ?_
  refine CJ_seq ?_
  refine CJ_region ?_
  refine RJ_q (Op_move rfl) rfl ?_
  refine RJ_q (Op_move rfl) rfl ?_
  refine RJ_yes (t := 19) rfl rfl rfl ?_
  refine RJ_q (Op_move rfl) rfl ?_
  refine RJ_yes (t := 19) rfl rfl rfl ?_
  refine RJ_q (Op_len_slice rfl Try.underlying32) rfl ?_
  refine RJ_yes (t := 19) rfl rfl rfl ?_
  refine RJ_q (Op_eql rfl rfl) rfl ?_
  refine RJ_q (Op_pick_t rfl rfl rfl) rfl ?_
  refine RJ_q (Op_move rfl) rfl ?_
  refine RJ_yes (t := 24) rfl rfl (by decide) ?_
  refine RJ_q (Op_move rfl) rfl ?_
  refine RJ_yes (t := 24) rfl rfl (by decide) ?_
  refine RJ_q (Op_indexAddr (o' := 0 * StrT.sz + 0) rfl rfl Try.underlying32 sz9 (by decide) (by decide) (by simp [StrT])) rfl ?_
  refine RJ_yes (t := 24) rfl rfl (by decide) ?_
  refine RJ_q (Op_load rfl (load_row_cell (o := 0) Try.underlying9 rfl (by first | ((repeat (first | with_reducible exact .here | apply Pick.there)); done) | ((repeat (first | exact .here | apply Pick.there)); done)) (x := ⟨#[98]⟩) rfl Nth.z)) rfl ?_
  refine RJ_yes (t := 24) rfl rfl (by decide) ?_
  refine RJ_q (Op_str_eql rfl rfl) rfl ?_
  refine RJ_q (Op_pick_t rfl (by decide) rfl) rfl ?_
  refine RJ_q (Op_move rfl) rfl ?_
  refine RJ_yes (t := 30) rfl rfl (by decide) ?_
  refine RJ_q (Op_move rfl) rfl ?_
  refine RJ_yes (t := 30) rfl rfl (by decide) ?_
  refine RJ_p rfl (Op_call (vs := [_]) Try.func19 rfl rfl (Used_any g _ 10 0 la4) rfl (.cons (by first | ((repeat (first | with_reducible exact .here | apply Pick.there)); done) | ((repeat (first | exact .here | apply Pick.there)); done)) (Imp.refl _))) ?_
  rintro _ _ ⟨_, ⟨rfl, rfl⟩, rfl⟩
  refine RJ_app1 ?_
  refine RJ_yes (t := 30) rfl rfl (by decide) ?_
  refine RJ_q (Op_eql rfl rfl) rfl ?_
  refine RJ_q (Op_pick_t rfl (by decide) rfl) rfl ?_
  refine RJ_q (Op_assign rfl) rfl ?_
  refine RJ_nil ?_
  refine NJ_then ?_
  refine CJ_env (E' := [(0, _)]) (.cons rfl rfl .nil) ?_
  refine CJ_ret ?_
  refine NJ_ret (.inl rfl) Try.results4 (ResJ_tmp rfl ResJ_nil) (C := []) ⟨rfl, rfl⟩ (by repeat (first | exact Imp.refl _ | refine Imp.skip ?_))

set_option maxRecDepth 20000 in
set_option maxHeartbeats 8000000 in
theorem LruPlays_any (W : World) (room : Int) (hroom : -9223372036854775808 ≤ room ∧ room ≤ 9223372036854775807) (a : Option Addr) (cap : Nat) (ops : List OpG) (hS : ScriptAt W a ops) (hl : ops.length ≤ 9223372036854775807) : Spec Try.prog 3 #[.int .i64 room, .slice a ops.length cap] [old W] (fun v C => v = .bool true ∧ C = [old W]) := by
  refine Spec_intro (n := 195) (args := [.int .i64 room, .slice a ops.length cap]) Try.func3 rfl rfl rfl fun s R => ?_
  refine CJ_app1 ?_
  refine CJ_env (E' := [(0, _), (1, _)]) (.cons rfl rfl (.cons rfl rfl .nil)) ?_
  refine CJ_seq ?_
  refine CJ_region ?_
  refine RJ_q (Op_assign rfl) rfl ?_
  refine RJ_nil ?_
  refine NJ_then ?_
  refine CJ_env (E' := [(0, _), (1, _), (4, _)]) (.cons rfl rfl (.cons rfl rfl (.cons rfl rfl .nil))) ?_
  refine CJ_seq ?_
  refine CJ_seq ?_
  refine CJ_region ?_
  refine RJ_p rfl (Op_call (vs := []) Try.func4 rfl rfl (awake_any) rfl (Imp.refl _)) ?_
  rintro _ _ ⟨_, ⟨rfl, rfl⟩, rfl⟩
  refine RJ_app0 ?_
  refine RJ_q (Op_not rfl) rfl ?_
  refine RJ_nil ?_
  refine NJ_then ?_
  refine CJ_env (E' := [(0, _), (1, _), (4, _), (23, _)]) (.cons rfl rfl (.cons rfl rfl (.cons rfl rfl (.cons rfl rfl .nil)))) ?_
  refine CJ_else rfl rfl ?_
  refine CJ_skip ?_
  refine NJ_then ?_
  refine CJ_env (E' := [(0, _), (1, _), (4, _)]) (.cons rfl rfl (.cons rfl rfl (.cons rfl rfl .nil))) ?_
  refine CJ_seq ?_
  refine CJ_region ?_
  refine RJ_q (Op_move rfl) rfl ?_
  refine RJ_p rfl (Op_call (vs := [_]) Try.func5 rfl rfl (New_any room) rfl (Imp.refl _)) ?_
  rintro _ _ ⟨_, ⟨gc, rfl, rfl⟩, rfl⟩
  refine RJ_app1 ?_
  refine RJ_q (Op_move rfl) rfl ?_
  refine RJ_q (Op_max rfl rfl) rfl ?_
  refine RJ_q (Op_build (vs := [_]) (cells := [_, _, _]) Try.underlying29 zr29 rfl pl29 (by rfl)) rfl ?_
  refine RJ_p rfl (Op_box rfl) ?_
  rintro _ _ ⟨b29, rfl, rfl⟩
  obtain ⟨gr, rfl⟩ : ∃ gr, gr = b29 := ⟨_, rfl⟩
  refine RJ_imp (RCacheP_new gr (max room 0) _) ?_
  refine RJ_q (Op_assign rfl) rfl ?_
  refine RJ_q (Op_assign rfl) rfl ?_
  refine RJ_nil ?_
  refine NJ_then ?_
  refine CJ_env (E' := [(1, _), (4, _), (5, _), (6, _)]) (.cons rfl rfl (.cons rfl rfl (.cons rfl rfl (.cons rfl rfl .nil)))) ?_
  refine CJ_seq ?_
  refine CJ_seq ?_
  refine CJ_region ?_
  refine RJ_q (Op_assign rfl) rfl ?_
  refine RJ_nil ?_
  refine NJ_then ?_
  refine CJ_env (E' := [(1, _), (4, _), (5, _), (6, _), (7, _)]) (.cons rfl rfl (.cons rfl rfl (.cons rfl rfl (.cons rfl rfl (.cons rfl rfl .nil))))) ?_
  refine CJ_block ?_
  refine CJ_loop (fun E H m => ∃ (i : Nat) (L : List It) (kept : Int), (i ≤ ops.length ∧ i ≤ 200 ∧ L.length ≤ i ∧ LOk L (max room 0) kept) ∧ E = [(1, .slice a ops.length cap), (5, .pointer (some ⟨gc, 0, none⟩)), (6, .pointer (some ⟨gr, 0, none⟩)), (7, .int .i64 (i : Int))] ∧ H = [CacheP gc L (max room 0) kept, RCacheP gr L (max room 0) kept, old W] ++ R ∧ m = ops.length - i) (E' := [(1, .slice a ops.length cap), (5, .pointer (some ⟨gc, 0, none⟩)), (6, .pointer (some ⟨gr, 0, none⟩)), (7, .int .i64 (0 : Nat))]) (H' := [CacheP gc [] (max room 0) 0, RCacheP gr [] (max room 0) 0, old W] ++ R) (m := ops.length - 0) ⟨0, [], 0, ⟨by omega, by omega, by simp, .nil (by decide) (by omega) (by omega)⟩, rfl, rfl, rfl⟩ (.cons rfl rfl (.cons rfl rfl (.cons rfl rfl (.cons rfl rfl .nil)))) (.cons (by first | ((repeat (first | with_reducible exact .here | apply Pick.there)); done) | ((repeat (first | exact .here | apply Pick.there)); done)) (.cons (by first | ((repeat (first | with_reducible exact .here | apply Pick.there)); done) | ((repeat (first | exact .here | apply Pick.there)); done)) (.cons (by first | ((repeat (first | with_reducible exact .here | apply Pick.there)); done) | ((repeat (first | exact .here | apply Pick.there)); done)) (by repeat (first | exact Imp.refl _ | refine Imp.skip ?_))))) ?_
  rintro _ _ _ ⟨i, L, kept, ⟨hi1, hi2, hq1, hI⟩, rfl, rfl, rfl⟩
  refine CJ_app3 ?_
  refine CJ_seq ?_
  refine CJ_seq ?_
  refine CJ_region ?_
  refine RJ_q (Op_move rfl) rfl ?_
  refine RJ_q (Op_move rfl) rfl ?_
  refine RJ_q (Op_len_slice rfl Try.underlying22) rfl ?_
  refine RJ_q (Op_lss rfl rfl) rfl ?_
  by_cases h0 : (i : Int) < ops.length
  · skip
    refine RJ_q (Op_move rfl) rfl ?_
    refine RJ_yes (t := 34) rfl rfl (decide_eq_true h0) ?_
    refine RJ_q (Op_move rfl) rfl ?_
    refine RJ_yes (t := 34) rfl rfl (decide_eq_true h0) ?_
    refine RJ_q (Op_lss rfl rfl) rfl ?_
    by_cases h1 : (i : Int) < 200
    · skip
      refine RJ_q (Op_pick_t rfl (decide_eq_true h0) rfl) rfl ?_
      refine RJ_nil ?_
      refine NJ_then ?_
      refine CJ_env (E' := [(1, _), (5, _), (6, _), (7, _), (30, _), (31, _), (32, _), (33, _), (34, _), (35, _), (36, _), (37, _)]) (.cons rfl rfl (.cons rfl rfl (.cons rfl rfl (.cons rfl rfl (.cons rfl rfl (.cons rfl rfl (.cons rfl rfl (.cons rfl rfl (.cons rfl rfl (.cons rfl rfl (.cons rfl rfl (.cons rfl rfl .nil)))))))))))) ?_
      refine CJ_then rfl (decide_eq_true h1) ?_
      refine CJ_skip ?_
      refine NJ_then ?_
      refine CJ_env (E' := [(1, _), (5, _), (6, _), (7, _), (30, _), (31, _), (32, _), (33, _), (34, _), (35, _), (36, _), (37, _)]) (.cons rfl rfl (.cons rfl rfl (.cons rfl rfl (.cons rfl rfl (.cons rfl rfl (.cons rfl rfl (.cons rfl rfl (.cons rfl rfl (.cons rfl rfl (.cons rfl rfl (.cons rfl rfl (.cons rfl rfl .nil)))))))))))) ?_
      refine CJ_seq ?_
      refine CJ_block ?_
      refine CJ_seq ?_
      refine CJ_region ?_
      refine RJ_q (Op_move rfl) rfl ?_
      refine RJ_q (Op_move rfl) rfl ?_
      have hlti : i < ops.length := by omega
      obtain ⟨o, ho⟩ : ∃ o, ops[i]? = some o := ⟨ops[i], List.getElem?_eq_getElem hlti⟩
      obtain ⟨pa, hpa, hcells, hosz⟩ := hS i o ho
      obtain ⟨ok, okey, osz, on⟩ := o
      simp only at hosz
      refine RJ_q (Op_indexOld rfl hpa rfl Try.underlying22 sz31 hlti) rfl ?_
      refine RJ_q (Op_load rfl (load_old_struct (vs := [.int .i64 ok, .string okey, .int .i64 osz, .int .i64 on]) Try.underlying31 sz31 (by first | ((repeat (first | with_reducible exact .here | apply Pick.there)); done) | ((repeat (first | exact .here | apply Pick.there)); done)) rfl hcells)) rfl ?_
      refine RJ_p rfl (Op_alloc zr31) ?_
      rintro _ _ ⟨b8, rfl, rfl⟩
      refine RJ_d0 (Op_store (cs' := #[_, _, _, _]) rfl rfl sz31 (by rfl) (by simp [Value.cells, Value.oneCell']) (by repeat (first | exact .here | apply Repl.there)) rfl (free_zero _ _) (by rfl)) ?_
      refine RJ_nil ?_
      refine NJ_then ?_
      refine CJ_env (E' := [(1, _), (5, _), (6, _), (7, _), (8, _), (30, _), (31, _), (32, _), (33, _), (34, _), (35, _), (36, _), (37, _), (40, _), (41, _), (42, _), (43, _)]) (.cons rfl rfl (.cons rfl rfl (.cons rfl rfl (.cons rfl rfl (.cons rfl rfl (.cons rfl rfl (.cons rfl rfl (.cons rfl rfl (.cons rfl rfl (.cons rfl rfl (.cons rfl rfl (.cons rfl rfl (.cons rfl rfl (.cons rfl rfl (.cons rfl rfl (.cons rfl rfl (.cons rfl rfl .nil))))))))))))))))) ?_
      refine CJ_seq ?_
      refine CJ_region ?_
      refine RJ_q (Op_assign rfl) rfl ?_
      refine RJ_nil ?_
      refine NJ_then ?_
      refine CJ_env (E' := [(1, _), (5, _), (6, _), (7, _), (8, _), (9, _), (30, _), (31, _), (32, _), (33, _), (34, _), (35, _), (36, _), (37, _), (40, _), (41, _), (42, _), (43, _)]) (.cons rfl rfl (.cons rfl rfl (.cons rfl rfl (.cons rfl rfl (.cons rfl rfl (.cons rfl rfl (.cons rfl rfl (.cons rfl rfl (.cons rfl rfl (.cons rfl rfl (.cons rfl rfl (.cons rfl rfl (.cons rfl rfl (.cons rfl rfl (.cons rfl rfl (.cons rfl rfl (.cons rfl rfl (.cons rfl rfl .nil)))))))))))))))))) ?_
      refine CJ_meet (fun E H => ∃ (L2 : List It) (kept2 : Int), (LOk L2 (max room 0) kept2 ∧ L2.length ≤ i + 1) ∧ E = [(1, .slice a ops.length cap), (5, .pointer (some ⟨gc, 0, none⟩)), (6, .pointer (some ⟨gr, 0, none⟩)), (7, .int .i64 (i : Int)), (9, .bool true)] ∧ H = [CacheP gc L2 (max room 0) kept2, RCacheP gr L2 (max room 0) kept2, old W] ++ R) ?_ ?_
      · skip
        refine CJ_seq ?_
        refine CJ_region ?_
        refine RJ_q (Op_fieldAddr (o' := 0) rfl Try.underlying31 rfl sz3 rfl rfl) rfl ?_
        refine RJ_q (Op_load rfl (load_cell Try.underlying3 rfl (by first | ((repeat (first | with_reducible exact .here | apply Pick.there)); done) | ((repeat (first | exact .here | apply Pick.there)); done)) Nth.z)) rfl ?_
        refine RJ_nil ?_
        refine NJ_then ?_
        refine CJ_env (E' := [(1, _), (5, _), (6, _), (7, _), (8, _), (9, _), (30, _), (31, _), (32, _), (33, _), (34, _), (35, _), (36, _), (37, _), (40, _), (41, _), (42, _), (43, _), (44, _), (45, _)]) (.cons rfl rfl (.cons rfl rfl (.cons rfl rfl (.cons rfl rfl (.cons rfl rfl (.cons rfl rfl (.cons rfl rfl (.cons rfl rfl (.cons rfl rfl (.cons rfl rfl (.cons rfl rfl (.cons rfl rfl (.cons rfl rfl (.cons rfl rfl (.cons rfl rfl (.cons rfl rfl (.cons rfl rfl (.cons rfl rfl (.cons rfl rfl (.cons rfl rfl .nil)))))))))))))))))))) ?_
        refine CJ_block ?_
        refine CJ_seq ?_
        refine CJ_region ?_
        refine RJ_q (Op_eql rfl rfl) rfl ?_
        by_cases k0 : ok = 0
        · skip
          refine RJ_q (Op_assign rfl) rfl ?_
          refine RJ_nil ?_
          refine NJ_then ?_
          refine CJ_env (E' := [(1, _), (5, _), (6, _), (7, _), (8, _), (9, _), (30, _), (31, _), (32, _), (33, _), (34, _), (35, _), (36, _), (37, _), (40, _), (41, _), (42, _), (43, _), (44, _), (45, _), (46, _), (47, _)]) (.cons rfl rfl (.cons rfl rfl (.cons rfl rfl (.cons rfl rfl (.cons rfl rfl (.cons rfl rfl (.cons rfl rfl (.cons rfl rfl (.cons rfl rfl (.cons rfl rfl (.cons rfl rfl (.cons rfl rfl (.cons rfl rfl (.cons rfl rfl (.cons rfl rfl (.cons rfl rfl (.cons rfl rfl (.cons rfl rfl (.cons rfl rfl (.cons rfl rfl (.cons rfl rfl (.cons rfl rfl .nil)))))))))))))))))))))) ?_
          refine CJ_then rfl (decide_eq_true k0) ?_
          refine CJ_seq ?_
          refine CJ_region ?_
          refine RJ_q (Op_move rfl) rfl ?_
          refine RJ_q (Op_fieldAddr (o' := 1) rfl Try.underlying31 rfl sz9 rfl rfl) rfl ?_
          refine RJ_q (Op_load rfl (load_cell Try.underlying9 rfl (by first | ((repeat (first | with_reducible exact .here | apply Pick.there)); done) | ((repeat (first | exact .here | apply Pick.there)); done)) (Nth.s Nth.z))) rfl ?_
          refine RJ_q (Op_fieldAddr (o' := 2) rfl Try.underlying31 rfl sz3 rfl rfl) rfl ?_
          refine RJ_q (Op_load rfl (load_cell Try.underlying3 rfl (by first | ((repeat (first | with_reducible exact .here | apply Pick.there)); done) | ((repeat (first | exact .here | apply Pick.there)); done)) (Nth.s (Nth.s Nth.z)))) rfl ?_
          refine RJ_q (Op_fieldAddr (o' := 3) rfl Try.underlying31 rfl sz3 rfl rfl) rfl ?_
          refine RJ_q (Op_load rfl (load_cell Try.underlying3 rfl (by first | ((repeat (first | with_reducible exact .here | apply Pick.there)); done) | ((repeat (first | exact .here | apply Pick.there)); done)) (Nth.s (Nth.s (Nth.s Nth.z))))) rfl ?_
          refine RJ_p rfl (Op_call (vs := [_, _, _, _]) Try.func6 rfl rfl (Put_any gc L (max room 0) kept hI okey osz on hosz (by omega)) rfl (.cons (by first | ((repeat (first | with_reducible exact .here | apply Pick.there)); done) | ((repeat (first | exact .here | apply Pick.there)); done)) (Imp.refl _))) ?_
          rintro _ _ ⟨_, ⟨a56, c56, rfl, rfl⟩, rfl⟩
          refine RJ_app2 ?_
          refine RJ_q (Op_move rfl) rfl ?_
          refine RJ_q (Op_extract rfl rfl) rfl ?_
          refine RJ_q (Op_extract rfl rfl) rfl ?_
          refine RJ_q (Op_assign rfl) rfl ?_
          refine RJ_q (Op_assign rfl) rfl ?_
          refine RJ_nil ?_
          refine NJ_then ?_
          refine CJ_env (E' := [(1, _), (5, _), (6, _), (7, _), (8, _), (9, _), (10, _), (11, _), (30, _), (31, _), (32, _), (33, _), (34, _), (35, _), (36, _), (37, _), (40, _), (41, _), (42, _), (43, _), (44, _), (45, _), (46, _), (47, _), (48, _), (49, _), (50, _), (51, _), (52, _), (53, _), (54, _), (55, _), (56, _), (57, _), (58, _)]) (.cons rfl rfl (.cons rfl rfl (.cons rfl rfl (.cons rfl rfl (.cons rfl rfl (.cons rfl rfl (.cons rfl rfl (.cons rfl rfl (.cons rfl rfl (.cons rfl rfl (.cons rfl rfl (.cons rfl rfl (.cons rfl rfl (.cons rfl rfl (.cons rfl rfl (.cons rfl rfl (.cons rfl rfl (.cons rfl rfl (.cons rfl rfl (.cons rfl rfl (.cons rfl rfl (.cons rfl rfl (.cons rfl rfl (.cons rfl rfl (.cons rfl rfl (.cons rfl rfl (.cons rfl rfl (.cons rfl rfl (.cons rfl rfl (.cons rfl rfl (.cons rfl rfl (.cons rfl rfl (.cons rfl rfl (.cons rfl rfl (.cons rfl rfl .nil))))))))))))))))))))))))))))))))))) ?_
          refine CJ_seq ?_
          refine CJ_region ?_
          refine RJ_q (Op_move rfl) rfl ?_
          refine RJ_q (Op_fieldAddr (o' := 1) rfl Try.underlying31 rfl sz9 rfl rfl) rfl ?_
          refine RJ_q (Op_load rfl (load_cell Try.underlying9 rfl (by first | ((repeat (first | with_reducible exact .here | apply Pick.there)); done) | ((repeat (first | exact .here | apply Pick.there)); done)) (Nth.s Nth.z))) rfl ?_
          refine RJ_q (Op_fieldAddr (o' := 2) rfl Try.underlying31 rfl sz3 rfl rfl) rfl ?_
          refine RJ_q (Op_load rfl (load_cell Try.underlying3 rfl (by first | ((repeat (first | with_reducible exact .here | apply Pick.there)); done) | ((repeat (first | exact .here | apply Pick.there)); done)) (Nth.s (Nth.s Nth.z)))) rfl ?_
          refine RJ_q (Op_fieldAddr (o' := 3) rfl Try.underlying31 rfl sz3 rfl rfl) rfl ?_
          refine RJ_q (Op_load rfl (load_cell Try.underlying3 rfl (by first | ((repeat (first | with_reducible exact .here | apply Pick.there)); done) | ((repeat (first | exact .here | apply Pick.there)); done)) (Nth.s (Nth.s (Nth.s Nth.z))))) rfl ?_
          refine RJ_q (Op_build (vs := [_, _, _]) (cells := [_, _, _]) Try.underlying37 zr37 rfl pl37 (by rfl)) rfl ?_
          refine RJ_p rfl (Op_call (vs := [_, _]) Try.func7 rfl rfl (RPut_any gr L (max room 0) kept hI okey osz on (by omega)) rfl (.cons (by first | ((repeat (first | with_reducible exact .here | apply Pick.there)); done) | ((repeat (first | exact .here | apply Pick.there)); done)) (Imp.refl _))) ?_
          rintro _ _ ⟨_, ⟨a68, c68, rfl, rfl⟩, rfl⟩
          refine RJ_app2 ?_
          refine RJ_q (Op_move rfl) rfl ?_
          refine RJ_q (Op_extract rfl rfl) rfl ?_
          refine RJ_q (Op_extract rfl rfl) rfl ?_
          refine RJ_q (Op_assign rfl) rfl ?_
          refine RJ_q (Op_assign rfl) rfl ?_
          refine RJ_nil ?_
          refine NJ_then ?_
          refine CJ_env (E' := [(1, _), (5, _), (6, _), (7, _), (8, _), (9, _), (10, _), (11, _), (12, _), (13, _), (30, _), (31, _), (32, _), (33, _), (34, _), (35, _), (36, _), (37, _), (40, _), (41, _), (42, _), (43, _), (44, _), (45, _), (46, _), (47, _), (48, _), (49, _), (50, _), (51, _), (52, _), (53, _), (54, _), (55, _), (56, _), (57, _), (58, _), (59, _), (60, _), (61, _), (62, _), (63, _), (64, _), (65, _), (66, _), (67, _), (68, _), (69, _), (70, _)]) (.cons rfl rfl (.cons rfl rfl (.cons rfl rfl (.cons rfl rfl (.cons rfl rfl (.cons rfl rfl (.cons rfl rfl (.cons rfl rfl (.cons rfl rfl (.cons rfl rfl (.cons rfl rfl (.cons rfl rfl (.cons rfl rfl (.cons rfl rfl (.cons rfl rfl (.cons rfl rfl (.cons rfl rfl (.cons rfl rfl (.cons rfl rfl (.cons rfl rfl (.cons rfl rfl (.cons rfl rfl (.cons rfl rfl (.cons rfl rfl (.cons rfl rfl (.cons rfl rfl (.cons rfl rfl (.cons rfl rfl (.cons rfl rfl (.cons rfl rfl (.cons rfl rfl (.cons rfl rfl (.cons rfl rfl (.cons rfl rfl (.cons rfl rfl (.cons rfl rfl (.cons rfl rfl (.cons rfl rfl (.cons rfl rfl (.cons rfl rfl (.cons rfl rfl (.cons rfl rfl (.cons rfl rfl (.cons rfl rfl (.cons rfl rfl (.cons rfl rfl (.cons rfl rfl (.cons rfl rfl (.cons rfl rfl .nil))))))))))))))))))))))))))))))))))))))))))))))))) ?_
          refine CJ_region ?_
          refine RJ_q (Op_move rfl) rfl ?_
          refine RJ_q (Op_move rfl) rfl ?_
          refine RJ_q (Op_eqb rfl rfl Try.underlying4) rfl ?_
          refine RJ_q (Op_move rfl) rfl ?_
          refine RJ_yes (t := 74) rfl rfl (decide_eq_true rfl) ?_
          refine RJ_q (Op_move rfl) rfl ?_
          refine RJ_yes (t := 74) rfl rfl (decide_eq_true rfl) ?_
          refine RJ_q (Op_move rfl) rfl ?_
          refine RJ_yes (t := 74) rfl rfl (decide_eq_true rfl) ?_
          refine RJ_p rfl (Op_call (vs := [_, _]) Try.func8 rfl rfl (RSame_eq a56 a68 c56 c68 (putR L (max room 0) kept ⟨okey, on, osz⟩).1) rfl (.cons (by first | ((repeat (first | with_reducible exact .here | apply Pick.there)); done) | ((repeat (first | exact .here | apply Pick.there)); done)) (.cons (by first | ((repeat (first | with_reducible exact .here | apply Pick.there)); done) | ((repeat (first | exact .here | apply Pick.there)); done)) (Imp.refl _)))) ?_
          rintro _ _ ⟨_, ⟨rfl, rfl⟩, rfl⟩
          refine RJ_app2 ?_
          refine RJ_q (Op_pick_t rfl (decide_eq_true rfl) rfl) rfl ?_
          refine RJ_q (Op_assign rfl) rfl ?_
          refine RJ_nil ?_
          refine NJ_blk ?_
          refine NJ_meet ⟨(putR L (max room 0) kept ⟨okey, on, osz⟩).2.2, kept, ⟨hI.put _, by have := putR_len L (max room 0) kept ⟨okey, on, osz⟩; omega⟩, rfl, rfl⟩ (.cons rfl (by first | rfl | (simp; done)) (.cons rfl (by first | rfl | (simp; done)) (.cons rfl (by first | rfl | (simp; done)) (.cons rfl (by first | rfl | (simp; done)) (.cons rfl (by first | rfl | (simp; done)) .nil))))) (.cons (by first | ((repeat (first | with_reducible exact .here | apply Pick.there)); done) | ((repeat (first | exact .here | apply Pick.there)); done)) (.cons (by first | ((repeat (first | with_reducible exact .here | apply Pick.there)); done) | ((repeat (first | exact .here | apply Pick.there)); done)) (.cons (by first | ((repeat (first | with_reducible exact .here | apply Pick.there)); done) | ((repeat (first | exact .here | apply Pick.there)); done)) (by repeat (first | exact Imp.refl _ | refine Imp.skip ?_)))))
        · skip
          refine RJ_q (Op_assign rfl) rfl ?_
          refine RJ_nil ?_
          refine NJ_then ?_
          refine CJ_env (E' := [(1, _), (5, _), (6, _), (7, _), (8, _), (9, _), (30, _), (31, _), (32, _), (33, _), (34, _), (35, _), (36, _), (37, _), (40, _), (41, _), (42, _), (43, _), (44, _), (45, _), (46, _), (47, _)]) (.cons rfl rfl (.cons rfl rfl (.cons rfl rfl (.cons rfl rfl (.cons rfl rfl (.cons rfl rfl (.cons rfl rfl (.cons rfl rfl (.cons rfl rfl (.cons rfl rfl (.cons rfl rfl (.cons rfl rfl (.cons rfl rfl (.cons rfl rfl (.cons rfl rfl (.cons rfl rfl (.cons rfl rfl (.cons rfl rfl (.cons rfl rfl (.cons rfl rfl (.cons rfl rfl (.cons rfl rfl .nil)))))))))))))))))))))) ?_
          refine CJ_else rfl (decide_eq_false k0) ?_
          refine CJ_seq ?_
          refine CJ_seq ?_
          refine CJ_region ?_
          refine RJ_q (Op_eql rfl rfl) rfl ?_
          by_cases k1 : ok = 1
          · skip
            refine RJ_q (Op_assign rfl) rfl ?_
            refine RJ_nil ?_
            refine NJ_then ?_
            refine CJ_env (E' := [(1, _), (5, _), (6, _), (7, _), (8, _), (9, _), (30, _), (31, _), (32, _), (33, _), (34, _), (35, _), (36, _), (37, _), (40, _), (41, _), (42, _), (43, _), (44, _), (45, _), (46, _), (47, _), (79, _), (80, _)]) (.cons rfl rfl (.cons rfl rfl (.cons rfl rfl (.cons rfl rfl (.cons rfl rfl (.cons rfl rfl (.cons rfl rfl (.cons rfl rfl (.cons rfl rfl (.cons rfl rfl (.cons rfl rfl (.cons rfl rfl (.cons rfl rfl (.cons rfl rfl (.cons rfl rfl (.cons rfl rfl (.cons rfl rfl (.cons rfl rfl (.cons rfl rfl (.cons rfl rfl (.cons rfl rfl (.cons rfl rfl (.cons rfl rfl (.cons rfl rfl .nil)))))))))))))))))))))))) ?_
            refine CJ_then rfl (decide_eq_true k1) ?_
            refine CJ_skip ?_
            refine NJ_then ?_
            refine CJ_env (E' := [(1, _), (5, _), (6, _), (7, _), (8, _), (9, _), (30, _), (31, _), (32, _), (33, _), (34, _), (35, _), (36, _), (37, _), (40, _), (41, _), (42, _), (43, _), (44, _), (45, _), (46, _), (47, _), (79, _), (80, _)]) (.cons rfl rfl (.cons rfl rfl (.cons rfl rfl (.cons rfl rfl (.cons rfl rfl (.cons rfl rfl (.cons rfl rfl (.cons rfl rfl (.cons rfl rfl (.cons rfl rfl (.cons rfl rfl (.cons rfl rfl (.cons rfl rfl (.cons rfl rfl (.cons rfl rfl (.cons rfl rfl (.cons rfl rfl (.cons rfl rfl (.cons rfl rfl (.cons rfl rfl (.cons rfl rfl (.cons rfl rfl (.cons rfl rfl (.cons rfl rfl .nil)))))))))))))))))))))))) ?_
            refine CJ_then rfl (decide_eq_true k1) ?_
            refine CJ_seq ?_
            by_cases hf : (findK okey L).isSome = true
            · skip
              obtain ⟨t, ht⟩ := Option.isSome_iff_exists.1 hf
              have hgt : getR L okey = t :: dropK okey L := by unfold getR; rw [ht]
              refine CJ_region ?_
              refine RJ_q (Op_move rfl) rfl ?_
              refine RJ_q (Op_fieldAddr (o' := 1) rfl Try.underlying31 rfl sz9 rfl rfl) rfl ?_
              refine RJ_q (Op_load rfl (load_cell Try.underlying9 rfl (by first | ((repeat (first | with_reducible exact .here | apply Pick.there)); done) | ((repeat (first | exact .here | apply Pick.there)); done)) (Nth.s Nth.z))) rfl ?_
              refine RJ_p rfl (Op_call (vs := [_, _]) Try.func9 rfl rfl (Peek_yes gc L (max room 0) kept okey t ht) rfl (.cons (by first | ((repeat (first | with_reducible exact .here | apply Pick.there)); done) | ((repeat (first | exact .here | apply Pick.there)); done)) (Imp.refl _))) ?_
              rintro _ _ ⟨_, ⟨rfl, rfl⟩, rfl⟩
              refine RJ_app1 ?_
              refine RJ_q (Op_move rfl) rfl ?_
              refine RJ_q (Op_extract rfl rfl) rfl ?_
              refine RJ_q (Op_extract rfl rfl) rfl ?_
              refine RJ_q (Op_assign rfl) rfl ?_
              refine RJ_q (Op_assign rfl) rfl ?_
              refine RJ_nil ?_
              refine NJ_then ?_
              refine CJ_env (E' := [(1, _), (5, _), (6, _), (7, _), (8, _), (9, _), (14, _), (15, _), (30, _), (31, _), (32, _), (33, _), (34, _), (35, _), (36, _), (37, _), (40, _), (41, _), (42, _), (43, _), (44, _), (45, _), (46, _), (47, _), (79, _), (80, _), (82, _), (83, _), (84, _), (85, _), (86, _), (87, _), (88, _)]) (.cons rfl rfl (.cons rfl rfl (.cons rfl rfl (.cons rfl rfl (.cons rfl rfl (.cons rfl rfl (.cons rfl rfl (.cons rfl rfl (.cons rfl rfl (.cons rfl rfl (.cons rfl rfl (.cons rfl rfl (.cons rfl rfl (.cons rfl rfl (.cons rfl rfl (.cons rfl rfl (.cons rfl rfl (.cons rfl rfl (.cons rfl rfl (.cons rfl rfl (.cons rfl rfl (.cons rfl rfl (.cons rfl rfl (.cons rfl rfl (.cons rfl rfl (.cons rfl rfl (.cons rfl rfl (.cons rfl rfl (.cons rfl rfl (.cons rfl rfl (.cons rfl rfl (.cons rfl rfl (.cons rfl rfl .nil))))))))))))))))))))))))))))))))) ?_
              refine CJ_seq ?_
              refine CJ_seq ?_
              refine CJ_region ?_
              refine RJ_q (Op_fieldAddr (o' := 0) rfl Try.underlying31 rfl sz3 rfl rfl) rfl ?_
              refine RJ_q (Op_load rfl (load_cell Try.underlying3 rfl (by first | ((repeat (first | with_reducible exact .here | apply Pick.there)); done) | ((repeat (first | exact .here | apply Pick.there)); done)) Nth.z)) rfl ?_
              refine RJ_q (Op_eql rfl rfl) rfl ?_
              refine RJ_nil ?_
              refine NJ_then ?_
              refine CJ_env (E' := [(1, _), (5, _), (6, _), (7, _), (8, _), (9, _), (14, _), (15, _), (30, _), (31, _), (32, _), (33, _), (34, _), (35, _), (36, _), (37, _), (40, _), (41, _), (42, _), (43, _), (44, _), (45, _), (46, _), (47, _), (79, _), (80, _), (82, _), (83, _), (84, _), (85, _), (86, _), (87, _), (88, _), (89, _), (90, _), (91, _)]) (.cons rfl rfl (.cons rfl rfl (.cons rfl rfl (.cons rfl rfl (.cons rfl rfl (.cons rfl rfl (.cons rfl rfl (.cons rfl rfl (.cons rfl rfl (.cons rfl rfl (.cons rfl rfl (.cons rfl rfl (.cons rfl rfl (.cons rfl rfl (.cons rfl rfl (.cons rfl rfl (.cons rfl rfl (.cons rfl rfl (.cons rfl rfl (.cons rfl rfl (.cons rfl rfl (.cons rfl rfl (.cons rfl rfl (.cons rfl rfl (.cons rfl rfl (.cons rfl rfl (.cons rfl rfl (.cons rfl rfl (.cons rfl rfl (.cons rfl rfl (.cons rfl rfl (.cons rfl rfl (.cons rfl rfl (.cons rfl rfl (.cons rfl rfl (.cons rfl rfl .nil)))))))))))))))))))))))))))))))))))) ?_
              refine CJ_then rfl (decide_eq_true k1) ?_
              refine CJ_region ?_
              refine RJ_q (Op_move rfl) rfl ?_
              refine RJ_q (Op_fieldAddr (o' := 1) rfl Try.underlying31 rfl sz9 rfl rfl) rfl ?_
              refine RJ_q (Op_load rfl (load_cell Try.underlying9 rfl (by first | ((repeat (first | with_reducible exact .here | apply Pick.there)); done) | ((repeat (first | exact .here | apply Pick.there)); done)) (Nth.s Nth.z))) rfl ?_
              refine RJ_p rfl (Op_call (vs := [_, _]) Try.func10 rfl rfl (Get_yes gc L (max room 0) kept hI okey t ht) rfl (.cons (by first | ((repeat (first | with_reducible exact .here | apply Pick.there)); done) | ((repeat (first | exact .here | apply Pick.there)); done)) (Imp.refl _))) ?_
              rintro _ _ ⟨_, ⟨rfl, rfl⟩, rfl⟩
              refine RJ_app1 ?_
              refine RJ_q (Op_move rfl) rfl ?_
              refine RJ_q (Op_extract rfl rfl) rfl ?_
              refine RJ_q (Op_extract rfl rfl) rfl ?_
              refine RJ_q (Op_assign rfl) rfl ?_
              refine RJ_q (Op_assign rfl) rfl ?_
              refine RJ_nil ?_
              refine NJ_then ?_
              refine CJ_env (E' := [(1, _), (5, _), (6, _), (7, _), (8, _), (9, _), (14, _), (15, _), (30, _), (31, _), (32, _), (33, _), (34, _), (35, _), (36, _), (37, _), (40, _), (41, _), (42, _), (43, _), (44, _), (45, _), (46, _), (47, _), (79, _), (80, _), (82, _), (83, _), (84, _), (85, _), (86, _), (87, _), (88, _), (89, _), (90, _), (91, _), (92, _), (93, _), (94, _), (95, _), (96, _), (97, _), (98, _)]) (.cons rfl rfl (.cons rfl rfl (.cons rfl rfl (.cons rfl rfl (.cons rfl rfl (.cons rfl rfl (.cons rfl rfl (.cons rfl rfl (.cons rfl rfl (.cons rfl rfl (.cons rfl rfl (.cons rfl rfl (.cons rfl rfl (.cons rfl rfl (.cons rfl rfl (.cons rfl rfl (.cons rfl rfl (.cons rfl rfl (.cons rfl rfl (.cons rfl rfl (.cons rfl rfl (.cons rfl rfl (.cons rfl rfl (.cons rfl rfl (.cons rfl rfl (.cons rfl rfl (.cons rfl rfl (.cons rfl rfl (.cons rfl rfl (.cons rfl rfl (.cons rfl rfl (.cons rfl rfl (.cons rfl rfl (.cons rfl rfl (.cons rfl rfl (.cons rfl rfl (.cons rfl rfl (.cons rfl rfl (.cons rfl rfl (.cons rfl rfl (.cons rfl rfl (.cons rfl rfl (.cons rfl rfl .nil))))))))))))))))))))))))))))))))))))))))))) ?_
              refine CJ_seq ?_
              refine CJ_region ?_
              refine RJ_q (Op_move rfl) rfl ?_
              refine RJ_q (Op_fieldAddr (o' := 1) rfl Try.underlying31 rfl sz9 rfl rfl) rfl ?_
              refine RJ_q (Op_load rfl (load_cell Try.underlying9 rfl (by first | ((repeat (first | with_reducible exact .here | apply Pick.there)); done) | ((repeat (first | exact .here | apply Pick.there)); done)) (Nth.s Nth.z))) rfl ?_
              refine RJ_q (Op_fieldAddr (o' := 0) rfl Try.underlying31 rfl sz3 rfl rfl) rfl ?_
              refine RJ_q (Op_load rfl (load_cell Try.underlying3 rfl (by first | ((repeat (first | with_reducible exact .here | apply Pick.there)); done) | ((repeat (first | exact .here | apply Pick.there)); done)) Nth.z)) rfl ?_
              refine RJ_q (Op_eql rfl rfl) rfl ?_
              simp only [decide_eq_true k1]
              refine RJ_p rfl (Op_call (vs := [_, _, _]) Try.func11 rfl rfl (RGetUse_any gr L (max room 0) kept okey t ht (by omega)) rfl (.cons (by first | ((repeat (first | with_reducible exact .here | apply Pick.there)); done) | ((repeat (first | exact .here | apply Pick.there)); done)) (Imp.refl _))) ?_
              rintro _ _ ⟨_, ⟨rfl, rfl⟩, rfl⟩
              refine RJ_app1 ?_
              refine RJ_q (Op_move rfl) rfl ?_
              refine RJ_q (Op_extract rfl rfl) rfl ?_
              refine RJ_q (Op_extract rfl rfl) rfl ?_
              refine RJ_q (Op_assign rfl) rfl ?_
              refine RJ_q (Op_assign rfl) rfl ?_
              refine RJ_nil ?_
              refine NJ_then ?_
              refine CJ_env (E' := [(1, _), (5, _), (6, _), (7, _), (8, _), (9, _), (14, _), (15, _), (16, _), (17, _), (30, _), (31, _), (32, _), (33, _), (34, _), (35, _), (36, _), (37, _), (40, _), (41, _), (42, _), (43, _), (44, _), (45, _), (46, _), (47, _), (79, _), (80, _), (82, _), (83, _), (84, _), (85, _), (86, _), (87, _), (88, _), (89, _), (90, _), (91, _), (92, _), (93, _), (94, _), (95, _), (96, _), (97, _), (98, _), (99, _), (100, _), (101, _), (102, _), (103, _), (104, _), (105, _), (106, _), (107, _), (108, _)]) (.cons rfl rfl (.cons rfl rfl (.cons rfl rfl (.cons rfl rfl (.cons rfl rfl (.cons rfl rfl (.cons rfl rfl (.cons rfl rfl (.cons rfl rfl (.cons rfl rfl (.cons rfl rfl (.cons rfl rfl (.cons rfl rfl (.cons rfl rfl (.cons rfl rfl (.cons rfl rfl (.cons rfl rfl (.cons rfl rfl (.cons rfl rfl (.cons rfl rfl (.cons rfl rfl (.cons rfl rfl (.cons rfl rfl (.cons rfl rfl (.cons rfl rfl (.cons rfl rfl (.cons rfl rfl (.cons rfl rfl (.cons rfl rfl (.cons rfl rfl (.cons rfl rfl (.cons rfl rfl (.cons rfl rfl (.cons rfl rfl (.cons rfl rfl (.cons rfl rfl (.cons rfl rfl (.cons rfl rfl (.cons rfl rfl (.cons rfl rfl (.cons rfl rfl (.cons rfl rfl (.cons rfl rfl (.cons rfl rfl (.cons rfl rfl (.cons rfl rfl (.cons rfl rfl (.cons rfl rfl (.cons rfl rfl (.cons rfl rfl (.cons rfl rfl (.cons rfl rfl (.cons rfl rfl (.cons rfl rfl (.cons rfl rfl .nil))))))))))))))))))))))))))))))))))))))))))))))))))))))) ?_
              refine CJ_region ?_
              refine RJ_q (Op_move rfl) rfl ?_
              refine RJ_q (Op_move rfl) rfl ?_
              refine RJ_q (Op_eql rfl rfl) rfl ?_
              refine RJ_q (Op_move rfl) rfl ?_
              refine RJ_yes (t := 112) rfl rfl (decide_eq_true rfl) ?_
              refine RJ_q (Op_move rfl) rfl ?_
              refine RJ_yes (t := 112) rfl rfl (decide_eq_true rfl) ?_
              refine RJ_q (Op_move rfl) rfl ?_
              refine RJ_yes (t := 112) rfl rfl (decide_eq_true rfl) ?_
              refine RJ_q (Op_eqb rfl rfl Try.underlying4) rfl ?_
              refine RJ_q (Op_pick_t rfl (decide_eq_true rfl) rfl) rfl ?_
              refine RJ_q (Op_assign rfl) rfl ?_
              refine RJ_nil ?_
              refine NJ_blk ?_
              refine NJ_meet ⟨(t :: dropK okey L), kept, ⟨hgt ▸ hI.get okey, by have := getR_len (L := L) (k := okey); rw [hgt] at this; omega⟩, rfl, rfl⟩ (.cons rfl (by first | rfl | (simp; done)) (.cons rfl (by first | rfl | (simp; done)) (.cons rfl (by first | rfl | (simp; done)) (.cons rfl (by first | rfl | (simp; done)) (.cons rfl (by first | rfl | (simp; done)) .nil))))) (.cons (by first | ((repeat (first | with_reducible exact .here | apply Pick.there)); done) | ((repeat (first | exact .here | apply Pick.there)); done)) (.cons (by first | ((repeat (first | with_reducible exact .here | apply Pick.there)); done) | ((repeat (first | exact .here | apply Pick.there)); done)) (.cons (by first | ((repeat (first | with_reducible exact .here | apply Pick.there)); done) | ((repeat (first | exact .here | apply Pick.there)); done)) (by repeat (first | exact Imp.refl _ | refine Imp.skip ?_)))))
            · skip
              have hno : findK okey L = none := by simpa using hf
              refine CJ_region ?_
              refine RJ_q (Op_move rfl) rfl ?_
              refine RJ_q (Op_fieldAddr (o' := 1) rfl Try.underlying31 rfl sz9 rfl rfl) rfl ?_
              refine RJ_q (Op_load rfl (load_cell Try.underlying9 rfl (by first | ((repeat (first | with_reducible exact .here | apply Pick.there)); done) | ((repeat (first | exact .here | apply Pick.there)); done)) (Nth.s Nth.z))) rfl ?_
              refine RJ_p rfl (Op_call (vs := [_, _]) Try.func9 rfl rfl (Peek_no gc L (max room 0) kept okey hno) rfl (.cons (by first | ((repeat (first | with_reducible exact .here | apply Pick.there)); done) | ((repeat (first | exact .here | apply Pick.there)); done)) (Imp.refl _))) ?_
              rintro _ _ ⟨_, ⟨rfl, rfl⟩, rfl⟩
              refine RJ_app1 ?_
              refine RJ_q (Op_move rfl) rfl ?_
              refine RJ_q (Op_extract rfl rfl) rfl ?_
              refine RJ_q (Op_extract rfl rfl) rfl ?_
              refine RJ_q (Op_assign rfl) rfl ?_
              refine RJ_q (Op_assign rfl) rfl ?_
              refine RJ_nil ?_
              refine NJ_then ?_
              refine CJ_env (E' := [(1, _), (5, _), (6, _), (7, _), (8, _), (9, _), (14, _), (15, _), (30, _), (31, _), (32, _), (33, _), (34, _), (35, _), (36, _), (37, _), (40, _), (41, _), (42, _), (43, _), (44, _), (45, _), (46, _), (47, _), (79, _), (80, _), (82, _), (83, _), (84, _), (85, _), (86, _), (87, _), (88, _)]) (.cons rfl rfl (.cons rfl rfl (.cons rfl rfl (.cons rfl rfl (.cons rfl rfl (.cons rfl rfl (.cons rfl rfl (.cons rfl rfl (.cons rfl rfl (.cons rfl rfl (.cons rfl rfl (.cons rfl rfl (.cons rfl rfl (.cons rfl rfl (.cons rfl rfl (.cons rfl rfl (.cons rfl rfl (.cons rfl rfl (.cons rfl rfl (.cons rfl rfl (.cons rfl rfl (.cons rfl rfl (.cons rfl rfl (.cons rfl rfl (.cons rfl rfl (.cons rfl rfl (.cons rfl rfl (.cons rfl rfl (.cons rfl rfl (.cons rfl rfl (.cons rfl rfl (.cons rfl rfl (.cons rfl rfl .nil))))))))))))))))))))))))))))))))) ?_
              refine CJ_seq ?_
              refine CJ_seq ?_
              refine CJ_region ?_
              refine RJ_q (Op_fieldAddr (o' := 0) rfl Try.underlying31 rfl sz3 rfl rfl) rfl ?_
              refine RJ_q (Op_load rfl (load_cell Try.underlying3 rfl (by first | ((repeat (first | with_reducible exact .here | apply Pick.there)); done) | ((repeat (first | exact .here | apply Pick.there)); done)) Nth.z)) rfl ?_
              refine RJ_q (Op_eql rfl rfl) rfl ?_
              refine RJ_nil ?_
              refine NJ_then ?_
              refine CJ_env (E' := [(1, _), (5, _), (6, _), (7, _), (8, _), (9, _), (14, _), (15, _), (30, _), (31, _), (32, _), (33, _), (34, _), (35, _), (36, _), (37, _), (40, _), (41, _), (42, _), (43, _), (44, _), (45, _), (46, _), (47, _), (79, _), (80, _), (82, _), (83, _), (84, _), (85, _), (86, _), (87, _), (88, _), (89, _), (90, _), (91, _)]) (.cons rfl rfl (.cons rfl rfl (.cons rfl rfl (.cons rfl rfl (.cons rfl rfl (.cons rfl rfl (.cons rfl rfl (.cons rfl rfl (.cons rfl rfl (.cons rfl rfl (.cons rfl rfl (.cons rfl rfl (.cons rfl rfl (.cons rfl rfl (.cons rfl rfl (.cons rfl rfl (.cons rfl rfl (.cons rfl rfl (.cons rfl rfl (.cons rfl rfl (.cons rfl rfl (.cons rfl rfl (.cons rfl rfl (.cons rfl rfl (.cons rfl rfl (.cons rfl rfl (.cons rfl rfl (.cons rfl rfl (.cons rfl rfl (.cons rfl rfl (.cons rfl rfl (.cons rfl rfl (.cons rfl rfl (.cons rfl rfl (.cons rfl rfl (.cons rfl rfl .nil)))))))))))))))))))))))))))))))))))) ?_
              refine CJ_then rfl (decide_eq_true k1) ?_
              refine CJ_region ?_
              refine RJ_q (Op_move rfl) rfl ?_
              refine RJ_q (Op_fieldAddr (o' := 1) rfl Try.underlying31 rfl sz9 rfl rfl) rfl ?_
              refine RJ_q (Op_load rfl (load_cell Try.underlying9 rfl (by first | ((repeat (first | with_reducible exact .here | apply Pick.there)); done) | ((repeat (first | exact .here | apply Pick.there)); done)) (Nth.s Nth.z))) rfl ?_
              refine RJ_p rfl (Op_call (vs := [_, _]) Try.func10 rfl rfl (Get_no gc L (max room 0) kept okey hno) rfl (.cons (by first | ((repeat (first | with_reducible exact .here | apply Pick.there)); done) | ((repeat (first | exact .here | apply Pick.there)); done)) (Imp.refl _))) ?_
              rintro _ _ ⟨_, ⟨rfl, rfl⟩, rfl⟩
              refine RJ_app1 ?_
              refine RJ_q (Op_move rfl) rfl ?_
              refine RJ_q (Op_extract rfl rfl) rfl ?_
              refine RJ_q (Op_extract rfl rfl) rfl ?_
              refine RJ_q (Op_assign rfl) rfl ?_
              refine RJ_q (Op_assign rfl) rfl ?_
              refine RJ_nil ?_
              refine NJ_then ?_
              refine CJ_env (E' := [(1, _), (5, _), (6, _), (7, _), (8, _), (9, _), (14, _), (15, _), (30, _), (31, _), (32, _), (33, _), (34, _), (35, _), (36, _), (37, _), (40, _), (41, _), (42, _), (43, _), (44, _), (45, _), (46, _), (47, _), (79, _), (80, _), (82, _), (83, _), (84, _), (85, _), (86, _), (87, _), (88, _), (89, _), (90, _), (91, _), (92, _), (93, _), (94, _), (95, _), (96, _), (97, _), (98, _)]) (.cons rfl rfl (.cons rfl rfl (.cons rfl rfl (.cons rfl rfl (.cons rfl rfl (.cons rfl rfl (.cons rfl rfl (.cons rfl rfl (.cons rfl rfl (.cons rfl rfl (.cons rfl rfl (.cons rfl rfl (.cons rfl rfl (.cons rfl rfl (.cons rfl rfl (.cons rfl rfl (.cons rfl rfl (.cons rfl rfl (.cons rfl rfl (.cons rfl rfl (.cons rfl rfl (.cons rfl rfl (.cons rfl rfl (.cons rfl rfl (.cons rfl rfl (.cons rfl rfl (.cons rfl rfl (.cons rfl rfl (.cons rfl rfl (.cons rfl rfl (.cons rfl rfl (.cons rfl rfl (.cons rfl rfl (.cons rfl rfl (.cons rfl rfl (.cons rfl rfl (.cons rfl rfl (.cons rfl rfl (.cons rfl rfl (.cons rfl rfl (.cons rfl rfl (.cons rfl rfl (.cons rfl rfl .nil))))))))))))))))))))))))))))))))))))))))))) ?_
              refine CJ_seq ?_
              refine CJ_region ?_
              refine RJ_q (Op_move rfl) rfl ?_
              refine RJ_q (Op_fieldAddr (o' := 1) rfl Try.underlying31 rfl sz9 rfl rfl) rfl ?_
              refine RJ_q (Op_load rfl (load_cell Try.underlying9 rfl (by first | ((repeat (first | with_reducible exact .here | apply Pick.there)); done) | ((repeat (first | exact .here | apply Pick.there)); done)) (Nth.s Nth.z))) rfl ?_
              refine RJ_q (Op_fieldAddr (o' := 0) rfl Try.underlying31 rfl sz3 rfl rfl) rfl ?_
              refine RJ_q (Op_load rfl (load_cell Try.underlying3 rfl (by first | ((repeat (first | with_reducible exact .here | apply Pick.there)); done) | ((repeat (first | exact .here | apply Pick.there)); done)) Nth.z)) rfl ?_
              refine RJ_q (Op_eql rfl rfl) rfl ?_
              simp only [decide_eq_true k1]
              refine RJ_p rfl (Op_call (vs := [_, _, _]) Try.func11 rfl rfl (RGet_no gr L (max room 0) kept okey _ (findK_none hno)) rfl (.cons (by first | ((repeat (first | with_reducible exact .here | apply Pick.there)); done) | ((repeat (first | exact .here | apply Pick.there)); done)) (Imp.refl _))) ?_
              rintro _ _ ⟨_, ⟨rfl, rfl⟩, rfl⟩
              refine RJ_app1 ?_
              refine RJ_q (Op_move rfl) rfl ?_
              refine RJ_q (Op_extract rfl rfl) rfl ?_
              refine RJ_q (Op_extract rfl rfl) rfl ?_
              refine RJ_q (Op_assign rfl) rfl ?_
              refine RJ_q (Op_assign rfl) rfl ?_
              refine RJ_nil ?_
              refine NJ_then ?_
              refine CJ_env (E' := [(1, _), (5, _), (6, _), (7, _), (8, _), (9, _), (14, _), (15, _), (16, _), (17, _), (30, _), (31, _), (32, _), (33, _), (34, _), (35, _), (36, _), (37, _), (40, _), (41, _), (42, _), (43, _), (44, _), (45, _), (46, _), (47, _), (79, _), (80, _), (82, _), (83, _), (84, _), (85, _), (86, _), (87, _), (88, _), (89, _), (90, _), (91, _), (92, _), (93, _), (94, _), (95, _), (96, _), (97, _), (98, _), (99, _), (100, _), (101, _), (102, _), (103, _), (104, _), (105, _), (106, _), (107, _), (108, _)]) (.cons rfl rfl (.cons rfl rfl (.cons rfl rfl (.cons rfl rfl (.cons rfl rfl (.cons rfl rfl (.cons rfl rfl (.cons rfl rfl (.cons rfl rfl (.cons rfl rfl (.cons rfl rfl (.cons rfl rfl (.cons rfl rfl (.cons rfl rfl (.cons rfl rfl (.cons rfl rfl (.cons rfl rfl (.cons rfl rfl (.cons rfl rfl (.cons rfl rfl (.cons rfl rfl (.cons rfl rfl (.cons rfl rfl (.cons rfl rfl (.cons rfl rfl (.cons rfl rfl (.cons rfl rfl (.cons rfl rfl (.cons rfl rfl (.cons rfl rfl (.cons rfl rfl (.cons rfl rfl (.cons rfl rfl (.cons rfl rfl (.cons rfl rfl (.cons rfl rfl (.cons rfl rfl (.cons rfl rfl (.cons rfl rfl (.cons rfl rfl (.cons rfl rfl (.cons rfl rfl (.cons rfl rfl (.cons rfl rfl (.cons rfl rfl (.cons rfl rfl (.cons rfl rfl (.cons rfl rfl (.cons rfl rfl (.cons rfl rfl (.cons rfl rfl (.cons rfl rfl (.cons rfl rfl (.cons rfl rfl (.cons rfl rfl .nil))))))))))))))))))))))))))))))))))))))))))))))))))))))) ?_
              refine CJ_region ?_
              refine RJ_q (Op_move rfl) rfl ?_
              refine RJ_q (Op_move rfl) rfl ?_
              refine RJ_q (Op_eql rfl rfl) rfl ?_
              refine RJ_q (Op_move rfl) rfl ?_
              refine RJ_yes (t := 112) rfl rfl (decide_eq_true rfl) ?_
              refine RJ_q (Op_move rfl) rfl ?_
              refine RJ_yes (t := 112) rfl rfl (decide_eq_true rfl) ?_
              refine RJ_q (Op_move rfl) rfl ?_
              refine RJ_yes (t := 112) rfl rfl (decide_eq_true rfl) ?_
              refine RJ_q (Op_eqb rfl rfl Try.underlying4) rfl ?_
              refine RJ_q (Op_pick_t rfl (decide_eq_true rfl) rfl) rfl ?_
              refine RJ_q (Op_assign rfl) rfl ?_
              refine RJ_nil ?_
              refine NJ_blk ?_
              refine NJ_meet ⟨L, kept, ⟨hI, by omega⟩, rfl, rfl⟩ (.cons rfl (by first | rfl | (simp; done)) (.cons rfl (by first | rfl | (simp; done)) (.cons rfl (by first | rfl | (simp; done)) (.cons rfl (by first | rfl | (simp; done)) (.cons rfl (by first | rfl | (simp; done)) .nil))))) (.cons (by first | ((repeat (first | with_reducible exact .here | apply Pick.there)); done) | ((repeat (first | exact .here | apply Pick.there)); done)) (.cons (by first | ((repeat (first | with_reducible exact .here | apply Pick.there)); done) | ((repeat (first | exact .here | apply Pick.there)); done)) (.cons (by first | ((repeat (first | with_reducible exact .here | apply Pick.there)); done) | ((repeat (first | exact .here | apply Pick.there)); done)) (by repeat (first | exact Imp.refl _ | refine Imp.skip ?_)))))
          · skip
            refine RJ_q (Op_assign rfl) rfl ?_
            refine RJ_nil ?_
            refine NJ_then ?_
            refine CJ_env (E' := [(1, _), (5, _), (6, _), (7, _), (8, _), (9, _), (30, _), (31, _), (32, _), (33, _), (34, _), (35, _), (36, _), (37, _), (40, _), (41, _), (42, _), (43, _), (44, _), (45, _), (46, _), (47, _), (79, _), (80, _)]) (.cons rfl rfl (.cons rfl rfl (.cons rfl rfl (.cons rfl rfl (.cons rfl rfl (.cons rfl rfl (.cons rfl rfl (.cons rfl rfl (.cons rfl rfl (.cons rfl rfl (.cons rfl rfl (.cons rfl rfl (.cons rfl rfl (.cons rfl rfl (.cons rfl rfl (.cons rfl rfl (.cons rfl rfl (.cons rfl rfl (.cons rfl rfl (.cons rfl rfl (.cons rfl rfl (.cons rfl rfl (.cons rfl rfl (.cons rfl rfl .nil)))))))))))))))))))))))) ?_
            refine CJ_else rfl (decide_eq_false k1) ?_
            refine CJ_region ?_
            refine RJ_q (Op_eql rfl rfl) rfl ?_
            by_cases k2 : ok = 2
            · skip
              refine RJ_q (Op_assign rfl) rfl ?_
              refine RJ_nil ?_
              refine NJ_then ?_
              refine CJ_env (E' := [(1, _), (5, _), (6, _), (7, _), (8, _), (9, _), (30, _), (31, _), (32, _), (33, _), (34, _), (35, _), (36, _), (37, _), (40, _), (41, _), (42, _), (43, _), (44, _), (45, _), (46, _), (47, _), (79, _), (80, _), (81, _)]) (.cons rfl rfl (.cons rfl rfl (.cons rfl rfl (.cons rfl rfl (.cons rfl rfl (.cons rfl rfl (.cons rfl rfl (.cons rfl rfl (.cons rfl rfl (.cons rfl rfl (.cons rfl rfl (.cons rfl rfl (.cons rfl rfl (.cons rfl rfl (.cons rfl rfl (.cons rfl rfl (.cons rfl rfl (.cons rfl rfl (.cons rfl rfl (.cons rfl rfl (.cons rfl rfl (.cons rfl rfl (.cons rfl rfl (.cons rfl rfl (.cons rfl rfl .nil))))))))))))))))))))))))) ?_
              refine CJ_then rfl (decide_eq_true k2) ?_
              refine CJ_seq ?_
              by_cases hf : (findK okey L).isSome = true
              · skip
                obtain ⟨t, ht⟩ := Option.isSome_iff_exists.1 hf
                have hgt : getR L okey = t :: dropK okey L := by unfold getR; rw [ht]
                refine CJ_region ?_
                refine RJ_q (Op_move rfl) rfl ?_
                refine RJ_q (Op_fieldAddr (o' := 1) rfl Try.underlying31 rfl sz9 rfl rfl) rfl ?_
                refine RJ_q (Op_load rfl (load_cell Try.underlying9 rfl (by first | ((repeat (first | with_reducible exact .here | apply Pick.there)); done) | ((repeat (first | exact .here | apply Pick.there)); done)) (Nth.s Nth.z))) rfl ?_
                refine RJ_p rfl (Op_call (vs := [_, _]) Try.func9 rfl rfl (Peek_yes gc L (max room 0) kept okey t ht) rfl (.cons (by first | ((repeat (first | with_reducible exact .here | apply Pick.there)); done) | ((repeat (first | exact .here | apply Pick.there)); done)) (Imp.refl _))) ?_
                rintro _ _ ⟨_, ⟨rfl, rfl⟩, rfl⟩
                refine RJ_app1 ?_
                refine RJ_q (Op_move rfl) rfl ?_
                refine RJ_q (Op_extract rfl rfl) rfl ?_
                refine RJ_q (Op_extract rfl rfl) rfl ?_
                refine RJ_q (Op_assign rfl) rfl ?_
                refine RJ_q (Op_assign rfl) rfl ?_
                refine RJ_nil ?_
                refine NJ_then ?_
                refine CJ_env (E' := [(1, _), (5, _), (6, _), (7, _), (8, _), (9, _), (14, _), (15, _), (30, _), (31, _), (32, _), (33, _), (34, _), (35, _), (36, _), (37, _), (40, _), (41, _), (42, _), (43, _), (44, _), (45, _), (46, _), (47, _), (79, _), (80, _), (81, _), (82, _), (83, _), (84, _), (85, _), (86, _), (87, _), (88, _)]) (.cons rfl rfl (.cons rfl rfl (.cons rfl rfl (.cons rfl rfl (.cons rfl rfl (.cons rfl rfl (.cons rfl rfl (.cons rfl rfl (.cons rfl rfl (.cons rfl rfl (.cons rfl rfl (.cons rfl rfl (.cons rfl rfl (.cons rfl rfl (.cons rfl rfl (.cons rfl rfl (.cons rfl rfl (.cons rfl rfl (.cons rfl rfl (.cons rfl rfl (.cons rfl rfl (.cons rfl rfl (.cons rfl rfl (.cons rfl rfl (.cons rfl rfl (.cons rfl rfl (.cons rfl rfl (.cons rfl rfl (.cons rfl rfl (.cons rfl rfl (.cons rfl rfl (.cons rfl rfl (.cons rfl rfl (.cons rfl rfl .nil)))))))))))))))))))))))))))))))))) ?_
                refine CJ_seq ?_
                refine CJ_seq ?_
                refine CJ_region ?_
                refine RJ_q (Op_fieldAddr (o' := 0) rfl Try.underlying31 rfl sz3 rfl rfl) rfl ?_
                refine RJ_q (Op_load rfl (load_cell Try.underlying3 rfl (by first | ((repeat (first | with_reducible exact .here | apply Pick.there)); done) | ((repeat (first | exact .here | apply Pick.there)); done)) Nth.z)) rfl ?_
                refine RJ_q (Op_eql rfl rfl) rfl ?_
                refine RJ_nil ?_
                refine NJ_then ?_
                refine CJ_env (E' := [(1, _), (5, _), (6, _), (7, _), (8, _), (9, _), (14, _), (15, _), (30, _), (31, _), (32, _), (33, _), (34, _), (35, _), (36, _), (37, _), (40, _), (41, _), (42, _), (43, _), (44, _), (45, _), (46, _), (47, _), (79, _), (80, _), (81, _), (82, _), (83, _), (84, _), (85, _), (86, _), (87, _), (88, _), (89, _), (90, _), (91, _)]) (.cons rfl rfl (.cons rfl rfl (.cons rfl rfl (.cons rfl rfl (.cons rfl rfl (.cons rfl rfl (.cons rfl rfl (.cons rfl rfl (.cons rfl rfl (.cons rfl rfl (.cons rfl rfl (.cons rfl rfl (.cons rfl rfl (.cons rfl rfl (.cons rfl rfl (.cons rfl rfl (.cons rfl rfl (.cons rfl rfl (.cons rfl rfl (.cons rfl rfl (.cons rfl rfl (.cons rfl rfl (.cons rfl rfl (.cons rfl rfl (.cons rfl rfl (.cons rfl rfl (.cons rfl rfl (.cons rfl rfl (.cons rfl rfl (.cons rfl rfl (.cons rfl rfl (.cons rfl rfl (.cons rfl rfl (.cons rfl rfl (.cons rfl rfl (.cons rfl rfl (.cons rfl rfl .nil))))))))))))))))))))))))))))))))))))) ?_
                refine CJ_else rfl (decide_eq_false k1) ?_
                refine CJ_skip ?_
                refine NJ_then ?_
                refine CJ_env (E' := [(1, _), (5, _), (6, _), (7, _), (8, _), (9, _), (14, _), (15, _), (30, _), (31, _), (32, _), (33, _), (34, _), (35, _), (36, _), (37, _), (40, _), (41, _), (42, _), (43, _), (44, _), (45, _), (46, _), (47, _), (79, _), (80, _), (81, _), (82, _), (83, _), (84, _), (85, _), (86, _), (87, _), (88, _), (89, _), (90, _), (91, _)]) (.cons rfl rfl (.cons rfl rfl (.cons rfl rfl (.cons rfl rfl (.cons rfl rfl (.cons rfl rfl (.cons rfl rfl (.cons rfl rfl (.cons rfl rfl (.cons rfl rfl (.cons rfl rfl (.cons rfl rfl (.cons rfl rfl (.cons rfl rfl (.cons rfl rfl (.cons rfl rfl (.cons rfl rfl (.cons rfl rfl (.cons rfl rfl (.cons rfl rfl (.cons rfl rfl (.cons rfl rfl (.cons rfl rfl (.cons rfl rfl (.cons rfl rfl (.cons rfl rfl (.cons rfl rfl (.cons rfl rfl (.cons rfl rfl (.cons rfl rfl (.cons rfl rfl (.cons rfl rfl (.cons rfl rfl (.cons rfl rfl (.cons rfl rfl (.cons rfl rfl (.cons rfl rfl .nil))))))))))))))))))))))))))))))))))))) ?_
                refine CJ_seq ?_
                refine CJ_region ?_
                refine RJ_q (Op_move rfl) rfl ?_
                refine RJ_q (Op_fieldAddr (o' := 1) rfl Try.underlying31 rfl sz9 rfl rfl) rfl ?_
                refine RJ_q (Op_load rfl (load_cell Try.underlying9 rfl (by first | ((repeat (first | with_reducible exact .here | apply Pick.there)); done) | ((repeat (first | exact .here | apply Pick.there)); done)) (Nth.s Nth.z))) rfl ?_
                refine RJ_q (Op_fieldAddr (o' := 0) rfl Try.underlying31 rfl sz3 rfl rfl) rfl ?_
                refine RJ_q (Op_load rfl (load_cell Try.underlying3 rfl (by first | ((repeat (first | with_reducible exact .here | apply Pick.there)); done) | ((repeat (first | exact .here | apply Pick.there)); done)) Nth.z)) rfl ?_
                refine RJ_q (Op_eql rfl rfl) rfl ?_
                simp only [decide_eq_false k1]
                refine RJ_p rfl (Op_call (vs := [_, _, _]) Try.func11 rfl rfl (RGetSee_any gr L (max room 0) kept okey t ht (by omega)) rfl (.cons (by first | ((repeat (first | with_reducible exact .here | apply Pick.there)); done) | ((repeat (first | exact .here | apply Pick.there)); done)) (Imp.refl _))) ?_
                rintro _ _ ⟨_, ⟨rfl, rfl⟩, rfl⟩
                refine RJ_app1 ?_
                refine RJ_q (Op_move rfl) rfl ?_
                refine RJ_q (Op_extract rfl rfl) rfl ?_
                refine RJ_q (Op_extract rfl rfl) rfl ?_
                refine RJ_q (Op_assign rfl) rfl ?_
                refine RJ_q (Op_assign rfl) rfl ?_
                refine RJ_nil ?_
                refine NJ_then ?_
                refine CJ_env (E' := [(1, _), (5, _), (6, _), (7, _), (8, _), (9, _), (14, _), (15, _), (16, _), (17, _), (30, _), (31, _), (32, _), (33, _), (34, _), (35, _), (36, _), (37, _), (40, _), (41, _), (42, _), (43, _), (44, _), (45, _), (46, _), (47, _), (79, _), (80, _), (81, _), (82, _), (83, _), (84, _), (85, _), (86, _), (87, _), (88, _), (89, _), (90, _), (91, _), (99, _), (100, _), (101, _), (102, _), (103, _), (104, _), (105, _), (106, _), (107, _), (108, _)]) (.cons rfl rfl (.cons rfl rfl (.cons rfl rfl (.cons rfl rfl (.cons rfl rfl (.cons rfl rfl (.cons rfl rfl (.cons rfl rfl (.cons rfl rfl (.cons rfl rfl (.cons rfl rfl (.cons rfl rfl (.cons rfl rfl (.cons rfl rfl (.cons rfl rfl (.cons rfl rfl (.cons rfl rfl (.cons rfl rfl (.cons rfl rfl (.cons rfl rfl (.cons rfl rfl (.cons rfl rfl (.cons rfl rfl (.cons rfl rfl (.cons rfl rfl (.cons rfl rfl (.cons rfl rfl (.cons rfl rfl (.cons rfl rfl (.cons rfl rfl (.cons rfl rfl (.cons rfl rfl (.cons rfl rfl (.cons rfl rfl (.cons rfl rfl (.cons rfl rfl (.cons rfl rfl (.cons rfl rfl (.cons rfl rfl (.cons rfl rfl (.cons rfl rfl (.cons rfl rfl (.cons rfl rfl (.cons rfl rfl (.cons rfl rfl (.cons rfl rfl (.cons rfl rfl (.cons rfl rfl (.cons rfl rfl .nil))))))))))))))))))))))))))))))))))))))))))))))))) ?_
                refine CJ_region ?_
                refine RJ_q (Op_move rfl) rfl ?_
                refine RJ_q (Op_move rfl) rfl ?_
                refine RJ_q (Op_eql rfl rfl) rfl ?_
                refine RJ_q (Op_move rfl) rfl ?_
                refine RJ_yes (t := 112) rfl rfl (decide_eq_true rfl) ?_
                refine RJ_q (Op_move rfl) rfl ?_
                refine RJ_yes (t := 112) rfl rfl (decide_eq_true rfl) ?_
                refine RJ_q (Op_move rfl) rfl ?_
                refine RJ_yes (t := 112) rfl rfl (decide_eq_true rfl) ?_
                refine RJ_q (Op_eqb rfl rfl Try.underlying4) rfl ?_
                refine RJ_q (Op_pick_t rfl (decide_eq_true rfl) rfl) rfl ?_
                refine RJ_q (Op_assign rfl) rfl ?_
                refine RJ_nil ?_
                refine NJ_blk ?_
                refine NJ_meet ⟨L, kept, ⟨hI, by omega⟩, rfl, rfl⟩ (.cons rfl (by first | rfl | (simp; done)) (.cons rfl (by first | rfl | (simp; done)) (.cons rfl (by first | rfl | (simp; done)) (.cons rfl (by first | rfl | (simp; done)) (.cons rfl (by first | rfl | (simp; done)) .nil))))) (.cons (by first | ((repeat (first | with_reducible exact .here | apply Pick.there)); done) | ((repeat (first | exact .here | apply Pick.there)); done)) (.cons (by first | ((repeat (first | with_reducible exact .here | apply Pick.there)); done) | ((repeat (first | exact .here | apply Pick.there)); done)) (.cons (by first | ((repeat (first | with_reducible exact .here | apply Pick.there)); done) | ((repeat (first | exact .here | apply Pick.there)); done)) (by repeat (first | exact Imp.refl _ | refine Imp.skip ?_)))))
              · skip
                have hno : findK okey L = none := by simpa using hf
                refine CJ_region ?_
                refine RJ_q (Op_move rfl) rfl ?_
                refine RJ_q (Op_fieldAddr (o' := 1) rfl Try.underlying31 rfl sz9 rfl rfl) rfl ?_
                refine RJ_q (Op_load rfl (load_cell Try.underlying9 rfl (by first | ((repeat (first | with_reducible exact .here | apply Pick.there)); done) | ((repeat (first | exact .here | apply Pick.there)); done)) (Nth.s Nth.z))) rfl ?_
                refine RJ_p rfl (Op_call (vs := [_, _]) Try.func9 rfl rfl (Peek_no gc L (max room 0) kept okey hno) rfl (.cons (by first | ((repeat (first | with_reducible exact .here | apply Pick.there)); done) | ((repeat (first | exact .here | apply Pick.there)); done)) (Imp.refl _))) ?_
                rintro _ _ ⟨_, ⟨rfl, rfl⟩, rfl⟩
                refine RJ_app1 ?_
                refine RJ_q (Op_move rfl) rfl ?_
                refine RJ_q (Op_extract rfl rfl) rfl ?_
                refine RJ_q (Op_extract rfl rfl) rfl ?_
                refine RJ_q (Op_assign rfl) rfl ?_
                refine RJ_q (Op_assign rfl) rfl ?_
                refine RJ_nil ?_
                refine NJ_then ?_
                refine CJ_env (E' := [(1, _), (5, _), (6, _), (7, _), (8, _), (9, _), (14, _), (15, _), (30, _), (31, _), (32, _), (33, _), (34, _), (35, _), (36, _), (37, _), (40, _), (41, _), (42, _), (43, _), (44, _), (45, _), (46, _), (47, _), (79, _), (80, _), (81, _), (82, _), (83, _), (84, _), (85, _), (86, _), (87, _), (88, _)]) (.cons rfl rfl (.cons rfl rfl (.cons rfl rfl (.cons rfl rfl (.cons rfl rfl (.cons rfl rfl (.cons rfl rfl (.cons rfl rfl (.cons rfl rfl (.cons rfl rfl (.cons rfl rfl (.cons rfl rfl (.cons rfl rfl (.cons rfl rfl (.cons rfl rfl (.cons rfl rfl (.cons rfl rfl (.cons rfl rfl (.cons rfl rfl (.cons rfl rfl (.cons rfl rfl (.cons rfl rfl (.cons rfl rfl (.cons rfl rfl (.cons rfl rfl (.cons rfl rfl (.cons rfl rfl (.cons rfl rfl (.cons rfl rfl (.cons rfl rfl (.cons rfl rfl (.cons rfl rfl (.cons rfl rfl (.cons rfl rfl .nil)))))))))))))))))))))))))))))))))) ?_
                refine CJ_seq ?_
                refine CJ_seq ?_
                refine CJ_region ?_
                refine RJ_q (Op_fieldAddr (o' := 0) rfl Try.underlying31 rfl sz3 rfl rfl) rfl ?_
                refine RJ_q (Op_load rfl (load_cell Try.underlying3 rfl (by first | ((repeat (first | with_reducible exact .here | apply Pick.there)); done) | ((repeat (first | exact .here | apply Pick.there)); done)) Nth.z)) rfl ?_
                refine RJ_q (Op_eql rfl rfl) rfl ?_
                refine RJ_nil ?_
                refine NJ_then ?_
                refine CJ_env (E' := [(1, _), (5, _), (6, _), (7, _), (8, _), (9, _), (14, _), (15, _), (30, _), (31, _), (32, _), (33, _), (34, _), (35, _), (36, _), (37, _), (40, _), (41, _), (42, _), (43, _), (44, _), (45, _), (46, _), (47, _), (79, _), (80, _), (81, _), (82, _), (83, _), (84, _), (85, _), (86, _), (87, _), (88, _), (89, _), (90, _), (91, _)]) (.cons rfl rfl (.cons rfl rfl (.cons rfl rfl (.cons rfl rfl (.cons rfl rfl (.cons rfl rfl (.cons rfl rfl (.cons rfl rfl (.cons rfl rfl (.cons rfl rfl (.cons rfl rfl (.cons rfl rfl (.cons rfl rfl (.cons rfl rfl (.cons rfl rfl (.cons rfl rfl (.cons rfl rfl (.cons rfl rfl (.cons rfl rfl (.cons rfl rfl (.cons rfl rfl (.cons rfl rfl (.cons rfl rfl (.cons rfl rfl (.cons rfl rfl (.cons rfl rfl (.cons rfl rfl (.cons rfl rfl (.cons rfl rfl (.cons rfl rfl (.cons rfl rfl (.cons rfl rfl (.cons rfl rfl (.cons rfl rfl (.cons rfl rfl (.cons rfl rfl (.cons rfl rfl .nil))))))))))))))))))))))))))))))))))))) ?_
                refine CJ_else rfl (decide_eq_false k1) ?_
                refine CJ_skip ?_
                refine NJ_then ?_
                refine CJ_env (E' := [(1, _), (5, _), (6, _), (7, _), (8, _), (9, _), (14, _), (15, _), (30, _), (31, _), (32, _), (33, _), (34, _), (35, _), (36, _), (37, _), (40, _), (41, _), (42, _), (43, _), (44, _), (45, _), (46, _), (47, _), (79, _), (80, _), (81, _), (82, _), (83, _), (84, _), (85, _), (86, _), (87, _), (88, _), (89, _), (90, _), (91, _)]) (.cons rfl rfl (.cons rfl rfl (.cons rfl rfl (.cons rfl rfl (.cons rfl rfl (.cons rfl rfl (.cons rfl rfl (.cons rfl rfl (.cons rfl rfl (.cons rfl rfl (.cons rfl rfl (.cons rfl rfl (.cons rfl rfl (.cons rfl rfl (.cons rfl rfl (.cons rfl rfl (.cons rfl rfl (.cons rfl rfl (.cons rfl rfl (.cons rfl rfl (.cons rfl rfl (.cons rfl rfl (.cons rfl rfl (.cons rfl rfl (.cons rfl rfl (.cons rfl rfl (.cons rfl rfl (.cons rfl rfl (.cons rfl rfl (.cons rfl rfl (.cons rfl rfl (.cons rfl rfl (.cons rfl rfl (.cons rfl rfl (.cons rfl rfl (.cons rfl rfl (.cons rfl rfl .nil))))))))))))))))))))))))))))))))))))) ?_
                refine CJ_seq ?_
                refine CJ_region ?_
                refine RJ_q (Op_move rfl) rfl ?_
                refine RJ_q (Op_fieldAddr (o' := 1) rfl Try.underlying31 rfl sz9 rfl rfl) rfl ?_
                refine RJ_q (Op_load rfl (load_cell Try.underlying9 rfl (by first | ((repeat (first | with_reducible exact .here | apply Pick.there)); done) | ((repeat (first | exact .here | apply Pick.there)); done)) (Nth.s Nth.z))) rfl ?_
                refine RJ_q (Op_fieldAddr (o' := 0) rfl Try.underlying31 rfl sz3 rfl rfl) rfl ?_
                refine RJ_q (Op_load rfl (load_cell Try.underlying3 rfl (by first | ((repeat (first | with_reducible exact .here | apply Pick.there)); done) | ((repeat (first | exact .here | apply Pick.there)); done)) Nth.z)) rfl ?_
                refine RJ_q (Op_eql rfl rfl) rfl ?_
                simp only [decide_eq_false k1]
                refine RJ_p rfl (Op_call (vs := [_, _, _]) Try.func11 rfl rfl (RGet_no gr L (max room 0) kept okey _ (findK_none hno)) rfl (.cons (by first | ((repeat (first | with_reducible exact .here | apply Pick.there)); done) | ((repeat (first | exact .here | apply Pick.there)); done)) (Imp.refl _))) ?_
                rintro _ _ ⟨_, ⟨rfl, rfl⟩, rfl⟩
                refine RJ_app1 ?_
                refine RJ_q (Op_move rfl) rfl ?_
                refine RJ_q (Op_extract rfl rfl) rfl ?_
                refine RJ_q (Op_extract rfl rfl) rfl ?_
                refine RJ_q (Op_assign rfl) rfl ?_
                refine RJ_q (Op_assign rfl) rfl ?_
                refine RJ_nil ?_
                refine NJ_then ?_
                refine CJ_env (E' := [(1, _), (5, _), (6, _), (7, _), (8, _), (9, _), (14, _), (15, _), (16, _), (17, _), (30, _), (31, _), (32, _), (33, _), (34, _), (35, _), (36, _), (37, _), (40, _), (41, _), (42, _), (43, _), (44, _), (45, _), (46, _), (47, _), (79, _), (80, _), (81, _), (82, _), (83, _), (84, _), (85, _), (86, _), (87, _), (88, _), (89, _), (90, _), (91, _), (99, _), (100, _), (101, _), (102, _), (103, _), (104, _), (105, _), (106, _), (107, _), (108, _)]) (.cons rfl rfl (.cons rfl rfl (.cons rfl rfl (.cons rfl rfl (.cons rfl rfl (.cons rfl rfl (.cons rfl rfl (.cons rfl rfl (.cons rfl rfl (.cons rfl rfl (.cons rfl rfl (.cons rfl rfl (.cons rfl rfl (.cons rfl rfl (.cons rfl rfl (.cons rfl rfl (.cons rfl rfl (.cons rfl rfl (.cons rfl rfl (.cons rfl rfl (.cons rfl rfl (.cons rfl rfl (.cons rfl rfl (.cons rfl rfl (.cons rfl rfl (.cons rfl rfl (.cons rfl rfl (.cons rfl rfl (.cons rfl rfl (.cons rfl rfl (.cons rfl rfl (.cons rfl rfl (.cons rfl rfl (.cons rfl rfl (.cons rfl rfl (.cons rfl rfl (.cons rfl rfl (.cons rfl rfl (.cons rfl rfl (.cons rfl rfl (.cons rfl rfl (.cons rfl rfl (.cons rfl rfl (.cons rfl rfl (.cons rfl rfl (.cons rfl rfl (.cons rfl rfl (.cons rfl rfl (.cons rfl rfl .nil))))))))))))))))))))))))))))))))))))))))))))))))) ?_
                refine CJ_region ?_
                refine RJ_q (Op_move rfl) rfl ?_
                refine RJ_q (Op_move rfl) rfl ?_
                refine RJ_q (Op_eql rfl rfl) rfl ?_
                refine RJ_q (Op_move rfl) rfl ?_
                refine RJ_yes (t := 112) rfl rfl (decide_eq_true rfl) ?_
                refine RJ_q (Op_move rfl) rfl ?_
                refine RJ_yes (t := 112) rfl rfl (decide_eq_true rfl) ?_
                refine RJ_q (Op_move rfl) rfl ?_
                refine RJ_yes (t := 112) rfl rfl (decide_eq_true rfl) ?_
                refine RJ_q (Op_eqb rfl rfl Try.underlying4) rfl ?_
                refine RJ_q (Op_pick_t rfl (decide_eq_true rfl) rfl) rfl ?_
                refine RJ_q (Op_assign rfl) rfl ?_
                refine RJ_nil ?_
                refine NJ_blk ?_
                refine NJ_meet ⟨L, kept, ⟨hI, by omega⟩, rfl, rfl⟩ (.cons rfl (by first | rfl | (simp; done)) (.cons rfl (by first | rfl | (simp; done)) (.cons rfl (by first | rfl | (simp; done)) (.cons rfl (by first | rfl | (simp; done)) (.cons rfl (by first | rfl | (simp; done)) .nil))))) (.cons (by first | ((repeat (first | with_reducible exact .here | apply Pick.there)); done) | ((repeat (first | exact .here | apply Pick.there)); done)) (.cons (by first | ((repeat (first | with_reducible exact .here | apply Pick.there)); done) | ((repeat (first | exact .here | apply Pick.there)); done)) (.cons (by first | ((repeat (first | with_reducible exact .here | apply Pick.there)); done) | ((repeat (first | exact .here | apply Pick.there)); done)) (by repeat (first | exact Imp.refl _ | refine Imp.skip ?_)))))
            · skip
              refine RJ_q (Op_assign rfl) rfl ?_
              refine RJ_nil ?_
              refine NJ_then ?_
              refine CJ_env (E' := [(1, _), (5, _), (6, _), (7, _), (8, _), (9, _), (30, _), (31, _), (32, _), (33, _), (34, _), (35, _), (36, _), (37, _), (40, _), (41, _), (42, _), (43, _), (44, _), (45, _), (46, _), (47, _), (79, _), (80, _), (81, _)]) (.cons rfl rfl (.cons rfl rfl (.cons rfl rfl (.cons rfl rfl (.cons rfl rfl (.cons rfl rfl (.cons rfl rfl (.cons rfl rfl (.cons rfl rfl (.cons rfl rfl (.cons rfl rfl (.cons rfl rfl (.cons rfl rfl (.cons rfl rfl (.cons rfl rfl (.cons rfl rfl (.cons rfl rfl (.cons rfl rfl (.cons rfl rfl (.cons rfl rfl (.cons rfl rfl (.cons rfl rfl (.cons rfl rfl (.cons rfl rfl (.cons rfl rfl .nil))))))))))))))))))))))))) ?_
              refine CJ_else rfl (decide_eq_false k2) ?_
              refine CJ_seq ?_
              refine CJ_region ?_
              refine RJ_q (Op_eql rfl rfl) rfl ?_
              by_cases k3 : ok = 3
              · skip
                refine RJ_q (Op_assign rfl) rfl ?_
                refine RJ_nil ?_
                refine NJ_then ?_
                refine CJ_env (E' := [(1, _), (5, _), (6, _), (7, _), (8, _), (9, _), (30, _), (31, _), (32, _), (33, _), (34, _), (35, _), (36, _), (37, _), (40, _), (41, _), (42, _), (43, _), (44, _), (45, _), (46, _), (47, _), (79, _), (80, _), (81, _), (117, _), (118, _)]) (.cons rfl rfl (.cons rfl rfl (.cons rfl rfl (.cons rfl rfl (.cons rfl rfl (.cons rfl rfl (.cons rfl rfl (.cons rfl rfl (.cons rfl rfl (.cons rfl rfl (.cons rfl rfl (.cons rfl rfl (.cons rfl rfl (.cons rfl rfl (.cons rfl rfl (.cons rfl rfl (.cons rfl rfl (.cons rfl rfl (.cons rfl rfl (.cons rfl rfl (.cons rfl rfl (.cons rfl rfl (.cons rfl rfl (.cons rfl rfl (.cons rfl rfl (.cons rfl rfl (.cons rfl rfl .nil))))))))))))))))))))))))))) ?_
                refine CJ_then rfl (decide_eq_true k3) ?_
                refine CJ_draw (.q 0 (.q 1 (.q 2 (.q 4 (.q 5 (.q 6 (.e 3 (.e 7 (.q 8 (.q 9 .done)))))))))) (by kernel_rfl) (by kernel_rfl) (by kernel_rfl) ?_
                refine SJ_q rfl (want_none rfl) rfl (fun _ _ => Op_move rfl) ?_
                refine SJ_q rfl (want_none rfl) rfl (fun _ _ => Op_fieldAddr (o' := 1) rfl Try.underlying31 rfl sz9 rfl rfl) ?_
                refine SJ_load rfl (want_none rfl) rfl rfl (load_cell Try.underlying9 rfl (by first | ((repeat (first | with_reducible exact .here | apply Pick.there)); done) | ((repeat (first | exact .here | apply Pick.there)); done)) (Nth.s Nth.z)) ?_
                refine SJ_q rfl (want_none rfl) rfl (fun _ _ => Op_move rfl) ?_
                refine SJ_q rfl (want_none rfl) rfl (fun _ _ => Op_fieldAddr (o' := 1) rfl Try.underlying31 rfl sz9 rfl rfl) ?_
                refine SJ_load rfl (want_none rfl) rfl rfl (load_cell Try.underlying9 rfl (by first | ((repeat (first | with_reducible exact .here | apply Pick.there)); done) | ((repeat (first | exact .here | apply Pick.there)); done)) (Nth.s Nth.z)) ?_
                refine SJ_p (rd' := [⟨6, _, _, _⟩]) [6] rfl (want_none rfl) rfl (Op_call (vs := [_, _]) Try.func12 rfl rfl (Drop_any gc L (max room 0) kept hI okey) rfl (.cons (by first | ((repeat (first | with_reducible exact .here | apply Pick.there)); done) | ((repeat (first | exact .here | apply Pick.there)); done)) (Imp.refl _))) (by kernel_rfl) rfl ?_
                rintro _ _ ⟨_, ⟨rfl, rfl⟩, rfl⟩
                refine OS_app1 ?_
                refine ⟨⟨(load_cell Try.underlying9 rfl (by first | ((repeat (first | with_reducible exact .here | apply Pick.there)); done) | ((repeat (first | exact .here | apply Pick.there)); done)) (Nth.s Nth.z)), trivial⟩, ?_⟩
                refine SJ_p (rd' := []) [] rfl (want_none rfl) rfl (Op_call (vs := [_, _]) Try.func13 rfl rfl (RDrop_any gr L (max room 0) kept okey (by omega)) rfl (.cons (by first | ((repeat (first | with_reducible exact .here | apply Pick.there)); done) | ((repeat (first | exact .here | apply Pick.there)); done)) (Imp.refl _))) (by kernel_rfl) rfl ?_
                rintro _ _ ⟨_, ⟨rfl, rfl⟩, rfl⟩
                refine OS_app1 ?_
                refine ⟨trivial, ?_⟩
                refine SJ_q rfl (want_none rfl) rfl (fun _ _ => Op_eqb rfl rfl Try.underlying4) ?_
                refine SJ_q rfl (want_none rfl) rfl (fun _ _ => Op_assign rfl) ?_
                refine SJ_done ?_
                refine NJ_blk ?_
                refine NJ_meet ⟨(dropK okey L), kept, ⟨hI.drop okey, by have := dropK_len okey L; omega⟩, rfl, rfl⟩ (.cons rfl (by first | rfl | (simp; done)) (.cons rfl (by first | rfl | (simp; done)) (.cons rfl (by first | rfl | (simp; done)) (.cons rfl (by first | rfl | (simp; done)) (.cons rfl (by first | rfl | (simp; done)) .nil))))) (.cons (by first | ((repeat (first | with_reducible exact .here | apply Pick.there)); done) | ((repeat (first | exact .here | apply Pick.there)); done)) (.cons (by first | ((repeat (first | with_reducible exact .here | apply Pick.there)); done) | ((repeat (first | exact .here | apply Pick.there)); done)) (.cons (by first | ((repeat (first | with_reducible exact .here | apply Pick.there)); done) | ((repeat (first | exact .here | apply Pick.there)); done)) (by repeat (first | exact Imp.refl _ | refine Imp.skip ?_)))))
              · skip
                refine RJ_q (Op_assign rfl) rfl ?_
                refine RJ_nil ?_
                refine NJ_then ?_
                refine CJ_env (E' := [(1, _), (5, _), (6, _), (7, _), (8, _), (9, _), (30, _), (31, _), (32, _), (33, _), (34, _), (35, _), (36, _), (37, _), (40, _), (41, _), (42, _), (43, _), (44, _), (45, _), (46, _), (47, _), (79, _), (80, _), (81, _), (117, _), (118, _)]) (.cons rfl rfl (.cons rfl rfl (.cons rfl rfl (.cons rfl rfl (.cons rfl rfl (.cons rfl rfl (.cons rfl rfl (.cons rfl rfl (.cons rfl rfl (.cons rfl rfl (.cons rfl rfl (.cons rfl rfl (.cons rfl rfl (.cons rfl rfl (.cons rfl rfl (.cons rfl rfl (.cons rfl rfl (.cons rfl rfl (.cons rfl rfl (.cons rfl rfl (.cons rfl rfl (.cons rfl rfl (.cons rfl rfl (.cons rfl rfl (.cons rfl rfl (.cons rfl rfl (.cons rfl rfl .nil))))))))))))))))))))))))))) ?_
                refine CJ_else rfl (decide_eq_false k3) ?_
                refine CJ_seq ?_
                refine CJ_region ?_
                refine RJ_q (Op_eql rfl rfl) rfl ?_
                by_cases k4 : ok = 4
                · skip
                  refine RJ_q (Op_assign rfl) rfl ?_
                  refine RJ_nil ?_
                  refine NJ_then ?_
                  refine CJ_env (E' := [(1, _), (5, _), (6, _), (7, _), (8, _), (9, _), (30, _), (31, _), (32, _), (33, _), (34, _), (35, _), (36, _), (37, _), (40, _), (41, _), (42, _), (43, _), (44, _), (45, _), (46, _), (47, _), (79, _), (80, _), (81, _), (117, _), (118, _), (128, _), (129, _)]) (.cons rfl rfl (.cons rfl rfl (.cons rfl rfl (.cons rfl rfl (.cons rfl rfl (.cons rfl rfl (.cons rfl rfl (.cons rfl rfl (.cons rfl rfl (.cons rfl rfl (.cons rfl rfl (.cons rfl rfl (.cons rfl rfl (.cons rfl rfl (.cons rfl rfl (.cons rfl rfl (.cons rfl rfl (.cons rfl rfl (.cons rfl rfl (.cons rfl rfl (.cons rfl rfl (.cons rfl rfl (.cons rfl rfl (.cons rfl rfl (.cons rfl rfl (.cons rfl rfl (.cons rfl rfl (.cons rfl rfl (.cons rfl rfl .nil))))))))))))))))))))))))))))) ?_
                  refine CJ_then rfl (decide_eq_true k4) ?_
                  refine CJ_seq ?_
                  refine CJ_region ?_
                  refine RJ_q (Op_move rfl) rfl ?_
                  refine RJ_q (Op_fieldAddr (o' := 2) rfl Try.underlying31 rfl sz3 rfl rfl) rfl ?_
                  refine RJ_q (Op_load rfl (load_cell Try.underlying3 rfl (by first | ((repeat (first | with_reducible exact .here | apply Pick.there)); done) | ((repeat (first | exact .here | apply Pick.there)); done)) (Nth.s (Nth.s Nth.z)))) rfl ?_
                  refine RJ_p rfl (Op_call (vs := [_, _]) Try.func14 rfl rfl (Reserve_any gc L (max room 0) kept hI osz hosz (by omega)) rfl (.cons (by first | ((repeat (first | with_reducible exact .here | apply Pick.there)); done) | ((repeat (first | exact .here | apply Pick.there)); done)) (Imp.refl _))) ?_
                  rintro _ _ ⟨_, ⟨a134, c134, rfl, rfl⟩, rfl⟩
                  refine RJ_app2 ?_
                  refine RJ_q (Op_move rfl) rfl ?_
                  refine RJ_q (Op_extract rfl rfl) rfl ?_
                  refine RJ_q (Op_extract rfl rfl) rfl ?_
                  refine RJ_q (Op_assign rfl) rfl ?_
                  refine RJ_q (Op_assign rfl) rfl ?_
                  refine RJ_nil ?_
                  refine NJ_then ?_
                  refine CJ_env (E' := [(1, _), (5, _), (6, _), (7, _), (8, _), (9, _), (18, _), (19, _), (30, _), (31, _), (32, _), (33, _), (34, _), (35, _), (36, _), (37, _), (40, _), (41, _), (42, _), (43, _), (44, _), (45, _), (46, _), (47, _), (79, _), (80, _), (81, _), (117, _), (118, _), (128, _), (129, _), (130, _), (131, _), (132, _), (133, _), (134, _), (135, _), (136, _)]) (.cons rfl rfl (.cons rfl rfl (.cons rfl rfl (.cons rfl rfl (.cons rfl rfl (.cons rfl rfl (.cons rfl rfl (.cons rfl rfl (.cons rfl rfl (.cons rfl rfl (.cons rfl rfl (.cons rfl rfl (.cons rfl rfl (.cons rfl rfl (.cons rfl rfl (.cons rfl rfl (.cons rfl rfl (.cons rfl rfl (.cons rfl rfl (.cons rfl rfl (.cons rfl rfl (.cons rfl rfl (.cons rfl rfl (.cons rfl rfl (.cons rfl rfl (.cons rfl rfl (.cons rfl rfl (.cons rfl rfl (.cons rfl rfl (.cons rfl rfl (.cons rfl rfl (.cons rfl rfl (.cons rfl rfl (.cons rfl rfl (.cons rfl rfl (.cons rfl rfl (.cons rfl rfl (.cons rfl rfl .nil)))))))))))))))))))))))))))))))))))))) ?_
                  refine CJ_seq ?_
                  refine CJ_region ?_
                  refine RJ_q (Op_move rfl) rfl ?_
                  refine RJ_q (Op_fieldAddr (o' := 2) rfl Try.underlying31 rfl sz3 rfl rfl) rfl ?_
                  refine RJ_q (Op_load rfl (load_cell Try.underlying3 rfl (by first | ((repeat (first | with_reducible exact .here | apply Pick.there)); done) | ((repeat (first | exact .here | apply Pick.there)); done)) (Nth.s (Nth.s Nth.z)))) rfl ?_
                  refine RJ_p rfl (Op_call (vs := [_, _]) Try.func15 rfl rfl (RReserve_any gr L (max room 0) kept hI osz (by omega)) rfl (.cons (by first | ((repeat (first | with_reducible exact .here | apply Pick.there)); done) | ((repeat (first | exact .here | apply Pick.there)); done)) (Imp.refl _))) ?_
                  rintro _ _ ⟨_, ⟨a141, c141, rfl, rfl⟩, rfl⟩
                  refine RJ_app2 ?_
                  refine RJ_q (Op_move rfl) rfl ?_
                  refine RJ_q (Op_extract rfl rfl) rfl ?_
                  refine RJ_q (Op_extract rfl rfl) rfl ?_
                  refine RJ_q (Op_assign rfl) rfl ?_
                  refine RJ_q (Op_assign rfl) rfl ?_
                  refine RJ_nil ?_
                  refine NJ_then ?_
                  refine CJ_env (E' := [(1, _), (5, _), (6, _), (7, _), (8, _), (9, _), (18, _), (19, _), (20, _), (21, _), (30, _), (31, _), (32, _), (33, _), (34, _), (35, _), (36, _), (37, _), (40, _), (41, _), (42, _), (43, _), (44, _), (45, _), (46, _), (47, _), (79, _), (80, _), (81, _), (117, _), (118, _), (128, _), (129, _), (130, _), (131, _), (132, _), (133, _), (134, _), (135, _), (136, _), (137, _), (138, _), (139, _), (140, _), (141, _), (142, _), (143, _)]) (.cons rfl rfl (.cons rfl rfl (.cons rfl rfl (.cons rfl rfl (.cons rfl rfl (.cons rfl rfl (.cons rfl rfl (.cons rfl rfl (.cons rfl rfl (.cons rfl rfl (.cons rfl rfl (.cons rfl rfl (.cons rfl rfl (.cons rfl rfl (.cons rfl rfl (.cons rfl rfl (.cons rfl rfl (.cons rfl rfl (.cons rfl rfl (.cons rfl rfl (.cons rfl rfl (.cons rfl rfl (.cons rfl rfl (.cons rfl rfl (.cons rfl rfl (.cons rfl rfl (.cons rfl rfl (.cons rfl rfl (.cons rfl rfl (.cons rfl rfl (.cons rfl rfl (.cons rfl rfl (.cons rfl rfl (.cons rfl rfl (.cons rfl rfl (.cons rfl rfl (.cons rfl rfl (.cons rfl rfl (.cons rfl rfl (.cons rfl rfl (.cons rfl rfl (.cons rfl rfl (.cons rfl rfl (.cons rfl rfl (.cons rfl rfl (.cons rfl rfl (.cons rfl rfl .nil))))))))))))))))))))))))))))))))))))))))))))))) ?_
                  refine CJ_region ?_
                  refine RJ_q (Op_move rfl) rfl ?_
                  refine RJ_q (Op_move rfl) rfl ?_
                  refine RJ_q (Op_eqb rfl rfl Try.underlying4) rfl ?_
                  refine RJ_q (Op_move rfl) rfl ?_
                  refine RJ_yes (t := 147) rfl rfl (decide_eq_true rfl) ?_
                  refine RJ_q (Op_move rfl) rfl ?_
                  refine RJ_yes (t := 147) rfl rfl (decide_eq_true rfl) ?_
                  refine RJ_q (Op_move rfl) rfl ?_
                  refine RJ_yes (t := 147) rfl rfl (decide_eq_true rfl) ?_
                  refine RJ_p rfl (Op_call (vs := [_, _]) Try.func8 rfl rfl (RSame_eq a134 a141 c134 c141 (resR L (max room 0) kept osz).1) rfl (.cons (by first | ((repeat (first | with_reducible exact .here | apply Pick.there)); done) | ((repeat (first | exact .here | apply Pick.there)); done)) (.cons (by first | ((repeat (first | with_reducible exact .here | apply Pick.there)); done) | ((repeat (first | exact .here | apply Pick.there)); done)) (Imp.refl _)))) ?_
                  rintro _ _ ⟨_, ⟨rfl, rfl⟩, rfl⟩
                  refine RJ_app2 ?_
                  refine RJ_q (Op_pick_t rfl (decide_eq_true rfl) rfl) rfl ?_
                  refine RJ_q (Op_assign rfl) rfl ?_
                  refine RJ_nil ?_
                  refine NJ_blk ?_
                  refine NJ_meet ⟨(resR L (max room 0) kept osz).2.2.1, (resR L (max room 0) kept osz).2.2.2, ⟨hI.res osz, by have := resR_len L (max room 0) kept osz; omega⟩, rfl, rfl⟩ (.cons rfl (by first | rfl | (simp; done)) (.cons rfl (by first | rfl | (simp; done)) (.cons rfl (by first | rfl | (simp; done)) (.cons rfl (by first | rfl | (simp; done)) (.cons rfl (by first | rfl | (simp; done)) .nil))))) (.cons (by first | ((repeat (first | with_reducible exact .here | apply Pick.there)); done) | ((repeat (first | exact .here | apply Pick.there)); done)) (.cons (by first | ((repeat (first | with_reducible exact .here | apply Pick.there)); done) | ((repeat (first | exact .here | apply Pick.there)); done)) (.cons (by first | ((repeat (first | with_reducible exact .here | apply Pick.there)); done) | ((repeat (first | exact .here | apply Pick.there)); done)) (by repeat (first | exact Imp.refl _ | refine Imp.skip ?_)))))
                · skip
                  refine RJ_q (Op_assign rfl) rfl ?_
                  refine RJ_nil ?_
                  refine NJ_then ?_
                  refine CJ_env (E' := [(1, _), (5, _), (6, _), (7, _), (8, _), (9, _), (30, _), (31, _), (32, _), (33, _), (34, _), (35, _), (36, _), (37, _), (40, _), (41, _), (42, _), (43, _), (44, _), (45, _), (46, _), (47, _), (79, _), (80, _), (81, _), (117, _), (118, _), (128, _), (129, _)]) (.cons rfl rfl (.cons rfl rfl (.cons rfl rfl (.cons rfl rfl (.cons rfl rfl (.cons rfl rfl (.cons rfl rfl (.cons rfl rfl (.cons rfl rfl (.cons rfl rfl (.cons rfl rfl (.cons rfl rfl (.cons rfl rfl (.cons rfl rfl (.cons rfl rfl (.cons rfl rfl (.cons rfl rfl (.cons rfl rfl (.cons rfl rfl (.cons rfl rfl (.cons rfl rfl (.cons rfl rfl (.cons rfl rfl (.cons rfl rfl (.cons rfl rfl (.cons rfl rfl (.cons rfl rfl (.cons rfl rfl (.cons rfl rfl .nil))))))))))))))))))))))))))))) ?_
                  refine CJ_else rfl (decide_eq_false k4) ?_
                  refine CJ_seq ?_
                  refine CJ_region ?_
                  refine RJ_q (Op_eql rfl rfl) rfl ?_
                  by_cases k5 : ok = 5
                  · skip
                    refine RJ_q (Op_assign rfl) rfl ?_
                    refine RJ_nil ?_
                    refine NJ_then ?_
                    refine CJ_env (E' := [(1, _), (5, _), (6, _), (7, _), (8, _), (9, _), (30, _), (31, _), (32, _), (33, _), (34, _), (35, _), (36, _), (37, _), (40, _), (41, _), (42, _), (43, _), (44, _), (45, _), (46, _), (47, _), (79, _), (80, _), (81, _), (117, _), (118, _), (128, _), (129, _), (152, _), (153, _)]) (.cons rfl rfl (.cons rfl rfl (.cons rfl rfl (.cons rfl rfl (.cons rfl rfl (.cons rfl rfl (.cons rfl rfl (.cons rfl rfl (.cons rfl rfl (.cons rfl rfl (.cons rfl rfl (.cons rfl rfl (.cons rfl rfl (.cons rfl rfl (.cons rfl rfl (.cons rfl rfl (.cons rfl rfl (.cons rfl rfl (.cons rfl rfl (.cons rfl rfl (.cons rfl rfl (.cons rfl rfl (.cons rfl rfl (.cons rfl rfl (.cons rfl rfl (.cons rfl rfl (.cons rfl rfl (.cons rfl rfl (.cons rfl rfl (.cons rfl rfl (.cons rfl rfl .nil))))))))))))))))))))))))))))))) ?_
                    refine CJ_then rfl (decide_eq_true k5) ?_
                    refine CJ_seq ?_
                    refine CJ_region ?_
                    refine RJ_q (Op_move rfl) rfl ?_
                    refine RJ_q (Op_fieldAddr (o' := 2) rfl Try.underlying31 rfl sz3 rfl rfl) rfl ?_
                    refine RJ_q (Op_load rfl (load_cell Try.underlying3 rfl (by first | ((repeat (first | with_reducible exact .here | apply Pick.there)); done) | ((repeat (first | exact .here | apply Pick.there)); done)) (Nth.s (Nth.s Nth.z)))) rfl ?_
                    refine RJ_p rfl (Op_call (vs := [_, _]) Try.func16 rfl rfl (Release_any gc L (max room 0) kept hI osz) rfl (.cons (by first | ((repeat (first | with_reducible exact .here | apply Pick.there)); done) | ((repeat (first | exact .here | apply Pick.there)); done)) (Imp.refl _))) ?_
                    rintro _ _ ⟨_, ⟨rfl, rfl⟩, rfl⟩
                    refine RJ_app1 ?_
                    refine RJ_nil ?_
                    refine NJ_then ?_
                    refine CJ_env (E' := [(1, _), (5, _), (6, _), (7, _), (8, _), (9, _), (30, _), (31, _), (32, _), (33, _), (34, _), (35, _), (36, _), (37, _), (40, _), (41, _), (42, _), (43, _), (44, _), (45, _), (46, _), (47, _), (79, _), (80, _), (81, _), (117, _), (118, _), (128, _), (129, _), (152, _), (153, _), (154, _), (155, _), (156, _)]) (.cons rfl rfl (.cons rfl rfl (.cons rfl rfl (.cons rfl rfl (.cons rfl rfl (.cons rfl rfl (.cons rfl rfl (.cons rfl rfl (.cons rfl rfl (.cons rfl rfl (.cons rfl rfl (.cons rfl rfl (.cons rfl rfl (.cons rfl rfl (.cons rfl rfl (.cons rfl rfl (.cons rfl rfl (.cons rfl rfl (.cons rfl rfl (.cons rfl rfl (.cons rfl rfl (.cons rfl rfl (.cons rfl rfl (.cons rfl rfl (.cons rfl rfl (.cons rfl rfl (.cons rfl rfl (.cons rfl rfl (.cons rfl rfl (.cons rfl rfl (.cons rfl rfl (.cons rfl rfl (.cons rfl rfl (.cons rfl rfl .nil)))))))))))))))))))))))))))))))))) ?_
                    refine CJ_region ?_
                    refine RJ_q (Op_move rfl) rfl ?_
                    refine RJ_q (Op_fieldAddr (o' := 2) rfl Try.underlying31 rfl sz3 rfl rfl) rfl ?_
                    refine RJ_q (Op_load rfl (load_cell Try.underlying3 rfl (by first | ((repeat (first | with_reducible exact .here | apply Pick.there)); done) | ((repeat (first | exact .here | apply Pick.there)); done)) (Nth.s (Nth.s Nth.z)))) rfl ?_
                    refine RJ_p rfl (Op_call (vs := [_, _]) Try.func17 rfl rfl (RRelease_any gr L (max room 0) kept hI osz) rfl (.cons (by first | ((repeat (first | with_reducible exact .here | apply Pick.there)); done) | ((repeat (first | exact .here | apply Pick.there)); done)) (Imp.refl _))) ?_
                    rintro _ _ ⟨_, ⟨rfl, rfl⟩, rfl⟩
                    refine RJ_app1 ?_
                    refine RJ_nil ?_
                    refine NJ_blk ?_
                    refine NJ_meet ⟨L, (relR kept osz), ⟨hI.rel osz, by omega⟩, rfl, rfl⟩ (.cons rfl (by first | rfl | (simp; done)) (.cons rfl (by first | rfl | (simp; done)) (.cons rfl (by first | rfl | (simp; done)) (.cons rfl (by first | rfl | (simp; done)) (.cons rfl (by first | rfl | (simp; done)) .nil))))) (.cons (by first | ((repeat (first | with_reducible exact .here | apply Pick.there)); done) | ((repeat (first | exact .here | apply Pick.there)); done)) (.cons (by first | ((repeat (first | with_reducible exact .here | apply Pick.there)); done) | ((repeat (first | exact .here | apply Pick.there)); done)) (.cons (by first | ((repeat (first | with_reducible exact .here | apply Pick.there)); done) | ((repeat (first | exact .here | apply Pick.there)); done)) (by repeat (first | exact Imp.refl _ | refine Imp.skip ?_)))))
                  · skip
                    refine RJ_q (Op_assign rfl) rfl ?_
                    refine RJ_nil ?_
                    refine NJ_then ?_
                    refine CJ_env (E' := [(1, _), (5, _), (6, _), (7, _), (8, _), (9, _), (30, _), (31, _), (32, _), (33, _), (34, _), (35, _), (36, _), (37, _), (40, _), (41, _), (42, _), (43, _), (44, _), (45, _), (46, _), (47, _), (79, _), (80, _), (81, _), (117, _), (118, _), (128, _), (129, _), (152, _), (153, _)]) (.cons rfl rfl (.cons rfl rfl (.cons rfl rfl (.cons rfl rfl (.cons rfl rfl (.cons rfl rfl (.cons rfl rfl (.cons rfl rfl (.cons rfl rfl (.cons rfl rfl (.cons rfl rfl (.cons rfl rfl (.cons rfl rfl (.cons rfl rfl (.cons rfl rfl (.cons rfl rfl (.cons rfl rfl (.cons rfl rfl (.cons rfl rfl (.cons rfl rfl (.cons rfl rfl (.cons rfl rfl (.cons rfl rfl (.cons rfl rfl (.cons rfl rfl (.cons rfl rfl (.cons rfl rfl (.cons rfl rfl (.cons rfl rfl (.cons rfl rfl (.cons rfl rfl .nil))))))))))))))))))))))))))))))) ?_
                    refine CJ_else rfl (decide_eq_false k5) ?_
                    refine CJ_seq ?_
                    refine CJ_region ?_
                    refine RJ_q (Op_eql rfl rfl) rfl ?_
                    by_cases k6 : ok = 6
                    · skip
                      refine RJ_q (Op_assign rfl) rfl ?_
                      refine RJ_nil ?_
                      refine NJ_then ?_
                      refine CJ_env (E' := [(1, _), (5, _), (6, _), (7, _), (8, _), (9, _), (30, _), (31, _), (32, _), (33, _), (34, _), (35, _), (36, _), (37, _), (40, _), (41, _), (42, _), (43, _), (44, _), (45, _), (46, _), (47, _), (79, _), (80, _), (81, _), (117, _), (118, _), (128, _), (129, _), (152, _), (153, _), (162, _), (163, _)]) (.cons rfl rfl (.cons rfl rfl (.cons rfl rfl (.cons rfl rfl (.cons rfl rfl (.cons rfl rfl (.cons rfl rfl (.cons rfl rfl (.cons rfl rfl (.cons rfl rfl (.cons rfl rfl (.cons rfl rfl (.cons rfl rfl (.cons rfl rfl (.cons rfl rfl (.cons rfl rfl (.cons rfl rfl (.cons rfl rfl (.cons rfl rfl (.cons rfl rfl (.cons rfl rfl (.cons rfl rfl (.cons rfl rfl (.cons rfl rfl (.cons rfl rfl (.cons rfl rfl (.cons rfl rfl (.cons rfl rfl (.cons rfl rfl (.cons rfl rfl (.cons rfl rfl (.cons rfl rfl (.cons rfl rfl .nil))))))))))))))))))))))))))))))))) ?_
                      refine CJ_then rfl (decide_eq_true k6) ?_
                      refine CJ_seq ?_
                      refine CJ_region ?_
                      refine RJ_q (Op_move rfl) rfl ?_
                      refine RJ_p rfl (Op_call (vs := [_]) Try.func18 rfl rfl (Clear_any gc L (max room 0) kept hI) rfl (.cons (by first | ((repeat (first | with_reducible exact .here | apply Pick.there)); done) | ((repeat (first | exact .here | apply Pick.there)); done)) (Imp.refl _))) ?_
                      rintro _ _ ⟨_, ⟨rfl, rfl⟩, rfl⟩
                      refine RJ_app1 ?_
                      refine RJ_nil ?_
                      refine NJ_then ?_
                      refine CJ_env (E' := [(1, _), (5, _), (6, _), (7, _), (8, _), (9, _), (30, _), (31, _), (32, _), (33, _), (34, _), (35, _), (36, _), (37, _), (40, _), (41, _), (42, _), (43, _), (44, _), (45, _), (46, _), (47, _), (79, _), (80, _), (81, _), (117, _), (118, _), (128, _), (129, _), (152, _), (153, _), (162, _), (163, _), (164, _)]) (.cons rfl rfl (.cons rfl rfl (.cons rfl rfl (.cons rfl rfl (.cons rfl rfl (.cons rfl rfl (.cons rfl rfl (.cons rfl rfl (.cons rfl rfl (.cons rfl rfl (.cons rfl rfl (.cons rfl rfl (.cons rfl rfl (.cons rfl rfl (.cons rfl rfl (.cons rfl rfl (.cons rfl rfl (.cons rfl rfl (.cons rfl rfl (.cons rfl rfl (.cons rfl rfl (.cons rfl rfl (.cons rfl rfl (.cons rfl rfl (.cons rfl rfl (.cons rfl rfl (.cons rfl rfl (.cons rfl rfl (.cons rfl rfl (.cons rfl rfl (.cons rfl rfl (.cons rfl rfl (.cons rfl rfl (.cons rfl rfl .nil)))))))))))))))))))))))))))))))))) ?_
                      refine CJ_open (RCacheP_opens _ _ _ _) (by first | ((repeat (first | with_reducible exact .here | apply Pick.there)); done) | ((repeat (first | exact .here | apply Pick.there)); done)) ?_
                      rintro _ ⟨ra, rcap, rfl⟩
                      refine CJ_app2 ?_
                      refine CJ_region ?_
                      refine RJ_q (Op_move rfl) rfl ?_
                      refine RJ_q (Op_nilCheck rfl) rfl ?_
                      refine RJ_q (Op_fieldAddr (o' := 0) rfl Try.underlying29 rfl sz27 rfl rfl) rfl ?_
                      refine RJ_d0 (Op_store (cs' := #[_, _, _]) rfl rfl sz27 (by rfl) (by simp [Value.cells, Value.oneCell']) (by repeat (first | exact .here | apply Repl.there)) rfl (free_zero _ _) (by rfl)) ?_
                      refine RJ_nil ?_
                      refine NJ_imp (.trans (Row_none ThT).imp_add (.swap (C := [RfC gr none ([] : List It).length 0 (max room 0) kept, Row ThT none 0 []]) (.cons (by first | ((repeat (first | with_reducible exact .here | apply Pick.there)); done) | ((repeat (first | exact .here | apply Pick.there)); done)) (.cons (by first | ((repeat (first | with_reducible exact .here | apply Pick.there)); done) | ((repeat (first | exact .here | apply Pick.there)); done)) (Imp.refl _))) (RCacheP_close (L := []) rfl) (.refl _))) (NJ_app1 ?_)
                      refine NJ_blk ?_
                      refine NJ_meet ⟨[], kept, ⟨.nil hI.kp (by have := szs_nonneg hI.pos; have := hI.fit; omega) hI.top, by simp⟩, rfl, rfl⟩ (.cons rfl (by first | rfl | (simp; done)) (.cons rfl (by first | rfl | (simp; done)) (.cons rfl (by first | rfl | (simp; done)) (.cons rfl (by first | rfl | (simp; done)) (.cons rfl (by first | rfl | (simp; done)) .nil))))) (.cons (by first | ((repeat (first | with_reducible exact .here | apply Pick.there)); done) | ((repeat (first | exact .here | apply Pick.there)); done)) (.cons (by first | ((repeat (first | with_reducible exact .here | apply Pick.there)); done) | ((repeat (first | exact .here | apply Pick.there)); done)) (.cons (by first | ((repeat (first | with_reducible exact .here | apply Pick.there)); done) | ((repeat (first | exact .here | apply Pick.there)); done)) (by repeat (first | exact Imp.refl _ | refine Imp.skip ?_)))))
                    · skip
                      refine RJ_q (Op_assign rfl) rfl ?_
                      refine RJ_nil ?_
                      refine NJ_then ?_
                      refine CJ_env (E' := [(1, _), (5, _), (6, _), (7, _), (8, _), (9, _), (30, _), (31, _), (32, _), (33, _), (34, _), (35, _), (36, _), (37, _), (40, _), (41, _), (42, _), (43, _), (44, _), (45, _), (46, _), (47, _), (79, _), (80, _), (81, _), (117, _), (118, _), (128, _), (129, _), (152, _), (153, _), (162, _), (163, _)]) (.cons rfl rfl (.cons rfl rfl (.cons rfl rfl (.cons rfl rfl (.cons rfl rfl (.cons rfl rfl (.cons rfl rfl (.cons rfl rfl (.cons rfl rfl (.cons rfl rfl (.cons rfl rfl (.cons rfl rfl (.cons rfl rfl (.cons rfl rfl (.cons rfl rfl (.cons rfl rfl (.cons rfl rfl (.cons rfl rfl (.cons rfl rfl (.cons rfl rfl (.cons rfl rfl (.cons rfl rfl (.cons rfl rfl (.cons rfl rfl (.cons rfl rfl (.cons rfl rfl (.cons rfl rfl (.cons rfl rfl (.cons rfl rfl (.cons rfl rfl (.cons rfl rfl (.cons rfl rfl (.cons rfl rfl .nil))))))))))))))))))))))))))))))))) ?_
                      refine CJ_else rfl (decide_eq_false k6) ?_
                      refine CJ_skip ?_
                      refine NJ_blk ?_
                      refine NJ_meet ⟨L, kept, ⟨hI, by omega⟩, rfl, rfl⟩ (.cons rfl (by first | rfl | (simp; done)) (.cons rfl (by first | rfl | (simp; done)) (.cons rfl (by first | rfl | (simp; done)) (.cons rfl (by first | rfl | (simp; done)) (.cons rfl (by first | rfl | (simp; done)) .nil))))) (.cons (by first | ((repeat (first | with_reducible exact .here | apply Pick.there)); done) | ((repeat (first | exact .here | apply Pick.there)); done)) (.cons (by first | ((repeat (first | with_reducible exact .here | apply Pick.there)); done) | ((repeat (first | exact .here | apply Pick.there)); done)) (.cons (by first | ((repeat (first | with_reducible exact .here | apply Pick.there)); done) | ((repeat (first | exact .here | apply Pick.there)); done)) (by repeat (first | exact Imp.refl _ | refine Imp.skip ?_)))))
      · skip
        rintro _ _ ⟨L2, kept2, ⟨hI2, hq2⟩, rfl, rfl⟩
        refine CJ_app3 ?_
        refine CJ_seq ?_
        refine CJ_draw (.q 0 (.q 1 (.q 2 (.q 3 (.q 5 (.e 4 (.e 6 (.q 7 (.q 8 (.q 9 (.q 10 (.q 12 (.q 13 (.q 14 (.q 15 (.e 11 (.q 16 (.q 17 (.q 18 (.q 19 (.q 21 (.e 20 (.e 22 (.e 23 (.q 24 (.q 25 .done)))))))))))))))))))))))))) (by kernel_rfl) (by kernel_rfl) (by kernel_rfl) ?_
        refine SJ_q rfl (want_none rfl) rfl (fun _ _ => Op_move rfl) ?_
        refine SJ_q rfl (want_none rfl) rfl (fun _ _ => Op_not rfl) ?_
        refine SJ_q rfl (want_none rfl) rfl (fun _ _ => Op_move rfl) ?_
        refine SJ_q rfl (want_yes (t := 171) rfl rfl rfl rfl) rfl (fun _ _ => Op_move rfl) ?_
        refine SJ_q rfl (want_yes (t := 171) rfl rfl rfl rfl) rfl (fun _ _ => Op_move rfl) ?_
        refine SJ_p (rd' := []) [] rfl (want_yes (t := 171) rfl rfl rfl rfl) rfl (Op_call (vs := [_]) Try.func19 rfl rfl (Used_any gc L2 (max room 0) kept2 hI2) rfl (.cons (by first | ((repeat (first | with_reducible exact .here | apply Pick.there)); done) | ((repeat (first | exact .here | apply Pick.there)); done)) (Imp.refl _))) (by kernel_rfl) rfl ?_
        rintro _ _ ⟨_, ⟨rfl, rfl⟩, rfl⟩
        refine OS_app1 ?_
        refine ⟨trivial, ?_⟩
        refine SJ_p (rd' := []) [] rfl (want_yes (t := 171) rfl rfl rfl rfl) rfl (Op_call (vs := [_]) Try.func20 rfl rfl (RUsed_any gr L2 (max room 0) kept2 hI2) rfl (.cons (by first | ((repeat (first | with_reducible exact .here | apply Pick.there)); done) | ((repeat (first | exact .here | apply Pick.there)); done)) (Imp.refl _))) (by kernel_rfl) rfl ?_
        rintro _ _ ⟨_, ⟨rfl, rfl⟩, rfl⟩
        refine OS_app1 ?_
        refine ⟨trivial, ?_⟩
        refine SJ_q rfl (want_yes (t := 171) rfl rfl rfl rfl) rfl (fun _ _ => Op_neq rfl rfl) ?_
        refine SJ_q rfl (want_none rfl) rfl (fun _ _ => Op_pick_f rfl rfl rfl) ?_
        refine SJ_q rfl (want_none rfl) rfl (fun _ _ => Op_move rfl) ?_
        refine SJ_q rfl (want_yes (t := 178) rfl rfl rfl (decide_eq_false (fun h => h rfl))) rfl (fun _ _ => Op_move rfl) ?_
        refine SJ_q rfl (want_yes (t := 178) rfl rfl rfl (decide_eq_false (fun h => h rfl))) rfl (fun _ _ => Op_move rfl) ?_
        refine SJ_q rfl (want_yes (t := 178) rfl rfl rfl (decide_eq_false (fun h => h rfl))) rfl (fun _ _ => Op_nilCheck rfl) ?_
        refine SJ_q rfl (want_yes (t := 178) rfl rfl rfl (decide_eq_false (fun h => h rfl))) rfl (fun _ _ => Op_fieldAddr (o' := 2) rfl Try.underlying29 rfl sz3 rfl rfl) ?_
        refine SJ_load rfl (want_yes (t := 178) rfl rfl rfl (decide_eq_false (fun h => h rfl))) rfl rfl (load_rkept Try.underlying3 (by first | ((repeat (first | with_reducible exact .here | apply Pick.there)); done) | ((repeat (first | exact .here | apply Pick.there)); done))) ?_
        refine SJ_p (rd' := [⟨15, _, _, _⟩]) [15] rfl (want_yes (t := 178) rfl rfl rfl (decide_eq_false (fun h => h rfl))) rfl (Op_call (vs := [_]) Try.func21 rfl rfl (Reserved_any gc L2 (max room 0) kept2) rfl (.cons (by first | ((repeat (first | with_reducible exact .here | apply Pick.there)); done) | ((repeat (first | exact .here | apply Pick.there)); done)) (Imp.refl _))) (by kernel_rfl) rfl ?_
        rintro _ _ ⟨_, ⟨rfl, rfl⟩, rfl⟩
        refine OS_app1 ?_
        refine ⟨⟨(load_rkept Try.underlying3 (by first | ((repeat (first | with_reducible exact .here | apply Pick.there)); done) | ((repeat (first | exact .here | apply Pick.there)); done))), trivial⟩, ?_⟩
        refine SJ_q rfl (want_yes (t := 178) rfl rfl rfl (decide_eq_false (fun h => h rfl))) rfl (fun _ _ => Op_neq rfl rfl) ?_
        refine SJ_q rfl (want_none rfl) rfl (fun _ _ => Op_pick_f rfl (decide_eq_false (fun h => h rfl)) rfl) ?_
        refine SJ_q rfl (want_none rfl) rfl (fun _ _ => Op_move rfl) ?_
        refine SJ_q rfl (want_yes (t := 187) rfl rfl rfl (decide_eq_false (fun h => h rfl))) rfl (fun _ _ => Op_move rfl) ?_
        refine SJ_q rfl (want_yes (t := 187) rfl rfl rfl (decide_eq_false (fun h => h rfl))) rfl (fun _ _ => Op_move rfl) ?_
        refine SJ_p (rd' := []) [] rfl (want_yes (t := 187) rfl rfl rfl (decide_eq_false (fun h => h rfl))) rfl (Op_call (vs := [_]) Try.func22 rfl rfl (Keys_any gc L2 (max room 0) kept2 (by omega)) rfl (.cons (by first | ((repeat (first | with_reducible exact .here | apply Pick.there)); done) | ((repeat (first | exact .here | apply Pick.there)); done)) (Imp.refl _))) (by kernel_rfl) rfl ?_
        rintro _ _ ⟨_, ⟨a189, c189, rfl, rfl⟩, rfl⟩
        refine OS_app2 ?_
        refine ⟨trivial, ?_⟩
        refine SJ_p (rd' := []) [] rfl (want_yes (t := 187) rfl rfl rfl (decide_eq_false (fun h => h rfl))) rfl (Op_call (vs := [_]) Try.func23 rfl rfl (RKeys_any gr L2 (max room 0) kept2 (by omega)) rfl (.cons (by first | ((repeat (first | with_reducible exact .here | apply Pick.there)); done) | ((repeat (first | exact .here | apply Pick.there)); done)) (Imp.refl _))) (by kernel_rfl) rfl ?_
        rintro _ _ ⟨_, ⟨a191, c191, rfl, rfl⟩, rfl⟩
        refine OS_app2 ?_
        refine ⟨trivial, ?_⟩
        refine SJ_p (rd' := []) [] rfl (want_yes (t := 187) rfl rfl rfl (decide_eq_false (fun h => h rfl))) rfl (Op_call (vs := [_, _]) Try.func8 rfl rfl (RSame_eq a189 a191 c189 c191 (keysOf L2)) rfl (.cons (by first | ((repeat (first | with_reducible exact .here | apply Pick.there)); done) | ((repeat (first | exact .here | apply Pick.there)); done)) (.cons (by first | ((repeat (first | with_reducible exact .here | apply Pick.there)); done) | ((repeat (first | exact .here | apply Pick.there)); done)) (Imp.refl _)))) (by kernel_rfl) rfl ?_
        rintro _ _ ⟨_, ⟨rfl, rfl⟩, rfl⟩
        refine OS_app2 ?_
        refine ⟨trivial, ?_⟩
        refine SJ_q rfl (want_yes (t := 187) rfl rfl rfl (decide_eq_false (fun h => h rfl))) rfl (fun _ _ => Op_not rfl) ?_
        refine SJ_q rfl (want_none rfl) rfl (fun _ _ => Op_pick_f rfl (decide_eq_false (fun h => h rfl)) rfl) ?_
        refine SJ_done ?_
        refine NJ_then ?_
        refine CJ_env (E' := [(1, _), (5, _), (6, _), (7, _), (9, _), (169, _), (170, _), (171, _), (172, _), (173, _), (174, _), (175, _), (176, _), (177, _), (178, _), (179, _), (180, _), (181, _), (182, _), (183, _), (184, _), (185, _), (186, _), (187, _), (188, _), (189, _), (190, _), (191, _), (192, _), (193, _), (194, _)]) (.cons rfl rfl (.cons rfl rfl (.cons rfl rfl (.cons rfl rfl (.cons rfl rfl (.cons rfl rfl (.cons rfl rfl (.cons rfl rfl (.cons rfl rfl (.cons rfl rfl (.cons rfl rfl (.cons rfl rfl (.cons rfl rfl (.cons rfl rfl (.cons rfl rfl (.cons rfl rfl (.cons rfl rfl (.cons rfl rfl (.cons rfl rfl (.cons rfl rfl (.cons rfl rfl (.cons rfl rfl (.cons rfl rfl (.cons rfl rfl (.cons rfl rfl (.cons rfl rfl (.cons rfl rfl (.cons rfl rfl (.cons rfl rfl (.cons rfl rfl (.cons rfl rfl .nil))))))))))))))))))))))))))))))) ?_
        refine CJ_else rfl rfl ?_
        refine CJ_skip ?_
        refine NJ_blk ?_
        refine NJ_then ?_
        refine CJ_env (E' := [(1, _), (5, _), (6, _), (7, _), (9, _), (169, _), (170, _), (171, _), (172, _), (173, _), (174, _), (175, _), (176, _), (177, _), (178, _), (179, _), (180, _), (181, _), (182, _), (183, _), (184, _), (185, _), (186, _), (187, _), (188, _), (189, _), (190, _), (191, _), (192, _), (193, _), (194, _)]) (.cons rfl rfl (.cons rfl rfl (.cons rfl rfl (.cons rfl rfl (.cons rfl rfl (.cons rfl rfl (.cons rfl rfl (.cons rfl rfl (.cons rfl rfl (.cons rfl rfl (.cons rfl rfl (.cons rfl rfl (.cons rfl rfl (.cons rfl rfl (.cons rfl rfl (.cons rfl rfl (.cons rfl rfl (.cons rfl rfl (.cons rfl rfl (.cons rfl rfl (.cons rfl rfl (.cons rfl rfl (.cons rfl rfl (.cons rfl rfl (.cons rfl rfl (.cons rfl rfl (.cons rfl rfl (.cons rfl rfl (.cons rfl rfl (.cons rfl rfl (.cons rfl rfl .nil))))))))))))))))))))))))))))))) ?_
        refine CJ_region ?_
        refine RJ_q (Op_move rfl) rfl ?_
        refine RJ_q (Op_addN (i + 1) rfl rfl (by omega) (by omega)) rfl ?_
        refine RJ_q (Op_assign rfl) rfl ?_
        refine RJ_nil ?_
        refine NJ_back ⟨i + 1, L2, kept2, ⟨by omega, by omega, hq2, hI2⟩, rfl, rfl, rfl⟩ (by omega) (.cons rfl (by first | rfl | (simp; done)) (.cons rfl (by first | rfl | (simp; done)) (.cons rfl (by first | rfl | (simp; done)) (.cons rfl (by first | rfl | (simp; done)) .nil)))) (.cons (by first | ((repeat (first | with_reducible exact .here | apply Pick.there)); done) | ((repeat (first | exact .here | apply Pick.there)); done)) (.cons (by first | ((repeat (first | with_reducible exact .here | apply Pick.there)); done) | ((repeat (first | exact .here | apply Pick.there)); done)) (.cons (by first | ((repeat (first | with_reducible exact .here | apply Pick.there)); done) | ((repeat (first | exact .here | apply Pick.there)); done)) (by repeat (first | exact Imp.refl _ | refine Imp.skip ?_)))))
    · skip
      refine RJ_q (Op_pick_t rfl (decide_eq_true h0) rfl) rfl ?_
      refine RJ_nil ?_
      refine NJ_then ?_
      refine CJ_env (E' := [(1, _), (5, _), (6, _), (7, _), (30, _), (31, _), (32, _), (33, _), (34, _), (35, _), (36, _), (37, _)]) (.cons rfl rfl (.cons rfl rfl (.cons rfl rfl (.cons rfl rfl (.cons rfl rfl (.cons rfl rfl (.cons rfl rfl (.cons rfl rfl (.cons rfl rfl (.cons rfl rfl (.cons rfl rfl (.cons rfl rfl .nil)))))))))))) ?_
      refine CJ_else rfl (decide_eq_false h1) ?_
      refine CJ_exit ?_
      refine NJ_then_x ?_
      refine NJ_then_x ?_
      refine NJ_blk_hit ?_
      refine NJ_then ?_
      refine CJ_env (E' := []) .nil ?_
      refine CJ_seq ?_
      refine CJ_region ?_
      refine RJ_q (Op_assign rfl) rfl ?_
      refine RJ_nil ?_
      refine NJ_then ?_
      refine CJ_env (E' := [(4, _)]) (.cons rfl rfl .nil) ?_
      refine CJ_ret ?_
      refine NJ_ret (.inl rfl) Try.results3 (ResJ_tmp rfl ResJ_nil) ⟨rfl, rfl⟩ (.cons (by first | ((repeat (first | with_reducible exact .here | apply Pick.there)); done) | ((repeat (first | exact .here | apply Pick.there)); done)) (by repeat (first | exact Imp.refl _ | refine Imp.skip ?_)))
  · skip
    refine RJ_q (Op_move rfl) rfl ?_
    refine RJ_no (t := 34) false rfl rfl (decide_eq_false h0) (by decide) rfl ?_
    refine RJ_no (t := 34) false rfl rfl (decide_eq_false h0) (by decide) rfl ?_
    refine RJ_q (Op_pick_f rfl (decide_eq_false h0) rfl) rfl ?_
    refine RJ_nil ?_
    refine NJ_then ?_
    refine CJ_env (E' := [(1, _), (5, _), (6, _), (7, _), (30, _), (31, _), (32, _), (33, _), (34, _), (35, _), (36, _), (37, _)]) (.cons rfl rfl (.cons rfl rfl (.cons rfl rfl (.cons rfl rfl (.cons rfl rfl (.cons rfl rfl (.cons rfl rfl (.cons rfl rfl (.cons rfl rfl (.cons rfl rfl (.cons rfl rfl (.cons rfl rfl .nil)))))))))))) ?_
    refine CJ_else rfl rfl ?_
    refine CJ_exit ?_
    refine NJ_then_x ?_
    refine NJ_then_x ?_
    refine NJ_blk_hit ?_
    refine NJ_then ?_
    refine CJ_env (E' := []) .nil ?_
    refine CJ_seq ?_
    refine CJ_region ?_
    refine RJ_q (Op_assign rfl) rfl ?_
    refine RJ_nil ?_
    refine NJ_then ?_
    refine CJ_env (E' := [(4, _)]) (.cons rfl rfl .nil) ?_
    refine CJ_ret ?_
    refine NJ_ret (.inl rfl) Try.results3 (ResJ_tmp rfl ResJ_nil) ⟨rfl, rfl⟩ (.cons (by first | ((repeat (first | with_reducible exact .here | apply Pick.there)); done) | ((repeat (first | exact .here | apply Pick.there)); done)) (by repeat (first | exact Imp.refl _ | refine Imp.skip ?_)))
end Go.Proofs.Ytknddpcjmenmaaa.SL
