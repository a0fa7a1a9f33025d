/- Contracts of marker. -/
import Derived.Test.Ytbaecpddhdeapaas08MkD
import Derived.Test.Ytbaecpddhdeapaas08Facts
namespace Go.Proofs.Ytbaecpddhdeapaa.SL
open Go Go.RowKit
set_option maxRecDepth 20000 in
theorem MkNew_any (limit : Int) : Spec Try.prog 8 #[.int .i64 limit] [] (fun v C => ∃ g, v = .pointer (some ⟨g, 0, none⟩) ∧ C = [MarksP g limit []]) := by
 refine Spec_intro (n := 7) (args := [.int .i64 limit]) Try.func8 rfl rfl rfl fun s R => ?_
 refine CJ_app0 ?_
 refine CJ_env (E' := [(0, _)]) (.cons rfl rfl .nil) ?_
 refine CJ_seq ?_
 refine CJ_region ?_
 refine RJ_q (Op_assign rfl) rfl ?_
 refine RJ_nil ?_
 refine NJ_then ?_
 refine CJ_env (E' := [(0, _), (2, _)]) (.cons rfl rfl (.cons rfl rfl .nil)) ?_
 refine CJ_seq ?_
 refine CJ_region ?_
 refine RJ_q (Op_move rfl) rfl ?_
 refine RJ_p rfl (Op_makeMap (K := KM)) ?_
 rintro _ _ ⟨g4, rfl, rfl⟩
 refine RJ_q (Op_build (vs := [_, _]) (cells := [_, _]) Try.underlying53 zr53 rfl pl53 (by rfl)) rfl ?_
 refine RJ_p rfl (Op_box rfl) ?_
 rintro _ _ ⟨b6, rfl, rfl⟩
 refine RJ_q (Op_assign rfl) rfl ?_
 refine RJ_nil ?_
 refine NJ_then ?_
 refine CJ_env (E' := [(2, _)]) (.cons rfl rfl .nil) ?_
 refine CJ_ret ?_
 refine NJ_ret (.inl rfl) Try.results8 (ResJ_tmp rfl ResJ_nil) ⟨b6, rfl, rfl⟩ (.swap (C := [MkC b6 g4 limit, Mp KM g4 (encM [])]) (.k (e := (.k (e := (Imp.refl _))))) MarksP_close (.k (e := skk)))

set_option maxRecDepth 20000 in
theorem MkLen_any (g : Nat) (limit : Int) (L : List Mark) : Spec Try.prog 11 #[.pointer (some ⟨g, 0, none⟩)] [MarksP g limit L] (fun v C => v = .int .i64 (L.length : Nat) ∧ C = [MarksP g limit L]) := by
 refine Spec_intro (n := 10) (args := [.pointer (some ⟨g, 0, none⟩)]) Try.func11 rfl rfl rfl fun s R => ?_
 refine CJ_app1 ?_
 refine CJ_env (E' := [(0, _)]) (.cons rfl rfl .nil) ?_
 refine CJ_open (MarksP_opens _ _ _) pkk ?_
 rintro _ ⟨mm, rfl⟩
 refine CJ_app2 ?_
 refine CJ_seq ?_
 refine CJ_region ?_
 refine RJ_q (Op_assign rfl) rfl ?_
 refine RJ_nil ?_
 refine NJ_then ?_
 refine CJ_env (E' := [(0, _), (2, _)]) (.cons rfl rfl (.cons rfl rfl .nil)) ?_
 refine CJ_seq ?_
 refine CJ_seq ?_
 refine CJ_region ?_
 refine RJ_q (Op_move rfl) rfl ?_
 refine RJ_q (Op_ptr_eq_nil rfl rfl Try.underlying24) rfl ?_
 refine RJ_nil ?_
 refine NJ_then ?_
 refine CJ_env (E' := [(0, _), (2, _), (4, _)]) (.cons rfl rfl (.cons rfl rfl (.cons rfl rfl .nil))) ?_
 refine CJ_else rfl rfl ?_
 refine CJ_skip ?_
 refine NJ_then ?_
 refine CJ_env (E' := [(0, _), (2, _)]) (.cons rfl rfl (.cons rfl rfl .nil)) ?_
 refine CJ_seq ?_
 refine CJ_region ?_
 refine RJ_q (Op_move rfl) rfl ?_
 refine RJ_q (Op_nilCheck rfl) rfl ?_
 refine RJ_q (Op_fieldAddr (o' := 1) rfl Try.underlying53 rfl sz51 rfl rfl) rfl ?_
 refine RJ_q (Op_load rfl (load_cell Try.underlying51 rfl pkk (Nth.s Nth.z))) rfl ?_
 refine RJ_q (Op_len_map rfl Try.underlying51 pkk) rfl ?_
 refine RJ_q (Op_assign rfl) rfl ?_
 refine RJ_nil ?_
 refine NJ_then ?_
 refine CJ_env (E' := [(2, _)]) (.cons rfl rfl .nil) ?_
 refine CJ_ret ?_
 refine NJ_ret (.inl rfl) Try.results11 (ResJ_tmp rfl ResJ_nil) ⟨by rw [encM_len]; rfl, rfl⟩ (.swap (C := [MkC g mm limit, Mp KM mm (encM (L))]) (.k (e := (.k (e := (Imp.refl _))))) MarksP_close (.k (e := skk)))

set_option maxRecDepth 20000 in
theorem MkDrop_any (g : Nat) (limit : Int) (L : List Mark) : Spec Try.prog 18 #[.pointer (some ⟨g, 0, none⟩)] [MarksP g limit L] (fun v C => v = .tuple #[] ∧ C = [MarksP g limit []]) := by
 refine Spec_intro (n := 8) (args := [.pointer (some ⟨g, 0, none⟩)]) Try.func18 rfl rfl rfl fun s R => ?_
 refine CJ_app1 ?_
 refine CJ_env (E' := [(0, _)]) (.cons rfl rfl .nil) ?_
 refine CJ_open (MarksP_opens _ _ _) pkk ?_
 rintro _ ⟨mm, rfl⟩
 refine CJ_app2 ?_
 refine CJ_seq ?_
 refine CJ_region ?_
 refine RJ_q (Op_move rfl) rfl ?_
 refine RJ_q (Op_ptr_ne_nil rfl rfl Try.underlying24) rfl ?_
 refine RJ_nil ?_
 refine NJ_then ?_
 refine CJ_env (E' := [(0, _), (3, _)]) (.cons rfl rfl (.cons rfl rfl .nil)) ?_
 refine CJ_then rfl rfl ?_
 refine CJ_region ?_
 refine RJ_q (Op_move rfl) rfl ?_
 refine RJ_q (Op_nilCheck rfl) rfl ?_
 refine RJ_q (Op_fieldAddr (o' := 1) rfl Try.underlying53 rfl sz51 rfl rfl) rfl ?_
 refine RJ_q (Op_load rfl (load_cell Try.underlying51 rfl pkk (Nth.s Nth.z))) rfl ?_
 refine RJ_d0 (Op_clear (K := KM) rfl Try.underlying51 pkk) ?_
 refine RJ_nil ?_
 refine NJ_ret (.inr rfl) Try.results18 ResJ_nil ⟨rfl, rfl⟩ (.swap (C := [MkC g mm limit, Mp KM mm (encM ([]))]) (.k (e := (.k (e := (Imp.refl _))))) MarksP_close (.k (e := skk)))

set_option maxRecDepth 20000 in
theorem MkSet_any (g : Nat) (limit : Int) (L : List Mark) (key : ByteArray) (ses req : Int) : Spec Try.prog 9 #[.pointer (some ⟨g, 0, none⟩), .string key, .int .i64 ses, .int .i64 req] [MarksP g limit L] (fun v C => v = .int .i64 (if (setR ⟨key, ses, req⟩ limit L).1 then 0 else 4) ∧ C = [MarksP g limit (setR ⟨key, ses, req⟩ limit L).2]) := by
 refine Spec_intro (n := 43) (args := [.pointer (some ⟨g, 0, none⟩), .string key, .int .i64 ses, .int .i64 req]) Try.func9 rfl rfl rfl fun s R => ?_
 refine CJ_app1 ?_
 refine CJ_env (E' := [(0, _), (1, _), (2, _), (3, _)]) (.cons rfl rfl (.cons rfl rfl (.cons rfl rfl (.cons rfl rfl .nil)))) ?_
 refine CJ_open (MarksP_opens _ _ _) pkk ?_
 rintro _ ⟨mm, rfl⟩
 refine CJ_app2 ?_
 refine CJ_seq ?_
 refine CJ_region ?_
 refine RJ_q (Op_assign rfl) rfl ?_
 refine RJ_nil ?_
 refine NJ_then ?_
 refine CJ_env (E' := [(0, _), (1, _), (2, _), (3, _), (8, _)]) (.cons rfl rfl (.cons rfl rfl (.cons rfl rfl (.cons rfl rfl (.cons rfl rfl .nil))))) ?_
 refine CJ_seq ?_
 refine CJ_region ?_
 refine RJ_q (Op_move rfl) rfl ?_
 refine RJ_q (Op_move rfl) rfl ?_
 refine RJ_q (Op_move rfl) rfl ?_
 refine RJ_q (Op_build (vs := [_, _, _]) (cells := [_, _, _]) Try.underlying34 zr34 rfl pl34 (by rfl)) rfl ?_
 refine RJ_p rfl (Op_alloc zr34) ?_
 rintro _ _ ⟨b9, rfl, rfl⟩
 refine RJ_d0 (Op_store (cs' := #[_, _, _]) rfl rfl sz34 (by rfl) (by simp [Value.cells, Value.oneCell']) rpp rfl (free_zero _ _) (by rfl)) ?_
 refine RJ_nil ?_
 refine NJ_then ?_
 refine CJ_env (E' := [(0, _), (8, _), (9, _)]) (.cons rfl rfl (.cons rfl rfl (.cons rfl rfl .nil))) ?_
 refine CJ_seq ?_
 refine CJ_block ?_
 refine CJ_seq ?_
 refine CJ_draw (.q 0 (.q 1 (.q 2 (.q 3 (.q 4 (.q 5 (.q 6 (.q 7 (.e 8 (.q 9 (.q 10 (.q 11 (.q 12 (.q 13 (.q 14 (.q 16 (.q 17 (.q 18 (.q 19 (.e 15 (.q 20 (.q 21 (.q 22 (.q 23 .done)))))))))))))))))))))))) (by kernel_rfl) (by kernel_rfl) (by kernel_rfl) ?_
 refine SJ_q rfl (want_none rfl) rfl (fun _ _ => Op_move rfl) ?_
 refine SJ_q rfl (want_none rfl) rfl (fun _ _ => Op_ptr_eq_nil rfl rfl Try.underlying24) ?_
 refine SJ_q rfl (want_none rfl) rfl (fun _ _ => Op_move rfl) ?_
 refine SJ_q rfl (want_yes (t := 17) rfl rfl rfl rfl) rfl (fun _ _ => Op_move rfl) ?_
 refine SJ_q rfl (want_yes (t := 17) rfl rfl rfl rfl) rfl (fun _ _ => Op_nilCheck rfl) ?_
 refine SJ_q rfl (want_yes (t := 17) rfl rfl rfl rfl) rfl (fun _ _ => Op_fieldAddr (o' := 1) rfl Try.underlying53 rfl sz51 rfl rfl) ?_
 refine SJ_load rfl (want_yes (t := 17) rfl rfl rfl rfl) rfl rfl (load_cell Try.underlying51 rfl pkk (Nth.s Nth.z)) ?_
 refine SJ_load rfl (want_yes (t := 17) rfl rfl rfl rfl) rfl rfl (load_struct (o := 0) (vs := [_, _, _]) Try.underlying34 sz34 pkk (by rfl) rfl) ?_
 refine SJ_d (rd' := []) [] rfl (want_yes (t := 17) rfl rfl rfl rfl) rfl ((Op_lookup (K := KM) (k := ⟨key, ses, req⟩) rfl rfl Try.underlying51 KM_ok zr4 pkk).opD) (by kernel_rfl) rfl trivial ?_
 rw [encM_at]
 refine SJ_q rfl (want_yes (t := 17) rfl rfl rfl rfl) rfl (fun _ _ => Op_not rfl) ?_
 by_cases hm : (⟨key, ses, req⟩ : Mark) ∈ L
 ·skip
  refine SJ_q rfl (want_yes (t := 17) rfl rfl rfl rfl) rfl (fun _ _ => Op_move rfl) ?_
  refine SJ_no (t := 25) false rfl rfl rfl (by simp [hm]) (by decide) rfl ?_
  refine SJ_no (t := 25) false rfl rfl rfl (by simp [hm]) (by decide) rfl ?_
  refine SJ_no (t := 25) false rfl rfl rfl (by simp [hm]) (by decide) rfl ?_
  refine SJ_no (t := 25) false rfl rfl rfl (by simp [hm]) (by decide) rfl ?_
  refine SJ_no (t := 25) false rfl rfl rfl (by simp [hm]) (by decide) rfl ?_
  refine SJ_no (t := 25) false rfl rfl rfl (by simp [hm]) (by decide) rfl ?_
  refine SJ_no (t := 25) false rfl rfl rfl (by simp [hm]) (by decide) rfl ?_
  refine SJ_no (t := 25) false rfl rfl rfl (by simp [hm]) (by decide) rfl ?_
  refine SJ_no_e (t := 25) false (rd' := []) [] rfl rfl rfl (by simp [hm]) (by decide) rfl (by kernel_rfl) rfl trivial ?_
  refine SJ_no (t := 25) false rfl rfl rfl (by simp [hm]) (by decide) rfl ?_
  refine SJ_q rfl (want_yes (t := 17) rfl rfl rfl rfl) rfl (fun _ _ => Op_pick_f rfl (by simp [hm]) rfl) ?_
  refine SJ_q rfl (want_none rfl) rfl (fun _ _ => Op_pick_f rfl rfl rfl) ?_
  refine SJ_q rfl (want_none rfl) rfl (fun _ _ => Op_assign rfl) ?_
  refine SJ_done ?_
  refine NJ_then ?_
  refine CJ_env (E' := [(0, _), (8, _), (9, _), (14, _)]) (.cons rfl rfl (.cons rfl rfl (.cons rfl rfl (.cons rfl rfl .nil)))) ?_
  refine CJ_else rfl rfl ?_
  refine CJ_skip ?_
  refine NJ_blk ?_
  refine NJ_then ?_
  refine CJ_env (E' := [(0, _), (8, _), (9, _)]) (.cons rfl rfl (.cons rfl rfl (.cons rfl rfl .nil))) ?_
  refine CJ_seq ?_
  refine CJ_draw (.q 0 (.q 1 (.q 2 (.q 3 (.q 4 (.e 5 .done)))))) (by kernel_rfl) (by kernel_rfl) (by kernel_rfl) ?_
  refine SJ_q rfl (want_none rfl) rfl (fun _ _ => Op_move rfl) ?_
  refine SJ_q rfl (want_none rfl) rfl (fun _ _ => Op_nilCheck rfl) ?_
  refine SJ_q rfl (want_none rfl) rfl (fun _ _ => Op_fieldAddr (o' := 1) rfl Try.underlying53 rfl sz51 rfl rfl) ?_
  refine SJ_load rfl (want_none rfl) rfl rfl (load_cell Try.underlying51 rfl pkk (Nth.s Nth.z)) ?_
  refine SJ_load rfl (want_none rfl) rfl rfl (load_struct (o := 0) (vs := [_, _, _]) Try.underlying34 sz34 pkk (by rfl) rfl) ?_
  refine SJ_d0 (rd' := []) [] rfl (want_none rfl) (Op_mapUpdate (K := KM) (k := ⟨key, ses, req⟩) rfl rfl rfl Try.underlying51 KM_ok pkk) (by kernel_rfl) rfl trivial ?_
  rw [encM_put, if_pos hm]
  refine SJ_done ?_
  refine NJ_then ?_
  refine CJ_env (E' := [(8, _)]) (.cons rfl rfl .nil) ?_
  refine CJ_seq ?_
  refine CJ_region ?_
  refine RJ_q (Op_assign rfl) rfl ?_
  refine RJ_nil ?_
  refine NJ_then ?_
  refine CJ_env (E' := [(8, _)]) (.cons rfl rfl .nil) ?_
  refine CJ_ret ?_
  have hU : setR ⟨key, ses, req⟩ limit L = (true, L) := by unfold setR; rw [if_pos hm]
  rw [hU]
  refine NJ_ret (.inl rfl) Try.results9 (ResJ_tmp rfl ResJ_nil) ⟨rfl, rfl⟩ (.swap (C := [MkC g mm limit, Mp KM mm (encM (L))]) (.k (e := (.k (e := (Imp.refl _))))) MarksP_close (.k (e := skk)))
 ·skip
  refine SJ_q rfl (want_yes (t := 17) rfl rfl rfl rfl) rfl (fun _ _ => Op_move rfl) ?_
  refine SJ_q rfl (want_yes (t := 25) rfl rfl rfl (by simp [hm])) rfl (fun _ _ => Op_move rfl) ?_
  refine SJ_q rfl (want_yes (t := 25) rfl rfl rfl (by simp [hm])) rfl (fun _ _ => Op_nilCheck rfl) ?_
  refine SJ_q rfl (want_yes (t := 25) rfl rfl rfl (by simp [hm])) rfl (fun _ _ => Op_fieldAddr (o' := 1) rfl Try.underlying53 rfl sz51 rfl rfl) ?_
  refine SJ_load rfl (want_yes (t := 25) rfl rfl rfl (by simp [hm])) rfl rfl (load_cell Try.underlying51 rfl pkk (Nth.s Nth.z)) ?_
  refine SJ_q rfl (want_yes (t := 25) rfl rfl rfl (by simp [hm])) rfl (fun _ _ => Op_move rfl) ?_
  refine SJ_q rfl (want_yes (t := 25) rfl rfl rfl (by simp [hm])) rfl (fun _ _ => Op_nilCheck rfl) ?_
  refine SJ_q rfl (want_yes (t := 25) rfl rfl rfl (by simp [hm])) rfl (fun _ _ => Op_fieldAddr (o' := 0) rfl Try.underlying53 rfl sz3 rfl rfl) ?_
  refine SJ_load rfl (want_yes (t := 25) rfl rfl rfl (by simp [hm])) rfl rfl (load_cell Try.underlying3 rfl pkk Nth.z) ?_
  refine SJ_d (rd' := [⟨19, _, _, _⟩]) [19] rfl (want_yes (t := 25) rfl rfl rfl (by simp [hm])) rfl ((Op_len_map rfl Try.underlying51 pkk).opD) (by kernel_rfl) rfl ⟨(load_cell Try.underlying3 rfl pkk Nth.z), trivial⟩ ?_
  rw [encM_len]
  refine SJ_q rfl (want_yes (t := 25) rfl rfl rfl (by simp [hm])) rfl (fun _ _ => Op_geq rfl rfl) ?_
  by_cases hl : limit ≤ (L.length : Int)
  ·skip
   refine SJ_q rfl (want_yes (t := 17) rfl rfl rfl rfl) rfl (fun _ _ => Op_pick_t rfl (by simp [hm]) rfl) ?_
   refine SJ_q rfl (want_none rfl) rfl (fun _ _ => Op_pick_f rfl rfl rfl) ?_
   refine SJ_q rfl (want_none rfl) rfl (fun _ _ => Op_assign rfl) ?_
   refine SJ_done ?_
   refine NJ_then ?_
   refine CJ_env (E' := [(0, _), (8, _), (9, _), (14, _)]) (.cons rfl rfl (.cons rfl rfl (.cons rfl rfl (.cons rfl rfl .nil)))) ?_
   refine CJ_then rfl (decide_eq_true hl) ?_
   refine CJ_seq ?_
   refine CJ_region ?_
   refine RJ_q (Op_assign rfl) rfl ?_
   refine RJ_nil ?_
   refine NJ_then ?_
   refine CJ_env (E' := [(8, _)]) (.cons rfl rfl .nil) ?_
   refine CJ_ret ?_
   refine NJ_blk_r ?_
   refine NJ_then_r ?_
   have hU : setR ⟨key, ses, req⟩ limit L = (false, L) := by unfold setR; rw [if_neg hm, if_pos hl]
   rw [hU]
   refine NJ_ret (.inl rfl) Try.results9 (ResJ_tmp rfl ResJ_nil) ⟨rfl, rfl⟩ (.swap (C := [MkC g mm limit, Mp KM mm (encM (L))]) (.k (e := (.k (e := (Imp.refl _))))) MarksP_close (.k (e := skk)))
  ·skip
   refine SJ_q rfl (want_yes (t := 17) rfl rfl rfl rfl) rfl (fun _ _ => Op_pick_t rfl (by simp [hm]) rfl) ?_
   refine SJ_q rfl (want_none rfl) rfl (fun _ _ => Op_pick_f rfl rfl rfl) ?_
   refine SJ_q rfl (want_none rfl) rfl (fun _ _ => Op_assign rfl) ?_
   refine SJ_done ?_
   refine NJ_then ?_
   refine CJ_env (E' := [(0, _), (8, _), (9, _), (14, _)]) (.cons rfl rfl (.cons rfl rfl (.cons rfl rfl (.cons rfl rfl .nil)))) ?_
   refine CJ_else rfl (decide_eq_false hl) ?_
   refine CJ_skip ?_
   refine NJ_blk ?_
   refine NJ_then ?_
   refine CJ_env (E' := [(0, _), (8, _), (9, _)]) (.cons rfl rfl (.cons rfl rfl (.cons rfl rfl .nil))) ?_
   refine CJ_seq ?_
   refine CJ_draw (.q 0 (.q 1 (.q 2 (.q 3 (.q 4 (.e 5 .done)))))) (by kernel_rfl) (by kernel_rfl) (by kernel_rfl) ?_
   refine SJ_q rfl (want_none rfl) rfl (fun _ _ => Op_move rfl) ?_
   refine SJ_q rfl (want_none rfl) rfl (fun _ _ => Op_nilCheck rfl) ?_
   refine SJ_q rfl (want_none rfl) rfl (fun _ _ => Op_fieldAddr (o' := 1) rfl Try.underlying53 rfl sz51 rfl rfl) ?_
   refine SJ_load rfl (want_none rfl) rfl rfl (load_cell Try.underlying51 rfl pkk (Nth.s Nth.z)) ?_
   refine SJ_load rfl (want_none rfl) rfl rfl (load_struct (o := 0) (vs := [_, _, _]) Try.underlying34 sz34 pkk (by rfl) rfl) ?_
   refine SJ_d0 (rd' := []) [] rfl (want_none rfl) (Op_mapUpdate (K := KM) (k := ⟨key, ses, req⟩) rfl rfl rfl Try.underlying51 KM_ok pkk) (by kernel_rfl) rfl trivial ?_
   rw [encM_put, if_neg hm]
   refine SJ_done ?_
   refine NJ_then ?_
   refine CJ_env (E' := [(8, _)]) (.cons rfl rfl .nil) ?_
   refine CJ_seq ?_
   refine CJ_region ?_
   refine RJ_q (Op_assign rfl) rfl ?_
   refine RJ_nil ?_
   refine NJ_then ?_
   refine CJ_env (E' := [(8, _)]) (.cons rfl rfl .nil) ?_
   refine CJ_ret ?_
   have hU : setR ⟨key, ses, req⟩ limit L = (true, L ++ [⟨key, ses, req⟩]) := by unfold setR; rw [if_neg hm, if_neg hl]
   rw [hU]
   refine NJ_ret (.inl rfl) Try.results9 (ResJ_tmp rfl ResJ_nil) ⟨rfl, rfl⟩ (.swap (C := [MkC g mm limit, Mp KM mm (encM (L ++ [⟨key, ses, req⟩]))]) (.k (e := (.k (e := (Imp.refl _))))) MarksP_close (.k (e := skk)))

set_option maxRecDepth 20000 in
theorem MkClear_any (g : Nat) (limit : Int) (L : List Mark) (key : ByteArray) (ses req : Int) : Spec Try.prog 12 #[.pointer (some ⟨g, 0, none⟩), .string key, .int .i64 ses, .int .i64 req] [MarksP g limit L] (fun v C => v = .bool (decide ((⟨key, ses, req⟩ : Mark) ∈ L)) ∧ C = [MarksP g limit (if (⟨key, ses, req⟩ : Mark) ∈ L then L.erase ⟨key, ses, req⟩ else L)]) := by
 refine Spec_intro (n := 30) (args := [.pointer (some ⟨g, 0, none⟩), .string key, .int .i64 ses, .int .i64 req]) Try.func12 rfl rfl rfl fun s R => ?_
 refine CJ_app1 ?_
 refine CJ_env (E' := [(0, _), (1, _), (2, _), (3, _)]) (.cons rfl rfl (.cons rfl rfl (.cons rfl rfl (.cons rfl rfl .nil)))) ?_
 refine CJ_open (MarksP_opens _ _ _) pkk ?_
 rintro _ ⟨mm, rfl⟩
 refine CJ_app2 ?_
 refine CJ_seq ?_
 refine CJ_region ?_
 refine RJ_q (Op_assign rfl) rfl ?_
 refine RJ_nil ?_
 refine NJ_then ?_
 refine CJ_env (E' := [(0, _), (1, _), (2, _), (3, _), (8, _)]) (.cons rfl rfl (.cons rfl rfl (.cons rfl rfl (.cons rfl rfl (.cons rfl rfl .nil))))) ?_
 refine CJ_seq ?_
 refine CJ_region ?_
 refine RJ_q (Op_move rfl) rfl ?_
 refine RJ_q (Op_move rfl) rfl ?_
 refine RJ_q (Op_move rfl) rfl ?_
 refine RJ_q (Op_build (vs := [_, _, _]) (cells := [_, _, _]) Try.underlying34 zr34 rfl pl34 (by rfl)) rfl ?_
 refine RJ_p rfl (Op_alloc zr34) ?_
 rintro _ _ ⟨b9, rfl, rfl⟩
 refine RJ_d0 (Op_store (cs' := #[_, _, _]) rfl rfl sz34 (by rfl) (by simp [Value.cells, Value.oneCell']) rpp rfl (free_zero _ _) (by rfl)) ?_
 refine RJ_nil ?_
 refine NJ_then ?_
 refine CJ_env (E' := [(0, _), (8, _), (9, _)]) (.cons rfl rfl (.cons rfl rfl (.cons rfl rfl .nil))) ?_
 refine CJ_seq ?_
 refine CJ_seq ?_
 refine CJ_draw (.q 0 (.q 1 (.q 2 (.q 3 (.q 4 (.q 5 (.q 6 (.q 7 (.e 8 (.q 9 (.q 10 .done))))))))))) (by kernel_rfl) (by kernel_rfl) (by kernel_rfl) ?_
 refine SJ_q rfl (want_none rfl) rfl (fun _ _ => Op_move rfl) ?_
 refine SJ_q rfl (want_none rfl) rfl (fun _ _ => Op_ptr_eq_nil rfl rfl Try.underlying24) ?_
 refine SJ_q rfl (want_none rfl) rfl (fun _ _ => Op_move rfl) ?_
 refine SJ_q rfl (want_yes (t := 16) rfl rfl rfl rfl) rfl (fun _ _ => Op_move rfl) ?_
 refine SJ_q rfl (want_yes (t := 16) rfl rfl rfl rfl) rfl (fun _ _ => Op_nilCheck rfl) ?_
 refine SJ_q rfl (want_yes (t := 16) rfl rfl rfl rfl) rfl (fun _ _ => Op_fieldAddr (o' := 1) rfl Try.underlying53 rfl sz51 rfl rfl) ?_
 refine SJ_load rfl (want_yes (t := 16) rfl rfl rfl rfl) rfl rfl (load_cell Try.underlying51 rfl pkk (Nth.s Nth.z)) ?_
 refine SJ_load rfl (want_yes (t := 16) rfl rfl rfl rfl) rfl rfl (load_struct (o := 0) (vs := [_, _, _]) Try.underlying34 sz34 pkk (by rfl) rfl) ?_
 refine SJ_d (rd' := []) [] rfl (want_yes (t := 16) rfl rfl rfl rfl) rfl ((Op_lookup (K := KM) (k := ⟨key, ses, req⟩) rfl rfl Try.underlying51 KM_ok zr4 pkk).opD) (by kernel_rfl) rfl trivial ?_
 rw [encM_at]
 refine SJ_q rfl (want_yes (t := 16) rfl rfl rfl rfl) rfl (fun _ _ => Op_not rfl) ?_
 by_cases hm : (⟨key, ses, req⟩ : Mark) ∈ L
 ·skip
  refine SJ_q rfl (want_none rfl) rfl (fun _ _ => Op_pick_f rfl rfl rfl) ?_
  refine SJ_done ?_
  refine NJ_then ?_
  refine CJ_env (E' := [(0, _), (8, _), (9, _), (24, _)]) (.cons rfl rfl (.cons rfl rfl (.cons rfl rfl (.cons rfl rfl .nil)))) ?_
  refine CJ_else rfl (by simp [hm]) ?_
  refine CJ_skip ?_
  refine NJ_then ?_
  refine CJ_env (E' := [(0, _), (8, _), (9, _)]) (.cons rfl rfl (.cons rfl rfl (.cons rfl rfl .nil))) ?_
  refine CJ_seq ?_
  refine CJ_draw (.q 0 (.q 1 (.q 2 (.q 3 (.q 4 (.e 5 .done)))))) (by kernel_rfl) (by kernel_rfl) (by kernel_rfl) ?_
  refine SJ_q rfl (want_none rfl) rfl (fun _ _ => Op_move rfl) ?_
  refine SJ_q rfl (want_none rfl) rfl (fun _ _ => Op_nilCheck rfl) ?_
  refine SJ_q rfl (want_none rfl) rfl (fun _ _ => Op_fieldAddr (o' := 1) rfl Try.underlying53 rfl sz51 rfl rfl) ?_
  refine SJ_load rfl (want_none rfl) rfl rfl (load_cell Try.underlying51 rfl pkk (Nth.s Nth.z)) ?_
  refine SJ_load rfl (want_none rfl) rfl rfl (load_struct (o := 0) (vs := [_, _, _]) Try.underlying34 sz34 pkk (by rfl) rfl) ?_
  refine SJ_d0 (rd' := []) [] rfl (want_none rfl) (Op_delete (K := KM) (k := ⟨key, ses, req⟩) rfl rfl Try.underlying51 KM_ok pkk) (by kernel_rfl) rfl trivial ?_
  rw [encM_del]
  refine SJ_done ?_
  refine NJ_then ?_
  refine CJ_env (E' := [(8, _)]) (.cons rfl rfl .nil) ?_
  refine CJ_seq ?_
  refine CJ_region ?_
  refine RJ_q (Op_assign rfl) rfl ?_
  refine RJ_nil ?_
  refine NJ_then ?_
  refine CJ_env (E' := [(8, _)]) (.cons rfl rfl .nil) ?_
  refine CJ_ret ?_
  rw [decide_eq_true hm, if_pos hm]
  refine NJ_ret (.inl rfl) Try.results12 (ResJ_tmp rfl ResJ_nil) ⟨rfl, rfl⟩ (.swap (C := [MkC g mm limit, Mp KM mm (encM (L.erase ⟨key, ses, req⟩))]) (.k (e := (.k (e := (Imp.refl _))))) MarksP_close (.k (e := skk)))
 ·skip
  refine SJ_q rfl (want_none rfl) rfl (fun _ _ => Op_pick_f rfl rfl rfl) ?_
  refine SJ_done ?_
  refine NJ_then ?_
  refine CJ_env (E' := [(0, _), (8, _), (9, _), (24, _)]) (.cons rfl rfl (.cons rfl rfl (.cons rfl rfl (.cons rfl rfl .nil)))) ?_
  refine CJ_then rfl (by simp [hm]) ?_
  refine CJ_seq ?_
  refine CJ_region ?_
  refine RJ_q (Op_assign rfl) rfl ?_
  refine RJ_nil ?_
  refine NJ_then ?_
  refine CJ_env (E' := [(8, _)]) (.cons rfl rfl .nil) ?_
  refine CJ_ret ?_
  refine NJ_then_r ?_
  rw [decide_eq_false hm, if_neg hm]
  refine NJ_ret (.inl rfl) Try.results12 (ResJ_tmp rfl ResJ_nil) ⟨rfl, rfl⟩ (.swap (C := [MkC g mm limit, Mp KM mm (encM (L))]) (.k (e := (.k (e := (Imp.refl _))))) MarksP_close (.k (e := skk)))

set_option maxRecDepth 20000 in
theorem MkHas_any (g : Nat) (limit : Int) (L : List Mark) (key : ByteArray) : Spec Try.prog 15 #[.pointer (some ⟨g, 0, none⟩), .string key] [MarksP g limit L] (fun v C => v = .bool (hasR key L) ∧ C = [MarksP g limit L]) := by
 refine Spec_intro (n := 21) (args := [.pointer (some ⟨g, 0, none⟩), .string key]) Try.func15 rfl rfl rfl fun s R => ?_
 refine CJ_app1 ?_
 refine CJ_env (E' := [(0, _), (1, _)]) (.cons rfl rfl (.cons rfl rfl .nil)) ?_
 refine CJ_open (MarksP_opens _ _ _) pkk ?_
 rintro _ ⟨mm, rfl⟩
 refine CJ_app2 ?_
 refine CJ_seq ?_
 refine CJ_region ?_
 refine RJ_q (Op_assign rfl) rfl ?_
 refine RJ_nil ?_
 refine NJ_then ?_
 refine CJ_env (E' := [(0, _), (1, _), (4, _)]) (.cons rfl rfl (.cons rfl rfl (.cons rfl rfl .nil))) ?_
 refine CJ_seq ?_
 refine CJ_seq ?_
 refine CJ_region ?_
 refine RJ_q (Op_move rfl) rfl ?_
 refine RJ_q (Op_ptr_eq_nil rfl rfl Try.underlying24) rfl ?_
 refine RJ_nil ?_
 refine NJ_then ?_
 refine CJ_env (E' := [(0, _), (1, _), (4, _), (7, _)]) (.cons rfl rfl (.cons rfl rfl (.cons rfl rfl (.cons rfl rfl .nil)))) ?_
 refine CJ_else rfl rfl ?_
 refine CJ_skip ?_
 refine NJ_then ?_
 refine CJ_env (E' := [(0, _), (1, _), (4, _)]) (.cons rfl rfl (.cons rfl rfl (.cons rfl rfl .nil))) ?_
 refine CJ_seq ?_
 refine CJ_seq ?_
 refine CJ_region ?_
 refine RJ_q (Op_move rfl) rfl ?_
 refine RJ_q (Op_nilCheck rfl) rfl ?_
 refine RJ_q (Op_fieldAddr (o' := 1) rfl Try.underlying53 rfl sz51 rfl rfl) rfl ?_
 refine RJ_q (Op_load rfl (load_cell Try.underlying51 rfl pkk (Nth.s Nth.z))) rfl ?_
 refine RJ_p rfl (Op_range (K := KM) rfl Try.underlying51 pkk) ?_
 rintro _ _ ⟨g12, rfl, rfl⟩
 rw [encM_keys]
 refine RJ_nil ?_
 refine NJ_then ?_
 refine CJ_env (E' := [(1, _), (4, _), (12, _)]) (.cons rfl rfl (.cons rfl rfl (.cons rfl rfl .nil))) ?_
 refine CJ_block ?_
 refine CJ_loop (fun E H mz => ∃ (todo : List Mark) (cur : Option (Mark × Value)), (hasR key L = hasR key todo) ∧ E = [(1, .string key), (12, .pointer (some ⟨g12, 0, none⟩))] ∧ H = [MkC g mm limit, ItP KM mm g12 (encM L) todo cur] ++ R ∧ mz = todo.length) (E' := [(1, .string key), (12, .pointer (some ⟨g12, 0, none⟩))]) (H' := [MkC g mm limit, ItP KM mm g12 (encM L) L none] ++ R) (m := L.length) ⟨L, none, rfl, rfl, rfl, rfl⟩ (.cons rfl rfl (.cons rfl rfl .nil)) (.k (e := (.k (e := skk)))) ?_
 rintro _ _ _ ⟨todo, cur, htd, rfl, rfl, rfl⟩
 refine CJ_app2 ?_
 refine CJ_seq ?_
 by_cases ht : todo = []
 ·skip
  subst ht
  refine CJ_region ?_
  refine RJ_q (Op_next_done rfl pkk) rfl ?_
  refine RJ_q (Op_extract rfl rfl) rfl ?_
  refine RJ_nil ?_
  refine NJ_then ?_
  refine CJ_env (E' := [(1, _), (12, _), (14, _)]) (.cons rfl rfl (.cons rfl rfl (.cons rfl rfl .nil))) ?_
  refine CJ_seq ?_
  refine CJ_else rfl rfl ?_
  refine CJ_exit ?_
  refine NJ_then_x ?_
  refine NJ_then_x ?_
  refine NJ_blk_hit ?_
  refine NJ_then ?_
  refine CJ_env (E' := []) .nil ?_
  refine CJ_seq ?_
  refine CJ_region ?_
  refine RJ_q (Op_assign rfl) rfl ?_
  refine RJ_nil ?_
  refine NJ_then ?_
  refine CJ_env (E' := [(4, _)]) (.cons rfl rfl .nil) ?_
  refine CJ_ret ?_
  have hP : hasR key L = false := by rw [htd]; rfl
  rw [hP]
  refine NJ_ret (.inl rfl) Try.results15 (ResJ_tmp rfl ResJ_nil) ⟨rfl, rfl⟩ (.swap (C := [ItP KM mm g12 (encM L) [] cur]) (.k (e := (Imp.refl _))) ItP_end (.swap (C := [MkC g mm limit, Mp KM mm (encM L)]) (.k (e := (.k (e := (Imp.refl _))))) MarksP_close (.k (e := skk))))
 ·skip
  refine CJ_region ?_
  refine RJ_p rfl (Op_next_more rfl ht pkk) ?_
  rintro _ _ ⟨j, k, u, hj, hku, rfl, rfl⟩
  have hlt : (todo.eraseIdx j).length < todo.length := by have := (List.getElem?_eq_some_iff.1 hj).1; rw [List.length_eraseIdx_of_lt this]; omega
  refine RJ_q (Op_extract rfl rfl) rfl ?_
  refine RJ_nil ?_
  refine NJ_then ?_
  refine CJ_env (E' := [(1, _), (12, _), (14, _)]) (.cons rfl rfl (.cons rfl rfl (.cons rfl rfl .nil))) ?_
  refine CJ_seq ?_
  refine CJ_then rfl rfl ?_
  refine CJ_skip ?_
  refine NJ_then ?_
  refine CJ_env (E' := [(1, _), (12, _)]) (.cons rfl rfl (.cons rfl rfl .nil)) ?_
  refine CJ_block ?_
  refine CJ_seq ?_
  refine CJ_region ?_
  refine RJ_q (Op_entry rfl pkk) rfl ?_
  refine RJ_q (Op_extract rfl rfl) rfl ?_
  refine RJ_p rfl (Op_alloc zr34) ?_
  rintro _ _ ⟨b5, rfl, rfl⟩
  refine RJ_d0 (Op_store (cs' := #[_, _, _]) rfl rfl sz34 (by rfl) (by simp [KM, markV, Value.cells, Value.oneCell']) rpp rfl (free_zero _ _) (by rfl)) ?_
  refine RJ_nil ?_
  refine NJ_then ?_
  refine CJ_env (E' := [(1, _), (5, _), (12, _)]) (.cons rfl rfl (.cons rfl rfl (.cons rfl rfl .nil))) ?_
  refine CJ_seq ?_
  refine CJ_region ?_
  refine RJ_q (Op_fieldAddr (o' := 0) rfl Try.underlying34 rfl sz9 rfl rfl) rfl ?_
  refine RJ_q (Op_load rfl (load_cell Try.underlying9 rfl pkk Nth.z)) rfl ?_
  refine RJ_q (Op_move rfl) rfl ?_
  refine RJ_q (Op_str_eql rfl rfl) rfl ?_
  by_cases h1 : k.key = key
  ·skip
   refine RJ_nil ?_
   refine NJ_then ?_
   refine CJ_env (E' := [(1, _), (12, _), (20, _)]) (.cons rfl rfl (.cons rfl rfl (.cons rfl rfl .nil))) ?_
   refine CJ_then rfl (decide_eq_true h1) ?_
   refine CJ_seq ?_
   refine CJ_region ?_
   refine RJ_q (Op_assign rfl) rfl ?_
   refine RJ_nil ?_
   refine NJ_then ?_
   refine CJ_env (E' := [(4, _)]) (.cons rfl rfl .nil) ?_
   refine CJ_ret ?_
   refine NJ_blk_r ?_
   refine NJ_then_r ?_
   refine NJ_blk_r ?_
   refine NJ_then_r ?_
   have hP : hasR key L = true := by rw [htd]; exact hasR_yes hj h1
   rw [hP]
   refine NJ_ret (.inl rfl) Try.results15 (ResJ_tmp rfl ResJ_nil) ⟨rfl, rfl⟩ (.swap (C := [ItP KM mm g12 (encM L) (todo.eraseIdx j) (some (k, u))]) (.k (e := (Imp.refl _))) ItP_end (.swap (C := [MkC g mm limit, Mp KM mm (encM L)]) (.k (e := (.k (e := (Imp.refl _))))) MarksP_close (.k (e := skk))))
  ·skip
   refine RJ_nil ?_
   refine NJ_then ?_
   refine CJ_env (E' := [(1, _), (12, _), (20, _)]) (.cons rfl rfl (.cons rfl rfl (.cons rfl rfl .nil))) ?_
   refine CJ_else rfl (decide_eq_false h1) ?_
   refine CJ_skip ?_
   refine NJ_blk ?_
   refine NJ_back ⟨todo.eraseIdx j, some (k, u), by rw [htd]; exact (hasR_erase hj h1).symm, rfl, rfl, rfl⟩ hlt (.cons rfl rfl (.cons rfl rfl .nil)) (.k (e := (.k (e := skk))))
end Go.Proofs.Ytbaecpddhdeapaa.SL
