/- Contracts of holdoff. -/
import Derived.Test.Ytgakbdofjlhoeaas21HdD
import Derived.Test.Ytgakbdofjlhoeaas21Facts
namespace Go.Proofs.Ytgakbdofjlhoeaa.SL
open Go Go.RowKit
set_option maxRecDepth 20000 in
theorem HdNew_any (limit : Int) : Spec Try.prog 52 #[.int .i64 limit] [] (fun v C => ∃ g, v = .pointer (some ⟨g, 0, none⟩) ∧ C = [HoldP g limit [] 0]) := by
 refine Spec_intro (n := 7) (args := [.int .i64 limit]) Try.func52 rfl rfl rfl fun s R => ?_
 refine CJ_app0 ?_
 refine CJ_env (E' := [(0, _)]) (.cons rfl rfl .nil) ?_
 refine CJ_seq ?_
 refine CJ_region ?_
 refine RJ_q (Op_assign rfl) rfl ?_
 refine RJ_nil ?_
 refine NJ_then ?_
 refine CJ_env (E' := [(0, _), (2, _)]) (.cons rfl rfl (.cons rfl rfl .nil)) ?_
 refine CJ_seq ?_
 refine CJ_region ?_
 refine RJ_q (Op_move rfl) rfl ?_
 refine RJ_p rfl (Op_makeMap (K := KStr 9)) ?_
 rintro _ _ ⟨g4, rfl, rfl⟩
 refine RJ_q (Op_build (vs := [_, _]) (cells := [_, _, _]) Try.underlying123 zr123 rfl pl123 (by rfl)) rfl ?_
 refine RJ_p rfl (Op_box rfl) ?_
 rintro _ _ ⟨b6, rfl, rfl⟩
 refine RJ_q (Op_assign rfl) rfl ?_
 refine RJ_nil ?_
 refine NJ_then ?_
 refine CJ_env (E' := [(2, _)]) (.cons rfl rfl .nil) ?_
 refine CJ_ret ?_
 refine NJ_ret (.inl rfl) Try.results52 (ResJ_tmp rfl ResJ_nil) ⟨b6, rfl, rfl⟩ (.swap (C := [HdC b6 g4 limit 0, Mp KS g4 (encL intV [])]) (.k (e := (.k (e := (Imp.refl _))))) HoldP_close (.k (e := skk)))

set_option maxRecDepth 20000 in
theorem HdLen_any (g : Nat) (limit : Int) (L : List (ByteArray × Int)) (floor : Int) : Spec Try.prog 40 #[.pointer (some ⟨g, 0, none⟩)] [HoldP g limit L floor] (fun v C => v = .int .i64 (L.length : Nat) ∧ C = [HoldP g limit L floor]) := by
 refine Spec_intro (n := 10) (args := [.pointer (some ⟨g, 0, none⟩)]) Try.func40 rfl rfl rfl fun s R => ?_
 refine CJ_app1 ?_
 refine CJ_env (E' := [(0, _)]) (.cons rfl rfl .nil) ?_
 refine CJ_open (HoldP_opens _ _ _ _) pkk ?_
 rintro _ ⟨mm, rfl⟩
 refine CJ_app2 ?_
 refine CJ_seq ?_
 refine CJ_region ?_
 refine RJ_q (Op_assign rfl) rfl ?_
 refine RJ_nil ?_
 refine NJ_then ?_
 refine CJ_env (E' := [(0, _), (2, _)]) (.cons rfl rfl (.cons rfl rfl .nil)) ?_
 refine CJ_seq ?_
 refine CJ_seq ?_
 refine CJ_region ?_
 refine RJ_q (Op_move rfl) rfl ?_
 refine RJ_q (Op_ptr_eq_nil rfl rfl Try.underlying73) rfl ?_
 refine RJ_nil ?_
 refine NJ_then ?_
 refine CJ_env (E' := [(0, _), (2, _), (4, _)]) (.cons rfl rfl (.cons rfl rfl (.cons rfl rfl .nil))) ?_
 refine CJ_else rfl rfl ?_
 refine CJ_skip ?_
 refine NJ_then ?_
 refine CJ_env (E' := [(0, _), (2, _)]) (.cons rfl rfl (.cons rfl rfl .nil)) ?_
 refine CJ_seq ?_
 refine CJ_region ?_
 refine RJ_q (Op_move rfl) rfl ?_
 refine RJ_q (Op_nilCheck rfl) rfl ?_
 refine RJ_q (Op_fieldAddr (o' := 2) rfl Try.underlying123 rfl sz121 rfl rfl) rfl ?_
 refine RJ_q (Op_load rfl (load_cell Try.underlying121 rfl pkk (Nth.s (Nth.s Nth.z)))) rfl ?_
 refine RJ_q (Op_len_map rfl Try.underlying121 pkk) rfl ?_
 refine RJ_q (Op_assign rfl) rfl ?_
 refine RJ_nil ?_
 refine NJ_then ?_
 refine CJ_env (E' := [(2, _)]) (.cons rfl rfl .nil) ?_
 refine CJ_ret ?_
 refine NJ_ret (.inl rfl) Try.results40 (ResJ_tmp rfl ResJ_nil) ⟨by rw [encL_len]; rfl, rfl⟩ (.swap (C := [HdC g mm limit (floor), Mp KS mm (encL intV (L))]) (.k (e := (.k (e := (Imp.refl _))))) HoldP_close (.k (e := skk)))

set_option maxRecDepth 20000 in
theorem HdClear_any (g : Nat) (limit : Int) (L : List (ByteArray × Int)) (floor : Int) : Spec Try.prog 36 #[.pointer (some ⟨g, 0, none⟩)] [HoldP g limit L floor] (fun v C => v = .tuple #[] ∧ C = [HoldP g limit [] 0]) := by
 refine Spec_intro (n := 11) (args := [.pointer (some ⟨g, 0, none⟩)]) Try.func36 rfl rfl rfl fun s R => ?_
 refine CJ_app1 ?_
 refine CJ_env (E' := [(0, _)]) (.cons rfl rfl .nil) ?_
 refine CJ_open (HoldP_opens _ _ _ _) pkk ?_
 rintro _ ⟨mm, rfl⟩
 refine CJ_app2 ?_
 refine CJ_seq ?_
 refine CJ_region ?_
 refine RJ_q (Op_move rfl) rfl ?_
 refine RJ_q (Op_ptr_ne_nil rfl rfl Try.underlying73) rfl ?_
 refine RJ_nil ?_
 refine NJ_then ?_
 refine CJ_env (E' := [(0, _), (3, _)]) (.cons rfl rfl (.cons rfl rfl .nil)) ?_
 refine CJ_then rfl rfl ?_
 refine CJ_seq ?_
 refine CJ_region ?_
 refine RJ_q (Op_move rfl) rfl ?_
 refine RJ_q (Op_nilCheck rfl) rfl ?_
 refine RJ_q (Op_fieldAddr (o' := 2) rfl Try.underlying123 rfl sz121 rfl rfl) rfl ?_
 refine RJ_q (Op_load rfl (load_cell Try.underlying121 rfl pkk (Nth.s (Nth.s Nth.z)))) rfl ?_
 refine RJ_d0 (Op_clear (K := KStr 9) rfl Try.underlying121 pkk) ?_
 refine RJ_nil ?_
 refine NJ_then ?_
 refine CJ_env (E' := [(0, _)]) (.cons rfl rfl .nil) ?_
 refine CJ_region ?_
 refine RJ_q (Op_move rfl) rfl ?_
 refine RJ_q (Op_nilCheck rfl) rfl ?_
 refine RJ_q (Op_fieldAddr (o' := 1) rfl Try.underlying123 rfl sz3 rfl rfl) rfl ?_
 refine RJ_d0 (Op_store (cs' := #[_, _, _]) rfl rfl sz3 (by rfl) (by simp [Value.cells, Value.oneCell']) rpp rfl (free_zero _ _) (by rfl)) ?_
 refine RJ_nil ?_
 refine NJ_ret (.inr rfl) Try.results36 ResJ_nil ⟨rfl, rfl⟩ (.swap (C := [HdC g mm limit (0), Mp KS mm (encL intV ([]))]) (.k (e := (.k (e := (Imp.refl _))))) HoldP_close (.k (e := skk)))

set_option maxRecDepth 20000 in
theorem HdNote_any (g : Nat) (limit : Int) (L : List (ByteArray × Int)) (floor : Int) (key : ByteArray) (index : Int) : Spec Try.prog 45 #[.pointer (some ⟨g, 0, none⟩), .string key, .int .i64 index] [HoldP g limit L floor] (fun v C => v = .tuple #[] ∧ C = [HoldP g limit (noteR key index limit L floor).1 (noteR key index limit L floor).2]) := by
 refine Spec_intro (n := 54) (args := [.pointer (some ⟨g, 0, none⟩), .string key, .int .i64 index]) Try.func45 rfl rfl rfl fun s R => ?_
 refine CJ_app1 ?_
 refine CJ_env (E' := [(0, _), (1, _), (2, _)]) (.cons rfl rfl (.cons rfl rfl (.cons rfl rfl .nil))) ?_
 refine CJ_open (HoldP_opens _ _ _ _) pkk ?_
 rintro _ ⟨mm, rfl⟩
 refine CJ_app2 ?_
 refine CJ_seq ?_
 refine CJ_seq ?_
 refine CJ_region ?_
 refine RJ_q (Op_move rfl) rfl ?_
 refine RJ_q (Op_ptr_eq_nil rfl rfl Try.underlying73) rfl ?_
 refine RJ_q (Op_move rfl) rfl ?_
 refine RJ_yes (t := 10) rfl rfl rfl ?_
 refine RJ_q (Op_move rfl) rfl ?_
 refine RJ_yes (t := 10) rfl rfl rfl ?_
 refine RJ_q (Op_lss rfl rfl) rfl ?_
 by_cases hi : index < 1
 ·skip
  refine RJ_q (Op_pick_f rfl rfl rfl) rfl ?_
  refine RJ_nil ?_
  refine NJ_then ?_
  refine CJ_env (E' := [(0, _), (1, _), (2, _), (13, _)]) (.cons rfl rfl (.cons rfl rfl (.cons rfl rfl (.cons rfl rfl .nil)))) ?_
  refine CJ_then rfl (decide_eq_true hi) ?_
  refine CJ_ret ?_
  refine NJ_then_r ?_
  have hU : noteR key index limit L floor = (L, floor) := by unfold noteR; rw [if_pos hi]
  rw [hU]
  refine NJ_ret (.inl rfl) Try.results45 ResJ_nil ⟨rfl, rfl⟩ (.swap (C := [HdC g mm limit (floor), Mp KS mm (encL intV (L))]) (.k (e := (.k (e := (Imp.refl _))))) HoldP_close (.k (e := skk)))
 ·skip
  refine RJ_q (Op_pick_f rfl rfl rfl) rfl ?_
  refine RJ_nil ?_
  refine NJ_then ?_
  refine CJ_env (E' := [(0, _), (1, _), (2, _), (13, _)]) (.cons rfl rfl (.cons rfl rfl (.cons rfl rfl (.cons rfl rfl .nil)))) ?_
  refine CJ_else rfl (decide_eq_false hi) ?_
  refine CJ_skip ?_
  refine NJ_then ?_
  refine CJ_env (E' := [(0, _), (1, _), (2, _)]) (.cons rfl rfl (.cons rfl rfl (.cons rfl rfl .nil))) ?_
  refine CJ_seq ?_
  by_cases hf : (aget key L).isSome = true
  ·skip
   obtain ⟨n, ho⟩ := Option.isSome_iff_exists.1 hf
   refine CJ_region ?_
   refine RJ_q (Op_move rfl) rfl ?_
   refine RJ_q (Op_nilCheck rfl) rfl ?_
   refine RJ_q (Op_fieldAddr (o' := 2) rfl Try.underlying123 rfl sz121 rfl rfl) rfl ?_
   refine RJ_q (Op_load rfl (load_cell Try.underlying121 rfl pkk (Nth.s (Nth.s Nth.z)))) rfl ?_
   refine RJ_q (Op_move rfl) rfl ?_
   refine RJ_q (Op_lookup_ok (K := KStr 9) rfl rfl Try.underlying121 ko9 zr3 pkk) rfl ?_
   rw [intV_some ho, intV_is]
   refine RJ_q (Op_move rfl) rfl ?_
   refine RJ_q (Op_extract rfl rfl) rfl ?_
   refine RJ_q (Op_extract rfl rfl) rfl ?_
   refine RJ_q (Op_assign rfl) rfl ?_
   refine RJ_q (Op_assign rfl) rfl ?_
   refine RJ_nil ?_
   refine NJ_then ?_
   refine CJ_env (E' := [(0, _), (1, _), (2, _), (6, _), (7, _)]) (.cons rfl rfl (.cons rfl rfl (.cons rfl rfl (.cons rfl rfl (.cons rfl rfl .nil))))) ?_
   refine CJ_block ?_
   refine CJ_seq ?_
   refine CJ_draw (.q 0 (.q 1 (.q 2 (.q 3 (.q 4 (.q 5 (.q 7 (.q 8 (.q 9 (.q 10 (.e 6 (.q 11 (.q 12 (.q 13 .done)))))))))))))) (by kernel_rfl) (by kernel_rfl) (by kernel_rfl) ?_
   refine SJ_q rfl (want_none rfl) rfl (fun _ _ => Op_move rfl) ?_
   refine SJ_q rfl (want_none rfl) rfl (fun _ _ => Op_move rfl) ?_
   refine SJ_no (t := 34) true rfl rfl rfl (by rw [ho]; rfl) (by decide) rfl ?_
   refine SJ_no (t := 34) true rfl rfl rfl (by rw [ho]; rfl) (by decide) rfl ?_
   refine SJ_no (t := 34) true rfl rfl rfl (by rw [ho]; rfl) (by decide) rfl ?_
   refine SJ_no (t := 34) true rfl rfl rfl (by rw [ho]; rfl) (by decide) rfl ?_
   refine SJ_no (t := 34) true rfl rfl rfl (by rw [ho]; rfl) (by decide) rfl ?_
   refine SJ_no (t := 34) true rfl rfl rfl (by rw [ho]; rfl) (by decide) rfl ?_
   refine SJ_no (t := 34) true rfl rfl rfl (by rw [ho]; rfl) (by decide) rfl ?_
   refine SJ_no (t := 34) true rfl rfl rfl (by rw [ho]; rfl) (by decide) rfl ?_
   refine SJ_no_e (t := 34) true (rd' := []) [] rfl rfl rfl (by rw [ho]; rfl) (by decide) rfl (by kernel_rfl) rfl trivial ?_
   refine SJ_no (t := 34) true rfl rfl rfl (by rw [ho]; rfl) (by decide) rfl ?_
   refine SJ_q rfl (want_none rfl) rfl (fun _ _ => Op_pick_t rfl (by rw [ho]; rfl) rfl) ?_
   refine SJ_q rfl (want_none rfl) rfl (fun _ _ => Op_assign rfl) ?_
   refine SJ_done ?_
   refine NJ_then ?_
   refine CJ_env (E' := [(0, _), (1, _), (2, _), (6, _), (32, _)]) (.cons rfl rfl (.cons rfl rfl (.cons rfl rfl (.cons rfl rfl (.cons rfl rfl .nil))))) ?_
   refine CJ_then rfl rfl ?_
   refine CJ_region ?_
   refine RJ_q (Op_move rfl) rfl ?_
   refine RJ_q (Op_nilCheck rfl) rfl ?_
   refine RJ_q (Op_fieldAddr (o' := 2) rfl Try.underlying123 rfl sz121 rfl rfl) rfl ?_
   refine RJ_q (Op_load rfl (load_cell Try.underlying121 rfl pkk (Nth.s (Nth.s Nth.z)))) rfl ?_
   refine RJ_q (Op_move rfl) rfl ?_
   refine RJ_q (Op_move rfl) rfl ?_
   refine RJ_q (Op_move rfl) rfl ?_
   refine RJ_q (Op_max rfl rfl) rfl ?_
   refine RJ_d0 (Op_mapUpdate (K := KStr 9) rfl rfl rfl Try.underlying121 ko9 pkk) ?_
   rw [show (.int .i64 (max n index) : Value) = intV (max n index) from rfl, mput_enc]
   refine RJ_nil ?_
   refine NJ_blk ?_
   have hU : noteR key index limit L floor = (aput key (max n index) L, floor) := by unfold noteR; rw [if_neg hi, ho]
   rw [hU]
   refine NJ_ret (.inr rfl) Try.results45 ResJ_nil ⟨rfl, rfl⟩ (.swap (C := [HdC g mm limit (floor), Mp KS mm (encL intV (aput key (max n index) L))]) (.k (e := (.k (e := (Imp.refl _))))) HoldP_close (.k (e := skk)))
  ·skip
   have ho : aget key L = none := by simpa using hf
   refine CJ_region ?_
   refine RJ_q (Op_move rfl) rfl ?_
   refine RJ_q (Op_nilCheck rfl) rfl ?_
   refine RJ_q (Op_fieldAddr (o' := 2) rfl Try.underlying123 rfl sz121 rfl rfl) rfl ?_
   refine RJ_q (Op_load rfl (load_cell Try.underlying121 rfl pkk (Nth.s (Nth.s Nth.z)))) rfl ?_
   refine RJ_q (Op_move rfl) rfl ?_
   refine RJ_q (Op_lookup_ok (K := KStr 9) rfl rfl Try.underlying121 ko9 zr3 pkk) rfl ?_
   rw [intV_none ho, intV_is]
   refine RJ_q (Op_move rfl) rfl ?_
   refine RJ_q (Op_extract rfl rfl) rfl ?_
   refine RJ_q (Op_extract rfl rfl) rfl ?_
   refine RJ_q (Op_assign rfl) rfl ?_
   refine RJ_q (Op_assign rfl) rfl ?_
   refine RJ_nil ?_
   refine NJ_then ?_
   refine CJ_env (E' := [(0, _), (1, _), (2, _), (6, _), (7, _)]) (.cons rfl rfl (.cons rfl rfl (.cons rfl rfl (.cons rfl rfl (.cons rfl rfl .nil))))) ?_
   refine CJ_block ?_
   refine CJ_seq ?_
   refine CJ_draw (.q 0 (.q 1 (.q 2 (.q 3 (.q 4 (.q 5 (.q 7 (.q 8 (.q 9 (.q 10 (.e 6 (.q 11 (.q 12 (.q 13 .done)))))))))))))) (by kernel_rfl) (by kernel_rfl) (by kernel_rfl) ?_
   refine SJ_q rfl (want_none rfl) rfl (fun _ _ => Op_move rfl) ?_
   refine SJ_q rfl (want_none rfl) rfl (fun _ _ => Op_move rfl) ?_
   refine SJ_q rfl (want_yes (t := 34) rfl rfl rfl (by rw [ho]; rfl)) rfl (fun _ _ => Op_move rfl) ?_
   refine SJ_q rfl (want_yes (t := 34) rfl rfl rfl (by rw [ho]; rfl)) rfl (fun _ _ => Op_nilCheck rfl) ?_
   refine SJ_q rfl (want_yes (t := 34) rfl rfl rfl (by rw [ho]; rfl)) rfl (fun _ _ => Op_fieldAddr (o' := 2) rfl Try.underlying123 rfl sz121 rfl rfl) ?_
   refine SJ_load rfl (want_yes (t := 34) rfl rfl rfl (by rw [ho]; rfl)) rfl rfl (load_cell Try.underlying121 rfl pkk (Nth.s (Nth.s Nth.z))) ?_
   refine SJ_q rfl (want_yes (t := 34) rfl rfl rfl (by rw [ho]; rfl)) rfl (fun _ _ => Op_move rfl) ?_
   refine SJ_q rfl (want_yes (t := 34) rfl rfl rfl (by rw [ho]; rfl)) rfl (fun _ _ => Op_nilCheck rfl) ?_
   refine SJ_q rfl (want_yes (t := 34) rfl rfl rfl (by rw [ho]; rfl)) rfl (fun _ _ => Op_fieldAddr (o' := 0) rfl Try.underlying123 rfl sz3 rfl rfl) ?_
   refine SJ_load rfl (want_yes (t := 34) rfl rfl rfl (by rw [ho]; rfl)) rfl rfl (load_cell Try.underlying3 rfl pkk Nth.z) ?_
   refine SJ_d (rd' := [⟨10, _, _, _⟩]) [10] rfl (want_yes (t := 34) rfl rfl rfl (by rw [ho]; rfl)) rfl ((Op_len_map rfl Try.underlying121 pkk).opD) (by kernel_rfl) rfl ⟨(load_cell Try.underlying3 rfl pkk Nth.z), trivial⟩ ?_
   rw [encL_len]
   refine SJ_q rfl (want_yes (t := 34) rfl rfl rfl (by rw [ho]; rfl)) rfl (fun _ _ => Op_lss rfl rfl) ?_
   by_cases hl : (L.length : Int) < limit
   ·skip
    refine SJ_q rfl (want_none rfl) rfl (fun _ _ => Op_pick_f rfl (by rw [ho]; rfl) rfl) ?_
    refine SJ_q rfl (want_none rfl) rfl (fun _ _ => Op_assign rfl) ?_
    refine SJ_done ?_
    refine NJ_then ?_
    refine CJ_env (E' := [(0, _), (1, _), (2, _), (6, _), (32, _)]) (.cons rfl rfl (.cons rfl rfl (.cons rfl rfl (.cons rfl rfl (.cons rfl rfl .nil))))) ?_
    refine CJ_then rfl (decide_eq_true hl) ?_
    refine CJ_region ?_
    refine RJ_q (Op_move rfl) rfl ?_
    refine RJ_q (Op_nilCheck rfl) rfl ?_
    refine RJ_q (Op_fieldAddr (o' := 2) rfl Try.underlying123 rfl sz121 rfl rfl) rfl ?_
    refine RJ_q (Op_load rfl (load_cell Try.underlying121 rfl pkk (Nth.s (Nth.s Nth.z)))) rfl ?_
    refine RJ_q (Op_move rfl) rfl ?_
    refine RJ_q (Op_move rfl) rfl ?_
    refine RJ_q (Op_move rfl) rfl ?_
    refine RJ_q (Op_max rfl rfl) rfl ?_
    refine RJ_d0 (Op_mapUpdate (K := KStr 9) rfl rfl rfl Try.underlying121 ko9 pkk) ?_
    rw [show (.int .i64 (max 0 index) : Value) = intV (max 0 index) from rfl, mput_enc, aput_new ho]
    refine RJ_nil ?_
    refine NJ_blk ?_
    have hU : noteR key index limit L floor = (L ++ [(key, max 0 index)], floor) := by unfold noteR; rw [if_neg hi, ho]; simp only [if_pos hl]
    rw [hU]
    refine NJ_ret (.inr rfl) Try.results45 ResJ_nil ⟨rfl, rfl⟩ (.swap (C := [HdC g mm limit (floor), Mp KS mm (encL intV (L ++ [(key, max 0 index)]))]) (.k (e := (.k (e := (Imp.refl _))))) HoldP_close (.k (e := skk)))
   ·skip
    refine SJ_q rfl (want_none rfl) rfl (fun _ _ => Op_pick_f rfl (by rw [ho]; rfl) rfl) ?_
    refine SJ_q rfl (want_none rfl) rfl (fun _ _ => Op_assign rfl) ?_
    refine SJ_done ?_
    refine NJ_then ?_
    refine CJ_env (E' := [(0, _), (1, _), (2, _), (6, _), (32, _)]) (.cons rfl rfl (.cons rfl rfl (.cons rfl rfl (.cons rfl rfl (.cons rfl rfl .nil))))) ?_
    refine CJ_else rfl (decide_eq_false hl) ?_
    refine CJ_region ?_
    refine RJ_q (Op_move rfl) rfl ?_
    refine RJ_q (Op_move rfl) rfl ?_
    refine RJ_q (Op_nilCheck rfl) rfl ?_
    refine RJ_q (Op_fieldAddr (o' := 1) rfl Try.underlying123 rfl sz3 rfl rfl) rfl ?_
    refine RJ_q (Op_load rfl (load_cell Try.underlying3 rfl pkk (Nth.s Nth.z))) rfl ?_
    refine RJ_q (Op_move rfl) rfl ?_
    refine RJ_q (Op_max rfl rfl) rfl ?_
    refine RJ_q (Op_nilCheck rfl) rfl ?_
    refine RJ_q (Op_fieldAddr (o' := 1) rfl Try.underlying123 rfl sz3 rfl rfl) rfl ?_
    refine RJ_d0 (Op_store (cs' := #[_, _, _]) rfl rfl sz3 (by rfl) (by simp [Value.cells, Value.oneCell']) rpp rfl (free_zero _ _) (by rfl)) ?_
    refine RJ_nil ?_
    refine NJ_blk ?_
    have hU : noteR key index limit L floor = (L, max floor index) := by unfold noteR; rw [if_neg hi, ho]; simp only [if_neg hl]
    rw [hU]
    refine NJ_ret (.inr rfl) Try.results45 ResJ_nil ⟨rfl, rfl⟩ (.swap (C := [HdC g mm limit (max floor index), Mp KS mm (encL intV (L))]) (.k (e := (.k (e := (Imp.refl _))))) HoldP_close (.k (e := skk)))

set_option maxRecDepth 20000 in
theorem HdAllows_any (g : Nat) (limit : Int) (L : List (ByteArray × Int)) (floor : Int) (key : ByteArray) (asOf : Int) : Spec Try.prog 46 #[.pointer (some ⟨g, 0, none⟩), .string key, .int .i64 asOf] [HoldP g limit L floor] (fun v C => v = .bool (allowsR key asOf L floor) ∧ C = [HoldP g limit L floor]) := by
 refine Spec_intro (n := 35) (args := [.pointer (some ⟨g, 0, none⟩), .string key, .int .i64 asOf]) Try.func46 rfl rfl rfl fun s R => ?_
 refine CJ_app1 ?_
 refine CJ_env (E' := [(0, _), (1, _), (2, _)]) (.cons rfl rfl (.cons rfl rfl (.cons rfl rfl .nil))) ?_
 refine CJ_open (HoldP_opens _ _ _ _) pkk ?_
 rintro _ ⟨mm, rfl⟩
 refine CJ_app2 ?_
 refine CJ_seq ?_
 refine CJ_region ?_
 refine RJ_q (Op_assign rfl) rfl ?_
 refine RJ_nil ?_
 refine NJ_then ?_
 refine CJ_env (E' := [(0, _), (1, _), (2, _), (6, _)]) (.cons rfl rfl (.cons rfl rfl (.cons rfl rfl (.cons rfl rfl .nil)))) ?_
 refine CJ_seq ?_
 refine CJ_seq ?_
 refine CJ_region ?_
 refine RJ_q (Op_move rfl) rfl ?_
 refine RJ_q (Op_ptr_eq_nil rfl rfl Try.underlying73) rfl ?_
 refine RJ_nil ?_
 refine NJ_then ?_
 refine CJ_env (E' := [(0, _), (1, _), (2, _), (6, _), (10, _)]) (.cons rfl rfl (.cons rfl rfl (.cons rfl rfl (.cons rfl rfl (.cons rfl rfl .nil))))) ?_
 refine CJ_else rfl rfl ?_
 refine CJ_skip ?_
 refine NJ_then ?_
 refine CJ_env (E' := [(0, _), (1, _), (2, _), (6, _)]) (.cons rfl rfl (.cons rfl rfl (.cons rfl rfl (.cons rfl rfl .nil)))) ?_
 refine CJ_seq ?_
 by_cases hf : (aget key L).isSome = true
 ·skip
  obtain ⟨n, ho⟩ := Option.isSome_iff_exists.1 hf
  refine CJ_region ?_
  refine RJ_q (Op_move rfl) rfl ?_
  refine RJ_q (Op_nilCheck rfl) rfl ?_
  refine RJ_q (Op_fieldAddr (o' := 2) rfl Try.underlying123 rfl sz121 rfl rfl) rfl ?_
  refine RJ_q (Op_load rfl (load_cell Try.underlying121 rfl pkk (Nth.s (Nth.s Nth.z)))) rfl ?_
  refine RJ_q (Op_move rfl) rfl ?_
  refine RJ_q (Op_lookup_ok (K := KStr 9) rfl rfl Try.underlying121 ko9 zr3 pkk) rfl ?_
  rw [intV_some ho, intV_is]
  refine RJ_q (Op_move rfl) rfl ?_
  refine RJ_q (Op_extract rfl rfl) rfl ?_
  refine RJ_q (Op_extract rfl rfl) rfl ?_
  refine RJ_q (Op_assign rfl) rfl ?_
  refine RJ_q (Op_assign rfl) rfl ?_
  refine RJ_nil ?_
  refine NJ_then ?_
  refine CJ_env (E' := [(0, _), (2, _), (6, _), (7, _), (8, _)]) (.cons rfl rfl (.cons rfl rfl (.cons rfl rfl (.cons rfl rfl (.cons rfl rfl .nil))))) ?_
  refine CJ_seq ?_
  refine CJ_region ?_
  refine RJ_q (Op_move rfl) rfl ?_
  refine RJ_q (Op_move rfl) rfl ?_
  refine RJ_q (Op_nilCheck rfl) rfl ?_
  refine RJ_q (Op_fieldAddr (o' := 1) rfl Try.underlying123 rfl sz3 rfl rfl) rfl ?_
  refine RJ_q (Op_load rfl (load_cell Try.underlying3 rfl pkk (Nth.s Nth.z))) rfl ?_
  refine RJ_q (Op_geq rfl rfl) rfl ?_
  by_cases h1 : floor ≤ asOf
  ·skip
   refine RJ_q (Op_move rfl) rfl ?_
   refine RJ_yes (t := 26) rfl rfl (decide_eq_true h1) ?_
   refine RJ_q (Op_move rfl) rfl ?_
   refine RJ_yes (t := 26) rfl rfl (decide_eq_true h1) ?_
   refine RJ_q (Op_not rfl) rfl ?_
   refine RJ_yes (t := 26) rfl rfl (decide_eq_true h1) ?_
   refine RJ_q (Op_move rfl) rfl ?_
   refine RJ_yes (t := 29) rfl rfl (by rw [ho]; rfl) ?_
   refine RJ_q (Op_move rfl) rfl ?_
   refine RJ_yes (t := 29) rfl rfl (by rw [ho]; rfl) ?_
   refine RJ_q (Op_move rfl) rfl ?_
   refine RJ_yes (t := 29) rfl rfl (by rw [ho]; rfl) ?_
   refine RJ_q (Op_geq rfl rfl) rfl ?_
   by_cases h2 : n ≤ asOf
   ·skip
    refine RJ_yes (t := 26) rfl rfl (decide_eq_true h1) ?_
    refine RJ_q (Op_pick_f rfl (by rw [ho]; rfl) rfl) rfl ?_
    refine RJ_q (Op_pick_t rfl (decide_eq_true h1) rfl) rfl ?_
    refine RJ_q (Op_assign rfl) rfl ?_
    refine RJ_nil ?_
    refine NJ_then ?_
    refine CJ_env (E' := [(6, _)]) (.cons rfl rfl .nil) ?_
    refine CJ_ret ?_
    have hU : allowsR key asOf L floor = true := by unfold allowsR; rw [ho]; simp [h1, h2]
    rw [hU]
    refine NJ_ret (.inl rfl) Try.results46 (ResJ_tmp rfl ResJ_nil) ⟨by first | rfl | (simp [packRes, h1]; done) | (simp [packRes, h1, h2]; done), rfl⟩ (.swap (C := [HdC g mm limit (floor), Mp KS mm (encL intV (L))]) (.k (e := (.k (e := (Imp.refl _))))) HoldP_close (.k (e := skk)))
   ·skip
    refine RJ_yes (t := 26) rfl rfl (decide_eq_true h1) ?_
    refine RJ_q (Op_pick_f rfl (by rw [ho]; rfl) rfl) rfl ?_
    refine RJ_q (Op_pick_t rfl (decide_eq_true h1) rfl) rfl ?_
    refine RJ_q (Op_assign rfl) rfl ?_
    refine RJ_nil ?_
    refine NJ_then ?_
    refine CJ_env (E' := [(6, _)]) (.cons rfl rfl .nil) ?_
    refine CJ_ret ?_
    have hU : allowsR key asOf L floor = false := by unfold allowsR; rw [ho]; simp [h1, h2]
    rw [hU]
    refine NJ_ret (.inl rfl) Try.results46 (ResJ_tmp rfl ResJ_nil) ⟨by first | rfl | (simp [packRes, h1]; done) | (simp [packRes, h1, h2]; done), rfl⟩ (.swap (C := [HdC g mm limit (floor), Mp KS mm (encL intV (L))]) (.k (e := (.k (e := (Imp.refl _))))) HoldP_close (.k (e := skk)))
  ·skip
   refine RJ_q (Op_move rfl) rfl ?_
   refine RJ_no (t := 26) false rfl rfl (decide_eq_false h1) (by decide) rfl ?_
   refine RJ_no (t := 26) false rfl rfl (decide_eq_false h1) (by decide) rfl ?_
   refine RJ_no (t := 26) false rfl rfl (decide_eq_false h1) (by decide) rfl ?_
   refine RJ_nou (t := 29) rfl rfl rfl ?_
   refine RJ_nou (t := 29) rfl rfl rfl ?_
   refine RJ_nou (t := 29) rfl rfl rfl ?_
   refine RJ_no (t := 26) false rfl rfl (decide_eq_false h1) (by decide) rfl ?_
   refine RJ_q (Op_pick_f rfl (decide_eq_false h1) rfl) rfl ?_
   refine RJ_q (Op_assign rfl) rfl ?_
   refine RJ_nil ?_
   refine NJ_then ?_
   refine CJ_env (E' := [(6, _)]) (.cons rfl rfl .nil) ?_
   refine CJ_ret ?_
   have hU : allowsR key asOf L floor = false := by unfold allowsR; simp [h1]
   rw [hU]
   refine NJ_ret (.inl rfl) Try.results46 (ResJ_tmp rfl ResJ_nil) ⟨by first | rfl | (simp [packRes, h1]; done) | (simp [packRes, h1, h2]; done), rfl⟩ (.swap (C := [HdC g mm limit (floor), Mp KS mm (encL intV (L))]) (.k (e := (.k (e := (Imp.refl _))))) HoldP_close (.k (e := skk)))
 ·skip
  have ho : aget key L = none := by simpa using hf
  refine CJ_region ?_
  refine RJ_q (Op_move rfl) rfl ?_
  refine RJ_q (Op_nilCheck rfl) rfl ?_
  refine RJ_q (Op_fieldAddr (o' := 2) rfl Try.underlying123 rfl sz121 rfl rfl) rfl ?_
  refine RJ_q (Op_load rfl (load_cell Try.underlying121 rfl pkk (Nth.s (Nth.s Nth.z)))) rfl ?_
  refine RJ_q (Op_move rfl) rfl ?_
  refine RJ_q (Op_lookup_ok (K := KStr 9) rfl rfl Try.underlying121 ko9 zr3 pkk) rfl ?_
  rw [intV_none ho, intV_is]
  refine RJ_q (Op_move rfl) rfl ?_
  refine RJ_q (Op_extract rfl rfl) rfl ?_
  refine RJ_q (Op_extract rfl rfl) rfl ?_
  refine RJ_q (Op_assign rfl) rfl ?_
  refine RJ_q (Op_assign rfl) rfl ?_
  refine RJ_nil ?_
  refine NJ_then ?_
  refine CJ_env (E' := [(0, _), (2, _), (6, _), (7, _), (8, _)]) (.cons rfl rfl (.cons rfl rfl (.cons rfl rfl (.cons rfl rfl (.cons rfl rfl .nil))))) ?_
  refine CJ_seq ?_
  refine CJ_region ?_
  refine RJ_q (Op_move rfl) rfl ?_
  refine RJ_q (Op_move rfl) rfl ?_
  refine RJ_q (Op_nilCheck rfl) rfl ?_
  refine RJ_q (Op_fieldAddr (o' := 1) rfl Try.underlying123 rfl sz3 rfl rfl) rfl ?_
  refine RJ_q (Op_load rfl (load_cell Try.underlying3 rfl pkk (Nth.s Nth.z))) rfl ?_
  refine RJ_q (Op_geq rfl rfl) rfl ?_
  by_cases h1 : floor ≤ asOf
  ·skip
   refine RJ_q (Op_move rfl) rfl ?_
   refine RJ_yes (t := 26) rfl rfl (decide_eq_true h1) ?_
   refine RJ_q (Op_move rfl) rfl ?_
   refine RJ_yes (t := 26) rfl rfl (decide_eq_true h1) ?_
   refine RJ_q (Op_not rfl) rfl ?_
   refine RJ_yes (t := 26) rfl rfl (decide_eq_true h1) ?_
   refine RJ_q (Op_move rfl) rfl ?_
   refine RJ_no (t := 29) true rfl rfl (by rw [ho]; rfl) (by decide) rfl ?_
   refine RJ_no (t := 29) true rfl rfl (by rw [ho]; rfl) (by decide) rfl ?_
   refine RJ_no (t := 29) true rfl rfl (by rw [ho]; rfl) (by decide) rfl ?_
   refine RJ_yes (t := 26) rfl rfl (decide_eq_true h1) ?_
   refine RJ_q (Op_pick_t rfl (by rw [ho]; rfl) rfl) rfl ?_
   refine RJ_q (Op_pick_t rfl (decide_eq_true h1) rfl) rfl ?_
   refine RJ_q (Op_assign rfl) rfl ?_
   refine RJ_nil ?_
   refine NJ_then ?_
   refine CJ_env (E' := [(6, _)]) (.cons rfl rfl .nil) ?_
   refine CJ_ret ?_
   have hU : allowsR key asOf L floor = true := by unfold allowsR; rw [ho]; simp [h1]
   rw [hU]
   refine NJ_ret (.inl rfl) Try.results46 (ResJ_tmp rfl ResJ_nil) ⟨by first | rfl | (simp [packRes, h1]; done) | (simp [packRes, h1, h2]; done), rfl⟩ (.swap (C := [HdC g mm limit (floor), Mp KS mm (encL intV (L))]) (.k (e := (.k (e := (Imp.refl _))))) HoldP_close (.k (e := skk)))
  ·skip
   refine RJ_q (Op_move rfl) rfl ?_
   refine RJ_no (t := 26) false rfl rfl (decide_eq_false h1) (by decide) rfl ?_
   refine RJ_no (t := 26) false rfl rfl (decide_eq_false h1) (by decide) rfl ?_
   refine RJ_no (t := 26) false rfl rfl (decide_eq_false h1) (by decide) rfl ?_
   refine RJ_nou (t := 29) rfl rfl rfl ?_
   refine RJ_nou (t := 29) rfl rfl rfl ?_
   refine RJ_nou (t := 29) rfl rfl rfl ?_
   refine RJ_no (t := 26) false rfl rfl (decide_eq_false h1) (by decide) rfl ?_
   refine RJ_q (Op_pick_f rfl (decide_eq_false h1) rfl) rfl ?_
   refine RJ_q (Op_assign rfl) rfl ?_
   refine RJ_nil ?_
   refine NJ_then ?_
   refine CJ_env (E' := [(6, _)]) (.cons rfl rfl .nil) ?_
   refine CJ_ret ?_
   have hU : allowsR key asOf L floor = false := by unfold allowsR; simp [h1]
   rw [hU]
   refine NJ_ret (.inl rfl) Try.results46 (ResJ_tmp rfl ResJ_nil) ⟨by first | rfl | (simp [packRes, h1]; done) | (simp [packRes, h1, h2]; done), rfl⟩ (.swap (C := [HdC g mm limit (floor), Mp KS mm (encL intV (L))]) (.k (e := (.k (e := (Imp.refl _))))) HoldP_close (.k (e := skk)))

set_option maxRecDepth 20000 in
theorem HdPass_any (g : Nat) (limit : Int) (L : List (ByteArray × Int)) (floor : Int) (index : Int) (hN : (L.map (·.1)).Nodup) (hl : L.length ≤ 1000000) : Spec Try.prog 47 #[.pointer (some ⟨g, 0, none⟩), .int .i64 index] [HoldP g limit L floor] (fun v C => v = .int .i64 ((L.length : Int) - (passL index L).length) ∧ C = [HoldP g limit (passL index L) (passF index floor)]) := by
 refine Spec_intro (n := 49) (args := [.pointer (some ⟨g, 0, none⟩), .int .i64 index]) Try.func47 rfl rfl rfl fun s R => ?_
 refine CJ_app1 ?_
 refine CJ_env (E' := [(0, _), (1, _)]) (.cons rfl rfl (.cons rfl rfl .nil)) ?_
 refine CJ_open (HoldP_opens _ _ _ _) pkk ?_
 rintro _ ⟨mm, rfl⟩
 refine CJ_app2 ?_
 have hfl := List.length_filterMap_le (passOne index) L
 refine CJ_seq ?_
 refine CJ_region ?_
 refine RJ_q (Op_assign rfl) rfl ?_
 refine RJ_nil ?_
 refine NJ_then ?_
 refine CJ_env (E' := [(0, _), (1, _), (4, _)]) (.cons rfl rfl (.cons rfl rfl (.cons rfl rfl .nil))) ?_
 refine CJ_seq ?_
 refine CJ_seq ?_
 refine CJ_region ?_
 refine RJ_q (Op_move rfl) rfl ?_
 refine RJ_q (Op_ptr_eq_nil rfl rfl Try.underlying73) rfl ?_
 refine RJ_nil ?_
 refine NJ_then ?_
 refine CJ_env (E' := [(0, _), (1, _), (4, _), (9, _)]) (.cons rfl rfl (.cons rfl rfl (.cons rfl rfl (.cons rfl rfl .nil)))) ?_
 refine CJ_else rfl rfl ?_
 refine CJ_skip ?_
 refine NJ_then ?_
 refine CJ_env (E' := [(0, _), (1, _), (4, _)]) (.cons rfl rfl (.cons rfl rfl (.cons rfl rfl .nil))) ?_
 refine CJ_seq ?_
 refine CJ_region ?_
 refine RJ_q (Op_move rfl) rfl ?_
 refine RJ_q (Op_nilCheck rfl) rfl ?_
 refine RJ_q (Op_fieldAddr (o' := 2) rfl Try.underlying123 rfl sz121 rfl rfl) rfl ?_
 refine RJ_q (Op_load rfl (load_cell Try.underlying121 rfl pkk (Nth.s (Nth.s Nth.z)))) rfl ?_
 refine RJ_q (Op_len_map rfl Try.underlying121 pkk) rfl ?_
 rw [encL_len]
 refine RJ_q (Op_assign rfl) rfl ?_
 refine RJ_nil ?_
 refine NJ_then ?_
 refine CJ_env (E' := [(0, _), (1, _), (4, _), (5, _)]) (.cons rfl rfl (.cons rfl rfl (.cons rfl rfl (.cons rfl rfl .nil)))) ?_
 refine CJ_seq ?_
 refine CJ_seq ?_
 refine CJ_region ?_
 refine RJ_q (Op_move rfl) rfl ?_
 refine RJ_q (Op_nilCheck rfl) rfl ?_
 refine RJ_q (Op_fieldAddr (o' := 2) rfl Try.underlying123 rfl sz121 rfl rfl) rfl ?_
 refine RJ_q (Op_load rfl (load_cell Try.underlying121 rfl pkk (Nth.s (Nth.s Nth.z)))) rfl ?_
 refine RJ_p rfl (Op_range (K := KStr 9) rfl Try.underlying121 pkk) ?_
 rintro _ _ ⟨g19, rfl, rfl⟩
 rw [encL_keys]
 refine RJ_nil ?_
 refine NJ_then ?_
 refine CJ_env (E' := [(0, _), (1, _), (4, _), (5, _), (19, _)]) (.cons rfl rfl (.cons rfl rfl (.cons rfl rfl (.cons rfl rfl (.cons rfl rfl .nil))))) ?_
 refine CJ_block ?_
 refine CJ_loop (fun E H m => ∃ (todo : List ByteArray) (cur : Option (ByteArray × Value)), (todo.Nodup) ∧ E = [(0, .pointer (some ⟨g, 0, none⟩)), (1, .int .i64 index), (5, .int .i64 (L.length : Nat)), (19, .pointer (some ⟨g19, 0, none⟩))] ∧ H = [HdC g mm limit floor, ItP KS mm g19 (encL intV (L.filterMap (pendF (passOne index) todo))) todo cur] ++ R ∧ m = todo.length) (E' := [(0, .pointer (some ⟨g, 0, none⟩)), (1, .int .i64 index), (5, .int .i64 (L.length : Nat)), (19, .pointer (some ⟨g19, 0, none⟩))]) (H' := [HdC g mm limit floor, ItP KS mm g19 (encL intV (L.filterMap (pendF (passOne index) (L.map (·.1))))) (L.map (·.1)) none] ++ R) (m := (L.map (·.1)).length) ⟨L.map (·.1), none, hN, rfl, rfl, rfl⟩ (.cons rfl rfl (.cons rfl rfl (.cons rfl rfl (.cons rfl rfl .nil)))) (by rw [pendF_all]; exact (.k (e := (.k (e := skk))))) ?_
 rintro _ _ _ ⟨todo, cur, htd, rfl, rfl, rfl⟩
 refine CJ_app2 ?_
 refine CJ_seq ?_
 by_cases ht : todo = []
 ·skip
  subst ht
  refine CJ_region ?_
  refine RJ_q (Op_next_done rfl pkk) rfl ?_
  refine RJ_q (Op_extract rfl rfl) rfl ?_
  refine RJ_nil ?_
  refine NJ_then ?_
  refine CJ_env (E' := [(0, _), (1, _), (5, _), (19, _), (21, _)]) (.cons rfl rfl (.cons rfl rfl (.cons rfl rfl (.cons rfl rfl (.cons rfl rfl .nil))))) ?_
  refine CJ_seq ?_
  refine CJ_else rfl rfl ?_
  refine CJ_exit ?_
  refine NJ_then_x ?_
  refine NJ_then_x ?_
  refine NJ_blk_hit ?_
  refine NJ_then ?_
  refine CJ_env (E' := [(0, _), (1, _), (5, _)]) (.cons rfl rfl (.cons rfl rfl (.cons rfl rfl .nil))) ?_
  refine CJ_seq ?_
  refine CJ_seq ?_
  refine CJ_imp (.swap (C := [ItP KS mm g19 (encL intV (L.filterMap (pendF (passOne index) []))) [] cur]) (.k (e := (Imp.refl _))) ItP_end (.refl _)) (CJ_app1 ?_)
  rw [pendF_none]
  refine CJ_region ?_
  refine RJ_q (Op_move rfl) rfl ?_
  refine RJ_q (Op_nilCheck rfl) rfl ?_
  refine RJ_q (Op_fieldAddr (o' := 1) rfl Try.underlying123 rfl sz3 rfl rfl) rfl ?_
  refine RJ_q (Op_load rfl (load_cell Try.underlying3 rfl pkk (Nth.s Nth.z))) rfl ?_
  refine RJ_q (Op_move rfl) rfl ?_
  refine RJ_q (Op_leq rfl rfl) rfl ?_
  by_cases h2 : floor ≤ index
  ·skip
   refine RJ_nil ?_
   refine NJ_then ?_
   refine CJ_env (E' := [(0, _), (5, _), (38, _)]) (.cons rfl rfl (.cons rfl rfl (.cons rfl rfl .nil))) ?_
   refine CJ_then rfl (decide_eq_true h2) ?_
   refine CJ_region ?_
   refine RJ_q (Op_move rfl) rfl ?_
   refine RJ_q (Op_nilCheck rfl) rfl ?_
   refine RJ_q (Op_fieldAddr (o' := 1) rfl Try.underlying123 rfl sz3 rfl rfl) rfl ?_
   refine RJ_d0 (Op_store (cs' := #[_, _, _]) rfl rfl sz3 (by rfl) (by simp [Value.cells, Value.oneCell']) rpp rfl (free_zero _ _) (by rfl)) ?_
   refine RJ_nil ?_
   refine NJ_then ?_
   refine CJ_env (E' := [(0, _), (5, _)]) (.cons rfl rfl (.cons rfl rfl .nil)) ?_
   refine CJ_seq ?_
   refine CJ_region ?_
   refine RJ_q (Op_move rfl) rfl ?_
   refine RJ_q (Op_move rfl) rfl ?_
   refine RJ_q (Op_nilCheck rfl) rfl ?_
   refine RJ_q (Op_fieldAddr (o' := 2) rfl Try.underlying123 rfl sz121 rfl rfl) rfl ?_
   refine RJ_q (Op_load rfl (load_cell Try.underlying121 rfl pkk (Nth.s (Nth.s Nth.z)))) rfl ?_
   refine RJ_q (Op_len_map rfl Try.underlying121 pkk) rfl ?_
   rw [encL_len]
   refine RJ_q (Op_sub64 rfl rfl (by omega)) rfl ?_
   refine RJ_q (Op_assign rfl) rfl ?_
   refine RJ_nil ?_
   refine NJ_then ?_
   refine CJ_env (E' := [(4, _)]) (.cons rfl rfl .nil) ?_
   refine CJ_ret ?_
   have hP : passF index floor = 0 := by unfold passF; rw [if_pos h2]
   rw [hP]
   refine NJ_ret (.inl rfl) Try.results47 (ResJ_tmp rfl ResJ_nil) ⟨rfl, rfl⟩ (.swap (C := [HdC g mm limit (0), Mp KS mm (encL intV (passL index L))]) (.k (e := (.k (e := (Imp.refl _))))) HoldP_close (.k (e := skk)))
  ·skip
   refine RJ_nil ?_
   refine NJ_then ?_
   refine CJ_env (E' := [(0, _), (5, _), (38, _)]) (.cons rfl rfl (.cons rfl rfl (.cons rfl rfl .nil))) ?_
   refine CJ_else rfl (decide_eq_false h2) ?_
   refine CJ_skip ?_
   refine NJ_then ?_
   refine CJ_env (E' := [(0, _), (5, _)]) (.cons rfl rfl (.cons rfl rfl .nil)) ?_
   refine CJ_seq ?_
   refine CJ_region ?_
   refine RJ_q (Op_move rfl) rfl ?_
   refine RJ_q (Op_move rfl) rfl ?_
   refine RJ_q (Op_nilCheck rfl) rfl ?_
   refine RJ_q (Op_fieldAddr (o' := 2) rfl Try.underlying123 rfl sz121 rfl rfl) rfl ?_
   refine RJ_q (Op_load rfl (load_cell Try.underlying121 rfl pkk (Nth.s (Nth.s Nth.z)))) rfl ?_
   refine RJ_q (Op_len_map rfl Try.underlying121 pkk) rfl ?_
   rw [encL_len]
   refine RJ_q (Op_sub64 rfl rfl (by omega)) rfl ?_
   refine RJ_q (Op_assign rfl) rfl ?_
   refine RJ_nil ?_
   refine NJ_then ?_
   refine CJ_env (E' := [(4, _)]) (.cons rfl rfl .nil) ?_
   refine CJ_ret ?_
   have hP : passF index floor = floor := by unfold passF; rw [if_neg h2]
   rw [hP]
   refine NJ_ret (.inl rfl) Try.results47 (ResJ_tmp rfl ResJ_nil) ⟨rfl, rfl⟩ (.swap (C := [HdC g mm limit (floor), Mp KS mm (encL intV (passL index L))]) (.k (e := (.k (e := (Imp.refl _))))) HoldP_close (.k (e := skk)))
 ·skip
  refine CJ_region ?_
  refine RJ_p rfl (Op_next_more rfl ht pkk) ?_
  rintro _ _ ⟨j, k, u, hj, hku, rfl, rfl⟩
  obtain ⟨n, rfl, hop⟩ := encL_mem hku
  have hoL := pendF_mem passOne_key (List.mem_of_getElem? hj) hop
  have hnd := List.Nodup.sublist (List.eraseIdx_sublist todo j) htd
  have hlt : (todo.eraseIdx j).length < todo.length := by have := (List.getElem?_eq_some_iff.1 hj).1; rw [List.length_eraseIdx_of_lt this]; omega
  refine RJ_q (Op_extract rfl rfl) rfl ?_
  refine RJ_nil ?_
  refine NJ_then ?_
  refine CJ_env (E' := [(0, _), (1, _), (5, _), (19, _), (21, _)]) (.cons rfl rfl (.cons rfl rfl (.cons rfl rfl (.cons rfl rfl (.cons rfl rfl .nil))))) ?_
  refine CJ_seq ?_
  refine CJ_then rfl rfl ?_
  refine CJ_skip ?_
  refine NJ_then ?_
  refine CJ_env (E' := [(0, _), (1, _), (5, _), (19, _)]) (.cons rfl rfl (.cons rfl rfl (.cons rfl rfl (.cons rfl rfl .nil)))) ?_
  refine CJ_block ?_
  refine CJ_seq ?_
  refine CJ_region ?_
  refine RJ_q (Op_entry rfl pkk) rfl ?_
  refine RJ_q (Op_extract rfl rfl) rfl ?_
  refine RJ_q (Op_extract rfl rfl) rfl ?_
  refine RJ_q (Op_assign rfl) rfl ?_
  refine RJ_q (Op_assign rfl) rfl ?_
  refine RJ_nil ?_
  refine NJ_then ?_
  refine CJ_env (E' := [(0, _), (1, _), (5, _), (6, _), (7, _), (19, _)]) (.cons rfl rfl (.cons rfl rfl (.cons rfl rfl (.cons rfl rfl (.cons rfl rfl (.cons rfl rfl .nil)))))) ?_
  refine CJ_seq ?_
  refine CJ_region ?_
  refine RJ_q (Op_move rfl) rfl ?_
  refine RJ_q (Op_move rfl) rfl ?_
  refine RJ_q (Op_leq rfl rfl) rfl ?_
  by_cases h1 : n ≤ index
  ·skip
   refine RJ_nil ?_
   refine NJ_then ?_
   refine CJ_env (E' := [(0, _), (1, _), (5, _), (6, _), (19, _), (27, _)]) (.cons rfl rfl (.cons rfl rfl (.cons rfl rfl (.cons rfl rfl (.cons rfl rfl (.cons rfl rfl .nil)))))) ?_
   refine CJ_then rfl (decide_eq_true h1) ?_
   refine CJ_region ?_
   refine RJ_q (Op_move rfl) rfl ?_
   refine RJ_q (Op_nilCheck rfl) rfl ?_
   refine RJ_q (Op_fieldAddr (o' := 2) rfl Try.underlying123 rfl sz121 rfl rfl) rfl ?_
   refine RJ_q (Op_load rfl (load_cell Try.underlying121 rfl pkk (Nth.s (Nth.s Nth.z)))) rfl ?_
   refine RJ_q (Op_move rfl) rfl ?_
   have hfin : L.filterMap (pendF (passOne index) (todo.eraseIdx j)) = adel k (L.filterMap (pendF (passOne index) todo)) := pendF_del passOne_key hN htd hj hoL (by unfold passOne; rw [if_pos h1])
   refine RJ_d0 (Op_deleteI (K := KStr 9) rfl rfl Try.underlying121 ko9 (eraseK_not htd hj) pkk) ?_
   rw [mdel_enc]
   refine RJ_nil ?_
   refine NJ_blk ?_
   refine NJ_back ⟨todo.eraseIdx j, none, hnd, rfl, rfl, rfl⟩ hlt (.cons rfl rfl (.cons rfl rfl (.cons rfl rfl (.cons rfl rfl .nil)))) (by rw [hfin]; exact (.k (e := (.k (e := skk)))))
  ·skip
   have hfin : L.filterMap (pendF (passOne index) (todo.eraseIdx j)) = L.filterMap (pendF (passOne index) todo) := pendF_keep hN htd hj hoL (by unfold passOne; rw [if_neg h1])
   refine RJ_nil ?_
   refine NJ_then ?_
   refine CJ_env (E' := [(0, _), (1, _), (5, _), (6, _), (19, _), (27, _)]) (.cons rfl rfl (.cons rfl rfl (.cons rfl rfl (.cons rfl rfl (.cons rfl rfl (.cons rfl rfl .nil)))))) ?_
   refine CJ_else rfl (decide_eq_false h1) ?_
   refine CJ_skip ?_
   refine NJ_blk ?_
   refine NJ_back ⟨todo.eraseIdx j, some (k, intV n), hnd, rfl, rfl, rfl⟩ hlt (.cons rfl rfl (.cons rfl rfl (.cons rfl rfl (.cons rfl rfl .nil)))) (by rw [hfin]; exact (.k (e := (.k (e := skk)))))
end Go.Proofs.Ytgakbdofjlhoeaa.SL
