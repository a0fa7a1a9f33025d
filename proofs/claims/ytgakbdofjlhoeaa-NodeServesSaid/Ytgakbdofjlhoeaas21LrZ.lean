/- Contracts of lru. -/
import Derived.Test.Ytgakbdofjlhoeaas21LrE
import Derived.Test.Ytgakbdofjlhoeaas21Facts
namespace Go.Proofs.Ytgakbdofjlhoeaa.SL
open Go Go.RowKit
set_option maxRecDepth 20000 in
theorem Put_any (g : Nat) (L : List It) (room kept : Int) (hI : LOk L room kept) (key : ByteArray) (size : Int) (v : ItemV) (hs : -9223372036854775808 ≤ size ∧ size ≤ 9223372036854775807) (hl : L.length ≤ 1000000) : Spec Try.prog 56 #[.pointer (some ⟨g, 0, none⟩), .string key, .int .i64 size, .agg #[.int .i64 v.ep, .int .i64 v.ix, .bool v.th, .string v.tx, .int .i64 v.asOf]] [CacheP g L room kept] (fun r C => ∃ a cap, r = .tuple #[.slice (sl a) (putR L room kept ⟨key, v, size⟩).1.length cap, .bool (putR L room kept ⟨key, v, size⟩).2.1] ∧ C = [CacheP g (putR L room kept ⟨key, v, size⟩).2.2 room kept, Row StrT a cap (putR L room kept ⟨key, v, size⟩).1]) := by
 refine Spec_intro (n := 52) (args := [.pointer (some ⟨g, 0, none⟩), .string key, .int .i64 size, .agg #[.int .i64 v.ep, .int .i64 v.ix, .bool v.th, .string v.tx, .int .i64 v.asOf]]) Try.func56 rfl rfl rfl fun s R => ?_
 refine CJ_app1 ?_
 refine CJ_env (E' := [(0, _), (1, _), (2, _), (3, _)]) (.cons rfl rfl (.cons rfl rfl (.cons rfl rfl (.cons rfl rfl .nil)))) ?_
 have hI1 := hI.kp
 have hI2 := hI.fit
 have hI3 := hI.top
 have hI4 := szs_nonneg hI.pos
 have hD := hI.drop key
 have hDl := dropK_len key L
 refine CJ_seq ?_
 refine CJ_region ?_
 refine RJ_p rfl (Op_box rfl) ?_
 rintro _ _ ⟨b7, rfl, rfl⟩
 refine RJ_q (Op_assign rfl) rfl ?_
 refine RJ_q (Op_assign rfl) rfl ?_
 refine RJ_nil ?_
 refine NJ_then ?_
 refine CJ_env (E' := [(0, _), (1, _), (2, _), (7, _), (8, _), (9, _)]) (.cons rfl rfl (.cons rfl rfl (.cons rfl rfl (.cons rfl rfl (.cons rfl rfl (.cons rfl rfl .nil)))))) ?_
 refine CJ_seq ?_
 refine CJ_seq ?_
 refine CJ_region ?_
 refine RJ_q (Op_move rfl) rfl ?_
 refine RJ_q (Op_ptr_eq_nil rfl rfl Try.underlying71) rfl ?_
 refine RJ_nil ?_
 refine NJ_then ?_
 refine CJ_env (E' := [(0, _), (1, _), (2, _), (7, _), (8, _), (9, _), (13, _)]) (.cons rfl rfl (.cons rfl rfl (.cons rfl rfl (.cons rfl rfl (.cons rfl rfl (.cons rfl rfl (.cons rfl rfl .nil))))))) ?_
 refine CJ_else rfl rfl ?_
 refine CJ_skip ?_
 refine NJ_then ?_
 refine CJ_env (E' := [(0, _), (1, _), (2, _), (7, _), (8, _), (9, _)]) (.cons rfl rfl (.cons rfl rfl (.cons rfl rfl (.cons rfl rfl (.cons rfl rfl (.cons rfl rfl .nil)))))) ?_
 refine CJ_seq ?_
 refine CJ_region ?_
 refine RJ_q (Op_move rfl) rfl ?_
 refine RJ_q (Op_move rfl) rfl ?_
 refine RJ_p rfl (Op_call (vs := [_, _]) Try.func43 rfl rfl (Drop_any g L room kept hI key) rfl (.k (e := (Imp.refl _)))) ?_
 rintro _ _ ⟨_, ⟨rfl, rfl⟩, rfl⟩
 refine RJ_app1 ?_
 refine RJ_nil ?_
 refine NJ_then ?_
 refine CJ_env (E' := [(0, _), (1, _), (2, _), (7, _), (8, _), (9, _)]) (.cons rfl rfl (.cons rfl rfl (.cons rfl rfl (.cons rfl rfl (.cons rfl rfl (.cons rfl rfl .nil)))))) ?_
 refine CJ_seq ?_
 refine CJ_seq ?_
 refine CJ_draw (.q 0 (.q 1 (.q 2 (.q 3 (.q 4 (.q 5 (.q 6 (.q 7 (.q 8 (.q 9 (.q 10 (.q 11 (.q 12 (.q 13 (.q 14 .done))))))))))))))) (by kernel_rfl) (by kernel_rfl) (by kernel_rfl) ?_
 refine SJ_q rfl (want_none rfl) rfl (fun _ _ => Op_move rfl) ?_
 refine SJ_q rfl (want_none rfl) rfl (fun _ _ => Op_lss rfl rfl) ?_
 by_cases h1 : size < 0
 ·skip
  refine SJ_q rfl (want_none rfl) rfl (fun _ _ => Op_move rfl) ?_
  refine SJ_no (t := 19) true rfl rfl rfl (decide_eq_true h1) (by decide) rfl ?_
  refine SJ_no (t := 19) true rfl rfl rfl (decide_eq_true h1) (by decide) rfl ?_
  refine SJ_no (t := 19) true rfl rfl rfl (decide_eq_true h1) (by decide) rfl ?_
  refine SJ_no (t := 19) true rfl rfl rfl (decide_eq_true h1) (by decide) rfl ?_
  refine SJ_no (t := 19) true rfl rfl rfl (decide_eq_true h1) (by decide) rfl ?_
  refine SJ_no (t := 19) true rfl rfl rfl (decide_eq_true h1) (by decide) rfl ?_
  refine SJ_no (t := 19) true rfl rfl rfl (decide_eq_true h1) (by decide) rfl ?_
  refine SJ_no (t := 19) true rfl rfl rfl (decide_eq_true h1) (by decide) rfl ?_
  refine SJ_no (t := 19) true rfl rfl rfl (decide_eq_true h1) (by decide) rfl ?_
  refine SJ_no (t := 19) true rfl rfl rfl (decide_eq_true h1) (by decide) rfl ?_
  refine SJ_no (t := 19) true rfl rfl rfl (decide_eq_true h1) (by decide) rfl ?_
  refine SJ_q rfl (want_none rfl) rfl (fun _ _ => Op_pick_t rfl (decide_eq_true h1) rfl) ?_
  refine SJ_done ?_
  refine NJ_then ?_
  refine CJ_env (E' := [(0, _), (1, _), (2, _), (7, _), (8, _), (9, _), (31, _)]) (.cons rfl rfl (.cons rfl rfl (.cons rfl rfl (.cons rfl rfl (.cons rfl rfl (.cons rfl rfl (.cons rfl rfl .nil))))))) ?_
  refine CJ_then rfl rfl ?_
  refine CJ_seq ?_
  refine CJ_region ?_
  refine RJ_q (Op_assign rfl) rfl ?_
  refine RJ_q (Op_assign rfl) rfl ?_
  refine RJ_nil ?_
  refine NJ_then ?_
  refine CJ_env (E' := [(8, _), (9, _)]) (.cons rfl rfl (.cons rfl rfl .nil)) ?_
  refine CJ_ret ?_
  refine NJ_then_r ?_
  have hP : putR L room kept ⟨key, v, size⟩ = ([], false, (dropK key L)) := by unfold putR; rw [if_pos (.inl h1)]
  rw [hP]
  refine NJ_ret (.inl rfl) Try.results56 (ResJ_tmp rfl (ResJ_tmp rfl ResJ_nil)) ⟨none, 0, rfl, rfl⟩ (.trans (Row_none StrT).imp_add (.k (e := (.k (e := skk)))))
 ·skip
  refine SJ_q rfl (want_none rfl) rfl (fun _ _ => Op_move rfl) ?_
  refine SJ_q rfl (want_yes (t := 19) rfl rfl rfl (decide_eq_false h1)) rfl (fun _ _ => Op_move rfl) ?_
  refine SJ_q rfl (want_yes (t := 19) rfl rfl rfl (decide_eq_false h1)) rfl (fun _ _ => Op_move rfl) ?_
  refine SJ_q rfl (want_yes (t := 19) rfl rfl rfl (decide_eq_false h1)) rfl (fun _ _ => Op_nilCheck rfl) ?_
  refine SJ_q rfl (want_yes (t := 19) rfl rfl rfl (decide_eq_false h1)) rfl (fun _ _ => Op_fieldAddr (o' := 3) rfl Try.underlying103 rfl sz3 rfl rfl) ?_
  refine SJ_load rfl (want_yes (t := 19) rfl rfl rfl (decide_eq_false h1)) rfl rfl (load_room Try.underlying3 pkk) ?_
  refine SJ_q rfl (want_yes (t := 19) rfl rfl rfl (decide_eq_false h1)) rfl (fun _ _ => Op_move rfl) ?_
  refine SJ_q rfl (want_yes (t := 19) rfl rfl rfl (decide_eq_false h1)) rfl (fun _ _ => Op_nilCheck rfl) ?_
  refine SJ_q rfl (want_yes (t := 19) rfl rfl rfl (decide_eq_false h1)) rfl (fun _ _ => Op_fieldAddr (o' := 4) rfl Try.underlying103 rfl sz3 rfl rfl) ?_
  refine SJ_load rfl (want_yes (t := 19) rfl rfl rfl (decide_eq_false h1)) rfl rfl (load_kept Try.underlying3 pkk) ?_
  refine SJ_q rfl (want_yes (t := 19) rfl rfl rfl (decide_eq_false h1)) rfl (fun _ _ => Op_sub64 rfl rfl (by omega)) ?_
  refine SJ_q rfl (want_yes (t := 19) rfl rfl rfl (decide_eq_false h1)) rfl (fun _ _ => Op_gtr rfl rfl) ?_
  by_cases h2 : room - kept < size
  ·skip
   refine SJ_q rfl (want_none rfl) rfl (fun _ _ => Op_pick_f rfl (decide_eq_false h1) rfl) ?_
   refine SJ_done ?_
   refine NJ_then ?_
   refine CJ_env (E' := [(0, _), (1, _), (2, _), (7, _), (8, _), (9, _), (31, _)]) (.cons rfl rfl (.cons rfl rfl (.cons rfl rfl (.cons rfl rfl (.cons rfl rfl (.cons rfl rfl (.cons rfl rfl .nil))))))) ?_
   refine CJ_then rfl (decide_eq_true h2) ?_
   refine CJ_seq ?_
   refine CJ_region ?_
   refine RJ_q (Op_assign rfl) rfl ?_
   refine RJ_q (Op_assign rfl) rfl ?_
   refine RJ_nil ?_
   refine NJ_then ?_
   refine CJ_env (E' := [(8, _), (9, _)]) (.cons rfl rfl (.cons rfl rfl .nil)) ?_
   refine CJ_ret ?_
   refine NJ_then_r ?_
   have hP : putR L room kept ⟨key, v, size⟩ = ([], false, (dropK key L)) := by unfold putR; rw [if_pos (.inr h2)]
   rw [hP]
   refine NJ_ret (.inl rfl) Try.results56 (ResJ_tmp rfl (ResJ_tmp rfl ResJ_nil)) ⟨none, 0, rfl, rfl⟩ (.trans (Row_none StrT).imp_add (.k (e := (.k (e := skk)))))
  ·skip
   refine SJ_q rfl (want_none rfl) rfl (fun _ _ => Op_pick_f rfl (decide_eq_false h1) rfl) ?_
   refine SJ_done ?_
   refine NJ_then ?_
   refine CJ_env (E' := [(0, _), (1, _), (2, _), (7, _), (8, _), (9, _), (31, _)]) (.cons rfl rfl (.cons rfl rfl (.cons rfl rfl (.cons rfl rfl (.cons rfl rfl (.cons rfl rfl (.cons rfl rfl .nil))))))) ?_
   refine CJ_else rfl (decide_eq_false h2) ?_
   refine CJ_skip ?_
   refine NJ_then ?_
   refine CJ_env (E' := [(0, _), (1, _), (2, _), (7, _), (8, _), (9, _)]) (.cons rfl rfl (.cons rfl rfl (.cons rfl rfl (.cons rfl rfl (.cons rfl rfl (.cons rfl rfl .nil)))))) ?_
   refine CJ_seq ?_
   refine CJ_region ?_
   refine RJ_q (Op_move rfl) rfl ?_
   refine RJ_q (Op_move rfl) rfl ?_
   refine RJ_p rfl (Op_call (vs := [_, _]) Try.func57 rfl rfl (way_any g (dropK key L) room kept hD size (by omega) (by omega)) rfl (.k (e := (Imp.refl _)))) ?_
   rintro _ _ ⟨_, ⟨a, cap, rfl, rfl⟩, rfl⟩
   refine RJ_app2 ?_
   refine RJ_q (Op_assign rfl) rfl ?_
   refine RJ_nil ?_
   refine NJ_then ?_
   refine CJ_env (E' := [(0, _), (1, _), (2, _), (7, _), (8, _), (9, _), (10, _)]) (.cons rfl rfl (.cons rfl rfl (.cons rfl rfl (.cons rfl rfl (.cons rfl rfl (.cons rfl rfl (.cons rfl rfl .nil))))))) ?_
   refine CJ_seq ?_
   refine CJ_region ?_
   refine RJ_q (Op_move rfl) rfl ?_
   refine RJ_q (Op_load rfl (load_struct (o := 0) (vs := [_, _, _, _, _]) Try.underlying77 sz77 pkk (by rfl) rfl)) rfl ?_
   refine RJ_q (Op_move rfl) rfl ?_
   refine RJ_q (Op_build (vs := [_, _, _]) (cells := [_, _, _, _, _, _, _, _, _]) Try.underlying120 zr120 rfl pl120 (by rfl)) rfl ?_
   refine RJ_p rfl (Op_box rfl) ?_
   rintro _ _ ⟨b39, rfl, rfl⟩
   refine RJ_q (Op_assign rfl) rfl ?_
   refine RJ_nil ?_
   refine NJ_then ?_
   refine CJ_env (E' := [(0, _), (1, _), (8, _), (9, _), (10, _), (11, _)]) (.cons rfl rfl (.cons rfl rfl (.cons rfl rfl (.cons rfl rfl (.cons rfl rfl (.cons rfl rfl .nil)))))) ?_
   refine CJ_seq ?_
   refine CJ_open (CacheP_opens _ _ _ _) pkk ?_
   rintro _ ⟨mm, T, kv, hT, hmo, rfl⟩
   refine CJ_app3 ?_
   have hf := stay_fits (room - size - kept) (dropK key L) (by omega) (dropK key L).length
   rw [hT] at hf
   have hr1 : 0 ≤ szs (itsOf T) := szs_nonneg fun t ht => hD.pos t (List.mem_of_mem_take (hT ▸ ht))
   have hr2 : -9223372036854775808 ≤ szs (itsOf ((⟨b39, ⟨key, v, size⟩⟩ : Th) :: T)) ∧ szs (itsOf ((⟨b39, ⟨key, v, size⟩⟩ : Th) :: T)) ≤ 9223372036854775807 := by
     rw [szs_new]; omega
   refine CJ_region ?_
   refine RJ_q (Op_move rfl) rfl ?_
   refine RJ_q (Op_nilCheck rfl) rfl ?_
   refine RJ_q (Op_fieldAddr (o' := 0) rfl Try.underlying103 rfl sz100 rfl rfl) rfl ?_
   refine RJ_q (Op_move rfl) rfl ?_
   refine RJ_p rfl (Op_call (vs := [_, _]) Try.func54 rfl rfl (push_any g T ⟨b39, ⟨key, v, size⟩⟩ none (szs (itsOf T)) (szs (itsOf ((⟨b39, ⟨key, v, size⟩⟩ : Th) :: T))) room kept (.map (some mm)) (by show szs (itsOf T) + size = _; rw [szs_new]; omega) hr2) rfl (.k (e := (.k (e := (.k (e := (Imp.refl _)))))))) ?_
   rintro _ _ ⟨_, ⟨rfl, rfl⟩, rfl⟩
   refine RJ_app2 ?_
   refine RJ_nil ?_
   refine NJ_then ?_
   refine CJ_env (E' := [(0, _), (1, _), (8, _), (9, _), (10, _), (11, _)]) (.cons rfl rfl (.cons rfl rfl (.cons rfl rfl (.cons rfl rfl (.cons rfl rfl (.cons rfl rfl .nil)))))) ?_
   refine CJ_seq ?_
   refine CJ_region ?_
   refine RJ_q (Op_move rfl) rfl ?_
   refine RJ_q (Op_nilCheck rfl) rfl ?_
   refine RJ_q (Op_fieldAddr (o' := 5) rfl Try.underlying103 rfl sz101 rfl rfl) rfl ?_
   refine RJ_q (Op_load rfl (load_cell Try.underlying101 rfl pkk (Nth.s (Nth.s (Nth.s (Nth.s (Nth.s Nth.z))))))) rfl ?_
   refine RJ_q (Op_move rfl) rfl ?_
   refine RJ_q (Op_move rfl) rfl ?_
   refine RJ_d0 (Op_mapUpdate (K := KStr 9) rfl rfl rfl Try.underlying101 ko9 pkk) ?_
   refine RJ_nil ?_
   refine NJ_then ?_
   refine CJ_env (E' := [(8, _), (9, _), (10, _)]) (.cons rfl rfl (.cons rfl rfl (.cons rfl rfl .nil))) ?_
   refine CJ_seq ?_
   refine CJ_region ?_
   refine RJ_q (Op_move rfl) rfl ?_
   refine RJ_q (Op_assign rfl) rfl ?_
   refine RJ_q (Op_assign rfl) rfl ?_
   refine RJ_nil ?_
   refine NJ_then ?_
   refine CJ_env (E' := [(8, _), (9, _)]) (.cons rfl rfl (.cons rfl rfl .nil)) ?_
   refine CJ_ret ?_
   have hP : putR L room kept ⟨key, v, size⟩ = (goneFrom (dropK key L) (stay (room - size - kept) (dropK key L) (dropK key L).length), true, itsOf ((⟨b39, ⟨key, v, size⟩⟩ : Th) :: T)) := by
     unfold putR; rw [if_neg (show ¬ (size < 0 ∨ room - kept < size) by omega)]; show _ = (_, true, ⟨key, v, size⟩ :: itsOf T); rw [← hT]
   rw [hP]
   refine NJ_ret (.inl rfl) Try.results56 (ResJ_tmp rfl (ResJ_tmp rfl ResJ_nil)) ⟨a, cap, rfl, rfl⟩ (.swap (C := CacheRaw g mm ((⟨b39, ⟨key, v, size⟩⟩ : Th) :: T) room (kept) (mput key (.pointer (some ⟨b39, 0, none⟩)) kv)) (.k (e := (.k (e := (.k (e := skk)))))) (CacheP_close (hmo.put (t := ⟨b39, ⟨key, v, size⟩⟩))) (.k (e := (.k (e := skk)))))

set_option maxRecDepth 20000 in
theorem Reserve_any (g : Nat) (L : List It) (room kept : Int) (hI : LOk L room kept) (n : Int) (hs : -9223372036854775808 ≤ n ∧ n ≤ 9223372036854775807) (hl : L.length ≤ 1000000) : Spec Try.prog 30 #[.pointer (some ⟨g, 0, none⟩), .int .i64 n] [CacheP g L room kept] (fun r C => ∃ a cap, r = .tuple #[.slice (sl a) (resR L room kept n).1.length cap, .bool (resR L room kept n).2.1] ∧ C = [CacheP g (resR L room kept n).2.2.1 room (resR L room kept n).2.2.2, Row StrT a cap (resR L room kept n).1]) := by
 refine Spec_intro (n := 38) (args := [.pointer (some ⟨g, 0, none⟩), .int .i64 n]) Try.func30 rfl rfl rfl fun s R => ?_
 refine CJ_app1 ?_
 refine CJ_env (E' := [(0, _), (1, _)]) (.cons rfl rfl (.cons rfl rfl .nil)) ?_
 have hI1 := hI.kp
 have hI2 := hI.fit
 have hI3 := hI.top
 have hI4 := szs_nonneg hI.pos
 refine CJ_seq ?_
 refine CJ_region ?_
 refine RJ_q (Op_assign rfl) rfl ?_
 refine RJ_q (Op_assign rfl) rfl ?_
 refine RJ_nil ?_
 refine NJ_then ?_
 refine CJ_env (E' := [(0, _), (1, _), (4, _), (5, _)]) (.cons rfl rfl (.cons rfl rfl (.cons rfl rfl (.cons rfl rfl .nil)))) ?_
 refine CJ_seq ?_
 refine CJ_seq ?_
 refine CJ_draw (.q 0 (.q 1 (.q 2 (.q 3 (.q 4 (.q 5 (.q 6 (.q 7 (.q 8 (.q 9 (.q 10 (.q 11 (.q 12 (.q 13 (.q 14 (.q 15 (.q 16 (.q 17 (.q 18 .done))))))))))))))))))) (by kernel_rfl) (by kernel_rfl) (by kernel_rfl) ?_
 refine SJ_q rfl (want_none rfl) rfl (fun _ _ => Op_move rfl) ?_
 refine SJ_q rfl (want_none rfl) rfl (fun _ _ => Op_ptr_eq_nil rfl rfl Try.underlying71) ?_
 refine SJ_q rfl (want_none rfl) rfl (fun _ _ => Op_move rfl) ?_
 refine SJ_q rfl (want_yes (t := 9) rfl rfl rfl rfl) rfl (fun _ _ => Op_move rfl) ?_
 refine SJ_q rfl (want_yes (t := 9) rfl rfl rfl rfl) rfl (fun _ _ => Op_lss rfl rfl) ?_
 by_cases h1 : n < 0
 ·skip
  refine SJ_q rfl (want_none rfl) rfl (fun _ _ => Op_pick_f rfl rfl rfl) ?_
  refine SJ_q rfl (want_none rfl) rfl (fun _ _ => Op_move rfl) ?_
  refine SJ_no (t := 13) true rfl rfl rfl (decide_eq_true h1) (by decide) rfl ?_
  refine SJ_no (t := 13) true rfl rfl rfl (decide_eq_true h1) (by decide) rfl ?_
  refine SJ_no (t := 13) true rfl rfl rfl (decide_eq_true h1) (by decide) rfl ?_
  refine SJ_no (t := 13) true rfl rfl rfl (decide_eq_true h1) (by decide) rfl ?_
  refine SJ_no (t := 13) true rfl rfl rfl (decide_eq_true h1) (by decide) rfl ?_
  refine SJ_no (t := 13) true rfl rfl rfl (decide_eq_true h1) (by decide) rfl ?_
  refine SJ_no (t := 13) true rfl rfl rfl (decide_eq_true h1) (by decide) rfl ?_
  refine SJ_no (t := 13) true rfl rfl rfl (decide_eq_true h1) (by decide) rfl ?_
  refine SJ_no (t := 13) true rfl rfl rfl (decide_eq_true h1) (by decide) rfl ?_
  refine SJ_no (t := 13) true rfl rfl rfl (decide_eq_true h1) (by decide) rfl ?_
  refine SJ_no (t := 13) true rfl rfl rfl (decide_eq_true h1) (by decide) rfl ?_
  refine SJ_q rfl (want_none rfl) rfl (fun _ _ => Op_pick_t rfl (decide_eq_true h1) rfl) ?_
  refine SJ_done ?_
  refine NJ_then ?_
  refine CJ_env (E' := [(0, _), (1, _), (4, _), (5, _), (25, _)]) (.cons rfl rfl (.cons rfl rfl (.cons rfl rfl (.cons rfl rfl (.cons rfl rfl .nil))))) ?_
  refine CJ_then rfl rfl ?_
  refine CJ_seq ?_
  refine CJ_region ?_
  refine RJ_q (Op_assign rfl) rfl ?_
  refine RJ_q (Op_assign rfl) rfl ?_
  refine RJ_nil ?_
  refine NJ_then ?_
  refine CJ_env (E' := [(4, _), (5, _)]) (.cons rfl rfl (.cons rfl rfl .nil)) ?_
  refine CJ_ret ?_
  refine NJ_then_r ?_
  have hP : resR L room kept n = ([], false, L, kept) := by unfold resR; rw [if_pos (.inl h1)]
  rw [hP]
  refine NJ_ret (.inl rfl) Try.results30 (ResJ_tmp rfl (ResJ_tmp rfl ResJ_nil)) ⟨none, 0, rfl, rfl⟩ (.trans (Row_none StrT).imp_add (.k (e := (.k (e := skk)))))
 ·skip
  refine SJ_q rfl (want_none rfl) rfl (fun _ _ => Op_pick_f rfl rfl rfl) ?_
  refine SJ_q rfl (want_none rfl) rfl (fun _ _ => Op_move rfl) ?_
  refine SJ_q rfl (want_yes (t := 13) rfl rfl rfl (decide_eq_false h1)) rfl (fun _ _ => Op_move rfl) ?_
  refine SJ_q rfl (want_yes (t := 13) rfl rfl rfl (decide_eq_false h1)) rfl (fun _ _ => Op_move rfl) ?_
  refine SJ_q rfl (want_yes (t := 13) rfl rfl rfl (decide_eq_false h1)) rfl (fun _ _ => Op_nilCheck rfl) ?_
  refine SJ_q rfl (want_yes (t := 13) rfl rfl rfl (decide_eq_false h1)) rfl (fun _ _ => Op_fieldAddr (o' := 3) rfl Try.underlying103 rfl sz3 rfl rfl) ?_
  refine SJ_load rfl (want_yes (t := 13) rfl rfl rfl (decide_eq_false h1)) rfl rfl (load_room Try.underlying3 pkk) ?_
  refine SJ_q rfl (want_yes (t := 13) rfl rfl rfl (decide_eq_false h1)) rfl (fun _ _ => Op_move rfl) ?_
  refine SJ_q rfl (want_yes (t := 13) rfl rfl rfl (decide_eq_false h1)) rfl (fun _ _ => Op_nilCheck rfl) ?_
  refine SJ_q rfl (want_yes (t := 13) rfl rfl rfl (decide_eq_false h1)) rfl (fun _ _ => Op_fieldAddr (o' := 4) rfl Try.underlying103 rfl sz3 rfl rfl) ?_
  refine SJ_load rfl (want_yes (t := 13) rfl rfl rfl (decide_eq_false h1)) rfl rfl (load_kept Try.underlying3 pkk) ?_
  refine SJ_q rfl (want_yes (t := 13) rfl rfl rfl (decide_eq_false h1)) rfl (fun _ _ => Op_sub64 rfl rfl (by omega)) ?_
  refine SJ_q rfl (want_yes (t := 13) rfl rfl rfl (decide_eq_false h1)) rfl (fun _ _ => Op_gtr rfl rfl) ?_
  by_cases h2 : room - kept < n
  ·skip
   refine SJ_q rfl (want_none rfl) rfl (fun _ _ => Op_pick_f rfl (decide_eq_false h1) rfl) ?_
   refine SJ_done ?_
   refine NJ_then ?_
   refine CJ_env (E' := [(0, _), (1, _), (4, _), (5, _), (25, _)]) (.cons rfl rfl (.cons rfl rfl (.cons rfl rfl (.cons rfl rfl (.cons rfl rfl .nil))))) ?_
   refine CJ_then rfl (decide_eq_true h2) ?_
   refine CJ_seq ?_
   refine CJ_region ?_
   refine RJ_q (Op_assign rfl) rfl ?_
   refine RJ_q (Op_assign rfl) rfl ?_
   refine RJ_nil ?_
   refine NJ_then ?_
   refine CJ_env (E' := [(4, _), (5, _)]) (.cons rfl rfl (.cons rfl rfl .nil)) ?_
   refine CJ_ret ?_
   refine NJ_then_r ?_
   have hP : resR L room kept n = ([], false, L, kept) := by unfold resR; rw [if_pos (.inr h2)]
   rw [hP]
   refine NJ_ret (.inl rfl) Try.results30 (ResJ_tmp rfl (ResJ_tmp rfl ResJ_nil)) ⟨none, 0, rfl, rfl⟩ (.trans (Row_none StrT).imp_add (.k (e := (.k (e := skk)))))
  ·skip
   refine SJ_q rfl (want_none rfl) rfl (fun _ _ => Op_pick_f rfl (decide_eq_false h1) rfl) ?_
   refine SJ_done ?_
   refine NJ_then ?_
   refine CJ_env (E' := [(0, _), (1, _), (4, _), (5, _), (25, _)]) (.cons rfl rfl (.cons rfl rfl (.cons rfl rfl (.cons rfl rfl (.cons rfl rfl .nil))))) ?_
   refine CJ_else rfl (decide_eq_false h2) ?_
   refine CJ_skip ?_
   refine NJ_then ?_
   refine CJ_env (E' := [(0, _), (1, _), (4, _), (5, _)]) (.cons rfl rfl (.cons rfl rfl (.cons rfl rfl (.cons rfl rfl .nil)))) ?_
   refine CJ_seq ?_
   refine CJ_region ?_
   refine RJ_q (Op_move rfl) rfl ?_
   refine RJ_q (Op_move rfl) rfl ?_
   refine RJ_p rfl (Op_call (vs := [_, _]) Try.func57 rfl rfl (way_any g L room kept hI n (by omega) hl) rfl (.k (e := (Imp.refl _)))) ?_
   rintro _ _ ⟨_, ⟨a, cap, rfl, rfl⟩, rfl⟩
   refine RJ_app2 ?_
   refine RJ_q (Op_assign rfl) rfl ?_
   refine RJ_nil ?_
   refine NJ_then ?_
   refine CJ_env (E' := [(0, _), (1, _), (4, _), (5, _), (6, _)]) (.cons rfl rfl (.cons rfl rfl (.cons rfl rfl (.cons rfl rfl (.cons rfl rfl .nil))))) ?_
   refine CJ_seq ?_
   refine CJ_open (CacheP_opens _ _ _ _) pkk ?_
   rintro _ ⟨mm, T, kv, hT, hmo, rfl⟩
   refine CJ_app3 ?_
   refine CJ_region ?_
   refine RJ_q (Op_move rfl) rfl ?_
   refine RJ_q (Op_nilCheck rfl) rfl ?_
   refine RJ_q (Op_fieldAddr (o' := 4) rfl Try.underlying103 rfl sz3 rfl rfl) rfl ?_
   refine RJ_q (Op_load rfl (load_cell Try.underlying3 rfl pkk (Nth.s (Nth.s (Nth.s (Nth.s Nth.z)))))) rfl ?_
   refine RJ_q (Op_move rfl) rfl ?_
   refine RJ_q (Op_add64 rfl rfl (by omega)) rfl ?_
   refine RJ_q (Op_nilCheck rfl) rfl ?_
   refine RJ_q (Op_fieldAddr (o' := 4) rfl Try.underlying103 rfl sz3 rfl rfl) rfl ?_
   refine RJ_d0 (Op_store (cs' := #[_, _, _, _, _, _]) rfl rfl sz3 (by rfl) (by simp [Value.cells, Value.oneCell']) rpp rfl (free_zero _ _) (by rfl)) ?_
   refine RJ_nil ?_
   refine NJ_then ?_
   refine CJ_env (E' := [(4, _), (5, _), (6, _)]) (.cons rfl rfl (.cons rfl rfl (.cons rfl rfl .nil))) ?_
   refine CJ_seq ?_
   refine CJ_region ?_
   refine RJ_q (Op_move rfl) rfl ?_
   refine RJ_q (Op_assign rfl) rfl ?_
   refine RJ_q (Op_assign rfl) rfl ?_
   refine RJ_nil ?_
   refine NJ_then ?_
   refine CJ_env (E' := [(4, _), (5, _)]) (.cons rfl rfl (.cons rfl rfl .nil)) ?_
   refine CJ_ret ?_
   have hP : resR L room kept n = (goneFrom L (stay (room - n - kept) L L.length), true, itsOf T, kept + n) := by
     unfold resR; rw [if_neg (by omega), ← hT]
   rw [hP]
   refine NJ_ret (.inl rfl) Try.results30 (ResJ_tmp rfl (ResJ_tmp rfl ResJ_nil)) ⟨a, cap, rfl, rfl⟩ (.swap (C := CacheRaw g mm (T) room (kept + n) (kv)) (.k (e := (.k (e := (.k (e := skk)))))) (CacheP_close (hmo)) (.k (e := (.k (e := skk)))))

set_option maxRecDepth 20000 in
theorem Release_any (g : Nat) (L : List It) (room kept : Int) (hI : LOk L room kept) (n : Int) : Spec Try.prog 32 #[.pointer (some ⟨g, 0, none⟩), .int .i64 n] [CacheP g L room kept] (fun r C => r = .tuple #[] ∧ C = [CacheP g L room (relR kept n)]) := by
 refine Spec_intro (n := 23) (args := [.pointer (some ⟨g, 0, none⟩), .int .i64 n]) Try.func32 rfl rfl rfl fun s R => ?_
 refine CJ_app1 ?_
 refine CJ_env (E' := [(0, _), (1, _)]) (.cons rfl rfl (.cons rfl rfl .nil)) ?_
 refine CJ_open (CacheP_opens _ _ _ _) pkk ?_
 rintro _ ⟨mm, T, kv, rfl, hmo, rfl⟩
 refine CJ_app3 ?_
 have hI1 := hI.kp
 have hI2 := hI.fit
 have hI3 := hI.top
 have hI4 := szs_nonneg hI.pos
 refine CJ_seq ?_
 refine CJ_region ?_
 refine RJ_q (Op_move rfl) rfl ?_
 refine RJ_q (Op_ptr_ne_nil rfl rfl Try.underlying71) rfl ?_
 refine RJ_q (Op_move rfl) rfl ?_
 refine RJ_yes (t := 6) rfl rfl rfl ?_
 refine RJ_q (Op_move rfl) rfl ?_
 refine RJ_yes (t := 6) rfl rfl rfl ?_
 refine RJ_q (Op_gtr rfl rfl) rfl ?_
 by_cases h1 : 0 < n
 ·skip
  refine RJ_q (Op_pick_t rfl rfl rfl) rfl ?_
  refine RJ_nil ?_
  refine NJ_then ?_
  refine CJ_env (E' := [(0, _), (1, _), (9, _)]) (.cons rfl rfl (.cons rfl rfl (.cons rfl rfl .nil))) ?_
  refine CJ_then rfl (decide_eq_true h1) ?_
  refine CJ_draw (.q 0 (.q 1 (.q 2 (.q 3 (.q 4 (.q 5 (.q 6 (.q 7 (.q 8 (.e 9 (.q 10 (.q 11 (.q 12 (.e 13 .done)))))))))))))) (by kernel_rfl) (by kernel_rfl) (by kernel_rfl) ?_
  refine SJ_q rfl (want_none rfl) rfl (fun _ _ => Op_move rfl) ?_
  refine SJ_q rfl (want_none rfl) rfl (fun _ _ => Op_nilCheck rfl) ?_
  refine SJ_q rfl (want_none rfl) rfl (fun _ _ => Op_fieldAddr (o' := 4) rfl Try.underlying103 rfl sz3 rfl rfl) ?_
  refine SJ_load rfl (want_none rfl) rfl rfl (load_cell Try.underlying3 rfl pkk (Nth.s (Nth.s (Nth.s (Nth.s Nth.z))))) ?_
  refine SJ_q rfl (want_none rfl) rfl (fun _ _ => Op_move rfl) ?_
  refine SJ_q rfl (want_none rfl) rfl (fun _ _ => Op_move rfl) ?_
  refine SJ_q rfl (want_none rfl) rfl (fun _ _ => Op_nilCheck rfl) ?_
  refine SJ_q rfl (want_none rfl) rfl (fun _ _ => Op_fieldAddr (o' := 4) rfl Try.underlying103 rfl sz3 rfl rfl) ?_
  refine SJ_load rfl (want_none rfl) rfl rfl (load_cell Try.underlying3 rfl pkk (Nth.s (Nth.s (Nth.s (Nth.s Nth.z))))) ?_
  refine SJ_d (rd' := [⟨3, _, _, _⟩]) [3] rfl (want_none rfl) rfl ((Op_min rfl rfl).opD) (by kernel_rfl) rfl ⟨(load_cell Try.underlying3 rfl pkk (Nth.s (Nth.s (Nth.s (Nth.s Nth.z))))), trivial⟩ ?_
  refine SJ_q rfl (want_none rfl) rfl (fun _ _ => Op_sub64 rfl rfl (by omega)) ?_
  refine SJ_q rfl (want_none rfl) rfl (fun _ _ => Op_nilCheck rfl) ?_
  refine SJ_q rfl (want_none rfl) rfl (fun _ _ => Op_fieldAddr (o' := 4) rfl Try.underlying103 rfl sz3 rfl rfl) ?_
  refine SJ_d0 (rd' := []) [] rfl (want_none rfl) (Op_store (cs' := #[_, _, _, _, _, _]) rfl rfl sz3 (by rfl) (by simp [Value.cells, Value.oneCell']) rpp rfl (free_zero _ _) (by rfl)) (by kernel_rfl) rfl trivial ?_
  refine SJ_done ?_
  have hP : relR kept n = kept - min n kept := by unfold relR; rw [if_pos h1]
  rw [hP]
  refine NJ_ret (.inr rfl) Try.results32 ResJ_nil ⟨rfl, rfl⟩ (.swap (C := CacheRaw g mm (T) room (kept - min n kept) (kv)) (.k (e := (.k (e := (.k (e := skk)))))) (CacheP_close (hmo)) (.k (e := skk)))
 ·skip
  refine RJ_q (Op_pick_t rfl rfl rfl) rfl ?_
  refine RJ_nil ?_
  refine NJ_then ?_
  refine CJ_env (E' := [(0, _), (1, _), (9, _)]) (.cons rfl rfl (.cons rfl rfl (.cons rfl rfl .nil))) ?_
  refine CJ_else rfl (decide_eq_false h1) ?_
  refine CJ_skip ?_
  have hP : relR kept n = kept := by unfold relR; rw [if_neg h1]
  rw [hP]
  refine NJ_ret (.inr rfl) Try.results32 ResJ_nil ⟨rfl, rfl⟩ (.swap (C := CacheRaw g mm (T) room (kept) (kv)) (.k (e := (.k (e := (.k (e := skk)))))) (CacheP_close (hmo)) (.k (e := skk)))

set_option maxRecDepth 20000 in
theorem Used_any (g : Nat) (L : List It) (room kept : Int) (hI : LOk L room kept) : Spec Try.prog 37 #[.pointer (some ⟨g, 0, none⟩)] [CacheP g L room kept] (fun r C => r = .int .i64 (szs L + kept) ∧ C = [CacheP g L room kept]) := by
 refine Spec_intro (n := 15) (args := [.pointer (some ⟨g, 0, none⟩)]) Try.func37 rfl rfl rfl fun s R => ?_
 refine CJ_app1 ?_
 refine CJ_env (E' := [(0, _)]) (.cons rfl rfl .nil) ?_
 have hI1 := hI.kp
 have hI2 := hI.fit
 have hI3 := hI.top
 have hI4 := szs_nonneg hI.pos
 refine CJ_seq ?_
 refine CJ_region ?_
 refine RJ_q (Op_assign rfl) rfl ?_
 refine RJ_nil ?_
 refine NJ_then ?_
 refine CJ_env (E' := [(0, _), (2, _)]) (.cons rfl rfl (.cons rfl rfl .nil)) ?_
 refine CJ_seq ?_
 refine CJ_seq ?_
 refine CJ_region ?_
 refine RJ_q (Op_move rfl) rfl ?_
 refine RJ_q (Op_ptr_eq_nil rfl rfl Try.underlying71) rfl ?_
 refine RJ_nil ?_
 refine NJ_then ?_
 refine CJ_env (E' := [(0, _), (2, _), (4, _)]) (.cons rfl rfl (.cons rfl rfl (.cons rfl rfl .nil))) ?_
 refine CJ_else rfl rfl ?_
 refine CJ_skip ?_
 refine NJ_then ?_
 refine CJ_env (E' := [(0, _), (2, _)]) (.cons rfl rfl (.cons rfl rfl .nil)) ?_
 refine CJ_seq ?_
 refine CJ_draw (.q 0 (.q 1 (.q 2 (.q 3 (.q 4 (.q 5 (.q 6 (.q 7 (.q 8 (.q 9 (.q 10 .done))))))))))) (by kernel_rfl) (by kernel_rfl) (by kernel_rfl) ?_
 refine SJ_q rfl (want_none rfl) rfl (fun _ _ => Op_move rfl) ?_
 refine SJ_q rfl (want_none rfl) rfl (fun _ _ => Op_nilCheck rfl) ?_
 refine SJ_q rfl (want_none rfl) rfl (fun _ _ => Op_fieldAddr (o' := 0) rfl Try.underlying103 rfl sz100 rfl rfl) ?_
 refine SJ_q rfl (want_none rfl) rfl (fun _ _ => Op_fieldAddr (o' := 2) rfl Try.underlying100 rfl sz3 rfl rfl) ?_
 refine SJ_load rfl (want_none rfl) rfl rfl (load_sum Try.underlying3 pkk) ?_
 refine SJ_q rfl (want_none rfl) rfl (fun _ _ => Op_move rfl) ?_
 refine SJ_q rfl (want_none rfl) rfl (fun _ _ => Op_nilCheck rfl) ?_
 refine SJ_q rfl (want_none rfl) rfl (fun _ _ => Op_fieldAddr (o' := 4) rfl Try.underlying103 rfl sz3 rfl rfl) ?_
 refine SJ_load rfl (want_none rfl) rfl rfl (load_kept Try.underlying3 pkk) ?_
 refine SJ_q rfl (want_none rfl) rfl (fun _ _ => Op_add64 rfl rfl (by omega)) ?_
 refine SJ_q rfl (want_none rfl) rfl (fun _ _ => Op_assign rfl) ?_
 refine SJ_done ?_
 refine NJ_then ?_
 refine CJ_env (E' := [(2, _)]) (.cons rfl rfl .nil) ?_
 refine CJ_ret ?_
 refine NJ_ret (.inl rfl) Try.results37 (ResJ_tmp rfl ResJ_nil) ⟨rfl, rfl⟩ (.k (e := skk))

set_option maxRecDepth 20000 in
theorem Reserved_any (g : Nat) (L : List It) (room kept : Int) : Spec Try.prog 42 #[.pointer (some ⟨g, 0, none⟩)] [CacheP g L room kept] (fun r C => r = .int .i64 kept ∧ C = [CacheP g L room kept]) := by
 refine Spec_intro (n := 9) (args := [.pointer (some ⟨g, 0, none⟩)]) Try.func42 rfl rfl rfl fun s R => ?_
 refine CJ_app1 ?_
 refine CJ_env (E' := [(0, _)]) (.cons rfl rfl .nil) ?_
 refine CJ_seq ?_
 refine CJ_region ?_
 refine RJ_q (Op_assign rfl) rfl ?_
 refine RJ_nil ?_
 refine NJ_then ?_
 refine CJ_env (E' := [(0, _), (2, _)]) (.cons rfl rfl (.cons rfl rfl .nil)) ?_
 refine CJ_seq ?_
 refine CJ_seq ?_
 refine CJ_region ?_
 refine RJ_q (Op_move rfl) rfl ?_
 refine RJ_q (Op_ptr_eq_nil rfl rfl Try.underlying71) rfl ?_
 refine RJ_nil ?_
 refine NJ_then ?_
 refine CJ_env (E' := [(0, _), (2, _), (4, _)]) (.cons rfl rfl (.cons rfl rfl (.cons rfl rfl .nil))) ?_
 refine CJ_else rfl rfl ?_
 refine CJ_skip ?_
 refine NJ_then ?_
 refine CJ_env (E' := [(0, _), (2, _)]) (.cons rfl rfl (.cons rfl rfl .nil)) ?_
 refine CJ_seq ?_
 refine CJ_region ?_
 refine RJ_q (Op_move rfl) rfl ?_
 refine RJ_q (Op_nilCheck rfl) rfl ?_
 refine RJ_q (Op_fieldAddr (o' := 4) rfl Try.underlying103 rfl sz3 rfl rfl) rfl ?_
 refine RJ_q (Op_load rfl (load_kept Try.underlying3 pkk)) rfl ?_
 refine RJ_q (Op_assign rfl) rfl ?_
 refine RJ_nil ?_
 refine NJ_then ?_
 refine CJ_env (E' := [(2, _)]) (.cons rfl rfl .nil) ?_
 refine CJ_ret ?_
 refine NJ_ret (.inl rfl) Try.results42 (ResJ_tmp rfl ResJ_nil) ⟨rfl, rfl⟩ (.k (e := skk))

set_option maxRecDepth 20000 in
theorem Keys_any (g : Nat) (L : List It) (room kept : Int) (hl : L.length ≤ 1000000) : Spec Try.prog 38 #[.pointer (some ⟨g, 0, none⟩)] [CacheP g L room kept] (fun r C => ∃ a cap, r = .slice (sl a) (keysOf L).length cap ∧ C = [CacheP g L room kept, Row StrT a cap (keysOf L)]) := by
 refine Spec_intro (n := 26) (args := [.pointer (some ⟨g, 0, none⟩)]) Try.func38 rfl rfl rfl fun s R => ?_
 refine CJ_app1 ?_
 refine CJ_env (E' := [(0, _)]) (.cons rfl rfl .nil) ?_
 refine CJ_open (CacheP_opens _ _ _ _) pkk ?_
 rintro _ ⟨mm, T, kv, rfl, hmo, rfl⟩
 refine CJ_app3 ?_
 rw [itsOf_len] at hl
 refine CJ_seq ?_
 refine CJ_region ?_
 refine RJ_q (Op_assign rfl) rfl ?_
 refine RJ_nil ?_
 refine NJ_then ?_
 refine CJ_env (E' := [(0, _), (2, _)]) (.cons rfl rfl (.cons rfl rfl .nil)) ?_
 refine CJ_seq ?_
 refine CJ_region ?_
 refine RJ_q (Op_assign rfl) rfl ?_
 refine RJ_nil ?_
 refine NJ_then ?_
 refine CJ_env (E' := [(0, _), (2, _), (3, _)]) (.cons rfl rfl (.cons rfl rfl (.cons rfl rfl .nil))) ?_
 refine CJ_seq ?_
 refine CJ_seq ?_
 refine CJ_region ?_
 refine RJ_q (Op_move rfl) rfl ?_
 refine RJ_q (Op_ptr_ne_nil rfl rfl Try.underlying71) rfl ?_
 refine RJ_nil ?_
 refine NJ_then ?_
 refine CJ_env (E' := [(0, _), (2, _), (3, _), (6, _)]) (.cons rfl rfl (.cons rfl rfl (.cons rfl rfl (.cons rfl rfl .nil)))) ?_
 refine CJ_then rfl rfl ?_
 refine CJ_seq ?_
 refine CJ_region ?_
 refine RJ_q (Op_move rfl) rfl ?_
 refine RJ_q (Op_nilCheck rfl) rfl ?_
 refine RJ_q (Op_fieldAddr (o' := 0) rfl Try.underlying103 rfl sz100 rfl rfl) rfl ?_
 refine RJ_q (Op_fieldAddr (o' := 0) rfl Try.underlying100 rfl sz98 rfl rfl) rfl ?_
 refine RJ_q (Op_load rfl (load_cell Try.underlying98 rfl pkk Nth.z)) rfl ?_
 refine RJ_q (Op_assign rfl) rfl ?_
 refine RJ_nil ?_
 refine NJ_then ?_
 refine CJ_env (E' := [(2, _), (3, _), (4, _)]) (.cons rfl rfl (.cons rfl rfl (.cons rfl rfl .nil))) ?_
 refine CJ_block ?_
 refine CJ_loop (fun E H m => ∃ (A B : List Th) (a : Option Nat) (cap : Nat), (T = A ++ B) ∧ E = [(3, .slice (sl a) (keysOf (itsOf A)).length cap), (4, .pointer (sl (hdO B none)))] ∧ H = [CacheC g (hdO T none) (ltO none T) (szs (itsOf T)) room kept (.map (some mm)), SegP none T none, Mp KS mm kv, Row StrT a cap (keysOf (itsOf A))] ++ R ∧ m = B.length) (E' := [(3, .slice (sl none) (keysOf (itsOf [])).length 0), (4, .pointer (sl (hdO T none)))]) (H' := [CacheC g (hdO T none) (ltO none T) (szs (itsOf T)) room kept (.map (some mm)), SegP none T none, Mp KS mm kv, Row StrT none 0 (keysOf (itsOf []))] ++ R) (m := T.length) ⟨[], T, none, 0, rfl, rfl, rfl, rfl⟩ (.cons rfl rfl (.cons rfl rfl .nil)) (.trans (Row_none StrT).imp_add (.k (e := (.k (e := (.k (e := (.k (e := skk))))))))) ?_
 rintro _ _ _ ⟨A, B, a, cap, hT1, rfl, rfl, rfl⟩
 refine CJ_app4 ?_
 refine CJ_seq ?_
 refine CJ_seq ?_
 by_cases hB : B = []
 ·skip
  subst hB
  refine CJ_region ?_
  refine RJ_q (Op_move rfl) rfl ?_
  refine RJ_q (Op_ptr_ne_nil rfl rfl Try.underlying98) rfl ?_
  refine RJ_nil ?_
  refine NJ_then ?_
  refine CJ_env (E' := [(3, _), (4, _), (13, _)]) (.cons rfl rfl (.cons rfl rfl (.cons rfl rfl .nil))) ?_
  refine CJ_else rfl rfl ?_
  refine CJ_exit ?_
  refine NJ_then_x ?_
  refine NJ_then_x ?_
  refine NJ_blk_hit ?_
  refine NJ_then ?_
  refine CJ_env (E' := [(3, _)]) (.cons rfl rfl .nil) ?_
  refine CJ_seq ?_
  refine CJ_region ?_
  refine RJ_q (Op_move rfl) rfl ?_
  refine RJ_q (Op_assign rfl) rfl ?_
  refine RJ_nil ?_
  refine NJ_then ?_
  refine CJ_env (E' := [(2, _)]) (.cons rfl rfl .nil) ?_
  refine CJ_ret ?_
  rw [List.append_nil] at hT1
  subst hT1
  refine NJ_ret (.inl rfl) Try.results38 (ResJ_tmp rfl ResJ_nil) ⟨a, cap, rfl, rfl⟩ (.swap (C := CacheRaw g mm (T) room (kept) (kv)) (.k (e := (.k (e := (.k (e := skk)))))) (CacheP_close (hmo)) (.k (e := (.k (e := skk)))))
 ·skip
  obtain ⟨x, B2, rfl⟩ := List.exists_cons_of_ne_nil hB
  have hlA : A.length ≤ T.length := by rw [hT1]; simp
  refine CJ_region ?_
  refine RJ_q (Op_move rfl) rfl ?_
  refine RJ_q (Op_ptr_ne_nil rfl rfl Try.underlying98) rfl ?_
  refine RJ_nil ?_
  refine NJ_then ?_
  refine CJ_env (E' := [(3, _), (4, _), (13, _)]) (.cons rfl rfl (.cons rfl rfl (.cons rfl rfl .nil))) ?_
  refine CJ_then rfl rfl ?_
  refine CJ_skip ?_
  refine NJ_then ?_
  refine CJ_env (E' := [(3, _), (4, _)]) (.cons rfl rfl (.cons rfl rfl .nil)) ?_
  refine CJ_seq ?_
  refine CJ_block ?_
  refine CJ_region ?_
  refine RJ_q (Op_move rfl) rfl ?_
  refine RJ_q (Op_move rfl) rfl ?_
  refine RJ_q (Op_nilCheck rfl) rfl ?_
  refine RJ_q (Op_fieldAddr (o' := 0) rfl Try.underlying120 rfl sz9 rfl rfl) rfl ?_
  refine RJ_q (Op_load rfl (load_imp (.swap (C := [SegP none T none]) (D := [SegP none A (some x.b), ThP x (ltO none A) (hdO B2 none), SegP (some x.b) B2 none]) (.k (e := (Imp.refl _))) (by rw [hT1]; exact seg_mid.imp) (.refl _)) (load_cell Try.underlying9 rfl pkk Nth.z))) rfl ?_
  refine RJ_p rfl (Op_buildSlice (vs := [_]) (cells := [_]) Try.underlying22 sz9 zr9 rfl rfl rfl rfl (by rfl)) ?_
  rintro _ _ ⟨g23, rfl, rfl⟩
  refine RJ_p rfl (Op_append (T := StrT) (news := [x.it.key]) rfl rfl pkk rfl (by simp) (Reads_pt pkk (fun j u h => by simpa [Ty.flat, StrT] using h)) Try.underlying22 sz9 zr9 (by rfl) by9 (by simp [StrT, keysOf, itsOf]; omega) (by simp [maxLen, keysOf, itsOf]; omega)) ?_
  rintro _ _ ⟨a24, c24, rfl, rfl⟩
  have he : keysOf (itsOf A) ++ [x.it.key] = keysOf (itsOf (A ++ [x])) := by simp [keysOf, itsOf]
  rw [he]
  refine RJ_q (Op_assign rfl) rfl ?_
  refine RJ_nil ?_
  refine NJ_blk ?_
  refine NJ_then ?_
  refine CJ_env (E' := [(3, _), (4, _)]) (.cons rfl rfl (.cons rfl rfl .nil)) ?_
  refine CJ_region ?_
  refine RJ_q (Op_move rfl) rfl ?_
  refine RJ_q (Op_nilCheck rfl) rfl ?_
  refine RJ_q (Op_fieldAddr (o' := 8) rfl Try.underlying120 rfl sz98 rfl rfl) rfl ?_
  refine RJ_q (Op_load rfl (load_imp (.swap (C := [SegP none T none]) (D := [SegP none A (some x.b), ThP x (ltO none A) (hdO B2 none), SegP (some x.b) B2 none]) (.k (e := (Imp.refl _))) (by rw [hT1]; exact seg_mid.imp) (.refl _)) (load_cell (by exact Try.underlying98) rfl pkk (Nth.s (Nth.s (Nth.s (Nth.s (Nth.s (Nth.s (Nth.s (Nth.s Nth.z))))))))))) rfl ?_
  refine RJ_q (Op_assign rfl) rfl ?_
  refine RJ_nil ?_
  refine NJ_back (E' := [(3, .slice (sl a24) (keysOf (itsOf (A ++ [x]))).length c24), (4, .pointer (sl (hdO B2 none)))]) (H' := [CacheC g (hdO T none) (ltO none T) (szs (itsOf T)) room kept (.map (some mm)), SegP none T none, Mp KS mm kv, Row StrT a24 c24 (keysOf (itsOf (A ++ [x])))] ++ R) (m' := B2.length) ⟨A ++ [x], B2, a24, c24, by rw [hT1]; simp, rfl, rfl, rfl⟩ (by simp) (.cons rfl (by first | rfl | (simp [keysOf, itsOf]; done)) (.cons rfl (by first | rfl | (simp [keysOf, itsOf]; done)) .nil)) (.k (e := (.k (e := (.k (e := (.k (e := skk))))))))

set_option maxRecDepth 20000 in
theorem Clear_any (g : Nat) (L : List It) (room kept : Int) (hI : LOk L room kept) : Spec Try.prog 34 #[.pointer (some ⟨g, 0, none⟩)] [CacheP g L room kept] (fun r C => r = .tuple #[] ∧ C = [CacheP g [] room kept]) := by
 refine Spec_intro (n := 17) (args := [.pointer (some ⟨g, 0, none⟩)]) Try.func34 rfl rfl rfl fun s R => ?_
 refine CJ_app1 ?_
 refine CJ_env (E' := [(0, _)]) (.cons rfl rfl .nil) ?_
 refine CJ_open (CacheP_opens _ _ _ _) pkk ?_
 rintro _ ⟨mm, T, kv, rfl, hmo, rfl⟩
 refine CJ_app3 ?_
 have hI1 := hI.pos
 have hI2 := hI.kp
 have hI3 := hI.fit
 have hI4 := hI.top
 have hnd0 := hI.nd
 clear hI
 refine CJ_seq ?_
 refine CJ_region ?_
 refine RJ_q (Op_move rfl) rfl ?_
 refine RJ_q (Op_ptr_ne_nil rfl rfl Try.underlying71) rfl ?_
 refine RJ_nil ?_
 refine NJ_then ?_
 refine CJ_env (E' := [(0, _), (3, _)]) (.cons rfl rfl (.cons rfl rfl .nil)) ?_
 refine CJ_then rfl rfl ?_
 refine CJ_block ?_
 refine CJ_loop (fun E H m => ∃ (T1 D : List Th) (kv1 : List (ByteArray × Value)), (T = T1 ++ D ∧ MapOf kv1 T1) ∧ E = [(0, .pointer (some ⟨g, 0, none⟩))] ∧ H = [CacheC g (hdO (T1) none) (ltO none (T1)) (szs (itsOf (T1))) room kept (.map (some mm)), SegP none (T1) none, Mp KS mm (kv1)] ++ R ∧ m = T1.length) (E' := [(0, .pointer (some ⟨g, 0, none⟩))]) (H' := [CacheC g (hdO (T) none) (ltO none (T)) (szs (itsOf (T))) room kept (.map (some mm)), SegP none (T) none, Mp KS mm (kv)] ++ R) (m := T.length) ⟨T, [], kv, ⟨by simp, hmo⟩, rfl, rfl, rfl⟩ (.cons rfl rfl .nil) (.k (e := (.k (e := (.k (e := skk)))))) ?_
 rintro _ _ _ ⟨T1, D, kv1, ⟨hT1, hm1⟩, rfl, rfl, rfl⟩
 refine CJ_app3 ?_
 have hsz : szs (itsOf T1) ≤ szs (itsOf T) ∧ 0 ≤ szs (itsOf T1) ∧ T1.length + D.length = T.length := by
   subst hT1
   refine ⟨?_, szs_nonneg fun t ht => hI1 t ?_, by simp⟩
   · rw [itsOf_app, szs_app]
     have := szs_nonneg (L := itsOf D) fun t ht => hI1 t (by rw [itsOf_app]; simp [ht])
     omega
   · rw [itsOf_app]; simp [ht]
 refine CJ_seq ?_
 refine CJ_seq ?_
 by_cases hT : T1 = []
 ·skip
  subst hT
  refine CJ_region ?_
  refine RJ_q (Op_move rfl) rfl ?_
  refine RJ_q (Op_nilCheck rfl) rfl ?_
  refine RJ_q (Op_fieldAddr (o' := 0) rfl Try.underlying103 rfl sz100 rfl rfl) rfl ?_
  refine RJ_q (Op_fieldAddr (o' := 1) rfl Try.underlying100 rfl sz98 rfl rfl) rfl ?_
  refine RJ_q (Op_load rfl (load_cell Try.underlying98 rfl pkk (Nth.s Nth.z))) rfl ?_
  refine RJ_q (Op_ptr_ne_nil rfl rfl Try.underlying98) rfl ?_
  refine RJ_nil ?_
  refine NJ_then ?_
  refine CJ_env (E' := [(0, _), (9, _)]) (.cons rfl rfl (.cons rfl rfl .nil)) ?_
  refine CJ_else rfl rfl ?_
  refine CJ_exit ?_
  refine NJ_then_x ?_
  refine NJ_then_x ?_
  refine NJ_blk_hit ?_
  refine NJ_ret (.inr rfl) Try.results34 ResJ_nil ⟨rfl, rfl⟩ (.swap (C := CacheRaw g mm ([]) room (kept) (kv1)) (.k (e := (.k (e := (.k (e := skk)))))) (CacheP_close (hm1)) (.k (e := skk)))
 ·skip
  obtain ⟨T2, x, rfl⟩ : ∃ T2 x, T1 = T2 ++ [x] := ⟨T1.dropLast, T1.getLast hT, (List.dropLast_concat_getLast hT).symm⟩
  have hlt : ltO none (T2 ++ [x]) = some x.b := ltO_last
  rw [hlt]
  have hb2 : -9223372036854775808 ≤ szs (itsOf T2) ∧ szs (itsOf T2) ≤ 9223372036854775807 := by
    have h1 : 0 ≤ szs (itsOf T2) := szs_nonneg fun t ht => hI1 t (by rw [hT1, itsOf_app, itsOf_app]; simp [ht])
    have h2 : szs (itsOf (T2 ++ [x])) = szs (itsOf T2) + x.it.size := by rw [itsOf_app, szs_app]; simp [itsOf, szs]
    have h3 : 0 ≤ x.it.size := hI1 x.it (by rw [hT1, itsOf_app, itsOf_app]; simp [itsOf])
    omega
  refine CJ_region ?_
  refine RJ_q (Op_move rfl) rfl ?_
  refine RJ_q (Op_nilCheck rfl) rfl ?_
  refine RJ_q (Op_fieldAddr (o' := 0) rfl Try.underlying103 rfl sz100 rfl rfl) rfl ?_
  refine RJ_q (Op_fieldAddr (o' := 1) rfl Try.underlying100 rfl sz98 rfl rfl) rfl ?_
  refine RJ_q (Op_load rfl (load_cell Try.underlying98 rfl pkk (Nth.s Nth.z))) rfl ?_
  refine RJ_q (Op_ptr_ne_nil rfl rfl Try.underlying98) rfl ?_
  refine RJ_nil ?_
  refine NJ_then ?_
  refine CJ_env (E' := [(0, _), (9, _)]) (.cons rfl rfl (.cons rfl rfl .nil)) ?_
  refine CJ_then rfl rfl ?_
  refine CJ_skip ?_
  refine NJ_then ?_
  refine CJ_env (E' := [(0, _)]) (.cons rfl rfl .nil) ?_
  refine CJ_block ?_
  refine CJ_region ?_
  refine RJ_q (Op_move rfl) rfl ?_
  refine RJ_q (Op_move rfl) rfl ?_
  refine RJ_q (Op_nilCheck rfl) rfl ?_
  refine RJ_q (Op_fieldAddr (o' := 0) rfl Try.underlying103 rfl sz100 rfl rfl) rfl ?_
  refine RJ_q (Op_fieldAddr (o' := 1) rfl Try.underlying100 rfl sz98 rfl rfl) rfl ?_
  refine RJ_q (Op_load rfl (load_cell Try.underlying98 rfl pkk (Nth.s Nth.z))) rfl ?_
  have hm2 : MapOf (mdel x.it.key kv1) T2 := by
    have := hm1.cut (B := []) (by rw [hT1, itsOf_app, keysOf, List.map_append] at hnd0; exact (List.nodup_append.1 hnd0).1)
    rwa [List.append_nil] at this
  refine RJ_p rfl (Op_call (vs := [_, _]) Try.func58 rfl rfl (take_any g mm T2 [] x room kept kv1 (by rw [List.append_nil]; exact hb2)) rfl (by rw [hlt]; exact (.k (e := (.k (e := (.k (e := (Imp.refl _))))))))) ?_
  rintro _ _ ⟨_, ⟨rfl, rfl⟩, rfl⟩
  refine RJ_app3 ?_
  simp only [List.append_nil]
  refine RJ_nil ?_
  refine NJ_blk ?_
  refine NJ_back (E' := [(0, .pointer (some ⟨g, 0, none⟩))]) (H' := [CacheC g (hdO (T2) none) (ltO none (T2)) (szs (itsOf (T2))) room kept (.map (some mm)), SegP none (T2) none, Mp KS mm (mdel x.it.key kv1)] ++ R) (m' := T2.length) ⟨T2, x :: D, mdel x.it.key kv1, ⟨by rw [hT1]; simp, hm2⟩, rfl, rfl, rfl⟩ (by simp) (.cons rfl (by first | rfl | (simp [keysOf, itsOf]; done)) .nil) (.k (e := (.k (e := (.k (e := skk))))))
end Go.Proofs.Ytgakbdofjlhoeaa.SL
