/- Contracts of lru. -/
import Derived.Test.Ytgakbdofjlhoeaas21LrX
import Derived.Test.Ytgakbdofjlhoeaas21Facts
namespace Go.Proofs.Ytgakbdofjlhoeaa.SL
open Go Go.RowKit
set_option maxRecDepth 20000 in
theorem way_any (g : Nat) (L : List It) (room kept : Int) (hI : LOk L room kept) (n : Int) (hn : 0 ≤ n ∧ n ≤ room - kept) (hl : L.length ≤ 1000000) : Spec Try.prog 57 #[.pointer (some ⟨g, 0, none⟩), .int .i64 n] [CacheP g L room kept] (fun v C => ∃ a cap, v = .slice (sl a) (goneFrom L (stay (room - n - kept) L L.length)).length cap ∧ C = [CacheP g (L.take (stay (room - n - kept) L L.length)) room kept, Row StrT a cap (goneFrom L (stay (room - n - kept) L L.length))]) := by
 refine Spec_intro (n := 50) (args := [.pointer (some ⟨g, 0, none⟩), .int .i64 n]) Try.func57 rfl rfl rfl fun s R => ?_
 refine CJ_app1 ?_
 refine CJ_env (E' := [(0, _), (1, _)]) (.cons rfl rfl (.cons rfl rfl .nil)) ?_
 refine CJ_open (CacheP_opens _ _ _ _) pkk ?_
 rintro _ ⟨mm, T, kv, rfl, hmo, rfl⟩
 refine CJ_app3 ?_
 have hI1 := hI.pos
 have hI2 := hI.kp
 have hI3 := hI.fit
 have hI4 := hI.top
 have hnd0 := hI.nd
 clear hI
 rw [itsOf_len] at hl ⊢
 refine CJ_seq ?_
 refine CJ_region ?_
 refine RJ_q (Op_assign rfl) rfl ?_
 refine RJ_nil ?_
 refine NJ_then ?_
 refine CJ_env (E' := [(0, _), (1, _), (4, _)]) (.cons rfl rfl (.cons rfl rfl (.cons rfl rfl .nil))) ?_
 refine CJ_seq ?_
 refine CJ_region ?_
 refine RJ_q (Op_assign rfl) rfl ?_
 refine RJ_nil ?_
 refine NJ_then ?_
 refine CJ_env (E' := [(0, _), (1, _), (4, _), (5, _)]) (.cons rfl rfl (.cons rfl rfl (.cons rfl rfl (.cons rfl rfl .nil)))) ?_
 refine CJ_seq ?_
 refine CJ_block ?_
 refine CJ_loop (fun E H m => ∃ (T1 D : List Th) (a : Option Nat) (cap : Nat) (kv1 : List (ByteArray × Value)), (T = T1 ++ D ∧ MapOf kv1 T1 ∧ stay (room - n - kept) (itsOf T) T.length = stay (room - n - kept) (itsOf T) T1.length ∧ (keysOf (itsOf T)).Nodup) ∧ E = [(0, .pointer (some ⟨g, 0, none⟩)), (1, .int .i64 n), (5, .slice (sl a) (keysOf (itsOf D)).reverse.length cap)] ∧ H = [CacheC g (hdO (T1) none) (ltO none (T1)) (szs (itsOf (T1))) room kept (.map (some mm)), SegP none (T1) none, Mp KS mm (kv1), Row StrT a cap (keysOf (itsOf D)).reverse] ++ R ∧ m = T1.length) (E' := [(0, .pointer (some ⟨g, 0, none⟩)), (1, .int .i64 n), (5, .slice (sl none) (keysOf (itsOf [])).reverse.length 0)]) (H' := [CacheC g (hdO (T) none) (ltO none (T)) (szs (itsOf (T))) room kept (.map (some mm)), SegP none (T) none, Mp KS mm (kv), Row StrT none 0 (keysOf (itsOf [])).reverse] ++ R) (m := T.length) ⟨T, [], none, 0, kv, ⟨by simp, hmo, rfl, hnd0⟩, rfl, rfl, rfl⟩ (.cons rfl rfl (.cons rfl rfl (.cons rfl rfl .nil))) (.trans (Row_none StrT).imp_add (.k (e := (.k (e := (.k (e := (.k (e := skk))))))))) ?_
 rintro _ _ _ ⟨T1, D, a, cap, kv1, ⟨hT1, hm1, hst, hnd⟩, rfl, rfl, rfl⟩
 refine CJ_app4 ?_
 have hsz : szs (itsOf T1) ≤ szs (itsOf T) ∧ 0 ≤ szs (itsOf T1) ∧ T1.length + D.length = T.length := by
   subst hT1
   refine ⟨?_, szs_nonneg fun t ht => hI1 t ?_, by simp⟩
   · rw [itsOf_app, szs_app]
     have := szs_nonneg (L := itsOf D) fun t ht => hI1 t (by rw [itsOf_app]; simp [ht])
     omega
   · rw [itsOf_app]; simp [ht]
 refine CJ_seq ?_
 refine CJ_seq ?_
 by_cases hT : T1 = []
 ·skip
  subst hT
  refine CJ_draw (.q 0 (.q 1 (.q 2 (.q 3 (.q 4 (.q 5 (.q 6 (.q 7 (.q 8 (.q 9 (.q 10 (.q 11 (.q 12 (.q 13 (.q 14 (.q 15 (.q 16 (.q 17 (.q 18 (.q 19 (.q 20 (.q 21 (.q 22 (.q 23 (.q 24 .done))))))))))))))))))))))))) (by kernel_rfl) (by kernel_rfl) (by kernel_rfl) ?_
  refine SJ_q rfl (want_none rfl) rfl (fun _ _ => Op_move rfl) ?_
  refine SJ_q rfl (want_none rfl) rfl (fun _ _ => Op_nilCheck rfl) ?_
  refine SJ_q rfl (want_none rfl) rfl (fun _ _ => Op_fieldAddr (o' := 0) rfl Try.underlying103 rfl sz100 rfl rfl) ?_
  refine SJ_q rfl (want_none rfl) rfl (fun _ _ => Op_fieldAddr (o' := 1) rfl Try.underlying100 rfl sz98 rfl rfl) ?_
  refine SJ_load rfl (want_none rfl) rfl rfl (load_cell Try.underlying98 rfl pkk (Nth.s Nth.z)) ?_
  refine SJ_q rfl (want_none rfl) rfl (fun _ _ => Op_ptr_ne_nil rfl rfl Try.underlying98) ?_
  refine SJ_q rfl (want_none rfl) rfl (fun _ _ => Op_move rfl) ?_
  refine SJ_no (t := 12) false rfl rfl rfl rfl (by decide) rfl ?_
  refine SJ_no (t := 12) false rfl rfl rfl rfl (by decide) rfl ?_
  refine SJ_no (t := 12) false rfl rfl rfl rfl (by decide) rfl ?_
  refine SJ_no (t := 12) false rfl rfl rfl rfl (by decide) rfl ?_
  refine SJ_no (t := 12) false rfl rfl rfl rfl (by decide) rfl ?_
  refine SJ_no (t := 12) false rfl rfl rfl rfl (by decide) rfl ?_
  refine SJ_no (t := 12) false rfl rfl rfl rfl (by decide) rfl ?_
  refine SJ_no (t := 12) false rfl rfl rfl rfl (by decide) rfl ?_
  refine SJ_no (t := 12) false rfl rfl rfl rfl (by decide) rfl ?_
  refine SJ_no (t := 12) false rfl rfl rfl rfl (by decide) rfl ?_
  refine SJ_no (t := 12) false rfl rfl rfl rfl (by decide) rfl ?_
  refine SJ_no (t := 12) false rfl rfl rfl rfl (by decide) rfl ?_
  refine SJ_no (t := 12) false rfl rfl rfl rfl (by decide) rfl ?_
  refine SJ_no (t := 12) false rfl rfl rfl rfl (by decide) rfl ?_
  refine SJ_no (t := 12) false rfl rfl rfl rfl (by decide) rfl ?_
  refine SJ_no (t := 12) false rfl rfl rfl rfl (by decide) rfl ?_
  refine SJ_no (t := 12) false rfl rfl rfl rfl (by decide) rfl ?_
  refine SJ_q rfl (want_none rfl) rfl (fun _ _ => Op_pick_f rfl rfl rfl) ?_
  have hj : stay (room - n - kept) (itsOf T) T.length = ([] : List Th).length := hst
  refine SJ_done ?_
  refine NJ_then ?_
  refine CJ_env (E' := [(0, _), (1, _), (5, _), (30, _)]) (.cons rfl rfl (.cons rfl rfl (.cons rfl rfl (.cons rfl rfl .nil)))) ?_
  refine CJ_else rfl rfl ?_
  refine CJ_exit ?_
  refine NJ_then_x ?_
  refine NJ_then_x ?_
  refine NJ_blk_hit ?_
  refine NJ_then ?_
  refine CJ_env (E' := [(5, _)]) (.cons rfl rfl .nil) ?_
  refine CJ_seq ?_
  refine CJ_region ?_
  refine RJ_q (Op_move rfl) rfl ?_
  refine RJ_q (Op_assign rfl) rfl ?_
  refine RJ_nil ?_
  refine NJ_then ?_
  refine CJ_env (E' := [(4, _)]) (.cons rfl rfl .nil) ?_
  refine CJ_ret ?_
  have hj2 : goneFrom (itsOf T) (stay (room - n - kept) (itsOf T) T.length) = (keysOf (itsOf D)).reverse := by
    rw [hj, hT1]; exact goneFrom_at rfl
  have hj3 : (itsOf T).take (stay (room - n - kept) (itsOf T) T.length) = itsOf ([] : List Th) := by
    rw [hj, hT1]; exact take_at rfl
  rw [hj2, hj3]
  refine NJ_ret (.inl rfl) Try.results57 (ResJ_tmp rfl ResJ_nil) ⟨a, cap, rfl, rfl⟩ (.swap (C := CacheRaw g mm (([] : List Th)) room (kept) (kv1)) (.k (e := (.k (e := (.k (e := skk)))))) (CacheP_close (hm1)) (.k (e := (.k (e := skk)))))
 ·skip
  obtain ⟨T2, x, rfl⟩ : ∃ T2 x, T1 = T2 ++ [x] := ⟨T1.dropLast, T1.getLast hT, (List.dropLast_concat_getLast hT).symm⟩
  have hlt : ltO none (T2 ++ [x]) = some x.b := ltO_last
  rw [hlt]
  have hx : szs (itsOf (T2 ++ [x])) = szs ((itsOf T).take (T2.length + 1)) := by rw [hT1, take_at (by simp)]
  have hb2 : -9223372036854775808 ≤ szs (itsOf T2) ∧ szs (itsOf T2) ≤ 9223372036854775807 := by
    have h1 : 0 ≤ szs (itsOf T2) := szs_nonneg fun t ht => hI1 t (by rw [hT1, itsOf_app, itsOf_app]; simp [ht])
    have h2 : szs (itsOf (T2 ++ [x])) = szs (itsOf T2) + x.it.size := by rw [itsOf_app, szs_app]; simp [itsOf, szs]
    have h3 : 0 ≤ x.it.size := hI1 x.it (by rw [hT1, itsOf_app, itsOf_app]; simp [itsOf])
    omega
  refine CJ_draw (.q 0 (.q 1 (.q 2 (.q 3 (.q 4 (.q 5 (.q 6 (.q 7 (.q 8 (.q 9 (.q 10 (.q 11 (.q 12 (.q 13 (.q 14 (.q 15 (.q 16 (.q 17 (.q 18 (.q 19 (.q 20 (.q 21 (.q 22 (.q 23 (.q 24 .done))))))))))))))))))))))))) (by kernel_rfl) (by kernel_rfl) (by kernel_rfl) ?_
  refine SJ_q rfl (want_none rfl) rfl (fun _ _ => Op_move rfl) ?_
  refine SJ_q rfl (want_none rfl) rfl (fun _ _ => Op_nilCheck rfl) ?_
  refine SJ_q rfl (want_none rfl) rfl (fun _ _ => Op_fieldAddr (o' := 0) rfl Try.underlying103 rfl sz100 rfl rfl) ?_
  refine SJ_q rfl (want_none rfl) rfl (fun _ _ => Op_fieldAddr (o' := 1) rfl Try.underlying100 rfl sz98 rfl rfl) ?_
  refine SJ_load rfl (want_none rfl) rfl rfl (load_cell Try.underlying98 rfl pkk (Nth.s Nth.z)) ?_
  refine SJ_q rfl (want_none rfl) rfl (fun _ _ => Op_ptr_ne_nil rfl rfl Try.underlying98) ?_
  refine SJ_q rfl (want_none rfl) rfl (fun _ _ => Op_move rfl) ?_
  refine SJ_q rfl (want_yes (t := 12) rfl rfl rfl rfl) rfl (fun _ _ => Op_move rfl) ?_
  refine SJ_q rfl (want_yes (t := 12) rfl rfl rfl rfl) rfl (fun _ _ => Op_nilCheck rfl) ?_
  refine SJ_q rfl (want_yes (t := 12) rfl rfl rfl rfl) rfl (fun _ _ => Op_fieldAddr (o' := 0) rfl Try.underlying103 rfl sz100 rfl rfl) ?_
  refine SJ_q rfl (want_yes (t := 12) rfl rfl rfl rfl) rfl (fun _ _ => Op_fieldAddr (o' := 2) rfl Try.underlying100 rfl sz3 rfl rfl) ?_
  refine SJ_load rfl (want_yes (t := 12) rfl rfl rfl rfl) rfl rfl (load_cell Try.underlying3 rfl pkk (Nth.s (Nth.s Nth.z))) ?_
  refine SJ_q rfl (want_yes (t := 12) rfl rfl rfl rfl) rfl (fun _ _ => Op_move rfl) ?_
  refine SJ_q rfl (want_yes (t := 12) rfl rfl rfl rfl) rfl (fun _ _ => Op_nilCheck rfl) ?_
  refine SJ_q rfl (want_yes (t := 12) rfl rfl rfl rfl) rfl (fun _ _ => Op_fieldAddr (o' := 4) rfl Try.underlying103 rfl sz3 rfl rfl) ?_
  refine SJ_load rfl (want_yes (t := 12) rfl rfl rfl rfl) rfl rfl (load_cell Try.underlying3 rfl pkk (Nth.s (Nth.s (Nth.s (Nth.s Nth.z))))) ?_
  refine SJ_q rfl (want_yes (t := 12) rfl rfl rfl rfl) rfl (fun _ _ => Op_add64 rfl rfl (by omega)) ?_
  refine SJ_q rfl (want_yes (t := 12) rfl rfl rfl rfl) rfl (fun _ _ => Op_move rfl) ?_
  refine SJ_q rfl (want_yes (t := 12) rfl rfl rfl rfl) rfl (fun _ _ => Op_nilCheck rfl) ?_
  refine SJ_q rfl (want_yes (t := 12) rfl rfl rfl rfl) rfl (fun _ _ => Op_fieldAddr (o' := 3) rfl Try.underlying103 rfl sz3 rfl rfl) ?_
  refine SJ_load rfl (want_yes (t := 12) rfl rfl rfl rfl) rfl rfl (load_cell Try.underlying3 rfl pkk (Nth.s (Nth.s (Nth.s Nth.z)))) ?_
  refine SJ_q rfl (want_yes (t := 12) rfl rfl rfl rfl) rfl (fun _ _ => Op_move rfl) ?_
  refine SJ_q rfl (want_yes (t := 12) rfl rfl rfl rfl) rfl (fun _ _ => Op_sub64 rfl rfl (by omega)) ?_
  refine SJ_q rfl (want_yes (t := 12) rfl rfl rfl rfl) rfl (fun _ _ => Op_gtr rfl rfl) ?_
  by_cases hl1 : room - n < szs (itsOf (T2 ++ [x])) + kept
  ·skip
   refine SJ_q rfl (want_none rfl) rfl (fun _ _ => Op_pick_t rfl rfl rfl) ?_
   have hst2 : stay (room - n - kept) (itsOf T) T.length = stay (room - n - kept) (itsOf T) T2.length := by
     rw [hst, List.length_append, List.length_singleton, stay, if_pos (by omega)]
   refine SJ_done ?_
   refine NJ_then ?_
   refine CJ_env (E' := [(0, _), (1, _), (5, _), (30, _)]) (.cons rfl rfl (.cons rfl rfl (.cons rfl rfl (.cons rfl rfl .nil)))) ?_
   refine CJ_then rfl (decide_eq_true hl1) ?_
   refine CJ_skip ?_
   refine NJ_then ?_
   refine CJ_env (E' := [(0, _), (1, _), (5, _)]) (.cons rfl rfl (.cons rfl rfl (.cons rfl rfl .nil))) ?_
   refine CJ_block ?_
   refine CJ_seq ?_
   refine CJ_imp (.swap (C := [SegP none (T2 ++ [x]) none]) (.k (e := (Imp.refl _))) SegP_last.imp (.refl _)) (CJ_app2 ?_)
   refine CJ_region ?_
   refine RJ_q (Op_move rfl) rfl ?_
   refine RJ_q (Op_move rfl) rfl ?_
   refine RJ_q (Op_nilCheck rfl) rfl ?_
   refine RJ_q (Op_fieldAddr (o' := 0) rfl Try.underlying103 rfl sz100 rfl rfl) rfl ?_
   refine RJ_q (Op_fieldAddr (o' := 1) rfl Try.underlying100 rfl sz98 rfl rfl) rfl ?_
   refine RJ_q (Op_load rfl (load_cell Try.underlying98 rfl pkk (Nth.s Nth.z))) rfl ?_
   refine RJ_q (Op_nilCheck rfl) rfl ?_
   refine RJ_q (Op_fieldAddr (o' := 0) rfl Try.underlying120 rfl sz9 rfl rfl) rfl ?_
   refine RJ_q (Op_load rfl (load_cell Try.underlying9 rfl pkk Nth.z)) rfl ?_
   refine RJ_p rfl (Op_buildSlice (vs := [_]) (cells := [_]) Try.underlying22 sz9 zr9 rfl rfl rfl rfl (by rfl)) ?_
   rintro _ _ ⟨g40, rfl, rfl⟩
   refine RJ_p rfl (Op_append (T := StrT) (news := [x.it.key]) rfl rfl pkk rfl (by simp) (Reads_pt pkk (fun j u h => by simpa [Ty.flat, StrT] using h)) Try.underlying22 sz9 zr9 (by rfl) by9 (by simp [StrT, keysOf, itsOf]; omega) (by simp [maxLen, keysOf, itsOf]; omega)) ?_
   rintro _ _ ⟨a41, c41, rfl, rfl⟩
   have he : (keysOf (itsOf D)).reverse ++ [x.it.key] = (keysOf (itsOf (x :: D))).reverse := by simp [keysOf, itsOf]
   refine RJ_q (Op_assign rfl) rfl ?_
   refine RJ_nil ?_
   rw [he]
   refine NJ_imp (.swap (C := [SegP none T2 (some x.b), ThP x (ltO none T2) none]) (.k (e := (.k (e := (Imp.refl _))))) SegP_addlast.imp (.refl _)) (NJ_app1 ?_)
   rw [← hlt]
   refine NJ_then ?_
   refine CJ_env (E' := [(0, _), (1, _), (5, _)]) (.cons rfl rfl (.cons rfl rfl (.cons rfl rfl .nil))) ?_
   rw [hlt]
   refine CJ_region ?_
   refine RJ_q (Op_move rfl) rfl ?_
   refine RJ_q (Op_move rfl) rfl ?_
   refine RJ_q (Op_nilCheck rfl) rfl ?_
   refine RJ_q (Op_fieldAddr (o' := 0) rfl Try.underlying103 rfl sz100 rfl rfl) rfl ?_
   refine RJ_q (Op_fieldAddr (o' := 1) rfl Try.underlying100 rfl sz98 rfl rfl) rfl ?_
   refine RJ_q (Op_load rfl (load_cell Try.underlying98 rfl pkk (Nth.s Nth.z))) rfl ?_
   have hm2 : MapOf (mdel x.it.key kv1) T2 := by
     have := hm1.cut (B := []) (by rw [hT1, itsOf_app, keysOf, List.map_append] at hnd; exact (List.nodup_append.1 hnd).1)
     rwa [List.append_nil] at this
   refine RJ_p rfl (Op_call (vs := [_, _]) Try.func58 rfl rfl (take_any g mm T2 [] x room kept kv1 (by rw [List.append_nil]; exact hb2)) rfl (by rw [hlt]; exact (.k (e := (.k (e := (.k (e := (Imp.refl _))))))))) ?_
   rintro _ _ ⟨_, ⟨rfl, rfl⟩, rfl⟩
   refine RJ_app3 ?_
   simp only [List.append_nil]
   refine RJ_nil ?_
   refine NJ_blk ?_
   refine NJ_back (E' := [(0, .pointer (some ⟨g, 0, none⟩)), (1, .int .i64 n), (5, .slice (sl a41) (keysOf (itsOf (x :: D))).reverse.length c41)]) (H' := [CacheC g (hdO (T2) none) (ltO none (T2)) (szs (itsOf (T2))) room kept (.map (some mm)), SegP none (T2) none, Mp KS mm (mdel x.it.key kv1), Row StrT a41 c41 (keysOf (itsOf (x :: D))).reverse] ++ R) (m' := T2.length) ⟨T2, x :: D, a41, c41, mdel x.it.key kv1, ⟨by rw [hT1]; simp, hm2, hst2, hnd⟩, rfl, rfl, rfl⟩ (by simp) (.cons rfl (by first | rfl | (simp [keysOf, itsOf]; done)) (.cons rfl (by first | rfl | (simp [keysOf, itsOf]; done)) (.cons rfl (by first | rfl | (simp [keysOf, itsOf]; done)) .nil))) (.k (e := (.k (e := (.k (e := (.k (e := skk))))))))
  ·skip
   refine SJ_q rfl (want_none rfl) rfl (fun _ _ => Op_pick_t rfl rfl rfl) ?_
   have hj : stay (room - n - kept) (itsOf T) T.length = (T2 ++ [x]).length := by
     rw [hst, List.length_append, List.length_singleton, stay, if_neg (by omega)]
   rw [← hlt]
   refine SJ_done ?_
   refine NJ_then ?_
   refine CJ_env (E' := [(0, _), (1, _), (5, _), (30, _)]) (.cons rfl rfl (.cons rfl rfl (.cons rfl rfl (.cons rfl rfl .nil)))) ?_
   refine CJ_else rfl (decide_eq_false hl1) ?_
   refine CJ_exit ?_
   refine NJ_then_x ?_
   refine NJ_then_x ?_
   refine NJ_blk_hit ?_
   refine NJ_then ?_
   refine CJ_env (E' := [(5, _)]) (.cons rfl rfl .nil) ?_
   refine CJ_seq ?_
   refine CJ_region ?_
   refine RJ_q (Op_move rfl) rfl ?_
   refine RJ_q (Op_assign rfl) rfl ?_
   refine RJ_nil ?_
   refine NJ_then ?_
   refine CJ_env (E' := [(4, _)]) (.cons rfl rfl .nil) ?_
   refine CJ_ret ?_
   have hj2 : goneFrom (itsOf T) (stay (room - n - kept) (itsOf T) T.length) = (keysOf (itsOf D)).reverse := by
     rw [hj, hT1]; exact goneFrom_at rfl
   have hj3 : (itsOf T).take (stay (room - n - kept) (itsOf T) T.length) = itsOf (T2 ++ [x]) := by
     rw [hj, hT1]; exact take_at rfl
   rw [hj2, hj3]
   refine NJ_ret (.inl rfl) Try.results57 (ResJ_tmp rfl ResJ_nil) ⟨a, cap, rfl, rfl⟩ (.swap (C := CacheRaw g mm ((T2 ++ [x])) room (kept) (kv1)) (.k (e := (.k (e := (.k (e := skk)))))) (CacheP_close (hm1)) (.k (e := (.k (e := skk)))))

set_option maxRecDepth 20000 in
theorem New_any (room : Int) : Spec Try.prog 50 #[.int .i64 room] [] (fun v C => ∃ g, v = .pointer (some ⟨g, 0, none⟩) ∧ C = [CacheP g [] (max room 0) 0]) := by
 refine Spec_intro (n := 8) (args := [.int .i64 room]) Try.func50 rfl rfl rfl fun s R => ?_
 refine CJ_app0 ?_
 refine CJ_env (E' := [(0, _)]) (.cons rfl rfl .nil) ?_
 refine CJ_seq ?_
 refine CJ_region ?_
 refine RJ_q (Op_assign rfl) rfl ?_
 refine RJ_nil ?_
 refine NJ_then ?_
 refine CJ_env (E' := [(0, _), (2, _)]) (.cons rfl rfl (.cons rfl rfl .nil)) ?_
 refine CJ_seq ?_
 refine CJ_region ?_
 refine RJ_q (Op_move rfl) rfl ?_
 refine RJ_q (Op_max rfl rfl) rfl ?_
 refine RJ_p rfl (Op_makeMap (K := KStr 9)) ?_
 rintro _ _ ⟨g5, rfl, rfl⟩
 refine RJ_q (Op_build (vs := [_, _]) (cells := [_, _, _, _, _, _]) Try.underlying103 zr103 rfl pl103 (by rfl)) rfl ?_
 refine RJ_p rfl (Op_box rfl) ?_
 rintro _ _ ⟨b7, rfl, rfl⟩
 refine RJ_q (Op_assign rfl) rfl ?_
 refine RJ_nil ?_
 refine NJ_then ?_
 refine CJ_env (E' := [(2, _)]) (.cons rfl rfl .nil) ?_
 refine CJ_ret ?_
 refine NJ_ret (.inl rfl) Try.results50 (ResJ_tmp rfl ResJ_nil) ⟨b7, rfl, rfl⟩ (.trans (SegP_nil (p := none) (nx := none)).imp_add (.swap (C := CacheRaw b7 g5 [] (max room 0) 0 []) (.k (e := (.k (e := (.k (e := skk)))))) (CacheP_close MapOf.nil) (.k (e := skk))))

set_option maxRecDepth 20000 in
theorem Peek_yes (g : Nat) (L : List It) (room kept : Int) (key : ByteArray) (t : It) (h : findK key L = some t) : Spec Try.prog 33 #[.pointer (some ⟨g, 0, none⟩), .string key] [CacheP g L room kept] (fun v C => v = .tuple #[.agg #[.int .i64 t.val.ep, .int .i64 t.val.ix, .bool t.val.th, .string t.val.tx, .int .i64 t.val.asOf], .bool true] ∧ C = [CacheP g L room kept]) := by
 refine Spec_intro (n := 23) (args := [.pointer (some ⟨g, 0, none⟩), .string key]) Try.func33 rfl rfl rfl fun s R => ?_
 refine CJ_app1 ?_
 refine CJ_env (E' := [(0, _), (1, _)]) (.cons rfl rfl (.cons rfl rfl .nil)) ?_
 refine CJ_open (CacheP_opens _ _ _ _) pkk ?_
 rintro _ ⟨mm, T, kv, rfl, hmo, rfl⟩
 refine CJ_app3 ?_
 obtain ⟨x, hx, rfl⟩ : ∃ x, T.find? (fun t => decide (t.it.key = key)) = some x ∧ x.it = t := by
   rw [findT] at h; exact Option.map_eq_some_iff.1 h
 obtain ⟨A, B, rfl, hk, hA⟩ := found hx
 have hg : (mget key kv).getD (.pointer none) = .pointer (some ⟨x.b, 0, none⟩) := by rw [hmo.at_, hx]; rfl
 subst hk
 refine CJ_seq ?_
 refine CJ_region ?_
 refine RJ_p rfl (Op_alloc zr77) ?_
 rintro _ _ ⟨b4, rfl, rfl⟩
 refine RJ_q (Op_assign rfl) rfl ?_
 refine RJ_nil ?_
 refine NJ_then ?_
 refine CJ_env (E' := [(0, _), (1, _), (4, _), (5, _)]) (.cons rfl rfl (.cons rfl rfl (.cons rfl rfl (.cons rfl rfl .nil)))) ?_
 refine CJ_seq ?_
 refine CJ_seq ?_
 refine CJ_region ?_
 refine RJ_q (Op_move rfl) rfl ?_
 refine RJ_q (Op_ptr_ne_nil rfl rfl Try.underlying71) rfl ?_
 refine RJ_nil ?_
 refine NJ_then ?_
 refine CJ_env (E' := [(0, _), (1, _), (4, _), (5, _), (9, _)]) (.cons rfl rfl (.cons rfl rfl (.cons rfl rfl (.cons rfl rfl (.cons rfl rfl .nil))))) ?_
 refine CJ_then rfl rfl ?_
 refine CJ_seq ?_
 refine CJ_region ?_
 refine RJ_q (Op_move rfl) rfl ?_
 refine RJ_q (Op_nilCheck rfl) rfl ?_
 refine RJ_q (Op_fieldAddr (o' := 5) rfl Try.underlying103 rfl sz101 rfl rfl) rfl ?_
 refine RJ_q (Op_load rfl (load_cell Try.underlying101 rfl pkk (Nth.s (Nth.s (Nth.s (Nth.s (Nth.s Nth.z))))))) rfl ?_
 refine RJ_q (Op_move rfl) rfl ?_
 refine RJ_q (Op_lookup (K := KStr 9) rfl rfl Try.underlying101 ko9 zr98 pkk) rfl ?_
 rw [hg]
 refine RJ_q (Op_assign rfl) rfl ?_
 refine RJ_nil ?_
 refine NJ_then ?_
 refine CJ_env (E' := [(4, _), (5, _), (6, _)]) (.cons rfl rfl (.cons rfl rfl (.cons rfl rfl .nil))) ?_
 refine CJ_seq ?_
 refine CJ_region ?_
 refine RJ_q (Op_move rfl) rfl ?_
 refine RJ_q (Op_ptr_ne_nil rfl rfl Try.underlying98) rfl ?_
 refine RJ_nil ?_
 refine NJ_then ?_
 refine CJ_env (E' := [(4, _), (5, _), (6, _), (17, _)]) (.cons rfl rfl (.cons rfl rfl (.cons rfl rfl (.cons rfl rfl .nil)))) ?_
 refine CJ_then rfl rfl ?_
 refine CJ_seq ?_
 refine CJ_region ?_
 refine RJ_q (Op_move rfl) rfl ?_
 refine RJ_q (Op_nilCheck rfl) rfl ?_
 refine RJ_q (Op_fieldAddr (o' := 1) rfl Try.underlying120 rfl sz77 rfl rfl) rfl ?_
 refine RJ_q (Op_load rfl (load_imp (.swap (C := [SegP none (A ++ x :: B) none]) (.k (e := (Imp.refl _))) seg_mid.imp (.refl _)) (load_struct (o := 1) (vs := [_, _, _, _, _]) Try.underlying77 sz77 pkk (by rfl) rfl))) rfl ?_
 refine RJ_d0 (Op_store (cs' := #[_, _, _, _, _]) rfl rfl sz77 (by rfl) (by simp [Value.cells, Value.oneCell']) rpp rfl (free_zero _ _) (by rfl)) ?_
 refine RJ_q (Op_assign rfl) rfl ?_
 refine RJ_nil ?_
 refine NJ_then ?_
 refine CJ_env (E' := [(4, _), (5, _)]) (.cons rfl rfl (.cons rfl rfl .nil)) ?_
 refine CJ_ret ?_
 refine NJ_then_r ?_
 refine NJ_ret (.inl rfl) Try.results33 (ResJ_cell rfl (load_struct (o := 0) (vs := [_, _, _, _, _]) Try.underlying77 sz77 pkk (by rfl) rfl) (ResJ_tmp rfl ResJ_nil)) ⟨rfl, rfl⟩ (.swap (C := CacheRaw g mm (A ++ x :: B) room (kept) (kv)) (.k (e := (.k (e := (.k (e := skk)))))) (CacheP_close (hmo)) (.k (e := skk)))

set_option maxRecDepth 20000 in
theorem Peek_no (g : Nat) (L : List It) (room kept : Int) (key : ByteArray) (h : findK key L = none) : Spec Try.prog 33 #[.pointer (some ⟨g, 0, none⟩), .string key] [CacheP g L room kept] (fun v C => v = .tuple #[.agg #[.int .i64 0, .int .i64 0, .bool false, .string ⟨#[]⟩, .int .i64 0], .bool false] ∧ C = [CacheP g L room kept]) := by
 refine Spec_intro (n := 23) (args := [.pointer (some ⟨g, 0, none⟩), .string key]) Try.func33 rfl rfl rfl fun s R => ?_
 refine CJ_app1 ?_
 refine CJ_env (E' := [(0, _), (1, _)]) (.cons rfl rfl (.cons rfl rfl .nil)) ?_
 refine CJ_open (CacheP_opens _ _ _ _) pkk ?_
 rintro _ ⟨mm, T, kv, rfl, hmo, rfl⟩
 refine CJ_app3 ?_
 have hg : (mget key kv).getD (.pointer none) = .pointer none := by
   rw [findT] at h; rw [hmo.at_, Option.map_eq_none_iff.1 h]; rfl
 refine CJ_seq ?_
 refine CJ_region ?_
 refine RJ_p rfl (Op_alloc zr77) ?_
 rintro _ _ ⟨b4, rfl, rfl⟩
 refine RJ_q (Op_assign rfl) rfl ?_
 refine RJ_nil ?_
 refine NJ_then ?_
 refine CJ_env (E' := [(0, _), (1, _), (4, _), (5, _)]) (.cons rfl rfl (.cons rfl rfl (.cons rfl rfl (.cons rfl rfl .nil)))) ?_
 refine CJ_seq ?_
 refine CJ_seq ?_
 refine CJ_region ?_
 refine RJ_q (Op_move rfl) rfl ?_
 refine RJ_q (Op_ptr_ne_nil rfl rfl Try.underlying71) rfl ?_
 refine RJ_nil ?_
 refine NJ_then ?_
 refine CJ_env (E' := [(0, _), (1, _), (4, _), (5, _), (9, _)]) (.cons rfl rfl (.cons rfl rfl (.cons rfl rfl (.cons rfl rfl (.cons rfl rfl .nil))))) ?_
 refine CJ_then rfl rfl ?_
 refine CJ_seq ?_
 refine CJ_region ?_
 refine RJ_q (Op_move rfl) rfl ?_
 refine RJ_q (Op_nilCheck rfl) rfl ?_
 refine RJ_q (Op_fieldAddr (o' := 5) rfl Try.underlying103 rfl sz101 rfl rfl) rfl ?_
 refine RJ_q (Op_load rfl (load_cell Try.underlying101 rfl pkk (Nth.s (Nth.s (Nth.s (Nth.s (Nth.s Nth.z))))))) rfl ?_
 refine RJ_q (Op_move rfl) rfl ?_
 refine RJ_q (Op_lookup (K := KStr 9) rfl rfl Try.underlying101 ko9 zr98 pkk) rfl ?_
 rw [hg]
 refine RJ_q (Op_assign rfl) rfl ?_
 refine RJ_nil ?_
 refine NJ_then ?_
 refine CJ_env (E' := [(4, _), (5, _), (6, _)]) (.cons rfl rfl (.cons rfl rfl (.cons rfl rfl .nil))) ?_
 refine CJ_seq ?_
 refine CJ_region ?_
 refine RJ_q (Op_move rfl) rfl ?_
 refine RJ_q (Op_ptr_ne_nil rfl rfl Try.underlying98) rfl ?_
 refine RJ_nil ?_
 refine NJ_then ?_
 refine CJ_env (E' := [(4, _), (5, _), (6, _), (17, _)]) (.cons rfl rfl (.cons rfl rfl (.cons rfl rfl (.cons rfl rfl .nil)))) ?_
 refine CJ_else rfl rfl ?_
 refine CJ_skip ?_
 refine NJ_then ?_
 refine CJ_env (E' := [(4, _), (5, _)]) (.cons rfl rfl (.cons rfl rfl .nil)) ?_
 refine CJ_seq ?_
 refine CJ_region ?_
 refine RJ_p rfl (Op_alloc zr77) ?_
 rintro _ _ ⟨b7, rfl, rfl⟩
 refine RJ_nil ?_
 refine NJ_then ?_
 refine CJ_env (E' := [(4, _), (5, _), (7, _)]) (.cons rfl rfl (.cons rfl rfl (.cons rfl rfl .nil))) ?_
 refine CJ_seq ?_
 refine CJ_region ?_
 refine RJ_q (Op_load rfl (load_struct (o := 0) (vs := [_, _, _, _, _]) Try.underlying77 sz77 pkk (by rfl) rfl)) rfl ?_
 refine RJ_d0 (Op_store (cs' := #[_, _, _, _, _]) rfl rfl sz77 (by rfl) (by simp [Value.cells, Value.oneCell']) rpp rfl (free_zero _ _) (by rfl)) ?_
 refine RJ_q (Op_assign rfl) rfl ?_
 refine RJ_nil ?_
 refine NJ_then ?_
 refine CJ_env (E' := [(4, _), (5, _)]) (.cons rfl rfl (.cons rfl rfl .nil)) ?_
 refine CJ_ret ?_
 refine NJ_ret (.inl rfl) Try.results33 (ResJ_cell rfl (load_struct (o := 0) (vs := [_, _, _, _, _]) Try.underlying77 sz77 pkk (by rfl) rfl) (ResJ_tmp rfl ResJ_nil)) ⟨rfl, rfl⟩ (.swap (C := CacheRaw g mm (T) room (kept) (kv)) (.k (e := (.k (e := (.k (e := skk)))))) (CacheP_close (hmo)) (.k (e := skk)))

set_option maxRecDepth 20000 in
theorem Drop_yes (g : Nat) (L : List It) (room kept : Int) (hI : LOk L room kept) (key : ByteArray) (t : It) (h : findK key L = some t) : Spec Try.prog 43 #[.pointer (some ⟨g, 0, none⟩), .string key] [CacheP g L room kept] (fun v C => v = .bool true ∧ C = [CacheP g (dropK key L) room kept]) := by
 refine Spec_intro (n := 21) (args := [.pointer (some ⟨g, 0, none⟩), .string key]) Try.func43 rfl rfl rfl fun s R => ?_
 refine CJ_app1 ?_
 refine CJ_env (E' := [(0, _), (1, _)]) (.cons rfl rfl (.cons rfl rfl .nil)) ?_
 refine CJ_open (CacheP_opens _ _ _ _) pkk ?_
 rintro _ ⟨mm, T, kv, rfl, hmo, rfl⟩
 refine CJ_app3 ?_
 obtain ⟨x, hx, rfl⟩ : ∃ x, T.find? (fun t => decide (t.it.key = key)) = some x ∧ x.it = t := by
   rw [findT] at h; exact Option.map_eq_some_iff.1 h
 obtain ⟨A, B, rfl, hk, hA⟩ := found hx
 have hg : (mget key kv).getD (.pointer none) = .pointer (some ⟨x.b, 0, none⟩) := by rw [hmo.at_, hx]; rfl
 subst hk
 have hr := hI.rng.1
 refine CJ_seq ?_
 refine CJ_region ?_
 refine RJ_q (Op_assign rfl) rfl ?_
 refine RJ_nil ?_
 refine NJ_then ?_
 refine CJ_env (E' := [(0, _), (1, _), (4, _)]) (.cons rfl rfl (.cons rfl rfl (.cons rfl rfl .nil))) ?_
 refine CJ_seq ?_
 refine CJ_seq ?_
 refine CJ_region ?_
 refine RJ_q (Op_move rfl) rfl ?_
 refine RJ_q (Op_ptr_eq_nil rfl rfl Try.underlying71) rfl ?_
 refine RJ_nil ?_
 refine NJ_then ?_
 refine CJ_env (E' := [(0, _), (1, _), (4, _), (7, _)]) (.cons rfl rfl (.cons rfl rfl (.cons rfl rfl (.cons rfl rfl .nil)))) ?_
 refine CJ_else rfl rfl ?_
 refine CJ_skip ?_
 refine NJ_then ?_
 refine CJ_env (E' := [(0, _), (1, _), (4, _)]) (.cons rfl rfl (.cons rfl rfl (.cons rfl rfl .nil))) ?_
 refine CJ_seq ?_
 refine CJ_region ?_
 refine RJ_q (Op_move rfl) rfl ?_
 refine RJ_q (Op_nilCheck rfl) rfl ?_
 refine RJ_q (Op_fieldAddr (o' := 5) rfl Try.underlying103 rfl sz101 rfl rfl) rfl ?_
 refine RJ_q (Op_load rfl (load_cell Try.underlying101 rfl pkk (Nth.s (Nth.s (Nth.s (Nth.s (Nth.s Nth.z))))))) rfl ?_
 refine RJ_q (Op_move rfl) rfl ?_
 refine RJ_q (Op_lookup (K := KStr 9) rfl rfl Try.underlying101 ko9 zr98 pkk) rfl ?_
 rw [hg]
 refine RJ_q (Op_assign rfl) rfl ?_
 refine RJ_nil ?_
 refine NJ_then ?_
 refine CJ_env (E' := [(0, _), (4, _), (5, _)]) (.cons rfl rfl (.cons rfl rfl (.cons rfl rfl .nil))) ?_
 refine CJ_seq ?_
 refine CJ_seq ?_
 refine CJ_region ?_
 refine RJ_q (Op_move rfl) rfl ?_
 refine RJ_q (Op_ptr_ne_nil rfl rfl Try.underlying98) rfl ?_
 refine RJ_nil ?_
 refine NJ_then ?_
 refine CJ_env (E' := [(0, _), (4, _), (5, _), (15, _)]) (.cons rfl rfl (.cons rfl rfl (.cons rfl rfl (.cons rfl rfl .nil)))) ?_
 refine CJ_then rfl rfl ?_
 refine CJ_region ?_
 refine RJ_q (Op_move rfl) rfl ?_
 refine RJ_q (Op_move rfl) rfl ?_
 refine RJ_p rfl (Op_call (vs := [_, _]) Try.func58 rfl rfl (take_any g mm A B x room kept kv hr) rfl (.k (e := (.k (e := (.k (e := (Imp.refl _)))))))) ?_
 rintro _ _ ⟨_, ⟨rfl, rfl⟩, rfl⟩
 refine RJ_app3 ?_
 refine RJ_nil ?_
 refine NJ_then ?_
 refine CJ_env (E' := [(4, _), (5, _)]) (.cons rfl rfl (.cons rfl rfl .nil)) ?_
 refine CJ_seq ?_
 refine CJ_region ?_
 refine RJ_q (Op_move rfl) rfl ?_
 refine RJ_q (Op_ptr_ne_nil rfl rfl Try.underlying98) rfl ?_
 refine RJ_q (Op_assign rfl) rfl ?_
 refine RJ_nil ?_
 refine NJ_then ?_
 refine CJ_env (E' := [(4, _)]) (.cons rfl rfl .nil) ?_
 refine CJ_ret ?_
 rw [dropT hA]
 refine NJ_ret (.inl rfl) Try.results43 (ResJ_tmp rfl ResJ_nil) ⟨rfl, rfl⟩ (.swap (C := CacheRaw g mm (A ++ B) room (kept) (mdel x.it.key kv)) (.k (e := (.k (e := (.k (e := skk)))))) (CacheP_close (hmo.cut hI.nd)) (.k (e := skk)))

set_option maxRecDepth 20000 in
theorem Drop_no (g : Nat) (L : List It) (room kept : Int) (key : ByteArray) (h : findK key L = none) : Spec Try.prog 43 #[.pointer (some ⟨g, 0, none⟩), .string key] [CacheP g L room kept] (fun v C => v = .bool false ∧ C = [CacheP g L room kept]) := by
 refine Spec_intro (n := 21) (args := [.pointer (some ⟨g, 0, none⟩), .string key]) Try.func43 rfl rfl rfl fun s R => ?_
 refine CJ_app1 ?_
 refine CJ_env (E' := [(0, _), (1, _)]) (.cons rfl rfl (.cons rfl rfl .nil)) ?_
 refine CJ_open (CacheP_opens _ _ _ _) pkk ?_
 rintro _ ⟨mm, T, kv, rfl, hmo, rfl⟩
 refine CJ_app3 ?_
 have hg : (mget key kv).getD (.pointer none) = .pointer none := by
   rw [findT] at h; rw [hmo.at_, Option.map_eq_none_iff.1 h]; rfl
 refine CJ_seq ?_
 refine CJ_region ?_
 refine RJ_q (Op_assign rfl) rfl ?_
 refine RJ_nil ?_
 refine NJ_then ?_
 refine CJ_env (E' := [(0, _), (1, _), (4, _)]) (.cons rfl rfl (.cons rfl rfl (.cons rfl rfl .nil))) ?_
 refine CJ_seq ?_
 refine CJ_seq ?_
 refine CJ_region ?_
 refine RJ_q (Op_move rfl) rfl ?_
 refine RJ_q (Op_ptr_eq_nil rfl rfl Try.underlying71) rfl ?_
 refine RJ_nil ?_
 refine NJ_then ?_
 refine CJ_env (E' := [(0, _), (1, _), (4, _), (7, _)]) (.cons rfl rfl (.cons rfl rfl (.cons rfl rfl (.cons rfl rfl .nil)))) ?_
 refine CJ_else rfl rfl ?_
 refine CJ_skip ?_
 refine NJ_then ?_
 refine CJ_env (E' := [(0, _), (1, _), (4, _)]) (.cons rfl rfl (.cons rfl rfl (.cons rfl rfl .nil))) ?_
 refine CJ_seq ?_
 refine CJ_region ?_
 refine RJ_q (Op_move rfl) rfl ?_
 refine RJ_q (Op_nilCheck rfl) rfl ?_
 refine RJ_q (Op_fieldAddr (o' := 5) rfl Try.underlying103 rfl sz101 rfl rfl) rfl ?_
 refine RJ_q (Op_load rfl (load_cell Try.underlying101 rfl pkk (Nth.s (Nth.s (Nth.s (Nth.s (Nth.s Nth.z))))))) rfl ?_
 refine RJ_q (Op_move rfl) rfl ?_
 refine RJ_q (Op_lookup (K := KStr 9) rfl rfl Try.underlying101 ko9 zr98 pkk) rfl ?_
 rw [hg]
 refine RJ_q (Op_assign rfl) rfl ?_
 refine RJ_nil ?_
 refine NJ_then ?_
 refine CJ_env (E' := [(0, _), (4, _), (5, _)]) (.cons rfl rfl (.cons rfl rfl (.cons rfl rfl .nil))) ?_
 refine CJ_seq ?_
 refine CJ_seq ?_
 refine CJ_region ?_
 refine RJ_q (Op_move rfl) rfl ?_
 refine RJ_q (Op_ptr_ne_nil rfl rfl Try.underlying98) rfl ?_
 refine RJ_nil ?_
 refine NJ_then ?_
 refine CJ_env (E' := [(0, _), (4, _), (5, _), (15, _)]) (.cons rfl rfl (.cons rfl rfl (.cons rfl rfl (.cons rfl rfl .nil)))) ?_
 refine CJ_else rfl rfl ?_
 refine CJ_skip ?_
 refine NJ_then ?_
 refine CJ_env (E' := [(4, _), (5, _)]) (.cons rfl rfl (.cons rfl rfl .nil)) ?_
 refine CJ_seq ?_
 refine CJ_region ?_
 refine RJ_q (Op_move rfl) rfl ?_
 refine RJ_q (Op_ptr_ne_nil rfl rfl Try.underlying98) rfl ?_
 refine RJ_q (Op_assign rfl) rfl ?_
 refine RJ_nil ?_
 refine NJ_then ?_
 refine CJ_env (E' := [(4, _)]) (.cons rfl rfl .nil) ?_
 refine CJ_ret ?_
 refine NJ_ret (.inl rfl) Try.results43 (ResJ_tmp rfl ResJ_nil) ⟨rfl, rfl⟩ (.swap (C := CacheRaw g mm (T) room (kept) (kv)) (.k (e := (.k (e := (.k (e := skk)))))) (CacheP_close (hmo)) (.k (e := skk)))

set_option maxRecDepth 20000 in
theorem Get_yes (g : Nat) (L : List It) (room kept : Int) (hI : LOk L room kept) (key : ByteArray) (t : It) (h : findK key L = some t) : Spec Try.prog 24 #[.pointer (some ⟨g, 0, none⟩), .string key] [CacheP g L room kept] (fun v C => v = .tuple #[.agg #[.int .i64 t.val.ep, .int .i64 t.val.ix, .bool t.val.th, .string t.val.tx, .int .i64 t.val.asOf], .bool true] ∧ C = [CacheP g (t :: dropK key L) room kept]) := by
 refine Spec_intro (n := 34) (args := [.pointer (some ⟨g, 0, none⟩), .string key]) Try.func24 rfl rfl rfl fun s R => ?_
 refine CJ_app1 ?_
 refine CJ_env (E' := [(0, _), (1, _)]) (.cons rfl rfl (.cons rfl rfl .nil)) ?_
 refine CJ_seq ?_
 refine CJ_region ?_
 refine RJ_p rfl (Op_alloc zr77) ?_
 rintro _ _ ⟨b4, rfl, rfl⟩
 refine RJ_q (Op_assign rfl) rfl ?_
 refine RJ_nil ?_
 refine NJ_then ?_
 refine CJ_env (E' := [(0, _), (1, _), (4, _), (5, _)]) (.cons rfl rfl (.cons rfl rfl (.cons rfl rfl (.cons rfl rfl .nil)))) ?_
 refine CJ_seq ?_
 refine CJ_region ?_
 refine RJ_q (Op_move rfl) rfl ?_
 refine RJ_q (Op_move rfl) rfl ?_
 refine RJ_p rfl (Op_call (vs := [_, _]) Try.func33 rfl rfl (Peek_yes g L room kept key t h) rfl (.k (e := (Imp.refl _)))) ?_
 rintro _ _ ⟨_, ⟨rfl, rfl⟩, rfl⟩
 refine RJ_app1 ?_
 refine RJ_q (Op_move rfl) rfl ?_
 refine RJ_q (Op_extract rfl rfl) rfl ?_
 refine RJ_q (Op_extract rfl rfl) rfl ?_
 refine RJ_p rfl (Op_alloc zr77) ?_
 rintro _ _ ⟨b6, rfl, rfl⟩
 refine RJ_d0 (Op_store (cs' := #[_, _, _, _, _]) rfl rfl sz77 (by rfl) (by simp [Value.cells, Value.oneCell']) rpp rfl (free_zero _ _) (by rfl)) ?_
 refine RJ_q (Op_assign rfl) rfl ?_
 refine RJ_nil ?_
 refine NJ_then ?_
 refine CJ_env (E' := [(0, _), (1, _), (4, _), (5, _), (6, _), (7, _)]) (.cons rfl rfl (.cons rfl rfl (.cons rfl rfl (.cons rfl rfl (.cons rfl rfl (.cons rfl rfl .nil)))))) ?_
 refine CJ_seq ?_
 refine CJ_seq ?_
 refine CJ_region ?_
 refine RJ_q (Op_move rfl) rfl ?_
 refine RJ_nil ?_
 refine NJ_then ?_
 refine CJ_env (E' := [(0, _), (1, _), (4, _), (5, _), (6, _), (7, _), (15, _)]) (.cons rfl rfl (.cons rfl rfl (.cons rfl rfl (.cons rfl rfl (.cons rfl rfl (.cons rfl rfl (.cons rfl rfl .nil))))))) ?_
 refine CJ_then rfl rfl ?_
 refine CJ_seq ?_
 refine CJ_open (CacheP_opens _ _ _ _) pkk ?_
 rintro _ ⟨mm, T, kv, rfl, hmo, rfl⟩
 refine CJ_app3 ?_
 obtain ⟨x, hx, rfl⟩ : ∃ x, T.find? (fun t => decide (t.it.key = key)) = some x ∧ x.it = t := by
   rw [findT] at h; exact Option.map_eq_some_iff.1 h
 obtain ⟨A, B, rfl, hk, hA⟩ := found hx
 have hg : (mget key kv).getD (.pointer none) = .pointer (some ⟨x.b, 0, none⟩) := by rw [hmo.at_, hx]; rfl
 subst hk
 have hr := hI.rng.1
 have hr2 := hI.rng.2
 refine CJ_region ?_
 refine RJ_q (Op_move rfl) rfl ?_
 refine RJ_q (Op_nilCheck rfl) rfl ?_
 refine RJ_q (Op_fieldAddr (o' := 5) rfl Try.underlying103 rfl sz101 rfl rfl) rfl ?_
 refine RJ_q (Op_load rfl (load_cell Try.underlying101 rfl pkk (Nth.s (Nth.s (Nth.s (Nth.s (Nth.s Nth.z))))))) rfl ?_
 refine RJ_q (Op_move rfl) rfl ?_
 refine RJ_q (Op_lookup (K := KStr 9) rfl rfl Try.underlying101 ko9 zr98 pkk) rfl ?_
 rw [hg]
 refine RJ_q (Op_assign rfl) rfl ?_
 refine RJ_nil ?_
 refine NJ_then ?_
 refine CJ_env (E' := [(0, _), (4, _), (5, _), (6, _), (7, _), (8, _)]) (.cons rfl rfl (.cons rfl rfl (.cons rfl rfl (.cons rfl rfl (.cons rfl rfl (.cons rfl rfl .nil)))))) ?_
 refine CJ_seq ?_
 refine CJ_region ?_
 refine RJ_q (Op_move rfl) rfl ?_
 refine RJ_q (Op_nilCheck rfl) rfl ?_
 refine RJ_q (Op_fieldAddr (o' := 0) rfl Try.underlying103 rfl sz100 rfl rfl) rfl ?_
 refine RJ_q (Op_move rfl) rfl ?_
 refine RJ_p rfl (Op_call (vs := [_, _]) Try.func53 rfl rfl (cut_any g A B x (szs (itsOf (A ++ x :: B))) (szs (itsOf (A ++ B))) room kept (.map (some mm)) (by simp only [itsOf_app, szs_app, show itsOf (x :: B) = x.it :: itsOf B from rfl, szs_cons]; omega) hr) rfl (.k (e := (.k (e := (Imp.refl _)))))) ?_
 rintro _ _ ⟨_, ⟨rfl, rfl⟩, rfl⟩
 refine RJ_app3 ?_
 refine RJ_nil ?_
 refine NJ_then ?_
 refine CJ_env (E' := [(0, _), (4, _), (5, _), (6, _), (7, _), (8, _)]) (.cons rfl rfl (.cons rfl rfl (.cons rfl rfl (.cons rfl rfl (.cons rfl rfl (.cons rfl rfl .nil)))))) ?_
 refine CJ_region ?_
 refine RJ_q (Op_move rfl) rfl ?_
 refine RJ_q (Op_nilCheck rfl) rfl ?_
 refine RJ_q (Op_fieldAddr (o' := 0) rfl Try.underlying103 rfl sz100 rfl rfl) rfl ?_
 refine RJ_q (Op_move rfl) rfl ?_
 refine RJ_p rfl (Op_call (vs := [_, _]) Try.func54 rfl rfl (push_any g (A ++ B) x none (szs (itsOf (A ++ B))) (szs (itsOf (x :: (A ++ B)))) room kept (.map (some mm)) (by rw [show itsOf (x :: (A ++ B)) = x.it :: itsOf (A ++ B) from rfl, szs_cons]; omega) hr2) rfl (.k (e := (.k (e := (.k (e := (Imp.refl _)))))))) ?_
 rintro _ _ ⟨_, ⟨rfl, rfl⟩, rfl⟩
 refine RJ_app2 ?_
 refine RJ_nil ?_
 refine NJ_then ?_
 refine CJ_env (E' := [(4, _), (5, _), (6, _), (7, _)]) (.cons rfl rfl (.cons rfl rfl (.cons rfl rfl (.cons rfl rfl .nil)))) ?_
 refine CJ_seq ?_
 refine CJ_region ?_
 refine RJ_q (Op_load rfl (load_struct (o := 0) (vs := [_, _, _, _, _]) Try.underlying77 sz77 pkk (by rfl) rfl)) rfl ?_
 refine RJ_q (Op_move rfl) rfl ?_
 refine RJ_d0 (Op_store (cs' := #[_, _, _, _, _]) rfl rfl sz77 (by rfl) (by simp [Value.cells, Value.oneCell']) rpp rfl (free_zero _ _) (by rfl)) ?_
 refine RJ_q (Op_assign rfl) rfl ?_
 refine RJ_nil ?_
 refine NJ_then ?_
 refine CJ_env (E' := [(4, _), (5, _)]) (.cons rfl rfl (.cons rfl rfl .nil)) ?_
 refine CJ_ret ?_
 rw [dropT hA]
 refine NJ_ret (.inl rfl) Try.results24 (ResJ_cell rfl (load_struct (o := 0) (vs := [_, _, _, _, _]) Try.underlying77 sz77 pkk (by rfl) rfl) (ResJ_tmp rfl ResJ_nil)) ⟨rfl, rfl⟩ (.swap (C := CacheRaw g mm (x :: (A ++ B)) room (kept) (kv)) (.k (e := (.k (e := (.k (e := skk)))))) (CacheP_close (hmo.turn hA)) (.k (e := skk)))

set_option maxRecDepth 20000 in
theorem Get_no (g : Nat) (L : List It) (room kept : Int) (key : ByteArray) (h : findK key L = none) : Spec Try.prog 24 #[.pointer (some ⟨g, 0, none⟩), .string key] [CacheP g L room kept] (fun v C => v = .tuple #[.agg #[.int .i64 0, .int .i64 0, .bool false, .string ⟨#[]⟩, .int .i64 0], .bool false] ∧ C = [CacheP g L room kept]) := by
 refine Spec_intro (n := 34) (args := [.pointer (some ⟨g, 0, none⟩), .string key]) Try.func24 rfl rfl rfl fun s R => ?_
 refine CJ_app1 ?_
 refine CJ_env (E' := [(0, _), (1, _)]) (.cons rfl rfl (.cons rfl rfl .nil)) ?_
 refine CJ_seq ?_
 refine CJ_region ?_
 refine RJ_p rfl (Op_alloc zr77) ?_
 rintro _ _ ⟨b4, rfl, rfl⟩
 refine RJ_q (Op_assign rfl) rfl ?_
 refine RJ_nil ?_
 refine NJ_then ?_
 refine CJ_env (E' := [(0, _), (1, _), (4, _), (5, _)]) (.cons rfl rfl (.cons rfl rfl (.cons rfl rfl (.cons rfl rfl .nil)))) ?_
 refine CJ_seq ?_
 refine CJ_region ?_
 refine RJ_q (Op_move rfl) rfl ?_
 refine RJ_q (Op_move rfl) rfl ?_
 refine RJ_p rfl (Op_call (vs := [_, _]) Try.func33 rfl rfl (Peek_no g L room kept key h) rfl (.k (e := (Imp.refl _)))) ?_
 rintro _ _ ⟨_, ⟨rfl, rfl⟩, rfl⟩
 refine RJ_app1 ?_
 refine RJ_q (Op_move rfl) rfl ?_
 refine RJ_q (Op_extract rfl rfl) rfl ?_
 refine RJ_q (Op_extract rfl rfl) rfl ?_
 refine RJ_p rfl (Op_alloc zr77) ?_
 rintro _ _ ⟨b6, rfl, rfl⟩
 refine RJ_d0 (Op_store (cs' := #[_, _, _, _, _]) rfl rfl sz77 (by rfl) (by simp [Value.cells, Value.oneCell']) rpp rfl (free_zero _ _) (by rfl)) ?_
 refine RJ_q (Op_assign rfl) rfl ?_
 refine RJ_nil ?_
 refine NJ_then ?_
 refine CJ_env (E' := [(0, _), (1, _), (4, _), (5, _), (6, _), (7, _)]) (.cons rfl rfl (.cons rfl rfl (.cons rfl rfl (.cons rfl rfl (.cons rfl rfl (.cons rfl rfl .nil)))))) ?_
 refine CJ_seq ?_
 refine CJ_seq ?_
 refine CJ_region ?_
 refine RJ_q (Op_move rfl) rfl ?_
 refine RJ_nil ?_
 refine NJ_then ?_
 refine CJ_env (E' := [(0, _), (1, _), (4, _), (5, _), (6, _), (7, _), (15, _)]) (.cons rfl rfl (.cons rfl rfl (.cons rfl rfl (.cons rfl rfl (.cons rfl rfl (.cons rfl rfl (.cons rfl rfl .nil))))))) ?_
 refine CJ_else rfl rfl ?_
 refine CJ_skip ?_
 refine NJ_then ?_
 refine CJ_env (E' := [(4, _), (5, _), (6, _), (7, _)]) (.cons rfl rfl (.cons rfl rfl (.cons rfl rfl (.cons rfl rfl .nil)))) ?_
 refine CJ_seq ?_
 refine CJ_region ?_
 refine RJ_q (Op_load rfl (load_struct (o := 0) (vs := [_, _, _, _, _]) Try.underlying77 sz77 pkk (by rfl) rfl)) rfl ?_
 refine RJ_q (Op_move rfl) rfl ?_
 refine RJ_d0 (Op_store (cs' := #[_, _, _, _, _]) rfl rfl sz77 (by rfl) (by simp [Value.cells, Value.oneCell']) rpp rfl (free_zero _ _) (by rfl)) ?_
 refine RJ_q (Op_assign rfl) rfl ?_
 refine RJ_nil ?_
 refine NJ_then ?_
 refine CJ_env (E' := [(4, _), (5, _)]) (.cons rfl rfl (.cons rfl rfl .nil)) ?_
 refine CJ_ret ?_
 refine NJ_ret (.inl rfl) Try.results24 (ResJ_cell rfl (load_struct (o := 0) (vs := [_, _, _, _, _]) Try.underlying77 sz77 pkk (by rfl) rfl) (ResJ_tmp rfl ResJ_nil)) ⟨rfl, rfl⟩ (.k (e := skk))
end Go.Proofs.Ytgakbdofjlhoeaa.SL
