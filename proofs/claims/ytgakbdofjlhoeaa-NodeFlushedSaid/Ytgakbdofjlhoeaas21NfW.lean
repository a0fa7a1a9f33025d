/- Contracts of the law of Flush. -/
import Derived.Test.Ytgakbdofjlhoeaas21NfD
import Derived.Test.Ytgakbdofjlhoeaas21Fb
namespace Go.Proofs.Ytgakbdofjlhoeaa.SL
open Go Go.RowKit
set_option maxRecDepth 20000 in
set_option maxHeartbeats 4000000 in
theorem NodeFlushed_any (W : World) (a : Option Addr) (cap : Nat) (l : List ByteArray) (mk : Int) (hS : StrsAt W a l) (hl : l.length ≤ 9223372036854775807) (hmk : 0 ≤ mk ∧ mk < 256) : Spec Try.prog 4 #[.slice a l.length cap, .int .u8 mk] [old W] (fun v C => v = .bool true ∧ C = [old W]) := by
  refine Spec_intro (n := 132) (args := [.slice a l.length cap, .int .u8 mk]) Try.func4 rfl rfl rfl fun s R => ?_
  refine CJ_app1 ?_
  refine CJ_env (E' := [(0, _), (1, _)]) (.cons rfl rfl (.cons rfl rfl .nil)) ?_
  refine CJ_seq ?_
  refine CJ_region ?_
  refine RJ_q (Op_assign rfl) rfl ?_
  refine RJ_nil ?_
  refine NJ_then ?_
  refine CJ_env (E' := [(0, _), (1, _), (4, _)]) (.cons rfl rfl (.cons rfl rfl (.cons rfl rfl .nil))) ?_
  refine CJ_seq ?_
  refine CJ_seq ?_
  refine CJ_region ?_
  refine RJ_p rfl (Op_call (vs := []) Try.func6 rfl rfl (awake_any) rfl (Imp.refl _)) ?_
  rintro _ _ ⟨_, ⟨rfl, rfl⟩, rfl⟩
  refine RJ_app0 ?_
  refine RJ_q (Op_not rfl) rfl ?_
  refine RJ_nil ?_
  refine NJ_then ?_
  refine CJ_env (E' := [(0, _), (1, _), (4, _), (12, _)]) (.cons rfl rfl (.cons rfl rfl (.cons rfl rfl (.cons rfl rfl .nil)))) ?_
  refine CJ_else rfl rfl ?_
  refine CJ_skip ?_
  refine NJ_then ?_
  refine CJ_env (E' := [(0, _), (1, _), (4, _)]) (.cons rfl rfl (.cons rfl rfl (.cons rfl rfl .nil))) ?_
  refine CJ_seq ?_
  refine CJ_region ?_
  refine RJ_p rfl (Op_call (vs := [_]) Try.func7 rfl rfl (NdNew_any 100000) rfl (Imp.refl _)) ?_
  rintro _ _ ⟨_, ⟨g, rfl, rfl⟩, rfl⟩
  refine RJ_app1 ?_
  refine RJ_q (Op_assign rfl) rfl ?_
  refine RJ_nil ?_
  refine NJ_then ?_
  refine CJ_env (E' := [(0, _), (1, _), (4, _), (5, _)]) (.cons rfl rfl (.cons rfl rfl (.cons rfl rfl (.cons rfl rfl .nil)))) ?_
  refine CJ_seq ?_
  refine CJ_region ?_
  refine RJ_q (Op_assign rfl) rfl ?_
  refine RJ_nil ?_
  refine NJ_then ?_
  refine CJ_env (E' := [(0, _), (1, _), (4, _), (5, _), (6, _)]) (.cons rfl rfl (.cons rfl rfl (.cons rfl rfl (.cons rfl rfl (.cons rfl rfl .nil))))) ?_
  refine CJ_seq ?_
  refine CJ_region ?_
  refine RJ_q (Op_assign rfl) rfl ?_
  refine RJ_nil ?_
  refine NJ_then ?_
  refine CJ_env (E' := [(0, _), (1, _), (4, _), (5, _), (6, _), (7, _)]) (.cons rfl rfl (.cons rfl rfl (.cons rfl rfl (.cons rfl rfl (.cons rfl rfl (.cons rfl rfl .nil)))))) ?_
  refine CJ_seq ?_
  refine CJ_seq ?_
  refine CJ_region ?_
  refine RJ_q (Op_assign rfl) rfl ?_
  refine RJ_nil ?_
  refine NJ_then ?_
  refine CJ_env (E' := [(0, _), (1, _), (4, _), (5, _), (6, _), (7, _), (8, _)]) (.cons rfl rfl (.cons rfl rfl (.cons rfl rfl (.cons rfl rfl (.cons rfl rfl (.cons rfl rfl (.cons rfl rfl .nil))))))) ?_
  refine CJ_block ?_
  refine CJ_loop (fun E H m => ∃ (i : Nat) (rm : Int) (N : NodeS) (ta : Option Nat) (tc : Nat) (toks : List Int), (i ≤ l.length ∧ i ≤ 30 ∧ toks.length = i ∧ (∀ j b, j < i → l[j]? = some b → b.size ≤ 1000) ∧ FInv (mk % 8) (2 * i) i rm N) ∧ E = [(0, .slice a l.length cap), (1, .int .u8 mk), (5, .pointer (some ⟨g, 0, none⟩)), (6, .slice (sl ta) toks.length tc), (7, .int .i64 rm), (8, .int .i64 (i : Nat))] ∧ H = [NodeP g N, Row I64T ta tc toks, old W] ++ R ∧ m = 30 - i) (E' := [(0, .slice a l.length cap), (1, .int .u8 mk), (5, .pointer (some ⟨g, 0, none⟩)), (6, .slice (sl none) ([] : List Int).length 0), (7, .int .i64 0), (8, .int .i64 (0 : Nat))]) (H' := [NodeP g (newN 100000 0), Row I64T none 0 [], old W] ++ R) (m := 30 - 0) ⟨0, 0, _, none, 0, [], ⟨by omega, by omega, rfl, fun j b h => absurd h (Nat.not_lt_zero _), fStart (by omega)⟩, rfl, rfl, rfl⟩ (.cons rfl rfl (.cons rfl rfl (.cons rfl rfl (.cons rfl rfl (.cons rfl rfl (.cons rfl rfl .nil)))))) (.trans (Row_none I64T).imp_add (.cons (by first | ((repeat (first | with_reducible exact .here | apply Pick.there)); done) | ((repeat (first | exact .here | apply Pick.there)); done)) (.cons (by first | ((repeat (first | with_reducible exact .here | apply Pick.there)); done) | ((repeat (first | exact .here | apply Pick.there)); done)) (.cons (by first | ((repeat (first | with_reducible exact .here | apply Pick.there)); done) | ((repeat (first | exact .here | apply Pick.there)); done)) (by repeat (first | exact Imp.refl _ | refine Imp.skip ?_)))))) ?_
  rintro _ _ _ ⟨i, rm, N, ta, tc, toks, ⟨hil, hi3, hlen, hall, hF⟩, rfl, rfl, rfl⟩
  refine CJ_app3 ?_
  refine CJ_seq ?_
  refine CJ_seq ?_
  refine CJ_region ?_
  refine RJ_q (Op_move rfl) rfl ?_
  refine RJ_q (Op_move rfl) rfl ?_
  refine RJ_q (Op_len_slice rfl Try.underlying22) rfl ?_
  refine RJ_q (Op_lss rfl rfl) rfl ?_
  by_cases hi : (i : Int) < l.length
  · skip
    refine RJ_q (Op_move rfl) rfl ?_
    refine RJ_yes (t := 18) rfl rfl (decide_eq_true hi) ?_
    refine RJ_q (Op_move rfl) rfl ?_
    refine RJ_yes (t := 18) rfl rfl (decide_eq_true hi) ?_
    refine RJ_q (Op_lss rfl rfl) rfl ?_
    by_cases hi30 : (i : Int) < 30
    · skip
      have hlti : i < l.length := by omega
      obtain ⟨b, hb⟩ : ∃ b, l[i]? = some b := ⟨l[i], List.getElem?_eq_getElem hlti⟩
      obtain ⟨pa, hpa, hcell⟩ := hS i b hb
      refine RJ_q (Op_pick_t rfl (decide_eq_true hi) rfl) rfl ?_
      refine RJ_nil ?_
      refine NJ_then ?_
      refine CJ_env (E' := [(0, _), (1, _), (5, _), (6, _), (7, _), (8, _), (14, _), (15, _), (16, _), (17, _), (18, _), (19, _), (20, _), (21, _)]) (.cons rfl rfl (.cons rfl rfl (.cons rfl rfl (.cons rfl rfl (.cons rfl rfl (.cons rfl rfl (.cons rfl rfl (.cons rfl rfl (.cons rfl rfl (.cons rfl rfl (.cons rfl rfl (.cons rfl rfl (.cons rfl rfl (.cons rfl rfl .nil)))))))))))))) ?_
      refine CJ_then rfl (decide_eq_true hi30) ?_
      refine CJ_skip ?_
      refine NJ_then ?_
      refine CJ_env (E' := [(0, _), (1, _), (5, _), (6, _), (7, _), (8, _), (14, _), (15, _), (16, _), (17, _), (18, _), (19, _), (20, _), (21, _)]) (.cons rfl rfl (.cons rfl rfl (.cons rfl rfl (.cons rfl rfl (.cons rfl rfl (.cons rfl rfl (.cons rfl rfl (.cons rfl rfl (.cons rfl rfl (.cons rfl rfl (.cons rfl rfl (.cons rfl rfl (.cons rfl rfl (.cons rfl rfl .nil)))))))))))))) ?_
      refine CJ_seq ?_
      refine CJ_block ?_
      refine CJ_seq ?_
      refine CJ_seq ?_
      refine CJ_region ?_
      refine RJ_q (Op_move rfl) rfl ?_
      refine RJ_q (Op_move rfl) rfl ?_
      refine RJ_q (Op_indexOld rfl hpa rfl Try.underlying22 sz9 hlti) rfl ?_
      refine RJ_q (Op_load rfl (load_old Try.underlying9 rfl (by first | ((repeat (first | with_reducible exact .here | apply Pick.there)); done) | ((repeat (first | exact .here | apply Pick.there)); done)) hcell)) rfl ?_
      refine RJ_q (Op_len_str rfl Try.underlying9) rfl ?_
      refine RJ_q (Op_gtr rfl rfl) rfl ?_
      by_cases hb1 : 1000 < (b.size : Int)
      · skip
        refine RJ_nil ?_
        refine NJ_then ?_
        refine CJ_env (E' := [(0, _), (1, _), (5, _), (6, _), (7, _), (8, _), (14, _), (15, _), (16, _), (17, _), (18, _), (19, _), (20, _), (21, _), (24, _), (25, _), (26, _), (27, _), (28, _), (29, _)]) (.cons rfl rfl (.cons rfl rfl (.cons rfl rfl (.cons rfl rfl (.cons rfl rfl (.cons rfl rfl (.cons rfl rfl (.cons rfl rfl (.cons rfl rfl (.cons rfl rfl (.cons rfl rfl (.cons rfl rfl (.cons rfl rfl (.cons rfl rfl (.cons rfl rfl (.cons rfl rfl (.cons rfl rfl (.cons rfl rfl (.cons rfl rfl (.cons rfl rfl .nil)))))))))))))))))))) ?_
        refine CJ_then rfl (decide_eq_true hb1) ?_
        refine CJ_seq ?_
        refine CJ_region ?_
        refine RJ_q (Op_assign rfl) rfl ?_
        refine RJ_nil ?_
        refine NJ_then ?_
        refine CJ_env (E' := [(0, _), (1, _), (4, _), (5, _), (6, _), (7, _), (8, _), (14, _), (15, _), (16, _), (17, _), (18, _), (19, _), (20, _), (21, _), (24, _), (25, _), (26, _), (27, _), (28, _), (29, _)]) (.cons rfl rfl (.cons rfl rfl (.cons rfl rfl (.cons rfl rfl (.cons rfl rfl (.cons rfl rfl (.cons rfl rfl (.cons rfl rfl (.cons rfl rfl (.cons rfl rfl (.cons rfl rfl (.cons rfl rfl (.cons rfl rfl (.cons rfl rfl (.cons rfl rfl (.cons rfl rfl (.cons rfl rfl (.cons rfl rfl (.cons rfl rfl (.cons rfl rfl (.cons rfl rfl .nil))))))))))))))))))))) ?_
        refine CJ_ret ?_
        refine NJ_then_r ?_
        refine NJ_blk_r ?_
        refine NJ_then_r ?_
        refine NJ_then_r ?_
        refine NJ_blk_r ?_
        refine NJ_then_r ?_
        refine NJ_ret (.inl rfl) Try.results4 (ResJ_tmp rfl ResJ_nil) ⟨by first | rfl | (have h0 := hF.ok.it.kp; simp [packRes, purgeN, flushN, szs, relR_self h0]; done), rfl⟩ (.cons (by first | ((repeat (first | with_reducible exact .here | apply Pick.there)); done) | ((repeat (first | exact .here | apply Pick.there)); done)) (by repeat (first | exact Imp.refl _ | refine Imp.skip ?_)))
      · skip
        have hall2 : ∀ j c, j < i + 1 → l[j]? = some c → c.size ≤ 1000 := by
          intro j c hj hc
          by_cases h2 : j < i
          · exact hall j c h2 hc
          · have : j = i := by omega
            subst this
            rw [hb] at hc; cases hc; omega
        refine RJ_nil ?_
        refine NJ_then ?_
        refine CJ_env (E' := [(0, _), (1, _), (5, _), (6, _), (7, _), (8, _), (14, _), (15, _), (16, _), (17, _), (18, _), (19, _), (20, _), (21, _), (24, _), (25, _), (26, _), (27, _), (28, _), (29, _)]) (.cons rfl rfl (.cons rfl rfl (.cons rfl rfl (.cons rfl rfl (.cons rfl rfl (.cons rfl rfl (.cons rfl rfl (.cons rfl rfl (.cons rfl rfl (.cons rfl rfl (.cons rfl rfl (.cons rfl rfl (.cons rfl rfl (.cons rfl rfl (.cons rfl rfl (.cons rfl rfl (.cons rfl rfl (.cons rfl rfl (.cons rfl rfl (.cons rfl rfl .nil)))))))))))))))))))) ?_
        refine CJ_else rfl (decide_eq_false hb1) ?_
        refine CJ_skip ?_
        refine NJ_then ?_
        refine CJ_env (E' := [(0, _), (1, _), (5, _), (6, _), (7, _), (8, _), (14, _), (15, _), (16, _), (17, _), (18, _), (19, _), (20, _), (21, _), (24, _), (25, _), (26, _), (27, _), (28, _), (29, _)]) (.cons rfl rfl (.cons rfl rfl (.cons rfl rfl (.cons rfl rfl (.cons rfl rfl (.cons rfl rfl (.cons rfl rfl (.cons rfl rfl (.cons rfl rfl (.cons rfl rfl (.cons rfl rfl (.cons rfl rfl (.cons rfl rfl (.cons rfl rfl (.cons rfl rfl (.cons rfl rfl (.cons rfl rfl (.cons rfl rfl (.cons rfl rfl (.cons rfl rfl .nil)))))))))))))))))))) ?_
        refine CJ_seq ?_
        refine CJ_region ?_
        refine RJ_q (Op_move rfl) rfl ?_
        refine RJ_q (Op_move rfl) rfl ?_
        refine RJ_q (Op_move rfl) rfl ?_
        refine RJ_q (Op_move rfl) rfl ?_
        refine RJ_q (Op_indexOld rfl hpa rfl Try.underlying22 sz9 hlti) rfl ?_
        refine RJ_q (Op_load rfl (load_old Try.underlying9 rfl (by first | ((repeat (first | with_reducible exact .here | apply Pick.there)); done) | ((repeat (first | exact .here | apply Pick.there)); done)) hcell)) rfl ?_
        refine RJ_p rfl (Op_call (vs := [_, _]) Try.func8 rfl rfl (NdGet_any g N (2 * i) hF.ok (by omega) b) rfl (.cons (by first | ((repeat (first | with_reducible exact .here | apply Pick.there)); done) | ((repeat (first | exact .here | apply Pick.there)); done)) (Imp.refl _))) ?_
        rintro _ _ ⟨_, ⟨rfl, rfl⟩, rfl⟩
        refine RJ_app1 ?_
        have hF1 := hF.get b
        refine RJ_q (Op_field rfl Try.underlying31 rfl (PartJ_cell Try.underlying2 rfl (Nth.s (Nth.s (Nth.s (Nth.s (Nth.s (Nth.s Nth.z)))))))) rfl ?_
        refine RJ_p rfl (Op_buildSlice (vs := [_]) (cells := [_]) Try.underlying40 sz2 zr2 rfl rfl rfl rfl (by rfl)) ?_
        rintro _ _ ⟨g38, rfl, rfl⟩
        refine RJ_p rfl (Op_append (T := I64T) (news := [(getN b N).1.token]) rfl rfl (by first | ((repeat (first | with_reducible exact .here | apply Pick.there)); done) | ((repeat (first | exact .here | apply Pick.there)); done)) rfl (by simp) (Reads_pt (by first | ((repeat (first | with_reducible exact .here | apply Pick.there)); done) | ((repeat (first | exact .here | apply Pick.there)); done)) (fun j u h => by simpa [Ty.flat, I64T] using h)) Try.underlying40 sz2 zr2 (by rfl) by2 (by simp [I64T]; omega) (by simp [maxLen]; omega)) ?_
        rintro _ _ ⟨a39, c39, rfl, rfl⟩
        refine RJ_q (Op_assign rfl) rfl ?_
        refine RJ_nil ?_
        refine NJ_then ?_
        refine CJ_env (E' := [(0, _), (1, _), (5, _), (6, _), (7, _), (8, _), (14, _), (15, _), (16, _), (17, _), (18, _), (19, _), (20, _), (21, _), (24, _), (25, _), (26, _), (27, _), (28, _), (29, _), (30, _), (31, _), (32, _), (33, _), (34, _), (35, _), (36, _), (37, _), (38, _), (39, _)]) (.cons rfl rfl (.cons rfl rfl (.cons rfl rfl (.cons rfl rfl (.cons rfl rfl (.cons rfl rfl (.cons rfl rfl (.cons rfl rfl (.cons rfl rfl (.cons rfl rfl (.cons rfl rfl (.cons rfl rfl (.cons rfl rfl (.cons rfl rfl (.cons rfl rfl (.cons rfl rfl (.cons rfl rfl (.cons rfl rfl (.cons rfl rfl (.cons rfl rfl (.cons rfl rfl (.cons rfl rfl (.cons rfl rfl (.cons rfl rfl (.cons rfl rfl (.cons rfl rfl (.cons rfl rfl (.cons rfl rfl (.cons rfl rfl (.cons rfl rfl .nil)))))))))))))))))))))))))))))) ?_
        refine CJ_seq ?_
        refine CJ_seq ?_
        refine CJ_region ?_
        refine RJ_q (Op_move rfl) rfl ?_
        refine RJ_q (Op_move rfl) rfl ?_
        refine RJ_q (Op_convInt64 rfl (by rw [Try.underlying5]; rfl) Try.underlying3 (by omega)) rfl ?_
        refine RJ_q (Op_rem rfl rfl (by decide)) rfl ?_
        rw [tmod8 hmk.1]
        refine RJ_q (Op_lss rfl rfl) rfl ?_
        by_cases hm : (i : Int) < (mk % 8)
        · skip
          refine RJ_nil ?_
          refine NJ_then ?_
          refine CJ_env (E' := [(0, _), (1, _), (5, _), (6, _), (7, _), (8, _), (14, _), (15, _), (16, _), (17, _), (18, _), (19, _), (20, _), (21, _), (24, _), (25, _), (26, _), (27, _), (28, _), (29, _), (30, _), (31, _), (32, _), (33, _), (34, _), (35, _), (36, _), (37, _), (38, _), (39, _), (40, _), (41, _), (42, _), (43, _), (44, _)]) (.cons rfl rfl (.cons rfl rfl (.cons rfl rfl (.cons rfl rfl (.cons rfl rfl (.cons rfl rfl (.cons rfl rfl (.cons rfl rfl (.cons rfl rfl (.cons rfl rfl (.cons rfl rfl (.cons rfl rfl (.cons rfl rfl (.cons rfl rfl (.cons rfl rfl (.cons rfl rfl (.cons rfl rfl (.cons rfl rfl (.cons rfl rfl (.cons rfl rfl (.cons rfl rfl (.cons rfl rfl (.cons rfl rfl (.cons rfl rfl (.cons rfl rfl (.cons rfl rfl (.cons rfl rfl (.cons rfl rfl (.cons rfl rfl (.cons rfl rfl (.cons rfl rfl (.cons rfl rfl (.cons rfl rfl (.cons rfl rfl (.cons rfl rfl .nil))))))))))))))))))))))))))))))))))) ?_
          refine CJ_then rfl (decide_eq_true hm) ?_
          refine CJ_seq ?_
          refine CJ_seq ?_
          refine CJ_region ?_
          refine RJ_q (Op_move rfl) rfl ?_
          refine RJ_q (Op_move rfl) rfl ?_
          refine RJ_q (Op_move rfl) rfl ?_
          refine RJ_q (Op_indexOld rfl hpa rfl Try.underlying22 sz9 hlti) rfl ?_
          refine RJ_q (Op_load rfl (load_old Try.underlying9 rfl (by first | ((repeat (first | with_reducible exact .here | apply Pick.there)); done) | ((repeat (first | exact .here | apply Pick.there)); done)) hcell)) rfl ?_
          refine RJ_q (Op_move rfl) rfl ?_
          refine RJ_p rfl (Op_call (vs := [_, _, _, _]) Try.func10 rfl rfl (NdMark_any g _ _ hF1.ok (by omega) b i 1 (by omega)) rfl (.cons (by first | ((repeat (first | with_reducible exact .here | apply Pick.there)); done) | ((repeat (first | exact .here | apply Pick.there)); done)) (Imp.refl _))) ?_
          rintro _ _ ⟨_, ⟨rfl, rfl⟩, rfl⟩
          refine RJ_app1 ?_
          obtain ⟨hF2a, hF2⟩ := hF1.mark hm (by omega) (show b.size ≤ 1000 by omega)
          refine RJ_q (Op_neq rfl rfl) rfl ?_
          refine RJ_nil ?_
          refine NJ_then ?_
          refine CJ_env (E' := [(0, _), (1, _), (5, _), (6, _), (7, _), (8, _), (14, _), (15, _), (16, _), (17, _), (18, _), (19, _), (20, _), (21, _), (24, _), (25, _), (26, _), (27, _), (28, _), (29, _), (30, _), (31, _), (32, _), (33, _), (34, _), (35, _), (36, _), (37, _), (38, _), (39, _), (40, _), (41, _), (42, _), (43, _), (44, _), (45, _), (46, _), (47, _), (48, _), (49, _), (50, _), (51, _), (52, _)]) (.cons rfl rfl (.cons rfl rfl (.cons rfl rfl (.cons rfl rfl (.cons rfl rfl (.cons rfl rfl (.cons rfl rfl (.cons rfl rfl (.cons rfl rfl (.cons rfl rfl (.cons rfl rfl (.cons rfl rfl (.cons rfl rfl (.cons rfl rfl (.cons rfl rfl (.cons rfl rfl (.cons rfl rfl (.cons rfl rfl (.cons rfl rfl (.cons rfl rfl (.cons rfl rfl (.cons rfl rfl (.cons rfl rfl (.cons rfl rfl (.cons rfl rfl (.cons rfl rfl (.cons rfl rfl (.cons rfl rfl (.cons rfl rfl (.cons rfl rfl (.cons rfl rfl (.cons rfl rfl (.cons rfl rfl (.cons rfl rfl (.cons rfl rfl (.cons rfl rfl (.cons rfl rfl (.cons rfl rfl (.cons rfl rfl (.cons rfl rfl (.cons rfl rfl (.cons rfl rfl (.cons rfl rfl .nil))))))))))))))))))))))))))))))))))))))))))) ?_
          refine CJ_else rfl (by rw [hF2a]; simp) ?_
          refine CJ_skip ?_
          refine NJ_then ?_
          refine CJ_env (E' := [(0, _), (1, _), (5, _), (6, _), (7, _), (8, _), (14, _), (15, _), (16, _), (17, _), (18, _), (19, _), (20, _), (21, _), (24, _), (25, _), (26, _), (27, _), (28, _), (29, _), (30, _), (31, _), (32, _), (33, _), (34, _), (35, _), (36, _), (37, _), (38, _), (39, _), (40, _), (41, _), (42, _), (43, _), (44, _), (45, _), (46, _), (47, _), (48, _), (49, _), (50, _), (51, _), (52, _)]) (.cons rfl rfl (.cons rfl rfl (.cons rfl rfl (.cons rfl rfl (.cons rfl rfl (.cons rfl rfl (.cons rfl rfl (.cons rfl rfl (.cons rfl rfl (.cons rfl rfl (.cons rfl rfl (.cons rfl rfl (.cons rfl rfl (.cons rfl rfl (.cons rfl rfl (.cons rfl rfl (.cons rfl rfl (.cons rfl rfl (.cons rfl rfl (.cons rfl rfl (.cons rfl rfl (.cons rfl rfl (.cons rfl rfl (.cons rfl rfl (.cons rfl rfl (.cons rfl rfl (.cons rfl rfl (.cons rfl rfl (.cons rfl rfl (.cons rfl rfl (.cons rfl rfl (.cons rfl rfl (.cons rfl rfl (.cons rfl rfl (.cons rfl rfl (.cons rfl rfl (.cons rfl rfl (.cons rfl rfl (.cons rfl rfl (.cons rfl rfl (.cons rfl rfl (.cons rfl rfl (.cons rfl rfl .nil))))))))))))))))))))))))))))))))))))))))))) ?_
          refine CJ_region ?_
          refine RJ_q (Op_move rfl) rfl ?_
          refine RJ_q (Op_move rfl) rfl ?_
          refine RJ_q (Op_move rfl) rfl ?_
          refine RJ_q (Op_indexOld rfl hpa rfl Try.underlying22 sz9 hlti) rfl ?_
          refine RJ_q (Op_load rfl (load_old Try.underlying9 rfl (by first | ((repeat (first | with_reducible exact .here | apply Pick.there)); done) | ((repeat (first | exact .here | apply Pick.there)); done)) hcell)) rfl ?_
          refine RJ_q (Op_len_str rfl Try.underlying9) rfl ?_
          refine RJ_q (Op_add64 rfl rfl (by omega)) rfl ?_
          have hF3 := hF1.r0
          have hF4 := hF1.r1
          have hF5 := hF1.ml
          refine RJ_q (Op_add64 rfl rfl (by omega)) rfl ?_
          refine RJ_q (Op_assign rfl) rfl ?_
          refine RJ_nil ?_
          refine NJ_then ?_
          refine CJ_env (E' := [(0, _), (1, _), (5, _), (6, _), (7, _), (8, _), (14, _), (15, _), (16, _), (17, _), (18, _), (19, _), (20, _), (21, _), (24, _), (25, _), (26, _), (27, _), (28, _), (29, _), (30, _), (31, _), (32, _), (33, _), (34, _), (35, _), (36, _), (37, _), (38, _), (39, _), (40, _), (41, _), (42, _), (43, _), (44, _), (45, _), (46, _), (47, _), (48, _), (49, _), (50, _), (51, _), (52, _), (53, _), (54, _), (55, _), (56, _), (57, _), (58, _), (59, _), (60, _)]) (.cons rfl rfl (.cons rfl rfl (.cons rfl rfl (.cons rfl rfl (.cons rfl rfl (.cons rfl rfl (.cons rfl rfl (.cons rfl rfl (.cons rfl rfl (.cons rfl rfl (.cons rfl rfl (.cons rfl rfl (.cons rfl rfl (.cons rfl rfl (.cons rfl rfl (.cons rfl rfl (.cons rfl rfl (.cons rfl rfl (.cons rfl rfl (.cons rfl rfl (.cons rfl rfl (.cons rfl rfl (.cons rfl rfl (.cons rfl rfl (.cons rfl rfl (.cons rfl rfl (.cons rfl rfl (.cons rfl rfl (.cons rfl rfl (.cons rfl rfl (.cons rfl rfl (.cons rfl rfl (.cons rfl rfl (.cons rfl rfl (.cons rfl rfl (.cons rfl rfl (.cons rfl rfl (.cons rfl rfl (.cons rfl rfl (.cons rfl rfl (.cons rfl rfl (.cons rfl rfl (.cons rfl rfl (.cons rfl rfl (.cons rfl rfl (.cons rfl rfl (.cons rfl rfl (.cons rfl rfl (.cons rfl rfl (.cons rfl rfl (.cons rfl rfl .nil))))))))))))))))))))))))))))))))))))))))))))))))))) ?_
          refine CJ_seq ?_
          refine CJ_region ?_
          refine RJ_q (Op_move rfl) rfl ?_
          refine RJ_q (Op_rem rfl rfl (by decide)) rfl ?_
          rw [tmod2]
          refine RJ_q (Op_eql rfl rfl) rfl ?_
          by_cases he : (i : Int) % 2 = 0
          · skip
            refine RJ_nil ?_
            refine NJ_then ?_
            refine CJ_env (E' := [(0, _), (1, _), (5, _), (6, _), (7, _), (8, _), (14, _), (15, _), (16, _), (17, _), (18, _), (19, _), (20, _), (21, _), (24, _), (25, _), (26, _), (27, _), (28, _), (29, _), (30, _), (31, _), (32, _), (33, _), (34, _), (35, _), (36, _), (37, _), (38, _), (39, _), (40, _), (41, _), (42, _), (43, _), (44, _), (45, _), (46, _), (47, _), (48, _), (49, _), (50, _), (51, _), (52, _), (53, _), (54, _), (55, _), (56, _), (57, _), (58, _), (59, _), (60, _), (61, _), (62, _), (63, _)]) (.cons rfl rfl (.cons rfl rfl (.cons rfl rfl (.cons rfl rfl (.cons rfl rfl (.cons rfl rfl (.cons rfl rfl (.cons rfl rfl (.cons rfl rfl (.cons rfl rfl (.cons rfl rfl (.cons rfl rfl (.cons rfl rfl (.cons rfl rfl (.cons rfl rfl (.cons rfl rfl (.cons rfl rfl (.cons rfl rfl (.cons rfl rfl (.cons rfl rfl (.cons rfl rfl (.cons rfl rfl (.cons rfl rfl (.cons rfl rfl (.cons rfl rfl (.cons rfl rfl (.cons rfl rfl (.cons rfl rfl (.cons rfl rfl (.cons rfl rfl (.cons rfl rfl (.cons rfl rfl (.cons rfl rfl (.cons rfl rfl (.cons rfl rfl (.cons rfl rfl (.cons rfl rfl (.cons rfl rfl (.cons rfl rfl (.cons rfl rfl (.cons rfl rfl (.cons rfl rfl (.cons rfl rfl (.cons rfl rfl (.cons rfl rfl (.cons rfl rfl (.cons rfl rfl (.cons rfl rfl (.cons rfl rfl (.cons rfl rfl (.cons rfl rfl (.cons rfl rfl (.cons rfl rfl (.cons rfl rfl .nil)))))))))))))))))))))))))))))))))))))))))))))))))))))) ?_
            refine CJ_then rfl (decide_eq_true he) ?_
            refine CJ_know (Row_know (T := I64T) (by first | ((repeat (first | with_reducible exact .here | apply Pick.there)); done) | ((repeat (first | exact .here | apply Pick.there)); done))) ?_
            intro hkn
            obtain ⟨gt, rfl⟩ := row_some hkn.2.2 (by simp)
            refine CJ_draw (.q 0 (.q 1 (.q 2 (.q 3 (.q 4 (.q 5 (.q 6 (.q 7 (.q 8 (.q 9 (.e 10 .done))))))))))) (by kernel_rfl) (by kernel_rfl) (by kernel_rfl) ?_
            refine SJ_q rfl (want_none rfl) rfl (fun _ _ => Op_move rfl) ?_
            refine SJ_q rfl (want_none rfl) rfl (fun _ _ => Op_move rfl) ?_
            refine SJ_q rfl (want_none rfl) rfl (fun _ _ => Op_move rfl) ?_
            refine SJ_q rfl (want_none rfl) rfl (fun _ _ => Op_indexOld rfl hpa rfl Try.underlying22 sz9 hlti) ?_
            refine SJ_load rfl (want_none rfl) rfl rfl (load_old Try.underlying9 rfl (by first | ((repeat (first | with_reducible exact .here | apply Pick.there)); done) | ((repeat (first | exact .here | apply Pick.there)); done)) hcell) ?_
            refine SJ_q rfl (want_none rfl) rfl (fun _ _ => Op_move rfl) ?_
            refine SJ_q rfl (want_none rfl) rfl (fun _ _ => Op_move rfl) ?_
            refine SJ_q rfl (want_none rfl) rfl (fun _ _ => Op_indexAddr (o' := i * I64T.sz + 0) rfl rfl Try.underlying40 sz2 (by omega) (by first | omega | (simp; omega)) (by simp [I64T])) ?_
            refine SJ_load rfl (want_none rfl) rfl rfl (load_row_cell (o := 0) Try.underlying2 rfl (by first | ((repeat (first | with_reducible exact .here | apply Pick.there)); done) | ((repeat (first | exact .here | apply Pick.there)); done)) (show (toks ++ [(getN b N).1.token])[i]? = some (getN b N).1.token by rw [← hlen]; simp) Nth.z) ?_
            refine SJ_q rfl (want_none rfl) rfl (fun _ _ => Op_build (vs := [_, _]) (cells := [_, _, _, _]) Try.underlying29 zr29 rfl pl29 (by rfl)) ?_
            refine SJ_p (rd' := []) [] rfl (want_none rfl) rfl (Op_call (vs := [_, _, _, _, _]) Try.func9 rfl rfl (NdFill_any g _ _ hF2.ok (by omega) b (getN b N).1.token itemX (by omega) (by decide)) rfl (.cons (by first | ((repeat (first | with_reducible exact .here | apply Pick.there)); done) | ((repeat (first | exact .here | apply Pick.there)); done)) (Imp.refl _))) (by kernel_rfl) rfl ?_
            rintro _ _ ⟨_, ⟨rfl, rfl⟩, rfl⟩
            refine OS_app1 ?_
            refine ⟨trivial, ?_⟩
            refine SJ_done ?_
            refine NJ_blk ?_
            refine NJ_then ?_
            refine CJ_env (E' := [(0, _), (1, _), (5, _), (6, _), (7, _), (8, _), (14, _), (15, _), (16, _), (17, _), (18, _), (19, _), (20, _), (21, _), (24, _), (25, _), (26, _), (27, _), (28, _), (29, _), (30, _), (31, _), (32, _), (33, _), (34, _), (35, _), (36, _), (37, _), (38, _), (39, _), (40, _), (41, _), (42, _), (43, _), (44, _), (45, _), (46, _), (47, _), (48, _), (49, _), (50, _), (51, _), (52, _), (53, _), (54, _), (55, _), (56, _), (57, _), (58, _), (59, _), (60, _), (61, _), (62, _), (63, _), (64, _), (65, _), (66, _), (67, _), (68, _), (69, _), (70, _), (71, _), (72, _), (73, _)]) (.cons rfl rfl (.cons rfl rfl (.cons rfl rfl (.cons rfl rfl (.cons rfl rfl (.cons rfl rfl (.cons rfl rfl (.cons rfl rfl (.cons rfl rfl (.cons rfl rfl (.cons rfl rfl (.cons rfl rfl (.cons rfl rfl (.cons rfl rfl (.cons rfl rfl (.cons rfl rfl (.cons rfl rfl (.cons rfl rfl (.cons rfl rfl (.cons rfl rfl (.cons rfl rfl (.cons rfl rfl (.cons rfl rfl (.cons rfl rfl (.cons rfl rfl (.cons rfl rfl (.cons rfl rfl (.cons rfl rfl (.cons rfl rfl (.cons rfl rfl (.cons rfl rfl (.cons rfl rfl (.cons rfl rfl (.cons rfl rfl (.cons rfl rfl (.cons rfl rfl (.cons rfl rfl (.cons rfl rfl (.cons rfl rfl (.cons rfl rfl (.cons rfl rfl (.cons rfl rfl (.cons rfl rfl (.cons rfl rfl (.cons rfl rfl (.cons rfl rfl (.cons rfl rfl (.cons rfl rfl (.cons rfl rfl (.cons rfl rfl (.cons rfl rfl (.cons rfl rfl (.cons rfl rfl (.cons rfl rfl (.cons rfl rfl (.cons rfl rfl (.cons rfl rfl (.cons rfl rfl (.cons rfl rfl (.cons rfl rfl (.cons rfl rfl (.cons rfl rfl (.cons rfl rfl (.cons rfl rfl .nil)))))))))))))))))))))))))))))))))))))))))))))))))))))))))))))))) ?_
            refine CJ_region ?_
            refine RJ_q (Op_move rfl) rfl ?_
            refine RJ_q (Op_addN (i + 1) rfl rfl (by omega) (by omega)) rfl ?_
            refine RJ_q (Op_assign rfl) rfl ?_
            refine RJ_nil ?_
            refine NJ_back ⟨i + 1, _, _, some gt, c39, toks ++ [(getN b N).1.token], ⟨by omega, by omega, by simp [hlen], hall2, (hF2.fill b _ itemX).more (by omega)⟩, rfl, rfl, rfl⟩ (by omega) (.cons rfl (by first | rfl | (simp; done)) (.cons rfl (by first | rfl | (simp; done)) (.cons rfl (by first | rfl | (simp; done)) (.cons rfl (by first | rfl | (simp; done)) (.cons rfl (by first | rfl | (simp; done)) (.cons rfl (by first | rfl | (simp; done)) .nil)))))) (.cons (by first | ((repeat (first | with_reducible exact .here | apply Pick.there)); done) | ((repeat (first | exact .here | apply Pick.there)); done)) (.cons (by first | ((repeat (first | with_reducible exact .here | apply Pick.there)); done) | ((repeat (first | exact .here | apply Pick.there)); done)) (.cons (by first | ((repeat (first | with_reducible exact .here | apply Pick.there)); done) | ((repeat (first | exact .here | apply Pick.there)); done)) (by repeat (first | exact Imp.refl _ | refine Imp.skip ?_)))))
          · skip
            refine RJ_nil ?_
            refine NJ_then ?_
            refine CJ_env (E' := [(0, _), (1, _), (5, _), (6, _), (7, _), (8, _), (14, _), (15, _), (16, _), (17, _), (18, _), (19, _), (20, _), (21, _), (24, _), (25, _), (26, _), (27, _), (28, _), (29, _), (30, _), (31, _), (32, _), (33, _), (34, _), (35, _), (36, _), (37, _), (38, _), (39, _), (40, _), (41, _), (42, _), (43, _), (44, _), (45, _), (46, _), (47, _), (48, _), (49, _), (50, _), (51, _), (52, _), (53, _), (54, _), (55, _), (56, _), (57, _), (58, _), (59, _), (60, _), (61, _), (62, _), (63, _)]) (.cons rfl rfl (.cons rfl rfl (.cons rfl rfl (.cons rfl rfl (.cons rfl rfl (.cons rfl rfl (.cons rfl rfl (.cons rfl rfl (.cons rfl rfl (.cons rfl rfl (.cons rfl rfl (.cons rfl rfl (.cons rfl rfl (.cons rfl rfl (.cons rfl rfl (.cons rfl rfl (.cons rfl rfl (.cons rfl rfl (.cons rfl rfl (.cons rfl rfl (.cons rfl rfl (.cons rfl rfl (.cons rfl rfl (.cons rfl rfl (.cons rfl rfl (.cons rfl rfl (.cons rfl rfl (.cons rfl rfl (.cons rfl rfl (.cons rfl rfl (.cons rfl rfl (.cons rfl rfl (.cons rfl rfl (.cons rfl rfl (.cons rfl rfl (.cons rfl rfl (.cons rfl rfl (.cons rfl rfl (.cons rfl rfl (.cons rfl rfl (.cons rfl rfl (.cons rfl rfl (.cons rfl rfl (.cons rfl rfl (.cons rfl rfl (.cons rfl rfl (.cons rfl rfl (.cons rfl rfl (.cons rfl rfl (.cons rfl rfl (.cons rfl rfl (.cons rfl rfl (.cons rfl rfl (.cons rfl rfl .nil)))))))))))))))))))))))))))))))))))))))))))))))))))))) ?_
            refine CJ_else rfl (decide_eq_false he) ?_
            refine CJ_skip ?_
            refine NJ_blk ?_
            refine NJ_then ?_
            refine CJ_env (E' := [(0, _), (1, _), (5, _), (6, _), (7, _), (8, _), (14, _), (15, _), (16, _), (17, _), (18, _), (19, _), (20, _), (21, _), (24, _), (25, _), (26, _), (27, _), (28, _), (29, _), (30, _), (31, _), (32, _), (33, _), (34, _), (35, _), (36, _), (37, _), (38, _), (39, _), (40, _), (41, _), (42, _), (43, _), (44, _), (45, _), (46, _), (47, _), (48, _), (49, _), (50, _), (51, _), (52, _), (53, _), (54, _), (55, _), (56, _), (57, _), (58, _), (59, _), (60, _), (61, _), (62, _), (63, _)]) (.cons rfl rfl (.cons rfl rfl (.cons rfl rfl (.cons rfl rfl (.cons rfl rfl (.cons rfl rfl (.cons rfl rfl (.cons rfl rfl (.cons rfl rfl (.cons rfl rfl (.cons rfl rfl (.cons rfl rfl (.cons rfl rfl (.cons rfl rfl (.cons rfl rfl (.cons rfl rfl (.cons rfl rfl (.cons rfl rfl (.cons rfl rfl (.cons rfl rfl (.cons rfl rfl (.cons rfl rfl (.cons rfl rfl (.cons rfl rfl (.cons rfl rfl (.cons rfl rfl (.cons rfl rfl (.cons rfl rfl (.cons rfl rfl (.cons rfl rfl (.cons rfl rfl (.cons rfl rfl (.cons rfl rfl (.cons rfl rfl (.cons rfl rfl (.cons rfl rfl (.cons rfl rfl (.cons rfl rfl (.cons rfl rfl (.cons rfl rfl (.cons rfl rfl (.cons rfl rfl (.cons rfl rfl (.cons rfl rfl (.cons rfl rfl (.cons rfl rfl (.cons rfl rfl (.cons rfl rfl (.cons rfl rfl (.cons rfl rfl (.cons rfl rfl (.cons rfl rfl (.cons rfl rfl (.cons rfl rfl .nil)))))))))))))))))))))))))))))))))))))))))))))))))))))) ?_
            refine CJ_region ?_
            refine RJ_q (Op_move rfl) rfl ?_
            refine RJ_q (Op_addN (i + 1) rfl rfl (by omega) (by omega)) rfl ?_
            refine RJ_q (Op_assign rfl) rfl ?_
            refine RJ_nil ?_
            refine NJ_back ⟨i + 1, _, _, a39, c39, toks ++ [(getN b N).1.token], ⟨by omega, by omega, by simp [hlen], hall2, (hF2).more (by omega)⟩, rfl, rfl, rfl⟩ (by omega) (.cons rfl (by first | rfl | (simp; done)) (.cons rfl (by first | rfl | (simp; done)) (.cons rfl (by first | rfl | (simp; done)) (.cons rfl (by first | rfl | (simp; done)) (.cons rfl (by first | rfl | (simp; done)) (.cons rfl (by first | rfl | (simp; done)) .nil)))))) (.cons (by first | ((repeat (first | with_reducible exact .here | apply Pick.there)); done) | ((repeat (first | exact .here | apply Pick.there)); done)) (.cons (by first | ((repeat (first | with_reducible exact .here | apply Pick.there)); done) | ((repeat (first | exact .here | apply Pick.there)); done)) (.cons (by first | ((repeat (first | with_reducible exact .here | apply Pick.there)); done) | ((repeat (first | exact .here | apply Pick.there)); done)) (by repeat (first | exact Imp.refl _ | refine Imp.skip ?_)))))
        · skip
          refine RJ_nil ?_
          refine NJ_then ?_
          refine CJ_env (E' := [(0, _), (1, _), (5, _), (6, _), (7, _), (8, _), (14, _), (15, _), (16, _), (17, _), (18, _), (19, _), (20, _), (21, _), (24, _), (25, _), (26, _), (27, _), (28, _), (29, _), (30, _), (31, _), (32, _), (33, _), (34, _), (35, _), (36, _), (37, _), (38, _), (39, _), (40, _), (41, _), (42, _), (43, _), (44, _)]) (.cons rfl rfl (.cons rfl rfl (.cons rfl rfl (.cons rfl rfl (.cons rfl rfl (.cons rfl rfl (.cons rfl rfl (.cons rfl rfl (.cons rfl rfl (.cons rfl rfl (.cons rfl rfl (.cons rfl rfl (.cons rfl rfl (.cons rfl rfl (.cons rfl rfl (.cons rfl rfl (.cons rfl rfl (.cons rfl rfl (.cons rfl rfl (.cons rfl rfl (.cons rfl rfl (.cons rfl rfl (.cons rfl rfl (.cons rfl rfl (.cons rfl rfl (.cons rfl rfl (.cons rfl rfl (.cons rfl rfl (.cons rfl rfl (.cons rfl rfl (.cons rfl rfl (.cons rfl rfl (.cons rfl rfl (.cons rfl rfl (.cons rfl rfl .nil))))))))))))))))))))))))))))))))))) ?_
          refine CJ_else rfl (decide_eq_false hm) ?_
          refine CJ_skip ?_
          refine NJ_then ?_
          refine CJ_env (E' := [(0, _), (1, _), (5, _), (6, _), (7, _), (8, _), (14, _), (15, _), (16, _), (17, _), (18, _), (19, _), (20, _), (21, _), (24, _), (25, _), (26, _), (27, _), (28, _), (29, _), (30, _), (31, _), (32, _), (33, _), (34, _), (35, _), (36, _), (37, _), (38, _), (39, _), (40, _), (41, _), (42, _), (43, _), (44, _)]) (.cons rfl rfl (.cons rfl rfl (.cons rfl rfl (.cons rfl rfl (.cons rfl rfl (.cons rfl rfl (.cons rfl rfl (.cons rfl rfl (.cons rfl rfl (.cons rfl rfl (.cons rfl rfl (.cons rfl rfl (.cons rfl rfl (.cons rfl rfl (.cons rfl rfl (.cons rfl rfl (.cons rfl rfl (.cons rfl rfl (.cons rfl rfl (.cons rfl rfl (.cons rfl rfl (.cons rfl rfl (.cons rfl rfl (.cons rfl rfl (.cons rfl rfl (.cons rfl rfl (.cons rfl rfl (.cons rfl rfl (.cons rfl rfl (.cons rfl rfl (.cons rfl rfl (.cons rfl rfl (.cons rfl rfl (.cons rfl rfl (.cons rfl rfl .nil))))))))))))))))))))))))))))))))))) ?_
          refine CJ_seq ?_
          refine CJ_region ?_
          refine RJ_q (Op_move rfl) rfl ?_
          refine RJ_q (Op_rem rfl rfl (by decide)) rfl ?_
          rw [tmod2]
          refine RJ_q (Op_eql rfl rfl) rfl ?_
          by_cases he : (i : Int) % 2 = 0
          · skip
            refine RJ_nil ?_
            refine NJ_then ?_
            refine CJ_env (E' := [(0, _), (1, _), (5, _), (6, _), (7, _), (8, _), (14, _), (15, _), (16, _), (17, _), (18, _), (19, _), (20, _), (21, _), (24, _), (25, _), (26, _), (27, _), (28, _), (29, _), (30, _), (31, _), (32, _), (33, _), (34, _), (35, _), (36, _), (37, _), (38, _), (39, _), (40, _), (41, _), (42, _), (43, _), (44, _), (61, _), (62, _), (63, _)]) (.cons rfl rfl (.cons rfl rfl (.cons rfl rfl (.cons rfl rfl (.cons rfl rfl (.cons rfl rfl (.cons rfl rfl (.cons rfl rfl (.cons rfl rfl (.cons rfl rfl (.cons rfl rfl (.cons rfl rfl (.cons rfl rfl (.cons rfl rfl (.cons rfl rfl (.cons rfl rfl (.cons rfl rfl (.cons rfl rfl (.cons rfl rfl (.cons rfl rfl (.cons rfl rfl (.cons rfl rfl (.cons rfl rfl (.cons rfl rfl (.cons rfl rfl (.cons rfl rfl (.cons rfl rfl (.cons rfl rfl (.cons rfl rfl (.cons rfl rfl (.cons rfl rfl (.cons rfl rfl (.cons rfl rfl (.cons rfl rfl (.cons rfl rfl (.cons rfl rfl (.cons rfl rfl (.cons rfl rfl .nil)))))))))))))))))))))))))))))))))))))) ?_
            refine CJ_then rfl (decide_eq_true he) ?_
            refine CJ_know (Row_know (T := I64T) (by first | ((repeat (first | with_reducible exact .here | apply Pick.there)); done) | ((repeat (first | exact .here | apply Pick.there)); done))) ?_
            intro hkn
            obtain ⟨gt, rfl⟩ := row_some hkn.2.2 (by simp)
            refine CJ_draw (.q 0 (.q 1 (.q 2 (.q 3 (.q 4 (.q 5 (.q 6 (.q 7 (.q 8 (.q 9 (.e 10 .done))))))))))) (by kernel_rfl) (by kernel_rfl) (by kernel_rfl) ?_
            refine SJ_q rfl (want_none rfl) rfl (fun _ _ => Op_move rfl) ?_
            refine SJ_q rfl (want_none rfl) rfl (fun _ _ => Op_move rfl) ?_
            refine SJ_q rfl (want_none rfl) rfl (fun _ _ => Op_move rfl) ?_
            refine SJ_q rfl (want_none rfl) rfl (fun _ _ => Op_indexOld rfl hpa rfl Try.underlying22 sz9 hlti) ?_
            refine SJ_load rfl (want_none rfl) rfl rfl (load_old Try.underlying9 rfl (by first | ((repeat (first | with_reducible exact .here | apply Pick.there)); done) | ((repeat (first | exact .here | apply Pick.there)); done)) hcell) ?_
            refine SJ_q rfl (want_none rfl) rfl (fun _ _ => Op_move rfl) ?_
            refine SJ_q rfl (want_none rfl) rfl (fun _ _ => Op_move rfl) ?_
            refine SJ_q rfl (want_none rfl) rfl (fun _ _ => Op_indexAddr (o' := i * I64T.sz + 0) rfl rfl Try.underlying40 sz2 (by omega) (by first | omega | (simp; omega)) (by simp [I64T])) ?_
            refine SJ_load rfl (want_none rfl) rfl rfl (load_row_cell (o := 0) Try.underlying2 rfl (by first | ((repeat (first | with_reducible exact .here | apply Pick.there)); done) | ((repeat (first | exact .here | apply Pick.there)); done)) (show (toks ++ [(getN b N).1.token])[i]? = some (getN b N).1.token by rw [← hlen]; simp) Nth.z) ?_
            refine SJ_q rfl (want_none rfl) rfl (fun _ _ => Op_build (vs := [_, _]) (cells := [_, _, _, _]) Try.underlying29 zr29 rfl pl29 (by rfl)) ?_
            refine SJ_p (rd' := []) [] rfl (want_none rfl) rfl (Op_call (vs := [_, _, _, _, _]) Try.func9 rfl rfl (NdFill_any g _ _ hF1.ok (by omega) b (getN b N).1.token itemX (by omega) (by decide)) rfl (.cons (by first | ((repeat (first | with_reducible exact .here | apply Pick.there)); done) | ((repeat (first | exact .here | apply Pick.there)); done)) (Imp.refl _))) (by kernel_rfl) rfl ?_
            rintro _ _ ⟨_, ⟨rfl, rfl⟩, rfl⟩
            refine OS_app1 ?_
            refine ⟨trivial, ?_⟩
            refine SJ_done ?_
            refine NJ_blk ?_
            refine NJ_then ?_
            refine CJ_env (E' := [(0, _), (1, _), (5, _), (6, _), (7, _), (8, _), (14, _), (15, _), (16, _), (17, _), (18, _), (19, _), (20, _), (21, _), (24, _), (25, _), (26, _), (27, _), (28, _), (29, _), (30, _), (31, _), (32, _), (33, _), (34, _), (35, _), (36, _), (37, _), (38, _), (39, _), (40, _), (41, _), (42, _), (43, _), (44, _), (61, _), (62, _), (63, _), (64, _), (65, _), (66, _), (67, _), (68, _), (69, _), (70, _), (71, _), (72, _), (73, _)]) (.cons rfl rfl (.cons rfl rfl (.cons rfl rfl (.cons rfl rfl (.cons rfl rfl (.cons rfl rfl (.cons rfl rfl (.cons rfl rfl (.cons rfl rfl (.cons rfl rfl (.cons rfl rfl (.cons rfl rfl (.cons rfl rfl (.cons rfl rfl (.cons rfl rfl (.cons rfl rfl (.cons rfl rfl (.cons rfl rfl (.cons rfl rfl (.cons rfl rfl (.cons rfl rfl (.cons rfl rfl (.cons rfl rfl (.cons rfl rfl (.cons rfl rfl (.cons rfl rfl (.cons rfl rfl (.cons rfl rfl (.cons rfl rfl (.cons rfl rfl (.cons rfl rfl (.cons rfl rfl (.cons rfl rfl (.cons rfl rfl (.cons rfl rfl (.cons rfl rfl (.cons rfl rfl (.cons rfl rfl (.cons rfl rfl (.cons rfl rfl (.cons rfl rfl (.cons rfl rfl (.cons rfl rfl (.cons rfl rfl (.cons rfl rfl (.cons rfl rfl (.cons rfl rfl (.cons rfl rfl .nil)))))))))))))))))))))))))))))))))))))))))))))))) ?_
            refine CJ_region ?_
            refine RJ_q (Op_move rfl) rfl ?_
            refine RJ_q (Op_addN (i + 1) rfl rfl (by omega) (by omega)) rfl ?_
            refine RJ_q (Op_assign rfl) rfl ?_
            refine RJ_nil ?_
            refine NJ_back ⟨i + 1, _, _, some gt, c39, toks ++ [(getN b N).1.token], ⟨by omega, by omega, by simp [hlen], hall2, ((hF1.skip hm).fill b _ itemX).more (by omega)⟩, rfl, rfl, rfl⟩ (by omega) (.cons rfl (by first | rfl | (simp; done)) (.cons rfl (by first | rfl | (simp; done)) (.cons rfl (by first | rfl | (simp; done)) (.cons rfl (by first | rfl | (simp; done)) (.cons rfl (by first | rfl | (simp; done)) (.cons rfl (by first | rfl | (simp; done)) .nil)))))) (.cons (by first | ((repeat (first | with_reducible exact .here | apply Pick.there)); done) | ((repeat (first | exact .here | apply Pick.there)); done)) (.cons (by first | ((repeat (first | with_reducible exact .here | apply Pick.there)); done) | ((repeat (first | exact .here | apply Pick.there)); done)) (.cons (by first | ((repeat (first | with_reducible exact .here | apply Pick.there)); done) | ((repeat (first | exact .here | apply Pick.there)); done)) (by repeat (first | exact Imp.refl _ | refine Imp.skip ?_)))))
          · skip
            refine RJ_nil ?_
            refine NJ_then ?_
            refine CJ_env (E' := [(0, _), (1, _), (5, _), (6, _), (7, _), (8, _), (14, _), (15, _), (16, _), (17, _), (18, _), (19, _), (20, _), (21, _), (24, _), (25, _), (26, _), (27, _), (28, _), (29, _), (30, _), (31, _), (32, _), (33, _), (34, _), (35, _), (36, _), (37, _), (38, _), (39, _), (40, _), (41, _), (42, _), (43, _), (44, _), (61, _), (62, _), (63, _)]) (.cons rfl rfl (.cons rfl rfl (.cons rfl rfl (.cons rfl rfl (.cons rfl rfl (.cons rfl rfl (.cons rfl rfl (.cons rfl rfl (.cons rfl rfl (.cons rfl rfl (.cons rfl rfl (.cons rfl rfl (.cons rfl rfl (.cons rfl rfl (.cons rfl rfl (.cons rfl rfl (.cons rfl rfl (.cons rfl rfl (.cons rfl rfl (.cons rfl rfl (.cons rfl rfl (.cons rfl rfl (.cons rfl rfl (.cons rfl rfl (.cons rfl rfl (.cons rfl rfl (.cons rfl rfl (.cons rfl rfl (.cons rfl rfl (.cons rfl rfl (.cons rfl rfl (.cons rfl rfl (.cons rfl rfl (.cons rfl rfl (.cons rfl rfl (.cons rfl rfl (.cons rfl rfl (.cons rfl rfl .nil)))))))))))))))))))))))))))))))))))))) ?_
            refine CJ_else rfl (decide_eq_false he) ?_
            refine CJ_skip ?_
            refine NJ_blk ?_
            refine NJ_then ?_
            refine CJ_env (E' := [(0, _), (1, _), (5, _), (6, _), (7, _), (8, _), (14, _), (15, _), (16, _), (17, _), (18, _), (19, _), (20, _), (21, _), (24, _), (25, _), (26, _), (27, _), (28, _), (29, _), (30, _), (31, _), (32, _), (33, _), (34, _), (35, _), (36, _), (37, _), (38, _), (39, _), (40, _), (41, _), (42, _), (43, _), (44, _), (61, _), (62, _), (63, _)]) (.cons rfl rfl (.cons rfl rfl (.cons rfl rfl (.cons rfl rfl (.cons rfl rfl (.cons rfl rfl (.cons rfl rfl (.cons rfl rfl (.cons rfl rfl (.cons rfl rfl (.cons rfl rfl (.cons rfl rfl (.cons rfl rfl (.cons rfl rfl (.cons rfl rfl (.cons rfl rfl (.cons rfl rfl (.cons rfl rfl (.cons rfl rfl (.cons rfl rfl (.cons rfl rfl (.cons rfl rfl (.cons rfl rfl (.cons rfl rfl (.cons rfl rfl (.cons rfl rfl (.cons rfl rfl (.cons rfl rfl (.cons rfl rfl (.cons rfl rfl (.cons rfl rfl (.cons rfl rfl (.cons rfl rfl (.cons rfl rfl (.cons rfl rfl (.cons rfl rfl (.cons rfl rfl (.cons rfl rfl .nil)))))))))))))))))))))))))))))))))))))) ?_
            refine CJ_region ?_
            refine RJ_q (Op_move rfl) rfl ?_
            refine RJ_q (Op_addN (i + 1) rfl rfl (by omega) (by omega)) rfl ?_
            refine RJ_q (Op_assign rfl) rfl ?_
            refine RJ_nil ?_
            refine NJ_back ⟨i + 1, _, _, a39, c39, toks ++ [(getN b N).1.token], ⟨by omega, by omega, by simp [hlen], hall2, (hF1.skip hm).more (by omega)⟩, rfl, rfl, rfl⟩ (by omega) (.cons rfl (by first | rfl | (simp; done)) (.cons rfl (by first | rfl | (simp; done)) (.cons rfl (by first | rfl | (simp; done)) (.cons rfl (by first | rfl | (simp; done)) (.cons rfl (by first | rfl | (simp; done)) (.cons rfl (by first | rfl | (simp; done)) .nil)))))) (.cons (by first | ((repeat (first | with_reducible exact .here | apply Pick.there)); done) | ((repeat (first | exact .here | apply Pick.there)); done)) (.cons (by first | ((repeat (first | with_reducible exact .here | apply Pick.there)); done) | ((repeat (first | exact .here | apply Pick.there)); done)) (.cons (by first | ((repeat (first | with_reducible exact .here | apply Pick.there)); done) | ((repeat (first | exact .here | apply Pick.there)); done)) (by repeat (first | exact Imp.refl _ | refine Imp.skip ?_)))))
    · skip
      refine RJ_q (Op_pick_t rfl (decide_eq_true hi) rfl) rfl ?_
      refine RJ_nil ?_
      refine NJ_then ?_
      refine CJ_env (E' := [(0, _), (1, _), (5, _), (6, _), (7, _), (8, _), (14, _), (15, _), (16, _), (17, _), (18, _), (19, _), (20, _), (21, _)]) (.cons rfl rfl (.cons rfl rfl (.cons rfl rfl (.cons rfl rfl (.cons rfl rfl (.cons rfl rfl (.cons rfl rfl (.cons rfl rfl (.cons rfl rfl (.cons rfl rfl (.cons rfl rfl (.cons rfl rfl (.cons rfl rfl (.cons rfl rfl .nil)))))))))))))) ?_
      refine CJ_else rfl (decide_eq_false hi30) ?_
      refine CJ_exit ?_
      refine NJ_then_x ?_
      refine NJ_then_x ?_
      refine NJ_blk_hit ?_
      refine NJ_then ?_
      refine CJ_env (E' := [(0, _), (1, _), (5, _), (6, _), (7, _)]) (.cons rfl rfl (.cons rfl rfl (.cons rfl rfl (.cons rfl rfl (.cons rfl rfl .nil))))) ?_
      refine CJ_seq ?_
      refine CJ_region ?_
      refine RJ_q (Op_move rfl) rfl ?_
      refine RJ_p rfl (Op_call (vs := [_]) Try.func13 rfl rfl (NdFlush_any g N (2 * i) hF.ok (by omega)) rfl (.cons (by first | ((repeat (first | with_reducible exact .here | apply Pick.there)); done) | ((repeat (first | exact .here | apply Pick.there)); done)) (Imp.refl _))) ?_
      rintro _ _ ⟨_, ⟨rfl, rfl⟩, rfl⟩
      refine RJ_app1 ?_
      refine RJ_nil ?_
      refine NJ_then ?_
      refine CJ_env (E' := [(0, _), (1, _), (5, _), (6, _), (7, _)]) (.cons rfl rfl (.cons rfl rfl (.cons rfl rfl (.cons rfl rfl (.cons rfl rfl .nil))))) ?_
      refine CJ_seq ?_
      refine CJ_region ?_
      refine RJ_q (Op_move rfl) rfl ?_
      refine RJ_p rfl (Op_call (vs := [_]) Try.func14 rfl rfl (NdLook_any g (flushN N) (2 * i) hF.ok.flush (by omega)) rfl (.cons (by first | ((repeat (first | with_reducible exact .here | apply Pick.there)); done) | ((repeat (first | exact .here | apply Pick.there)); done)) (Imp.refl _))) ?_
      rintro _ _ ⟨_, ⟨rfl, rfl⟩, rfl⟩
      refine RJ_app1 ?_
      refine RJ_p rfl (Op_alloc zr42) ?_
      rintro _ _ ⟨b9, rfl, rfl⟩
      refine RJ_d0 (Op_store (cs' := #[_, _, _, _, _, _]) rfl rfl sz42 (by rfl) (by simp [Value.cells, Value.oneCell']) (by repeat (first | exact .here | apply Repl.there)) rfl (free_zero _ _) (by rfl)) ?_
      refine RJ_nil ?_
      refine NJ_then ?_
      refine CJ_env (E' := [(0, _), (1, _), (5, _), (6, _), (7, _), (9, _)]) (.cons rfl rfl (.cons rfl rfl (.cons rfl rfl (.cons rfl rfl (.cons rfl rfl (.cons rfl rfl .nil)))))) ?_
      refine CJ_seq ?_
      refine CJ_seq ?_
      refine CJ_region ?_
      refine RJ_q (Op_fieldAddr (o' := 1) rfl Try.underlying42 rfl sz3 rfl rfl) rfl ?_
      refine RJ_q (Op_load rfl (load_cell Try.underlying3 rfl (by first | ((repeat (first | with_reducible exact .here | apply Pick.there)); done) | ((repeat (first | exact .here | apply Pick.there)); done)) (Nth.s Nth.z))) rfl ?_
      refine RJ_q (Op_neq rfl rfl) rfl ?_
      refine RJ_q (Op_move rfl) rfl ?_
      refine RJ_yes (t := 82) rfl rfl (by simp [flushN]) ?_
      refine RJ_q (Op_fieldAddr (o' := 3) rfl Try.underlying42 rfl sz3 rfl rfl) rfl ?_
      refine RJ_yes (t := 82) rfl rfl (by simp [flushN]) ?_
      refine RJ_q (Op_load rfl (load_cell Try.underlying3 rfl (by first | ((repeat (first | with_reducible exact .here | apply Pick.there)); done) | ((repeat (first | exact .here | apply Pick.there)); done)) (Nth.s (Nth.s (Nth.s Nth.z))))) rfl ?_
      refine RJ_yes (t := 82) rfl rfl (by simp [flushN]) ?_
      refine RJ_q (Op_neq rfl rfl) rfl ?_
      refine RJ_q (Op_pick_f rfl (by simp [flushN]) rfl) rfl ?_
      refine RJ_q (Op_move rfl) rfl ?_
      refine RJ_yes (t := 87) rfl rfl (by simp [flushN]) ?_
      refine RJ_q (Op_fieldAddr (o' := 4) rfl Try.underlying42 rfl sz3 rfl rfl) rfl ?_
      refine RJ_yes (t := 87) rfl rfl (by simp [flushN]) ?_
      refine RJ_q (Op_load rfl (load_cell Try.underlying3 rfl (by first | ((repeat (first | with_reducible exact .here | apply Pick.there)); done) | ((repeat (first | exact .here | apply Pick.there)); done)) (Nth.s (Nth.s (Nth.s (Nth.s Nth.z)))))) rfl ?_
      refine RJ_yes (t := 87) rfl rfl (by simp [flushN]) ?_
      refine RJ_q (Op_neq rfl rfl) rfl ?_
      refine RJ_q (Op_pick_f rfl (by simp [flushN]) rfl) rfl ?_
      refine RJ_q (Op_move rfl) rfl ?_
      refine RJ_yes (t := 92) rfl rfl (by simp [flushN]) ?_
      refine RJ_q (Op_fieldAddr (o' := 0) rfl Try.underlying42 rfl sz3 rfl rfl) rfl ?_
      refine RJ_yes (t := 92) rfl rfl (by simp [flushN]) ?_
      refine RJ_q (Op_load rfl (load_cell Try.underlying3 rfl (by first | ((repeat (first | with_reducible exact .here | apply Pick.there)); done) | ((repeat (first | exact .here | apply Pick.there)); done)) Nth.z)) rfl ?_
      refine RJ_yes (t := 92) rfl rfl (by simp [flushN]) ?_
      refine RJ_q (Op_move rfl) rfl ?_
      refine RJ_yes (t := 92) rfl rfl (by simp [flushN]) ?_
      refine RJ_q (Op_neq rfl rfl) rfl ?_
      refine RJ_q (Op_pick_f rfl (by simp [flushN]) rfl) rfl ?_
      refine RJ_q (Op_move rfl) rfl ?_
      refine RJ_yes (t := 98) rfl rfl (by simp [flushN, szs, hF.kp]) ?_
      refine RJ_q (Op_fieldAddr (o' := 2) rfl Try.underlying42 rfl sz3 rfl rfl) rfl ?_
      refine RJ_yes (t := 98) rfl rfl (by simp [flushN, szs, hF.kp]) ?_
      refine RJ_q (Op_load rfl (load_cell Try.underlying3 rfl (by first | ((repeat (first | with_reducible exact .here | apply Pick.there)); done) | ((repeat (first | exact .here | apply Pick.there)); done)) (Nth.s (Nth.s Nth.z)))) rfl ?_
      refine RJ_yes (t := 98) rfl rfl (by simp [flushN, szs, hF.kp]) ?_
      refine RJ_q (Op_move rfl) rfl ?_
      refine RJ_yes (t := 98) rfl rfl (by simp [flushN, szs, hF.kp]) ?_
      refine RJ_q (Op_len_slice rfl Try.underlying22) rfl ?_
      refine RJ_yes (t := 98) rfl rfl (by simp [flushN, szs, hF.kp]) ?_
      refine RJ_q (Op_move rfl) rfl ?_
      refine RJ_yes (t := 98) rfl rfl (by simp [flushN, szs, hF.kp]) ?_
      refine RJ_q (Op_convInt64 rfl (by rw [Try.underlying5]; rfl) Try.underlying3 (by omega)) rfl ?_
      refine RJ_yes (t := 98) rfl rfl (by simp [flushN, szs, hF.kp]) ?_
      refine RJ_q (Op_rem rfl rfl (by decide)) rfl ?_
      rw [tmod8 hmk.1]
      refine RJ_yes (t := 98) rfl rfl (by simp [flushN, szs, hF.kp]) ?_
      refine RJ_q (Op_min rfl rfl) rfl ?_
      refine RJ_yes (t := 98) rfl rfl (by simp [flushN, szs, hF.kp]) ?_
      refine RJ_q (Op_neq rfl rfl) rfl ?_
      refine RJ_q (Op_pick_f rfl (by simp [flushN, szs, hF.kp]) rfl) rfl ?_
      refine RJ_nil ?_
      refine NJ_then ?_
      refine CJ_env (E' := [(0, _), (5, _), (6, _), (108, _)]) (.cons rfl rfl (.cons rfl rfl (.cons rfl rfl (.cons rfl rfl .nil)))) ?_
      refine CJ_else rfl (by have h1 := hF.ml; have h2 : ((flushN N)).marks = N.marks := rfl; rw [h2]; simp; omega) ?_
      refine CJ_skip ?_
      refine NJ_then ?_
      refine CJ_env (E' := [(0, _), (5, _), (6, _)]) (.cons rfl rfl (.cons rfl rfl (.cons rfl rfl .nil))) ?_
      refine CJ_seq ?_
      refine CJ_seq ?_
      refine CJ_region ?_
      refine RJ_q (Op_move rfl) rfl ?_
      refine RJ_q (Op_len_slice rfl Try.underlying40) rfl ?_
      refine RJ_q (Op_move rfl) rfl ?_
      refine RJ_nil ?_
      refine NJ_then ?_
      refine CJ_env (E' := [(0, _), (5, _), (6, _), (110, _), (111, _)]) (.cons rfl rfl (.cons rfl rfl (.cons rfl rfl (.cons rfl rfl (.cons rfl rfl .nil))))) ?_
      refine CJ_block ?_
      refine CJ_loop (fun E H m => ∃ (j : Nat) (ta : Option Nat), (j ≤ toks.length) ∧ E = [(0, .slice a l.length cap), (5, .pointer (some ⟨g, 0, none⟩)), (6, .slice (sl ta) toks.length tc), (110, .int .i64 (toks.length : Nat)), (111, .int .i64 (j : Nat))] ∧ H = [NodeP g (flushN N), Row I64T ta tc toks, old W] ++ R ∧ m = toks.length - j) (E' := [(0, .slice a l.length cap), (5, .pointer (some ⟨g, 0, none⟩)), (6, .slice (sl ta) toks.length tc), (110, .int .i64 (toks.length : Nat)), (111, .int .i64 (0 : Nat))]) (H' := [NodeP g (flushN N), Row I64T ta tc toks, old W] ++ R) (m := toks.length - 0) ⟨0, ta, Nat.zero_le _, rfl, rfl, rfl⟩ (.cons rfl rfl (.cons rfl rfl (.cons rfl rfl (.cons rfl rfl (.cons rfl rfl .nil))))) (.cons (by first | ((repeat (first | with_reducible exact .here | apply Pick.there)); done) | ((repeat (first | exact .here | apply Pick.there)); done)) (.cons (by first | ((repeat (first | with_reducible exact .here | apply Pick.there)); done) | ((repeat (first | exact .here | apply Pick.there)); done)) (.cons (by first | ((repeat (first | with_reducible exact .here | apply Pick.there)); done) | ((repeat (first | exact .here | apply Pick.there)); done)) (by repeat (first | exact Imp.refl _ | refine Imp.skip ?_))))) ?_
      rintro _ _ _ ⟨j, ta, hj0, rfl, rfl, rfl⟩
      refine CJ_app3 ?_
      refine CJ_seq ?_
      refine CJ_region ?_
      refine RJ_q (Op_lss rfl rfl) rfl ?_
      by_cases hj : (j : Int) < toks.length
      · skip
        have hltj : j < toks.length := by omega
        have hlti : j < l.length := by omega
        obtain ⟨b, hb⟩ : ∃ b, l[j]? = some b := ⟨l[j], List.getElem?_eq_getElem hlti⟩
        obtain ⟨pa, hpa, hcell⟩ := hS j b hb
        obtain ⟨tk, htk⟩ : ∃ tk, toks[j]? = some tk := ⟨toks[j], List.getElem?_eq_getElem hltj⟩
        have hbs := hall j b (by omega) hb
        refine RJ_nil ?_
        refine NJ_then ?_
        refine CJ_env (E' := [(0, _), (5, _), (6, _), (110, _), (111, _), (112, _)]) (.cons rfl rfl (.cons rfl rfl (.cons rfl rfl (.cons rfl rfl (.cons rfl rfl (.cons rfl rfl .nil)))))) ?_
        refine CJ_seq ?_
        refine CJ_then rfl (decide_eq_true hj) ?_
        refine CJ_skip ?_
        refine NJ_then ?_
        refine CJ_env (E' := [(0, _), (5, _), (6, _), (110, _), (111, _), (112, _)]) (.cons rfl rfl (.cons rfl rfl (.cons rfl rfl (.cons rfl rfl (.cons rfl rfl (.cons rfl rfl .nil)))))) ?_
        refine CJ_seq ?_
        refine CJ_block ?_
        refine CJ_seq ?_
        refine CJ_region ?_
        refine RJ_q (Op_move rfl) rfl ?_
        refine RJ_q (Op_assign rfl) rfl ?_
        refine RJ_nil ?_
        refine NJ_then ?_
        refine CJ_env (E' := [(0, _), (5, _), (6, _), (10, _), (110, _), (111, _), (112, _), (113, _)]) (.cons rfl rfl (.cons rfl rfl (.cons rfl rfl (.cons rfl rfl (.cons rfl rfl (.cons rfl rfl (.cons rfl rfl (.cons rfl rfl .nil)))))))) ?_
        refine CJ_seq ?_
        refine CJ_know (Row_know (T := I64T) (by first | ((repeat (first | with_reducible exact .here | apply Pick.there)); done) | ((repeat (first | exact .here | apply Pick.there)); done))) ?_
        intro hkn
        obtain ⟨gt, rfl⟩ := row_some hkn.2.2 (by intro e; subst e; simp at hltj)
        refine CJ_draw (.q 0 (.q 1 (.q 2 (.q 3 (.q 4 (.q 5 (.q 6 (.q 7 (.q 8 (.q 9 (.e 10 .done))))))))))) (by kernel_rfl) (by kernel_rfl) (by kernel_rfl) ?_
        refine SJ_q rfl (want_none rfl) rfl (fun _ _ => Op_move rfl) ?_
        refine SJ_q rfl (want_none rfl) rfl (fun _ _ => Op_move rfl) ?_
        refine SJ_q rfl (want_none rfl) rfl (fun _ _ => Op_move rfl) ?_
        refine SJ_q rfl (want_none rfl) rfl (fun _ _ => Op_indexOld rfl hpa rfl Try.underlying22 sz9 hlti) ?_
        refine SJ_load rfl (want_none rfl) rfl rfl (load_old Try.underlying9 rfl (by first | ((repeat (first | with_reducible exact .here | apply Pick.there)); done) | ((repeat (first | exact .here | apply Pick.there)); done)) hcell) ?_
        refine SJ_q rfl (want_none rfl) rfl (fun _ _ => Op_move rfl) ?_
        refine SJ_q rfl (want_none rfl) rfl (fun _ _ => Op_move rfl) ?_
        refine SJ_q rfl (want_none rfl) rfl (fun _ _ => Op_indexAddr (o' := j * I64T.sz + 0) rfl rfl Try.underlying40 sz2 (by omega) (by omega) (by simp [I64T])) ?_
        refine SJ_load rfl (want_none rfl) rfl rfl (load_row_cell (o := 0) Try.underlying2 rfl (by first | ((repeat (first | with_reducible exact .here | apply Pick.there)); done) | ((repeat (first | exact .here | apply Pick.there)); done)) htk Nth.z) ?_
        refine SJ_q rfl (want_none rfl) rfl (fun _ _ => Op_build (vs := [_, _]) (cells := [_, _, _, _]) Try.underlying29 zr29 rfl pl29 (by rfl)) ?_
        refine SJ_p (rd' := []) [] rfl (want_none rfl) rfl (Op_call (vs := [_, _, _, _, _]) Try.func9 rfl rfl (NdFill_any g (flushN N) (2 * i) hF.ok.flush (by omega) b tk ⟨0, 0, true, ⟨#[121]⟩, 2⟩ (by omega) (by decide)) rfl (.cons (by first | ((repeat (first | with_reducible exact .here | apply Pick.there)); done) | ((repeat (first | exact .here | apply Pick.there)); done)) (Imp.refl _))) (by kernel_rfl) rfl ?_
        rintro _ _ ⟨_, ⟨rfl, rfl⟩, rfl⟩
        refine OS_app1 ?_
        refine ⟨trivial, ?_⟩
        rw [fill_none (show ((flushN N)).lease = [] from rfl)]
        refine SJ_done ?_
        refine NJ_then ?_
        refine CJ_env (E' := [(0, _), (5, _), (6, _), (10, _), (110, _), (111, _), (112, _), (113, _), (114, _), (115, _), (116, _), (117, _), (118, _), (119, _), (120, _), (121, _), (122, _), (123, _), (124, _)]) (.cons rfl rfl (.cons rfl rfl (.cons rfl rfl (.cons rfl rfl (.cons rfl rfl (.cons rfl rfl (.cons rfl rfl (.cons rfl rfl (.cons rfl rfl (.cons rfl rfl (.cons rfl rfl (.cons rfl rfl (.cons rfl rfl (.cons rfl rfl (.cons rfl rfl (.cons rfl rfl (.cons rfl rfl (.cons rfl rfl (.cons rfl rfl .nil))))))))))))))))))) ?_
        refine CJ_else rfl rfl ?_
        refine CJ_skip ?_
        refine NJ_blk ?_
        refine NJ_then ?_
        refine CJ_env (E' := [(0, _), (5, _), (6, _), (10, _), (110, _), (111, _), (112, _), (113, _), (114, _), (115, _), (116, _), (117, _), (118, _), (119, _), (120, _), (121, _), (122, _), (123, _), (124, _)]) (.cons rfl rfl (.cons rfl rfl (.cons rfl rfl (.cons rfl rfl (.cons rfl rfl (.cons rfl rfl (.cons rfl rfl (.cons rfl rfl (.cons rfl rfl (.cons rfl rfl (.cons rfl rfl (.cons rfl rfl (.cons rfl rfl (.cons rfl rfl (.cons rfl rfl (.cons rfl rfl (.cons rfl rfl (.cons rfl rfl (.cons rfl rfl .nil))))))))))))))))))) ?_
        refine CJ_region ?_
        refine RJ_q (Op_addN (j + 1) rfl rfl (by omega) (by omega)) rfl ?_
        refine RJ_q (Op_move rfl) rfl ?_
        refine RJ_nil ?_
        refine NJ_back ⟨j + 1, some gt, by omega, rfl, rfl, rfl⟩ (by omega) (.cons rfl (by first | rfl | (simp; done)) (.cons rfl (by first | rfl | (simp; done)) (.cons rfl (by first | rfl | (simp; done)) (.cons rfl (by first | rfl | (simp; done)) (.cons rfl (by first | rfl | (simp; done)) .nil))))) (.cons (by first | ((repeat (first | with_reducible exact .here | apply Pick.there)); done) | ((repeat (first | exact .here | apply Pick.there)); done)) (.cons (by first | ((repeat (first | with_reducible exact .here | apply Pick.there)); done) | ((repeat (first | exact .here | apply Pick.there)); done)) (.cons (by first | ((repeat (first | with_reducible exact .here | apply Pick.there)); done) | ((repeat (first | exact .here | apply Pick.there)); done)) (by repeat (first | exact Imp.refl _ | refine Imp.skip ?_)))))
      · skip
        refine RJ_nil ?_
        refine NJ_then ?_
        refine CJ_env (E' := [(0, _), (5, _), (6, _), (110, _), (111, _), (112, _)]) (.cons rfl rfl (.cons rfl rfl (.cons rfl rfl (.cons rfl rfl (.cons rfl rfl (.cons rfl rfl .nil)))))) ?_
        refine CJ_seq ?_
        refine CJ_else rfl (decide_eq_false hj) ?_
        refine CJ_exit ?_
        refine NJ_then_x ?_
        refine NJ_then_x ?_
        refine NJ_blk_hit ?_
        refine NJ_then ?_
        refine CJ_env (E' := [(5, _)]) (.cons rfl rfl .nil) ?_
        refine CJ_seq ?_
        refine CJ_region ?_
        refine RJ_q (Op_move rfl) rfl ?_
        refine RJ_p rfl (Op_call (vs := [_]) Try.func15 rfl rfl (NdPurge_any g (flushN N) (2 * i) hF.ok.flush (by omega)) rfl (.cons (by first | ((repeat (first | with_reducible exact .here | apply Pick.there)); done) | ((repeat (first | exact .here | apply Pick.there)); done)) (Imp.refl _))) ?_
        rintro _ _ ⟨_, ⟨rfl, rfl⟩, rfl⟩
        refine RJ_app1 ?_
        refine RJ_nil ?_
        refine NJ_then ?_
        refine CJ_env (E' := [(5, _)]) (.cons rfl rfl .nil) ?_
        refine CJ_seq ?_
        refine CJ_region ?_
        refine RJ_q (Op_move rfl) rfl ?_
        refine RJ_p rfl (Op_call (vs := [_]) Try.func14 rfl rfl (NdLook_any g (purgeN (flushN N)) (2 * i) hF.ok.flush.purge (by omega)) rfl (.cons (by first | ((repeat (first | with_reducible exact .here | apply Pick.there)); done) | ((repeat (first | exact .here | apply Pick.there)); done)) (Imp.refl _))) ?_
        rintro _ _ ⟨_, ⟨rfl, rfl⟩, rfl⟩
        refine RJ_app1 ?_
        refine RJ_q (Op_build (vs := []) (cells := [_, _, _, _, _, _]) Try.underlying42 zr42 rfl pl42 (by rfl)) rfl ?_
        refine RJ_q (Op_struct_eql rfl rfl (by kernel_rfl) (EqJ_look _ _ _ _ _ 0 0 0 0 0 _ false)) rfl ?_
        refine RJ_q (Op_assign rfl) rfl ?_
        refine RJ_nil ?_
        refine NJ_then ?_
        refine CJ_env (E' := [(4, _)]) (.cons rfl rfl .nil) ?_
        refine CJ_ret ?_
        refine NJ_ret (.inl rfl) Try.results4 (ResJ_tmp rfl ResJ_nil) ⟨by first | rfl | (have h0 := hF.ok.it.kp; simp [packRes, purgeN, flushN, szs, relR_self h0]; done), rfl⟩ (.cons (by first | ((repeat (first | with_reducible exact .here | apply Pick.there)); done) | ((repeat (first | exact .here | apply Pick.there)); done)) (by repeat (first | exact Imp.refl _ | refine Imp.skip ?_)))
  · skip
    refine RJ_q (Op_move rfl) rfl ?_
    refine RJ_no (t := 18) false rfl rfl (decide_eq_false hi) (by decide) rfl ?_
    refine RJ_no (t := 18) false rfl rfl (decide_eq_false hi) (by decide) rfl ?_
    refine RJ_q (Op_pick_f rfl (decide_eq_false hi) rfl) rfl ?_
    refine RJ_nil ?_
    refine NJ_then ?_
    refine CJ_env (E' := [(0, _), (1, _), (5, _), (6, _), (7, _), (8, _), (14, _), (15, _), (16, _), (17, _), (18, _), (19, _), (20, _), (21, _)]) (.cons rfl rfl (.cons rfl rfl (.cons rfl rfl (.cons rfl rfl (.cons rfl rfl (.cons rfl rfl (.cons rfl rfl (.cons rfl rfl (.cons rfl rfl (.cons rfl rfl (.cons rfl rfl (.cons rfl rfl (.cons rfl rfl (.cons rfl rfl .nil)))))))))))))) ?_
    refine CJ_else rfl rfl ?_
    refine CJ_exit ?_
    refine NJ_then_x ?_
    refine NJ_then_x ?_
    refine NJ_blk_hit ?_
    refine NJ_then ?_
    refine CJ_env (E' := [(0, _), (1, _), (5, _), (6, _), (7, _)]) (.cons rfl rfl (.cons rfl rfl (.cons rfl rfl (.cons rfl rfl (.cons rfl rfl .nil))))) ?_
    refine CJ_seq ?_
    refine CJ_region ?_
    refine RJ_q (Op_move rfl) rfl ?_
    refine RJ_p rfl (Op_call (vs := [_]) Try.func13 rfl rfl (NdFlush_any g N (2 * i) hF.ok (by omega)) rfl (.cons (by first | ((repeat (first | with_reducible exact .here | apply Pick.there)); done) | ((repeat (first | exact .here | apply Pick.there)); done)) (Imp.refl _))) ?_
    rintro _ _ ⟨_, ⟨rfl, rfl⟩, rfl⟩
    refine RJ_app1 ?_
    refine RJ_nil ?_
    refine NJ_then ?_
    refine CJ_env (E' := [(0, _), (1, _), (5, _), (6, _), (7, _)]) (.cons rfl rfl (.cons rfl rfl (.cons rfl rfl (.cons rfl rfl (.cons rfl rfl .nil))))) ?_
    refine CJ_seq ?_
    refine CJ_region ?_
    refine RJ_q (Op_move rfl) rfl ?_
    refine RJ_p rfl (Op_call (vs := [_]) Try.func14 rfl rfl (NdLook_any g (flushN N) (2 * i) hF.ok.flush (by omega)) rfl (.cons (by first | ((repeat (first | with_reducible exact .here | apply Pick.there)); done) | ((repeat (first | exact .here | apply Pick.there)); done)) (Imp.refl _))) ?_
    rintro _ _ ⟨_, ⟨rfl, rfl⟩, rfl⟩
    refine RJ_app1 ?_
    refine RJ_p rfl (Op_alloc zr42) ?_
    rintro _ _ ⟨b9, rfl, rfl⟩
    refine RJ_d0 (Op_store (cs' := #[_, _, _, _, _, _]) rfl rfl sz42 (by rfl) (by simp [Value.cells, Value.oneCell']) (by repeat (first | exact .here | apply Repl.there)) rfl (free_zero _ _) (by rfl)) ?_
    refine RJ_nil ?_
    refine NJ_then ?_
    refine CJ_env (E' := [(0, _), (1, _), (5, _), (6, _), (7, _), (9, _)]) (.cons rfl rfl (.cons rfl rfl (.cons rfl rfl (.cons rfl rfl (.cons rfl rfl (.cons rfl rfl .nil)))))) ?_
    refine CJ_seq ?_
    refine CJ_seq ?_
    refine CJ_region ?_
    refine RJ_q (Op_fieldAddr (o' := 1) rfl Try.underlying42 rfl sz3 rfl rfl) rfl ?_
    refine RJ_q (Op_load rfl (load_cell Try.underlying3 rfl (by first | ((repeat (first | with_reducible exact .here | apply Pick.there)); done) | ((repeat (first | exact .here | apply Pick.there)); done)) (Nth.s Nth.z))) rfl ?_
    refine RJ_q (Op_neq rfl rfl) rfl ?_
    refine RJ_q (Op_move rfl) rfl ?_
    refine RJ_yes (t := 82) rfl rfl (by simp [flushN]) ?_
    refine RJ_q (Op_fieldAddr (o' := 3) rfl Try.underlying42 rfl sz3 rfl rfl) rfl ?_
    refine RJ_yes (t := 82) rfl rfl (by simp [flushN]) ?_
    refine RJ_q (Op_load rfl (load_cell Try.underlying3 rfl (by first | ((repeat (first | with_reducible exact .here | apply Pick.there)); done) | ((repeat (first | exact .here | apply Pick.there)); done)) (Nth.s (Nth.s (Nth.s Nth.z))))) rfl ?_
    refine RJ_yes (t := 82) rfl rfl (by simp [flushN]) ?_
    refine RJ_q (Op_neq rfl rfl) rfl ?_
    refine RJ_q (Op_pick_f rfl (by simp [flushN]) rfl) rfl ?_
    refine RJ_q (Op_move rfl) rfl ?_
    refine RJ_yes (t := 87) rfl rfl (by simp [flushN]) ?_
    refine RJ_q (Op_fieldAddr (o' := 4) rfl Try.underlying42 rfl sz3 rfl rfl) rfl ?_
    refine RJ_yes (t := 87) rfl rfl (by simp [flushN]) ?_
    refine RJ_q (Op_load rfl (load_cell Try.underlying3 rfl (by first | ((repeat (first | with_reducible exact .here | apply Pick.there)); done) | ((repeat (first | exact .here | apply Pick.there)); done)) (Nth.s (Nth.s (Nth.s (Nth.s Nth.z)))))) rfl ?_
    refine RJ_yes (t := 87) rfl rfl (by simp [flushN]) ?_
    refine RJ_q (Op_neq rfl rfl) rfl ?_
    refine RJ_q (Op_pick_f rfl (by simp [flushN]) rfl) rfl ?_
    refine RJ_q (Op_move rfl) rfl ?_
    refine RJ_yes (t := 92) rfl rfl (by simp [flushN]) ?_
    refine RJ_q (Op_fieldAddr (o' := 0) rfl Try.underlying42 rfl sz3 rfl rfl) rfl ?_
    refine RJ_yes (t := 92) rfl rfl (by simp [flushN]) ?_
    refine RJ_q (Op_load rfl (load_cell Try.underlying3 rfl (by first | ((repeat (first | with_reducible exact .here | apply Pick.there)); done) | ((repeat (first | exact .here | apply Pick.there)); done)) Nth.z)) rfl ?_
    refine RJ_yes (t := 92) rfl rfl (by simp [flushN]) ?_
    refine RJ_q (Op_move rfl) rfl ?_
    refine RJ_yes (t := 92) rfl rfl (by simp [flushN]) ?_
    refine RJ_q (Op_neq rfl rfl) rfl ?_
    refine RJ_q (Op_pick_f rfl (by simp [flushN]) rfl) rfl ?_
    refine RJ_q (Op_move rfl) rfl ?_
    refine RJ_yes (t := 98) rfl rfl (by simp [flushN, szs, hF.kp]) ?_
    refine RJ_q (Op_fieldAddr (o' := 2) rfl Try.underlying42 rfl sz3 rfl rfl) rfl ?_
    refine RJ_yes (t := 98) rfl rfl (by simp [flushN, szs, hF.kp]) ?_
    refine RJ_q (Op_load rfl (load_cell Try.underlying3 rfl (by first | ((repeat (first | with_reducible exact .here | apply Pick.there)); done) | ((repeat (first | exact .here | apply Pick.there)); done)) (Nth.s (Nth.s Nth.z)))) rfl ?_
    refine RJ_yes (t := 98) rfl rfl (by simp [flushN, szs, hF.kp]) ?_
    refine RJ_q (Op_move rfl) rfl ?_
    refine RJ_yes (t := 98) rfl rfl (by simp [flushN, szs, hF.kp]) ?_
    refine RJ_q (Op_len_slice rfl Try.underlying22) rfl ?_
    refine RJ_yes (t := 98) rfl rfl (by simp [flushN, szs, hF.kp]) ?_
    refine RJ_q (Op_move rfl) rfl ?_
    refine RJ_yes (t := 98) rfl rfl (by simp [flushN, szs, hF.kp]) ?_
    refine RJ_q (Op_convInt64 rfl (by rw [Try.underlying5]; rfl) Try.underlying3 (by omega)) rfl ?_
    refine RJ_yes (t := 98) rfl rfl (by simp [flushN, szs, hF.kp]) ?_
    refine RJ_q (Op_rem rfl rfl (by decide)) rfl ?_
    rw [tmod8 hmk.1]
    refine RJ_yes (t := 98) rfl rfl (by simp [flushN, szs, hF.kp]) ?_
    refine RJ_q (Op_min rfl rfl) rfl ?_
    refine RJ_yes (t := 98) rfl rfl (by simp [flushN, szs, hF.kp]) ?_
    refine RJ_q (Op_neq rfl rfl) rfl ?_
    refine RJ_q (Op_pick_f rfl (by simp [flushN, szs, hF.kp]) rfl) rfl ?_
    refine RJ_nil ?_
    refine NJ_then ?_
    refine CJ_env (E' := [(0, _), (5, _), (6, _), (108, _)]) (.cons rfl rfl (.cons rfl rfl (.cons rfl rfl (.cons rfl rfl .nil)))) ?_
    refine CJ_else rfl (by have h1 := hF.ml; have h2 : ((flushN N)).marks = N.marks := rfl; rw [h2]; simp; omega) ?_
    refine CJ_skip ?_
    refine NJ_then ?_
    refine CJ_env (E' := [(0, _), (5, _), (6, _)]) (.cons rfl rfl (.cons rfl rfl (.cons rfl rfl .nil))) ?_
    refine CJ_seq ?_
    refine CJ_seq ?_
    refine CJ_region ?_
    refine RJ_q (Op_move rfl) rfl ?_
    refine RJ_q (Op_len_slice rfl Try.underlying40) rfl ?_
    refine RJ_q (Op_move rfl) rfl ?_
    refine RJ_nil ?_
    refine NJ_then ?_
    refine CJ_env (E' := [(0, _), (5, _), (6, _), (110, _), (111, _)]) (.cons rfl rfl (.cons rfl rfl (.cons rfl rfl (.cons rfl rfl (.cons rfl rfl .nil))))) ?_
    refine CJ_block ?_
    refine CJ_loop (fun E H m => ∃ (j : Nat) (ta : Option Nat), (j ≤ toks.length) ∧ E = [(0, .slice a l.length cap), (5, .pointer (some ⟨g, 0, none⟩)), (6, .slice (sl ta) toks.length tc), (110, .int .i64 (toks.length : Nat)), (111, .int .i64 (j : Nat))] ∧ H = [NodeP g (flushN N), Row I64T ta tc toks, old W] ++ R ∧ m = toks.length - j) (E' := [(0, .slice a l.length cap), (5, .pointer (some ⟨g, 0, none⟩)), (6, .slice (sl ta) toks.length tc), (110, .int .i64 (toks.length : Nat)), (111, .int .i64 (0 : Nat))]) (H' := [NodeP g (flushN N), Row I64T ta tc toks, old W] ++ R) (m := toks.length - 0) ⟨0, ta, Nat.zero_le _, rfl, rfl, rfl⟩ (.cons rfl rfl (.cons rfl rfl (.cons rfl rfl (.cons rfl rfl (.cons rfl rfl .nil))))) (.cons (by first | ((repeat (first | with_reducible exact .here | apply Pick.there)); done) | ((repeat (first | exact .here | apply Pick.there)); done)) (.cons (by first | ((repeat (first | with_reducible exact .here | apply Pick.there)); done) | ((repeat (first | exact .here | apply Pick.there)); done)) (.cons (by first | ((repeat (first | with_reducible exact .here | apply Pick.there)); done) | ((repeat (first | exact .here | apply Pick.there)); done)) (by repeat (first | exact Imp.refl _ | refine Imp.skip ?_))))) ?_
    rintro _ _ _ ⟨j, ta, hj0, rfl, rfl, rfl⟩
    refine CJ_app3 ?_
    refine CJ_seq ?_
    refine CJ_region ?_
    refine RJ_q (Op_lss rfl rfl) rfl ?_
    by_cases hj : (j : Int) < toks.length
    · skip
      have hltj : j < toks.length := by omega
      have hlti : j < l.length := by omega
      obtain ⟨b, hb⟩ : ∃ b, l[j]? = some b := ⟨l[j], List.getElem?_eq_getElem hlti⟩
      obtain ⟨pa, hpa, hcell⟩ := hS j b hb
      obtain ⟨tk, htk⟩ : ∃ tk, toks[j]? = some tk := ⟨toks[j], List.getElem?_eq_getElem hltj⟩
      have hbs := hall j b (by omega) hb
      refine RJ_nil ?_
      refine NJ_then ?_
      refine CJ_env (E' := [(0, _), (5, _), (6, _), (110, _), (111, _), (112, _)]) (.cons rfl rfl (.cons rfl rfl (.cons rfl rfl (.cons rfl rfl (.cons rfl rfl (.cons rfl rfl .nil)))))) ?_
      refine CJ_seq ?_
      refine CJ_then rfl (decide_eq_true hj) ?_
      refine CJ_skip ?_
      refine NJ_then ?_
      refine CJ_env (E' := [(0, _), (5, _), (6, _), (110, _), (111, _), (112, _)]) (.cons rfl rfl (.cons rfl rfl (.cons rfl rfl (.cons rfl rfl (.cons rfl rfl (.cons rfl rfl .nil)))))) ?_
      refine CJ_seq ?_
      refine CJ_block ?_
      refine CJ_seq ?_
      refine CJ_region ?_
      refine RJ_q (Op_move rfl) rfl ?_
      refine RJ_q (Op_assign rfl) rfl ?_
      refine RJ_nil ?_
      refine NJ_then ?_
      refine CJ_env (E' := [(0, _), (5, _), (6, _), (10, _), (110, _), (111, _), (112, _), (113, _)]) (.cons rfl rfl (.cons rfl rfl (.cons rfl rfl (.cons rfl rfl (.cons rfl rfl (.cons rfl rfl (.cons rfl rfl (.cons rfl rfl .nil)))))))) ?_
      refine CJ_seq ?_
      refine CJ_know (Row_know (T := I64T) (by first | ((repeat (first | with_reducible exact .here | apply Pick.there)); done) | ((repeat (first | exact .here | apply Pick.there)); done))) ?_
      intro hkn
      obtain ⟨gt, rfl⟩ := row_some hkn.2.2 (by intro e; subst e; simp at hltj)
      refine CJ_draw (.q 0 (.q 1 (.q 2 (.q 3 (.q 4 (.q 5 (.q 6 (.q 7 (.q 8 (.q 9 (.e 10 .done))))))))))) (by kernel_rfl) (by kernel_rfl) (by kernel_rfl) ?_
      refine SJ_q rfl (want_none rfl) rfl (fun _ _ => Op_move rfl) ?_
      refine SJ_q rfl (want_none rfl) rfl (fun _ _ => Op_move rfl) ?_
      refine SJ_q rfl (want_none rfl) rfl (fun _ _ => Op_move rfl) ?_
      refine SJ_q rfl (want_none rfl) rfl (fun _ _ => Op_indexOld rfl hpa rfl Try.underlying22 sz9 hlti) ?_
      refine SJ_load rfl (want_none rfl) rfl rfl (load_old Try.underlying9 rfl (by first | ((repeat (first | with_reducible exact .here | apply Pick.there)); done) | ((repeat (first | exact .here | apply Pick.there)); done)) hcell) ?_
      refine SJ_q rfl (want_none rfl) rfl (fun _ _ => Op_move rfl) ?_
      refine SJ_q rfl (want_none rfl) rfl (fun _ _ => Op_move rfl) ?_
      refine SJ_q rfl (want_none rfl) rfl (fun _ _ => Op_indexAddr (o' := j * I64T.sz + 0) rfl rfl Try.underlying40 sz2 (by omega) (by omega) (by simp [I64T])) ?_
      refine SJ_load rfl (want_none rfl) rfl rfl (load_row_cell (o := 0) Try.underlying2 rfl (by first | ((repeat (first | with_reducible exact .here | apply Pick.there)); done) | ((repeat (first | exact .here | apply Pick.there)); done)) htk Nth.z) ?_
      refine SJ_q rfl (want_none rfl) rfl (fun _ _ => Op_build (vs := [_, _]) (cells := [_, _, _, _]) Try.underlying29 zr29 rfl pl29 (by rfl)) ?_
      refine SJ_p (rd' := []) [] rfl (want_none rfl) rfl (Op_call (vs := [_, _, _, _, _]) Try.func9 rfl rfl (NdFill_any g (flushN N) (2 * i) hF.ok.flush (by omega) b tk ⟨0, 0, true, ⟨#[121]⟩, 2⟩ (by omega) (by decide)) rfl (.cons (by first | ((repeat (first | with_reducible exact .here | apply Pick.there)); done) | ((repeat (first | exact .here | apply Pick.there)); done)) (Imp.refl _))) (by kernel_rfl) rfl ?_
      rintro _ _ ⟨_, ⟨rfl, rfl⟩, rfl⟩
      refine OS_app1 ?_
      refine ⟨trivial, ?_⟩
      rw [fill_none (show ((flushN N)).lease = [] from rfl)]
      refine SJ_done ?_
      refine NJ_then ?_
      refine CJ_env (E' := [(0, _), (5, _), (6, _), (10, _), (110, _), (111, _), (112, _), (113, _), (114, _), (115, _), (116, _), (117, _), (118, _), (119, _), (120, _), (121, _), (122, _), (123, _), (124, _)]) (.cons rfl rfl (.cons rfl rfl (.cons rfl rfl (.cons rfl rfl (.cons rfl rfl (.cons rfl rfl (.cons rfl rfl (.cons rfl rfl (.cons rfl rfl (.cons rfl rfl (.cons rfl rfl (.cons rfl rfl (.cons rfl rfl (.cons rfl rfl (.cons rfl rfl (.cons rfl rfl (.cons rfl rfl (.cons rfl rfl (.cons rfl rfl .nil))))))))))))))))))) ?_
      refine CJ_else rfl rfl ?_
      refine CJ_skip ?_
      refine NJ_blk ?_
      refine NJ_then ?_
      refine CJ_env (E' := [(0, _), (5, _), (6, _), (10, _), (110, _), (111, _), (112, _), (113, _), (114, _), (115, _), (116, _), (117, _), (118, _), (119, _), (120, _), (121, _), (122, _), (123, _), (124, _)]) (.cons rfl rfl (.cons rfl rfl (.cons rfl rfl (.cons rfl rfl (.cons rfl rfl (.cons rfl rfl (.cons rfl rfl (.cons rfl rfl (.cons rfl rfl (.cons rfl rfl (.cons rfl rfl (.cons rfl rfl (.cons rfl rfl (.cons rfl rfl (.cons rfl rfl (.cons rfl rfl (.cons rfl rfl (.cons rfl rfl (.cons rfl rfl .nil))))))))))))))))))) ?_
      refine CJ_region ?_
      refine RJ_q (Op_addN (j + 1) rfl rfl (by omega) (by omega)) rfl ?_
      refine RJ_q (Op_move rfl) rfl ?_
      refine RJ_nil ?_
      refine NJ_back ⟨j + 1, some gt, by omega, rfl, rfl, rfl⟩ (by omega) (.cons rfl (by first | rfl | (simp; done)) (.cons rfl (by first | rfl | (simp; done)) (.cons rfl (by first | rfl | (simp; done)) (.cons rfl (by first | rfl | (simp; done)) (.cons rfl (by first | rfl | (simp; done)) .nil))))) (.cons (by first | ((repeat (first | with_reducible exact .here | apply Pick.there)); done) | ((repeat (first | exact .here | apply Pick.there)); done)) (.cons (by first | ((repeat (first | with_reducible exact .here | apply Pick.there)); done) | ((repeat (first | exact .here | apply Pick.there)); done)) (.cons (by first | ((repeat (first | with_reducible exact .here | apply Pick.there)); done) | ((repeat (first | exact .here | apply Pick.there)); done)) (by repeat (first | exact Imp.refl _ | refine Imp.skip ?_)))))
    · skip
      refine RJ_nil ?_
      refine NJ_then ?_
      refine CJ_env (E' := [(0, _), (5, _), (6, _), (110, _), (111, _), (112, _)]) (.cons rfl rfl (.cons rfl rfl (.cons rfl rfl (.cons rfl rfl (.cons rfl rfl (.cons rfl rfl .nil)))))) ?_
      refine CJ_seq ?_
      refine CJ_else rfl (decide_eq_false hj) ?_
      refine CJ_exit ?_
      refine NJ_then_x ?_
      refine NJ_then_x ?_
      refine NJ_blk_hit ?_
      refine NJ_then ?_
      refine CJ_env (E' := [(5, _)]) (.cons rfl rfl .nil) ?_
      refine CJ_seq ?_
      refine CJ_region ?_
      refine RJ_q (Op_move rfl) rfl ?_
      refine RJ_p rfl (Op_call (vs := [_]) Try.func15 rfl rfl (NdPurge_any g (flushN N) (2 * i) hF.ok.flush (by omega)) rfl (.cons (by first | ((repeat (first | with_reducible exact .here | apply Pick.there)); done) | ((repeat (first | exact .here | apply Pick.there)); done)) (Imp.refl _))) ?_
      rintro _ _ ⟨_, ⟨rfl, rfl⟩, rfl⟩
      refine RJ_app1 ?_
      refine RJ_nil ?_
      refine NJ_then ?_
      refine CJ_env (E' := [(5, _)]) (.cons rfl rfl .nil) ?_
      refine CJ_seq ?_
      refine CJ_region ?_
      refine RJ_q (Op_move rfl) rfl ?_
      refine RJ_p rfl (Op_call (vs := [_]) Try.func14 rfl rfl (NdLook_any g (purgeN (flushN N)) (2 * i) hF.ok.flush.purge (by omega)) rfl (.cons (by first | ((repeat (first | with_reducible exact .here | apply Pick.there)); done) | ((repeat (first | exact .here | apply Pick.there)); done)) (Imp.refl _))) ?_
      rintro _ _ ⟨_, ⟨rfl, rfl⟩, rfl⟩
      refine RJ_app1 ?_
      refine RJ_q (Op_build (vs := []) (cells := [_, _, _, _, _, _]) Try.underlying42 zr42 rfl pl42 (by rfl)) rfl ?_
      refine RJ_q (Op_struct_eql rfl rfl (by kernel_rfl) (EqJ_look _ _ _ _ _ 0 0 0 0 0 _ false)) rfl ?_
      refine RJ_q (Op_assign rfl) rfl ?_
      refine RJ_nil ?_
      refine NJ_then ?_
      refine CJ_env (E' := [(4, _)]) (.cons rfl rfl .nil) ?_
      refine CJ_ret ?_
      refine NJ_ret (.inl rfl) Try.results4 (ResJ_tmp rfl ResJ_nil) ⟨by first | rfl | (have h0 := hF.ok.it.kp; simp [packRes, purgeN, flushN, szs, relR_self h0]; done), rfl⟩ (.cons (by first | ((repeat (first | with_reducible exact .here | apply Pick.there)); done) | ((repeat (first | exact .here | apply Pick.there)); done)) (by repeat (first | exact Imp.refl _ | refine Imp.skip ?_)))
end Go.Proofs.Ytgakbdofjlhoeaa.SL
