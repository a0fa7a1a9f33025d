/- Contracts of MarkerPlays. -/
import Derived.Test.Ytbaecpddhdeapaas08MpV
import Derived.Test.Ytbaecpddhdeapaas08Fb
namespace Go.Proofs.Ytbaecpddhdeapaa.SL
open Go Go.RowKit
set_option maxRecDepth 20000 in
set_option maxHeartbeats 8000000 in
theorem MarkerPlays_any (W : World) (lim : Int) (a : Option Addr) (cap : Nat) (ops : List OpM) (hS : OpsAt W a ops) (hl : ops.length ≤ 9223372036854775807) : Spec Try.prog 6 #[.int .i64 lim, .slice a ops.length cap] [old W] (fun v C => v = .bool true ∧ C = [old W]) := by
 refine Spec_intro (n := 207) (args := [.int .i64 lim, .slice a ops.length cap]) Try.func6 rfl rfl rfl fun s R => ?_
 refine CJ_app1 ?_
 refine CJ_env (E' := [(0, _), (1, _)]) (.cons rfl rfl (.cons rfl rfl .nil)) ?_
 refine CJ_seq ?_
 refine CJ_region ?_
 refine RJ_q (Op_assign rfl) rfl ?_
 refine RJ_nil ?_
 refine NJ_then ?_
 refine CJ_env (E' := [(0, _), (1, _), (4, _)]) (.cons rfl rfl (.cons rfl rfl (.cons rfl rfl .nil))) ?_
 refine CJ_seq ?_
 refine CJ_seq ?_
 refine CJ_region ?_
 refine RJ_p rfl (Op_call (vs := []) Try.func7 rfl rfl (awake_any) rfl (Imp.refl _)) ?_
 rintro _ _ ⟨_, ⟨rfl, rfl⟩, rfl⟩
 refine RJ_app0 ?_
 refine RJ_q (Op_not rfl) rfl ?_
 refine RJ_nil ?_
 refine NJ_then ?_
 refine CJ_env (E' := [(0, _), (1, _), (4, _), (15, _)]) (.cons rfl rfl (.cons rfl rfl (.cons rfl rfl (.cons rfl rfl .nil)))) ?_
 refine CJ_else rfl (congrArg Bool.not rfl) ?_
 refine CJ_skip ?_
 refine NJ_then ?_
 refine CJ_env (E' := [(0, _), (1, _), (4, _)]) (.cons rfl rfl (.cons rfl rfl (.cons rfl rfl .nil))) ?_
 refine CJ_seq ?_
 refine CJ_region ?_
 refine RJ_q (Op_move rfl) rfl ?_
 refine RJ_p rfl (Op_call (vs := [_]) Try.func8 rfl rfl (MkNew_any lim) rfl (Imp.refl _)) ?_
 rintro _ _ ⟨_, ⟨g, rfl, rfl⟩, rfl⟩
 refine RJ_app1 ?_
 refine RJ_q (Op_move rfl) rfl ?_
 refine RJ_q (Op_build (vs := [_]) (cells := [_, _]) Try.underlying45 zr45 rfl pl45 (by rfl)) rfl ?_
 refine RJ_p rfl (Op_box rfl) ?_
 rintro _ _ ⟨b20, rfl, rfl⟩
 refine RJ_q (Op_assign rfl) rfl ?_
 refine RJ_q (Op_assign rfl) rfl ?_
 refine RJ_nil ?_
 refine NJ_then ?_
 refine CJ_env (E' := [(1, _), (4, _), (5, _), (6, _)]) (.cons rfl rfl (.cons rfl rfl (.cons rfl rfl (.cons rfl rfl .nil)))) ?_
 refine CJ_seq ?_
 refine CJ_region ?_
 refine RJ_q (Op_assign rfl) rfl ?_
 refine RJ_nil ?_
 refine NJ_then ?_
 refine CJ_env (E' := [(1, _), (4, _), (5, _), (6, _), (7, _)]) (.cons rfl rfl (.cons rfl rfl (.cons rfl rfl (.cons rfl rfl (.cons rfl rfl .nil))))) ?_
 refine CJ_seq ?_
 refine CJ_seq ?_
 refine CJ_region ?_
 refine RJ_q (Op_assign rfl) rfl ?_
 refine RJ_nil ?_
 refine NJ_then ?_
 refine CJ_env (E' := [(1, _), (4, _), (5, _), (6, _), (7, _), (8, _)]) (.cons rfl rfl (.cons rfl rfl (.cons rfl rfl (.cons rfl rfl (.cons rfl rfl (.cons rfl rfl .nil)))))) ?_
 refine CJ_block ?_
 refine CJ_loop (fun E H mz => ∃ (i : Nat) (L : List Mark) (ra : Option Nat) (rc : Nat), (i ≤ 200 ∧ i ≤ ops.length ∧ PlI i L) ∧ E = [(1, .slice a ops.length cap), (5, .pointer (some ⟨g, 0, none⟩)), (6, .pointer (some ⟨b20, 0, none⟩)), (7, .pointer none), (8, .int .i64 (i : Nat))] ∧ H = [MarksP g lim (L), RTabC b20 ra (sortM (L)).length rc lim, Row RkT ra rc (sortM (L)), old W] ++ R ∧ mz = 200 - i) (E' := [(1, .slice a ops.length cap), (5, .pointer (some ⟨g, 0, none⟩)), (6, .pointer (some ⟨b20, 0, none⟩)), (7, .pointer none), (8, .int .i64 (0 : Nat))]) (H' := [MarksP g lim ([]), RTabC b20 none (sortM ([])).length 0 lim, Row RkT none 0 (sortM ([])), old W] ++ R) (m := 200 - 0) ⟨0, [], none, 0, ⟨by omega, by omega, .nil 0⟩, rfl, rfl, rfl⟩ (.cons rfl rfl (.cons rfl rfl (.cons rfl rfl (.cons rfl rfl (.cons rfl rfl .nil))))) (by rw [sortM_nil]; exact (.trans (Row_none RkT).imp_add (.k (e := (.k (e := (.k (e := (.k (e := skk)))))))))) ?_
 rintro _ _ _ ⟨i, L, ra, rc, ⟨hi, hio, hI⟩, rfl, rfl, rfl⟩
 refine CJ_app4 ?_
 refine CJ_seq ?_
 refine CJ_seq ?_
 refine CJ_region ?_
 refine RJ_q (Op_move rfl) rfl ?_
 refine RJ_q (Op_move rfl) rfl ?_
 refine RJ_q (Op_len_slice rfl Try.underlying22) rfl ?_
 refine RJ_q (Op_lss rfl rfl) rfl ?_
 by_cases hi1 : (i : Int) < ops.length
 ·skip
  refine RJ_q (Op_move rfl) rfl ?_
  refine RJ_yes (t := 25) rfl rfl (decide_eq_true hi1) ?_
  refine RJ_q (Op_move rfl) rfl ?_
  refine RJ_yes (t := 25) rfl rfl (decide_eq_true hi1) ?_
  refine RJ_q (Op_lss rfl rfl) rfl ?_
  by_cases hi2 : (i : Int) < 200
  ·skip
   obtain ⟨o, ho⟩ : ∃ o, ops[i]? = some o := ⟨ops[i], List.getElem?_eq_getElem (by omega)⟩
   obtain ⟨po, hpo, hco⟩ := hS _ _ ho
   refine RJ_q (Op_pick_t rfl (decide_eq_true hi1) rfl) rfl ?_
   refine RJ_nil ?_
   refine NJ_then ?_
   refine CJ_env (E' := [(1, _), (5, _), (6, _), (7, _), (8, _), (28, _)]) (.cons rfl rfl (.cons rfl rfl (.cons rfl rfl (.cons rfl rfl (.cons rfl rfl (.cons rfl rfl .nil)))))) ?_
   refine CJ_then rfl (decide_eq_true hi2) ?_
   refine CJ_skip ?_
   refine NJ_then ?_
   refine CJ_env (E' := [(1, _), (5, _), (6, _), (7, _), (8, _)]) (.cons rfl rfl (.cons rfl rfl (.cons rfl rfl (.cons rfl rfl (.cons rfl rfl .nil))))) ?_
   refine CJ_seq ?_
   refine CJ_block ?_
   refine CJ_seq ?_
   refine CJ_region ?_
   refine RJ_q (Op_move rfl) rfl ?_
   refine RJ_q (Op_move rfl) rfl ?_
   refine RJ_q (Op_indexOld rfl hpo rfl Try.underlying22 sz29 (by omega)) rfl ?_
   refine RJ_q (Op_load rfl (load_old_struct (vs := [.int .i64 o.k, .string o.key, .int .i64 o.ses, .int .i64 o.req]) Try.underlying29 sz29 pkk rfl hco)) rfl ?_
   refine RJ_p rfl (Op_alloc zr29) ?_
   rintro _ _ ⟨b9, rfl, rfl⟩
   refine RJ_d0 (Op_store (cs' := #[_, _, _, _]) rfl rfl sz29 (by rfl) (by simp [Value.cells, Value.oneCell']) rpp rfl (free_zero _ _) (by rfl)) ?_
   refine RJ_nil ?_
   refine NJ_then ?_
   refine CJ_env (E' := [(1, _), (5, _), (6, _), (7, _), (8, _), (9, _)]) (.cons rfl rfl (.cons rfl rfl (.cons rfl rfl (.cons rfl rfl (.cons rfl rfl (.cons rfl rfl .nil)))))) ?_
   refine CJ_seq ?_
   refine CJ_region ?_
   refine RJ_q (Op_fieldAddr (o' := 1) rfl Try.underlying29 rfl sz9 rfl rfl) rfl ?_
   refine RJ_q (Op_load rfl (load_cell Try.underlying9 rfl pkk (Nth.s Nth.z))) rfl ?_
   refine RJ_q (Op_fieldAddr (o' := 2) rfl Try.underlying29 rfl sz3 rfl rfl) rfl ?_
   refine RJ_q (Op_load rfl (load_cell Try.underlying3 rfl pkk (Nth.s (Nth.s Nth.z)))) rfl ?_
   refine RJ_q (Op_fieldAddr (o' := 3) rfl Try.underlying29 rfl sz3 rfl rfl) rfl ?_
   refine RJ_q (Op_load rfl (load_cell Try.underlying3 rfl pkk (Nth.s (Nth.s (Nth.s Nth.z))))) rfl ?_
   refine RJ_q (Op_build (vs := [_, _, _]) (cells := [_, _, _]) Try.underlying46 zr46 rfl pl46 (by rfl)) rfl ?_
   refine RJ_p rfl (Op_alloc zr46) ?_
   rintro _ _ ⟨b10, rfl, rfl⟩
   refine RJ_d0 (Op_store (cs' := #[_, _, _]) rfl rfl sz46 (by rfl) (by simp [Value.cells, Value.oneCell']) rpp rfl (free_zero _ _) (by rfl)) ?_
   refine RJ_nil ?_
   refine NJ_then ?_
   refine CJ_env (E' := [(1, _), (5, _), (6, _), (7, _), (8, _), (9, _), (10, _)]) (.cons rfl rfl (.cons rfl rfl (.cons rfl rfl (.cons rfl rfl (.cons rfl rfl (.cons rfl rfl (.cons rfl rfl .nil))))))) ?_
   refine CJ_seq ?_
   refine CJ_region ?_
   refine RJ_q (Op_assign rfl) rfl ?_
   refine RJ_nil ?_
   refine NJ_then ?_
   refine CJ_env (E' := [(1, _), (5, _), (6, _), (7, _), (8, _), (9, _), (10, _), (11, _)]) (.cons rfl rfl (.cons rfl rfl (.cons rfl rfl (.cons rfl rfl (.cons rfl rfl (.cons rfl rfl (.cons rfl rfl (.cons rfl rfl .nil)))))))) ?_
   refine CJ_meet (fun E H => ∃ (L2 : List Mark) (ra2 : Option Nat) (rc2 : Nat), (PlI (i + 1) L2) ∧ E = [(1, .slice a ops.length cap), (5, .pointer (some ⟨g, 0, none⟩)), (6, .pointer (some ⟨b20, 0, none⟩)), (7, .pointer none), (8, .int .i64 (i : Nat)), (9, .pointer (some ⟨b9, 0, none⟩)), (11, .bool true)] ∧ H = [MarksP g lim (L2), RTabC b20 ra2 (sortM (L2)).length rc2 lim, Row RkT ra2 rc2 (sortM (L2)), old W, pt b9 (.cells #[.int .i64 o.k, .string o.key, .int .i64 o.ses, .int .i64 o.req] 29 (0, 0))] ++ R) ?_ ?_
   ·skip
    refine CJ_seq ?_
    refine CJ_region ?_
    refine RJ_q (Op_fieldAddr (o' := 0) rfl Try.underlying29 rfl sz3 rfl rfl) rfl ?_
    refine RJ_q (Op_load rfl (load_cell Try.underlying3 rfl pkk Nth.z)) rfl ?_
    refine RJ_nil ?_
    refine NJ_then ?_
    refine CJ_env (E' := [(1, _), (5, _), (6, _), (7, _), (8, _), (9, _), (10, _), (11, _), (43, _)]) (.cons rfl rfl (.cons rfl rfl (.cons rfl rfl (.cons rfl rfl (.cons rfl rfl (.cons rfl rfl (.cons rfl rfl (.cons rfl rfl (.cons rfl rfl .nil))))))))) ?_
    refine CJ_block ?_
    refine CJ_seq ?_
    refine CJ_region ?_
    refine RJ_q (Op_eql rfl rfl) rfl ?_
    by_cases k0 : o.k = 0
    ·skip
     refine RJ_q (Op_assign rfl) rfl ?_
     refine RJ_nil ?_
     refine NJ_then ?_
     refine CJ_env (E' := [(1, _), (5, _), (6, _), (7, _), (8, _), (9, _), (10, _), (11, _), (43, _), (44, _)]) (.cons rfl rfl (.cons rfl rfl (.cons rfl rfl (.cons rfl rfl (.cons rfl rfl (.cons rfl rfl (.cons rfl rfl (.cons rfl rfl (.cons rfl rfl (.cons rfl rfl .nil)))))))))) ?_
     refine CJ_then rfl (decide_eq_true k0) ?_
     refine CJ_seq ?_
     refine CJ_region ?_
     refine RJ_q (Op_move rfl) rfl ?_
     refine RJ_q (Op_fieldAddr (o' := 1) rfl Try.underlying29 rfl sz9 rfl rfl) rfl ?_
     refine RJ_q (Op_load rfl (load_cell Try.underlying9 rfl pkk (Nth.s Nth.z))) rfl ?_
     refine RJ_q (Op_fieldAddr (o' := 2) rfl Try.underlying29 rfl sz3 rfl rfl) rfl ?_
     refine RJ_q (Op_load rfl (load_cell Try.underlying3 rfl pkk (Nth.s (Nth.s Nth.z)))) rfl ?_
     refine RJ_q (Op_fieldAddr (o' := 3) rfl Try.underlying29 rfl sz3 rfl rfl) rfl ?_
     refine RJ_q (Op_load rfl (load_cell Try.underlying3 rfl pkk (Nth.s (Nth.s (Nth.s Nth.z))))) rfl ?_
     refine RJ_p rfl (Op_call (vs := [_, _, _, _]) Try.func9 rfl rfl (MkSet_any g lim L o.key o.ses o.req) rfl (.k (e := (Imp.refl _)))) ?_
     rintro _ _ ⟨_, ⟨rfl, rfl⟩, rfl⟩
     refine RJ_app1 ?_
     refine RJ_q (Op_assign rfl) rfl ?_
     refine RJ_nil ?_
     refine NJ_then ?_
     refine CJ_env (E' := [(1, _), (5, _), (6, _), (7, _), (8, _), (9, _), (10, _), (12, _)]) (.cons rfl rfl (.cons rfl rfl (.cons rfl rfl (.cons rfl rfl (.cons rfl rfl (.cons rfl rfl (.cons rfl rfl (.cons rfl rfl .nil)))))))) ?_
     refine CJ_seq ?_
     refine CJ_region ?_
     refine RJ_q (Op_move rfl) rfl ?_
     refine RJ_q (Op_load rfl (load_struct (o := 0) (vs := [_, _, _]) Try.underlying46 sz46 pkk (by rfl) rfl)) rfl ?_
     refine RJ_p rfl (Op_call (vs := [_, _]) Try.func16 rfl rfl (RSet_any b20 lim ra rc (sortM L) (by rw [sortM_len]; have := hI.len; omega) ⟨o.key, o.ses, o.req⟩) rfl (.k (e := (.k (e := (Imp.refl _)))))) ?_
     rintro _ _ ⟨_, ⟨ra2, rc2, rfl, rfl⟩, rfl⟩
     refine RJ_app2 ?_
     rw [rset_sort hI.nd]
     by_cases hb : (setR ⟨o.key, o.ses, o.req⟩ lim L).1 = true
     ·skip
      refine RJ_q (Op_assign rfl) rfl ?_
      refine RJ_nil ?_
      refine NJ_then ?_
      refine CJ_env (E' := [(1, _), (5, _), (6, _), (7, _), (8, _), (9, _), (12, _), (13, _)]) (.cons rfl rfl (.cons rfl rfl (.cons rfl rfl (.cons rfl rfl (.cons rfl rfl (.cons rfl rfl (.cons rfl rfl (.cons rfl rfl .nil)))))))) ?_
      refine CJ_region ?_
      refine RJ_q (Op_move rfl) rfl ?_
      refine RJ_q (Op_eql rfl rfl) rfl ?_
      refine RJ_q (Op_move rfl) rfl ?_
      refine RJ_q (Op_eqb rfl rfl Try.underlying4) rfl ?_
      refine RJ_q (Op_move rfl) rfl ?_
      refine RJ_yes (t := 61) rfl rfl (by rw [hb]; rfl) ?_
      refine RJ_q (Op_move rfl) rfl ?_
      refine RJ_yes (t := 61) rfl rfl (by rw [hb]; rfl) ?_
      refine RJ_q (Op_move rfl) rfl ?_
      refine RJ_no (t := 63) true rfl rfl hb (by decide) rfl ?_
      refine RJ_no (t := 63) true rfl rfl hb (by decide) rfl ?_
      refine RJ_yes (t := 61) rfl rfl (by rw [hb]; rfl) ?_
      refine RJ_q (Op_pick_t rfl hb rfl) rfl ?_
      refine RJ_q (Op_pick_t rfl (by rw [hb]; rfl) rfl) rfl ?_
      refine RJ_q (Op_move rfl) rfl ?_
      refine RJ_yes (t := 68) rfl rfl rfl ?_
      refine RJ_q (Op_move rfl) rfl ?_
      refine RJ_yes (t := 68) rfl rfl rfl ?_
      refine RJ_q (Op_fieldAddr (o' := 1) rfl Try.underlying29 rfl sz9 rfl rfl) rfl ?_
      refine RJ_yes (t := 68) rfl rfl rfl ?_
      refine RJ_q (Op_load rfl (load_cell Try.underlying9 rfl pkk (Nth.s Nth.z))) rfl ?_
      refine RJ_yes (t := 68) rfl rfl rfl ?_
      refine RJ_q (Op_fieldAddr (o' := 2) rfl Try.underlying29 rfl sz3 rfl rfl) rfl ?_
      refine RJ_yes (t := 68) rfl rfl rfl ?_
      refine RJ_q (Op_load rfl (load_cell Try.underlying3 rfl pkk (Nth.s (Nth.s Nth.z)))) rfl ?_
      refine RJ_yes (t := 68) rfl rfl rfl ?_
      refine RJ_q (Op_fieldAddr (o' := 3) rfl Try.underlying29 rfl sz3 rfl rfl) rfl ?_
      refine RJ_yes (t := 68) rfl rfl rfl ?_
      refine RJ_q (Op_load rfl (load_cell Try.underlying3 rfl pkk (Nth.s (Nth.s (Nth.s Nth.z))))) rfl ?_
      refine RJ_yes (t := 68) rfl rfl rfl ?_
      refine RJ_p rfl (Op_call (vs := [_, _, _, _]) Try.func9 rfl rfl (MkSet_nil o.key o.ses o.req) rfl (Imp.refl _)) ?_
      rintro _ _ ⟨_, ⟨rfl, rfl⟩, rfl⟩
      refine RJ_app0 ?_
      refine RJ_yes (t := 68) rfl rfl rfl ?_
      refine RJ_q (Op_eql rfl rfl) rfl ?_
      refine RJ_q (Op_pick_t rfl rfl rfl) rfl ?_
      refine RJ_q (Op_assign rfl) rfl ?_
      refine RJ_nil ?_
      refine NJ_blk ?_
      refine NJ_meet ⟨(setR ⟨o.key, o.ses, o.req⟩ lim L).2, ra2, rc2, hI.set _ _, rfl, rfl⟩ (.cons rfl (by first | rfl | (simp; done)) (.cons rfl (by first | rfl | (simp; done)) (.cons rfl (by first | rfl | (simp; done)) (.cons rfl (by first | rfl | (simp; done)) (.cons rfl (by first | rfl | (simp; done)) (.cons rfl (by first | rfl | (simp; done)) (.cons rfl (by first | rfl | (simp; done)) .nil))))))) (.k (e := (.k (e := (.k (e := (.k (e := (.k (e := skk))))))))))
     ·skip
      refine RJ_q (Op_assign rfl) rfl ?_
      refine RJ_nil ?_
      refine NJ_then ?_
      refine CJ_env (E' := [(1, _), (5, _), (6, _), (7, _), (8, _), (9, _), (12, _), (13, _)]) (.cons rfl rfl (.cons rfl rfl (.cons rfl rfl (.cons rfl rfl (.cons rfl rfl (.cons rfl rfl (.cons rfl rfl (.cons rfl rfl .nil)))))))) ?_
      refine CJ_region ?_
      refine RJ_q (Op_move rfl) rfl ?_
      refine RJ_q (Op_eql rfl rfl) rfl ?_
      refine RJ_q (Op_move rfl) rfl ?_
      refine RJ_q (Op_eqb rfl rfl Try.underlying4) rfl ?_
      refine RJ_q (Op_move rfl) rfl ?_
      refine RJ_yes (t := 61) rfl rfl (by rw [show (setR ⟨o.key, o.ses, o.req⟩ lim L).1 = false by simpa using hb]; rfl) ?_
      refine RJ_q (Op_move rfl) rfl ?_
      refine RJ_yes (t := 61) rfl rfl (by rw [show (setR ⟨o.key, o.ses, o.req⟩ lim L).1 = false by simpa using hb]; rfl) ?_
      refine RJ_q (Op_move rfl) rfl ?_
      refine RJ_yes (t := 63) rfl rfl (by simpa using hb) ?_
      refine RJ_q (Op_move rfl) rfl ?_
      refine RJ_yes (t := 63) rfl rfl (by simpa using hb) ?_
      refine RJ_q (Op_eql rfl rfl) rfl ?_
      refine RJ_yes (t := 61) rfl rfl (by rw [show (setR ⟨o.key, o.ses, o.req⟩ lim L).1 = false by simpa using hb]; rfl) ?_
      refine RJ_q (Op_pick_f rfl (by simpa using hb) rfl) rfl ?_
      refine RJ_q (Op_pick_t rfl (by rw [show (setR ⟨o.key, o.ses, o.req⟩ lim L).1 = false by simpa using hb]; rfl) rfl) rfl ?_
      refine RJ_q (Op_move rfl) rfl ?_
      refine RJ_yes (t := 68) rfl rfl (by rw [show (setR ⟨o.key, o.ses, o.req⟩ lim L).1 = false by simpa using hb]; rfl) ?_
      refine RJ_q (Op_move rfl) rfl ?_
      refine RJ_yes (t := 68) rfl rfl (by rw [show (setR ⟨o.key, o.ses, o.req⟩ lim L).1 = false by simpa using hb]; rfl) ?_
      refine RJ_q (Op_fieldAddr (o' := 1) rfl Try.underlying29 rfl sz9 rfl rfl) rfl ?_
      refine RJ_yes (t := 68) rfl rfl (by rw [show (setR ⟨o.key, o.ses, o.req⟩ lim L).1 = false by simpa using hb]; rfl) ?_
      refine RJ_q (Op_load rfl (load_cell Try.underlying9 rfl pkk (Nth.s Nth.z))) rfl ?_
      refine RJ_yes (t := 68) rfl rfl (by rw [show (setR ⟨o.key, o.ses, o.req⟩ lim L).1 = false by simpa using hb]; rfl) ?_
      refine RJ_q (Op_fieldAddr (o' := 2) rfl Try.underlying29 rfl sz3 rfl rfl) rfl ?_
      refine RJ_yes (t := 68) rfl rfl (by rw [show (setR ⟨o.key, o.ses, o.req⟩ lim L).1 = false by simpa using hb]; rfl) ?_
      refine RJ_q (Op_load rfl (load_cell Try.underlying3 rfl pkk (Nth.s (Nth.s Nth.z)))) rfl ?_
      refine RJ_yes (t := 68) rfl rfl (by rw [show (setR ⟨o.key, o.ses, o.req⟩ lim L).1 = false by simpa using hb]; rfl) ?_
      refine RJ_q (Op_fieldAddr (o' := 3) rfl Try.underlying29 rfl sz3 rfl rfl) rfl ?_
      refine RJ_yes (t := 68) rfl rfl (by rw [show (setR ⟨o.key, o.ses, o.req⟩ lim L).1 = false by simpa using hb]; rfl) ?_
      refine RJ_q (Op_load rfl (load_cell Try.underlying3 rfl pkk (Nth.s (Nth.s (Nth.s Nth.z))))) rfl ?_
      refine RJ_yes (t := 68) rfl rfl (by rw [show (setR ⟨o.key, o.ses, o.req⟩ lim L).1 = false by simpa using hb]; rfl) ?_
      refine RJ_p rfl (Op_call (vs := [_, _, _, _]) Try.func9 rfl rfl (MkSet_nil o.key o.ses o.req) rfl (Imp.refl _)) ?_
      rintro _ _ ⟨_, ⟨rfl, rfl⟩, rfl⟩
      refine RJ_app0 ?_
      refine RJ_yes (t := 68) rfl rfl (by rw [show (setR ⟨o.key, o.ses, o.req⟩ lim L).1 = false by simpa using hb]; rfl) ?_
      refine RJ_q (Op_eql rfl rfl) rfl ?_
      refine RJ_q (Op_pick_t rfl (by rw [show (setR ⟨o.key, o.ses, o.req⟩ lim L).1 = false by simpa using hb]; rfl) rfl) rfl ?_
      refine RJ_q (Op_assign rfl) rfl ?_
      refine RJ_nil ?_
      refine NJ_blk ?_
      refine NJ_meet ⟨(setR ⟨o.key, o.ses, o.req⟩ lim L).2, ra2, rc2, hI.set _ _, rfl, rfl⟩ (.cons rfl (by first | rfl | (simp; done)) (.cons rfl (by first | rfl | (simp; done)) (.cons rfl (by first | rfl | (simp; done)) (.cons rfl (by first | rfl | (simp; done)) (.cons rfl (by first | rfl | (simp; done)) (.cons rfl (by first | rfl | (simp; done)) (.cons rfl (by first | rfl | (simp; done)) .nil))))))) (.k (e := (.k (e := (.k (e := (.k (e := (.k (e := skk))))))))))
    ·skip
     refine RJ_q (Op_assign rfl) rfl ?_
     refine RJ_nil ?_
     refine NJ_then ?_
     refine CJ_env (E' := [(1, _), (5, _), (6, _), (7, _), (8, _), (9, _), (10, _), (11, _), (43, _), (44, _)]) (.cons rfl rfl (.cons rfl rfl (.cons rfl rfl (.cons rfl rfl (.cons rfl rfl (.cons rfl rfl (.cons rfl rfl (.cons rfl rfl (.cons rfl rfl (.cons rfl rfl .nil)))))))))) ?_
     refine CJ_else rfl (decide_eq_false k0) ?_
     refine CJ_seq ?_
     refine CJ_region ?_
     refine RJ_q (Op_eql rfl rfl) rfl ?_
     by_cases k1 : o.k = 1
     ·skip
      refine RJ_q (Op_assign rfl) rfl ?_
      refine RJ_nil ?_
      refine NJ_then ?_
      refine CJ_env (E' := [(1, _), (5, _), (6, _), (7, _), (8, _), (9, _), (10, _), (11, _), (43, _), (79, _)]) (.cons rfl rfl (.cons rfl rfl (.cons rfl rfl (.cons rfl rfl (.cons rfl rfl (.cons rfl rfl (.cons rfl rfl (.cons rfl rfl (.cons rfl rfl (.cons rfl rfl .nil)))))))))) ?_
      refine CJ_then rfl (decide_eq_true k1) ?_
      refine CJ_draw (.q 0 (.q 1 (.q 2 (.q 3 (.q 4 (.q 5 (.q 6 (.q 8 (.q 9 (.e 7 (.e 10 (.q 11 (.q 12 (.q 13 (.q 14 (.q 15 (.q 16 (.q 17 (.q 18 (.q 19 (.q 20 (.e 21 (.q 22 (.q 23 (.q 24 .done))))))))))))))))))))))))) (by kernel_rfl) (by kernel_rfl) (by kernel_rfl) ?_
      refine SJ_q rfl (want_none rfl) rfl (fun _ _ => Op_move rfl) ?_
      refine SJ_q rfl (want_none rfl) rfl (fun _ _ => Op_fieldAddr (o' := 1) rfl Try.underlying29 rfl sz9 rfl rfl) ?_
      refine SJ_load rfl (want_none rfl) rfl rfl (load_cell Try.underlying9 rfl pkk (Nth.s Nth.z)) ?_
      refine SJ_q rfl (want_none rfl) rfl (fun _ _ => Op_fieldAddr (o' := 2) rfl Try.underlying29 rfl sz3 rfl rfl) ?_
      refine SJ_load rfl (want_none rfl) rfl rfl (load_cell Try.underlying3 rfl pkk (Nth.s (Nth.s Nth.z))) ?_
      refine SJ_q rfl (want_none rfl) rfl (fun _ _ => Op_fieldAddr (o' := 3) rfl Try.underlying29 rfl sz3 rfl rfl) ?_
      refine SJ_load rfl (want_none rfl) rfl rfl (load_cell Try.underlying3 rfl pkk (Nth.s (Nth.s (Nth.s Nth.z)))) ?_
      refine SJ_q rfl (want_none rfl) rfl (fun _ _ => Op_move rfl) ?_
      refine SJ_load rfl (want_none rfl) rfl rfl (load_struct (o := 0) (vs := [_, _, _]) Try.underlying46 sz46 pkk (by rfl) rfl) ?_
      refine SJ_p (rd' := [⟨9, _, _, _⟩]) [9] rfl (want_none rfl) rfl (Op_call (vs := [_, _, _, _]) Try.func12 rfl rfl (MkClear_any g lim L o.key o.ses o.req) rfl (.k (e := (Imp.refl _)))) (by kernel_rfl) rfl ?_
      rintro _ _ ⟨_, ⟨rfl, rfl⟩, rfl⟩
      refine OS_app1 ?_
      refine ⟨⟨(load_struct (o := 0) (vs := [_, _, _]) Try.underlying46 sz46 pkk (by rfl) rfl), trivial⟩, ?_⟩
      refine SJ_p (rd' := []) [] rfl (want_none rfl) rfl (Op_call (vs := [_, _, _]) Try.func17 rfl rfl (RWithout_any b20 lim ra rc (sortM L) (by rw [sortM_len]; have := hI.len; omega) ⟨o.key, o.ses, o.req⟩ 0 (fun x => decide (x = ⟨o.key, o.ses, o.req⟩)) (fun x => RGoes0_any x ⟨o.key, o.ses, o.req⟩)) rfl (.k (e := (.k (e := (Imp.refl _)))))) (by kernel_rfl) rfl ?_
      rintro _ _ ⟨_, ⟨ra2, rc2, rfl, rfl⟩, rfl⟩
      refine OS_app2 ?_
      refine ⟨trivial, ?_⟩
      refine SJ_q rfl (want_none rfl) rfl (fun _ _ => Op_gtr rfl rfl) ?_
      refine SJ_q rfl (want_none rfl) rfl (fun _ _ => Op_eqb rfl rfl Try.underlying4) ?_
      rw [sort_erase hI.nd]
      refine SJ_q rfl (want_none rfl) rfl (fun _ _ => Op_move rfl) ?_
      refine SJ_q rfl (want_yes (t := 94) rfl rfl rfl (by rw [← sort_erase hI.nd, ← erase_count (m := ⟨o.key, o.ses, o.req⟩) hI.nd]; simp)) rfl (fun _ _ => Op_move rfl) ?_
      refine SJ_q rfl (want_yes (t := 94) rfl rfl rfl (by rw [← sort_erase hI.nd, ← erase_count (m := ⟨o.key, o.ses, o.req⟩) hI.nd]; simp)) rfl (fun _ _ => Op_fieldAddr (o' := 1) rfl Try.underlying29 rfl sz9 rfl rfl) ?_
      refine SJ_load rfl (want_yes (t := 94) rfl rfl rfl (by rw [← sort_erase hI.nd, ← erase_count (m := ⟨o.key, o.ses, o.req⟩) hI.nd]; simp)) rfl rfl (load_cell Try.underlying9 rfl pkk (Nth.s Nth.z)) ?_
      refine SJ_q rfl (want_yes (t := 94) rfl rfl rfl (by rw [← sort_erase hI.nd, ← erase_count (m := ⟨o.key, o.ses, o.req⟩) hI.nd]; simp)) rfl (fun _ _ => Op_fieldAddr (o' := 2) rfl Try.underlying29 rfl sz3 rfl rfl) ?_
      refine SJ_load rfl (want_yes (t := 94) rfl rfl rfl (by rw [← sort_erase hI.nd, ← erase_count (m := ⟨o.key, o.ses, o.req⟩) hI.nd]; simp)) rfl rfl (load_cell Try.underlying3 rfl pkk (Nth.s (Nth.s Nth.z))) ?_
      refine SJ_q rfl (want_yes (t := 94) rfl rfl rfl (by rw [← sort_erase hI.nd, ← erase_count (m := ⟨o.key, o.ses, o.req⟩) hI.nd]; simp)) rfl (fun _ _ => Op_fieldAddr (o' := 3) rfl Try.underlying29 rfl sz3 rfl rfl) ?_
      refine SJ_load rfl (want_yes (t := 94) rfl rfl rfl (by rw [← sort_erase hI.nd, ← erase_count (m := ⟨o.key, o.ses, o.req⟩) hI.nd]; simp)) rfl rfl (load_cell Try.underlying3 rfl pkk (Nth.s (Nth.s (Nth.s Nth.z)))) ?_
      refine SJ_p (rd' := []) [] rfl (want_yes (t := 94) rfl rfl rfl (by rw [← sort_erase hI.nd, ← erase_count (m := ⟨o.key, o.ses, o.req⟩) hI.nd]; simp)) rfl (Op_call (vs := [_, _, _, _]) Try.func12 rfl rfl (MkClear_nil o.key o.ses o.req) rfl (Imp.refl _)) (by kernel_rfl) rfl ?_
      rintro _ _ ⟨_, ⟨rfl, rfl⟩, rfl⟩
      refine OS_app0 ?_
      refine ⟨trivial, ?_⟩
      refine SJ_q rfl (want_yes (t := 94) rfl rfl rfl (by rw [← sort_erase hI.nd, ← erase_count (m := ⟨o.key, o.ses, o.req⟩) hI.nd]; simp)) rfl (fun _ _ => Op_not rfl) ?_
      refine SJ_q rfl (want_none rfl) rfl (fun _ _ => Op_pick_t rfl (by rw [← sort_erase hI.nd, ← erase_count (m := ⟨o.key, o.ses, o.req⟩) hI.nd]; simp) rfl) ?_
      refine SJ_q rfl (want_none rfl) rfl (fun _ _ => Op_assign rfl) ?_
      refine SJ_done ?_
      refine NJ_blk ?_
      refine NJ_meet ⟨(if (⟨o.key, o.ses, o.req⟩ : Mark) ∈ L then L.erase ⟨o.key, o.ses, o.req⟩ else L), ra2, rc2, hI.clr _, rfl, rfl⟩ (.cons rfl (by first | rfl | (simp; done)) (.cons rfl (by first | rfl | (simp; done)) (.cons rfl (by first | rfl | (simp; done)) (.cons rfl (by first | rfl | (simp; done)) (.cons rfl (by first | rfl | (simp; done)) (.cons rfl (by first | rfl | (simp; done)) (.cons rfl (by first | rfl | (simp; done)) .nil))))))) (.k (e := (.k (e := (.k (e := (.k (e := (.k (e := skk))))))))))
     ·skip
      refine RJ_q (Op_assign rfl) rfl ?_
      refine RJ_nil ?_
      refine NJ_then ?_
      refine CJ_env (E' := [(1, _), (5, _), (6, _), (7, _), (8, _), (9, _), (10, _), (11, _), (43, _), (79, _)]) (.cons rfl rfl (.cons rfl rfl (.cons rfl rfl (.cons rfl rfl (.cons rfl rfl (.cons rfl rfl (.cons rfl rfl (.cons rfl rfl (.cons rfl rfl (.cons rfl rfl .nil)))))))))) ?_
      refine CJ_else rfl (decide_eq_false k1) ?_
      refine CJ_seq ?_
      refine CJ_region ?_
      refine RJ_q (Op_eql rfl rfl) rfl ?_
      by_cases k2 : o.k = 2
      ·skip
       refine RJ_q (Op_assign rfl) rfl ?_
       refine RJ_nil ?_
       refine NJ_then ?_
       refine CJ_env (E' := [(1, _), (5, _), (6, _), (7, _), (8, _), (9, _), (10, _), (11, _), (43, _), (105, _)]) (.cons rfl rfl (.cons rfl rfl (.cons rfl rfl (.cons rfl rfl (.cons rfl rfl (.cons rfl rfl (.cons rfl rfl (.cons rfl rfl (.cons rfl rfl (.cons rfl rfl .nil)))))))))) ?_
       refine CJ_then rfl (decide_eq_true k2) ?_
       refine CJ_draw (.q 0 (.q 1 (.q 2 (.q 3 (.q 4 (.q 5 (.q 6 (.q 8 (.q 9 (.e 7 (.e 10 (.q 11 (.q 12 (.q 13 (.q 14 (.q 15 (.q 16 (.q 17 (.q 18 (.q 19 (.e 20 (.q 21 (.q 22 (.q 23 .done)))))))))))))))))))))))) (by kernel_rfl) (by kernel_rfl) (by kernel_rfl) ?_
       refine SJ_q rfl (want_none rfl) rfl (fun _ _ => Op_move rfl) ?_
       refine SJ_q rfl (want_none rfl) rfl (fun _ _ => Op_fieldAddr (o' := 1) rfl Try.underlying29 rfl sz9 rfl rfl) ?_
       refine SJ_load rfl (want_none rfl) rfl rfl (load_cell Try.underlying9 rfl pkk (Nth.s Nth.z)) ?_
       refine SJ_q rfl (want_none rfl) rfl (fun _ _ => Op_fieldAddr (o' := 2) rfl Try.underlying29 rfl sz3 rfl rfl) ?_
       refine SJ_load rfl (want_none rfl) rfl rfl (load_cell Try.underlying3 rfl pkk (Nth.s (Nth.s Nth.z))) ?_
       refine SJ_q rfl (want_none rfl) rfl (fun _ _ => Op_fieldAddr (o' := 3) rfl Try.underlying29 rfl sz3 rfl rfl) ?_
       refine SJ_load rfl (want_none rfl) rfl rfl (load_cell Try.underlying3 rfl pkk (Nth.s (Nth.s (Nth.s Nth.z)))) ?_
       refine SJ_q rfl (want_none rfl) rfl (fun _ _ => Op_move rfl) ?_
       refine SJ_load rfl (want_none rfl) rfl rfl (load_struct (o := 0) (vs := [_, _, _]) Try.underlying46 sz46 pkk (by rfl) rfl) ?_
       refine SJ_p (rd' := [⟨9, _, _, _⟩]) [9] rfl (want_none rfl) rfl (Op_call (vs := [_, _, _, _]) Try.func13 rfl rfl (Upto_any g lim L hI.nd (by have := hI.len; omega) o.key o.ses o.req) rfl (.k (e := (Imp.refl _)))) (by kernel_rfl) rfl ?_
       rintro _ _ ⟨_, ⟨rfl, rfl⟩, rfl⟩
       refine OS_app1 ?_
       refine ⟨⟨(load_struct (o := 0) (vs := [_, _, _]) Try.underlying46 sz46 pkk (by rfl) rfl), trivial⟩, ?_⟩
       refine SJ_p (rd' := []) [] rfl (want_none rfl) rfl (Op_call (vs := [_, _, _]) Try.func17 rfl rfl (RWithout_any b20 lim ra rc (sortM L) (by rw [sortM_len]; have := hI.len; omega) ⟨o.key, o.ses, o.req⟩ 1 (uptoP o.key o.ses o.req) (fun x => RGoes1_any x ⟨o.key, o.ses, o.req⟩)) rfl (.k (e := (.k (e := (Imp.refl _)))))) (by kernel_rfl) rfl ?_
       rintro _ _ ⟨_, ⟨ra2, rc2, rfl, rfl⟩, rfl⟩
       refine OS_app2 ?_
       refine ⟨trivial, ?_⟩
       refine SJ_q rfl (want_none rfl) rfl (fun _ _ => Op_eql rfl rfl) ?_
       rw [← filter_sort hI.nd]
       refine SJ_q rfl (want_none rfl) rfl (fun _ _ => Op_move rfl) ?_
       refine SJ_q rfl (want_yes (t := 119) rfl rfl rfl (by first | (rw [rest_plus, sortM_len]; simp; done) | (simp [sortM_len]; done))) rfl (fun _ _ => Op_move rfl) ?_
       refine SJ_q rfl (want_yes (t := 119) rfl rfl rfl (by first | (rw [rest_plus, sortM_len]; simp; done) | (simp [sortM_len]; done))) rfl (fun _ _ => Op_fieldAddr (o' := 1) rfl Try.underlying29 rfl sz9 rfl rfl) ?_
       refine SJ_load rfl (want_yes (t := 119) rfl rfl rfl (by first | (rw [rest_plus, sortM_len]; simp; done) | (simp [sortM_len]; done))) rfl rfl (load_cell Try.underlying9 rfl pkk (Nth.s Nth.z)) ?_
       refine SJ_q rfl (want_yes (t := 119) rfl rfl rfl (by first | (rw [rest_plus, sortM_len]; simp; done) | (simp [sortM_len]; done))) rfl (fun _ _ => Op_fieldAddr (o' := 2) rfl Try.underlying29 rfl sz3 rfl rfl) ?_
       refine SJ_load rfl (want_yes (t := 119) rfl rfl rfl (by first | (rw [rest_plus, sortM_len]; simp; done) | (simp [sortM_len]; done))) rfl rfl (load_cell Try.underlying3 rfl pkk (Nth.s (Nth.s Nth.z))) ?_
       refine SJ_q rfl (want_yes (t := 119) rfl rfl rfl (by first | (rw [rest_plus, sortM_len]; simp; done) | (simp [sortM_len]; done))) rfl (fun _ _ => Op_fieldAddr (o' := 3) rfl Try.underlying29 rfl sz3 rfl rfl) ?_
       refine SJ_load rfl (want_yes (t := 119) rfl rfl rfl (by first | (rw [rest_plus, sortM_len]; simp; done) | (simp [sortM_len]; done))) rfl rfl (load_cell Try.underlying3 rfl pkk (Nth.s (Nth.s (Nth.s Nth.z)))) ?_
       refine SJ_p (rd' := []) [] rfl (want_yes (t := 119) rfl rfl rfl (by first | (rw [rest_plus, sortM_len]; simp; done) | (simp [sortM_len]; done))) rfl (Op_call (vs := [_, _, _, _]) Try.func13 rfl rfl (Upto_nil o.key o.ses o.req) rfl (Imp.refl _)) (by kernel_rfl) rfl ?_
       rintro _ _ ⟨_, ⟨rfl, rfl⟩, rfl⟩
       refine OS_app0 ?_
       refine ⟨trivial, ?_⟩
       refine SJ_q rfl (want_yes (t := 119) rfl rfl rfl (by first | (rw [rest_plus, sortM_len]; simp; done) | (simp [sortM_len]; done))) rfl (fun _ _ => Op_eql rfl rfl) ?_
       refine SJ_q rfl (want_none rfl) rfl (fun _ _ => Op_pick_t rfl (by first | (rw [rest_plus, sortM_len]; simp; done) | (simp [sortM_len]; done)) rfl) ?_
       refine SJ_q rfl (want_none rfl) rfl (fun _ _ => Op_assign rfl) ?_
       refine SJ_done ?_
       refine NJ_blk ?_
       refine NJ_meet ⟨restR (uptoP o.key o.ses o.req) L, ra2, rc2, hI.rest _, rfl, rfl⟩ (.cons rfl (by first | rfl | (simp; done)) (.cons rfl (by first | rfl | (simp; done)) (.cons rfl (by first | rfl | (simp; done)) (.cons rfl (by first | rfl | (simp; done)) (.cons rfl (by first | rfl | (simp; done)) (.cons rfl (by first | rfl | (simp; done)) (.cons rfl (by first | rfl | (simp; done)) .nil))))))) (.k (e := (.k (e := (.k (e := (.k (e := (.k (e := skk))))))))))
      ·skip
       refine RJ_q (Op_assign rfl) rfl ?_
       refine RJ_nil ?_
       refine NJ_then ?_
       refine CJ_env (E' := [(1, _), (5, _), (6, _), (7, _), (8, _), (9, _), (10, _), (11, _), (43, _), (105, _)]) (.cons rfl rfl (.cons rfl rfl (.cons rfl rfl (.cons rfl rfl (.cons rfl rfl (.cons rfl rfl (.cons rfl rfl (.cons rfl rfl (.cons rfl rfl (.cons rfl rfl .nil)))))))))) ?_
       refine CJ_else rfl (decide_eq_false k2) ?_
       refine CJ_seq ?_
       refine CJ_region ?_
       refine RJ_q (Op_eql rfl rfl) rfl ?_
       by_cases k3 : o.k = 3
       ·skip
        refine RJ_q (Op_assign rfl) rfl ?_
        refine RJ_nil ?_
        refine NJ_then ?_
        refine CJ_env (E' := [(1, _), (5, _), (6, _), (7, _), (8, _), (9, _), (10, _), (11, _), (43, _), (130, _)]) (.cons rfl rfl (.cons rfl rfl (.cons rfl rfl (.cons rfl rfl (.cons rfl rfl (.cons rfl rfl (.cons rfl rfl (.cons rfl rfl (.cons rfl rfl (.cons rfl rfl .nil)))))))))) ?_
        refine CJ_then rfl (decide_eq_true k3) ?_
        refine CJ_draw (.q 0 (.q 1 (.q 2 (.q 3 (.q 4 (.q 6 (.q 7 (.e 5 (.e 8 (.q 9 (.q 10 (.q 11 (.q 12 (.q 13 (.q 14 (.q 15 (.e 16 (.q 17 (.q 18 (.q 19 .done)))))))))))))))))))) (by kernel_rfl) (by kernel_rfl) (by kernel_rfl) ?_
        refine SJ_q rfl (want_none rfl) rfl (fun _ _ => Op_move rfl) ?_
        refine SJ_q rfl (want_none rfl) rfl (fun _ _ => Op_fieldAddr (o' := 2) rfl Try.underlying29 rfl sz3 rfl rfl) ?_
        refine SJ_load rfl (want_none rfl) rfl rfl (load_cell Try.underlying3 rfl pkk (Nth.s (Nth.s Nth.z))) ?_
        refine SJ_q rfl (want_none rfl) rfl (fun _ _ => Op_fieldAddr (o' := 3) rfl Try.underlying29 rfl sz3 rfl rfl) ?_
        refine SJ_load rfl (want_none rfl) rfl rfl (load_cell Try.underlying3 rfl pkk (Nth.s (Nth.s (Nth.s Nth.z)))) ?_
        refine SJ_q rfl (want_none rfl) rfl (fun _ _ => Op_move rfl) ?_
        refine SJ_load rfl (want_none rfl) rfl rfl (load_struct (o := 0) (vs := [_, _, _]) Try.underlying46 sz46 pkk (by rfl) rfl) ?_
        refine SJ_p (rd' := [⟨7, _, _, _⟩]) [7] rfl (want_none rfl) rfl (Op_call (vs := [_, _, _]) Try.func14 rfl rfl (Past_any g lim L hI.nd (by have := hI.len; omega) o.ses o.req) rfl (.k (e := (Imp.refl _)))) (by kernel_rfl) rfl ?_
        rintro _ _ ⟨_, ⟨rfl, rfl⟩, rfl⟩
        refine OS_app1 ?_
        refine ⟨⟨(load_struct (o := 0) (vs := [_, _, _]) Try.underlying46 sz46 pkk (by rfl) rfl), trivial⟩, ?_⟩
        refine SJ_p (rd' := []) [] rfl (want_none rfl) rfl (Op_call (vs := [_, _, _]) Try.func17 rfl rfl (RWithout_any b20 lim ra rc (sortM L) (by rw [sortM_len]; have := hI.len; omega) ⟨o.key, o.ses, o.req⟩ 2 (pastP o.ses o.req) (fun x => RGoes2_any x ⟨o.key, o.ses, o.req⟩)) rfl (.k (e := (.k (e := (Imp.refl _)))))) (by kernel_rfl) rfl ?_
        rintro _ _ ⟨_, ⟨ra2, rc2, rfl, rfl⟩, rfl⟩
        refine OS_app2 ?_
        refine ⟨trivial, ?_⟩
        refine SJ_q rfl (want_none rfl) rfl (fun _ _ => Op_eql rfl rfl) ?_
        rw [← filter_sort hI.nd]
        refine SJ_q rfl (want_none rfl) rfl (fun _ _ => Op_move rfl) ?_
        refine SJ_q rfl (want_yes (t := 142) rfl rfl rfl (by first | (rw [rest_plus, sortM_len]; simp; done) | (simp [sortM_len]; done))) rfl (fun _ _ => Op_move rfl) ?_
        refine SJ_q rfl (want_yes (t := 142) rfl rfl rfl (by first | (rw [rest_plus, sortM_len]; simp; done) | (simp [sortM_len]; done))) rfl (fun _ _ => Op_fieldAddr (o' := 2) rfl Try.underlying29 rfl sz3 rfl rfl) ?_
        refine SJ_load rfl (want_yes (t := 142) rfl rfl rfl (by first | (rw [rest_plus, sortM_len]; simp; done) | (simp [sortM_len]; done))) rfl rfl (load_cell Try.underlying3 rfl pkk (Nth.s (Nth.s Nth.z))) ?_
        refine SJ_q rfl (want_yes (t := 142) rfl rfl rfl (by first | (rw [rest_plus, sortM_len]; simp; done) | (simp [sortM_len]; done))) rfl (fun _ _ => Op_fieldAddr (o' := 3) rfl Try.underlying29 rfl sz3 rfl rfl) ?_
        refine SJ_load rfl (want_yes (t := 142) rfl rfl rfl (by first | (rw [rest_plus, sortM_len]; simp; done) | (simp [sortM_len]; done))) rfl rfl (load_cell Try.underlying3 rfl pkk (Nth.s (Nth.s (Nth.s Nth.z)))) ?_
        refine SJ_p (rd' := []) [] rfl (want_yes (t := 142) rfl rfl rfl (by first | (rw [rest_plus, sortM_len]; simp; done) | (simp [sortM_len]; done))) rfl (Op_call (vs := [_, _, _]) Try.func14 rfl rfl (Past_nil o.ses o.req) rfl (Imp.refl _)) (by kernel_rfl) rfl ?_
        rintro _ _ ⟨_, ⟨rfl, rfl⟩, rfl⟩
        refine OS_app0 ?_
        refine ⟨trivial, ?_⟩
        refine SJ_q rfl (want_yes (t := 142) rfl rfl rfl (by first | (rw [rest_plus, sortM_len]; simp; done) | (simp [sortM_len]; done))) rfl (fun _ _ => Op_eql rfl rfl) ?_
        refine SJ_q rfl (want_none rfl) rfl (fun _ _ => Op_pick_t rfl (by first | (rw [rest_plus, sortM_len]; simp; done) | (simp [sortM_len]; done)) rfl) ?_
        refine SJ_q rfl (want_none rfl) rfl (fun _ _ => Op_assign rfl) ?_
        refine SJ_done ?_
        refine NJ_blk ?_
        refine NJ_meet ⟨restR (pastP o.ses o.req) L, ra2, rc2, hI.rest _, rfl, rfl⟩ (.cons rfl (by first | rfl | (simp; done)) (.cons rfl (by first | rfl | (simp; done)) (.cons rfl (by first | rfl | (simp; done)) (.cons rfl (by first | rfl | (simp; done)) (.cons rfl (by first | rfl | (simp; done)) (.cons rfl (by first | rfl | (simp; done)) (.cons rfl (by first | rfl | (simp; done)) .nil))))))) (.k (e := (.k (e := (.k (e := (.k (e := (.k (e := skk))))))))))
       ·skip
        refine RJ_q (Op_assign rfl) rfl ?_
        refine RJ_nil ?_
        refine NJ_then ?_
        refine CJ_env (E' := [(1, _), (5, _), (6, _), (7, _), (8, _), (9, _), (10, _), (11, _), (43, _), (130, _)]) (.cons rfl rfl (.cons rfl rfl (.cons rfl rfl (.cons rfl rfl (.cons rfl rfl (.cons rfl rfl (.cons rfl rfl (.cons rfl rfl (.cons rfl rfl (.cons rfl rfl .nil)))))))))) ?_
        refine CJ_else rfl (decide_eq_false k3) ?_
        refine CJ_seq ?_
        refine CJ_region ?_
        refine RJ_q (Op_eql rfl rfl) rfl ?_
        by_cases k4 : o.k = 4
        ·skip
         refine RJ_q (Op_assign rfl) rfl ?_
         refine RJ_nil ?_
         refine NJ_then ?_
         refine CJ_env (E' := [(1, _), (5, _), (6, _), (7, _), (8, _), (9, _), (11, _), (151, _)]) (.cons rfl rfl (.cons rfl rfl (.cons rfl rfl (.cons rfl rfl (.cons rfl rfl (.cons rfl rfl (.cons rfl rfl (.cons rfl rfl .nil)))))))) ?_
         refine CJ_then rfl (decide_eq_true k4) ?_
         refine CJ_seq ?_
         refine CJ_region ?_
         refine RJ_q (Op_move rfl) rfl ?_
         refine RJ_p rfl (Op_call (vs := [_]) Try.func18 rfl rfl (MkDrop_any g lim L) rfl (.k (e := (Imp.refl _)))) ?_
         rintro _ _ ⟨_, ⟨rfl, rfl⟩, rfl⟩
         refine RJ_app1 ?_
         refine RJ_nil ?_
         refine NJ_then ?_
         refine CJ_env (E' := [(1, _), (5, _), (6, _), (7, _), (8, _), (9, _), (11, _)]) (.cons rfl rfl (.cons rfl rfl (.cons rfl rfl (.cons rfl rfl (.cons rfl rfl (.cons rfl rfl (.cons rfl rfl .nil))))))) ?_
         refine CJ_seq ?_
         refine CJ_region ?_
         refine RJ_q (Op_move rfl) rfl ?_
         refine RJ_q (Op_nilCheck rfl) rfl ?_
         refine RJ_q (Op_fieldAddr (o' := 0) rfl Try.underlying45 rfl sz43 rfl rfl) rfl ?_
         refine RJ_d0 (Op_store (cs' := #[_, _]) rfl rfl sz43 (by rfl) (by simp [Value.cells, Value.oneCell']) rpp rfl (free_zero _ _) (by rfl)) ?_
         refine RJ_nil ?_
         refine NJ_then ?_
         refine CJ_env (E' := [(1, _), (5, _), (6, _), (7, _), (8, _), (9, _), (11, _)]) (.cons rfl rfl (.cons rfl rfl (.cons rfl rfl (.cons rfl rfl (.cons rfl rfl (.cons rfl rfl (.cons rfl rfl .nil))))))) ?_
         refine CJ_region ?_
         refine RJ_q (Op_move rfl) rfl ?_
         refine RJ_p rfl (Op_call (vs := [_]) Try.func18 rfl rfl (MkDrop_nil) rfl (Imp.refl _)) ?_
         rintro _ _ ⟨_, ⟨rfl, rfl⟩, rfl⟩
         refine RJ_app0 ?_
         refine RJ_nil ?_
         refine NJ_blk ?_
         refine NJ_meet ⟨[], none, 0, .nil _, rfl, rfl⟩ (.cons rfl (by first | rfl | (simp; done)) (.cons rfl (by first | rfl | (simp; done)) (.cons rfl (by first | rfl | (simp; done)) (.cons rfl (by first | rfl | (simp; done)) (.cons rfl (by first | rfl | (simp; done)) (.cons rfl (by first | rfl | (simp; done)) (.cons rfl (by first | rfl | (simp; done)) .nil))))))) (by rw [sortM_nil]; exact (.trans (Row_none RkT).imp_add (.k (e := (.k (e := (.k (e := (.k (e := (.k (e := skk))))))))))))
        ·skip
         refine RJ_q (Op_assign rfl) rfl ?_
         refine RJ_nil ?_
         refine NJ_then ?_
         refine CJ_env (E' := [(1, _), (5, _), (6, _), (7, _), (8, _), (9, _), (11, _), (151, _)]) (.cons rfl rfl (.cons rfl rfl (.cons rfl rfl (.cons rfl rfl (.cons rfl rfl (.cons rfl rfl (.cons rfl rfl (.cons rfl rfl .nil)))))))) ?_
         refine CJ_else rfl (decide_eq_false k4) ?_
         refine CJ_skip ?_
         refine NJ_blk ?_
         refine NJ_meet ⟨L, ra, rc, hI.more, rfl, rfl⟩ (.cons rfl (by first | rfl | (simp; done)) (.cons rfl (by first | rfl | (simp; done)) (.cons rfl (by first | rfl | (simp; done)) (.cons rfl (by first | rfl | (simp; done)) (.cons rfl (by first | rfl | (simp; done)) (.cons rfl (by first | rfl | (simp; done)) (.cons rfl (by first | rfl | (simp; done)) .nil))))))) (.k (e := (.k (e := (.k (e := (.k (e := (.k (e := skk))))))))))
   ·skip
    rintro _ _ ⟨L2, ra2, rc2, hJ, rfl, rfl⟩
    refine CJ_app5 ?_
    refine CJ_seq ?_
    refine CJ_draw (.q 0 (.q 1 (.q 2 (.q 3 (.q 4 (.q 5 (.q 7 (.q 8 (.q 9 (.e 6 (.e 10 (.q 11 (.q 12 (.q 13 (.q 14 (.q 16 (.q 17 (.q 18 (.q 19 (.q 20 (.e 15 (.q 21 (.q 22 (.q 23 (.q 24 (.q 26 (.q 27 (.q 28 (.q 29 (.e 25 (.e 30 (.q 31 (.q 32 .done))))))))))))))))))))))))))))))))) (by kernel_rfl) (by kernel_rfl) (by kernel_rfl) ?_
    refine SJ_q rfl (want_none rfl) rfl (fun _ _ => Op_move rfl) ?_
    refine SJ_q rfl (want_none rfl) rfl (fun _ _ => Op_not rfl) ?_
    refine SJ_q rfl (want_none rfl) rfl (fun _ _ => Op_move rfl) ?_
    refine SJ_q rfl (want_yes (t := 162) rfl rfl rfl (congrArg Bool.not rfl)) rfl (fun _ _ => Op_move rfl) ?_
    refine SJ_q rfl (want_yes (t := 162) rfl rfl rfl (congrArg Bool.not rfl)) rfl (fun _ _ => Op_fieldAddr (o' := 1) rfl Try.underlying29 rfl sz9 rfl rfl) ?_
    refine SJ_load rfl (want_yes (t := 162) rfl rfl rfl (congrArg Bool.not rfl)) rfl rfl (load_cell Try.underlying9 rfl pkk (Nth.s Nth.z)) ?_
    refine SJ_q rfl (want_yes (t := 162) rfl rfl rfl (congrArg Bool.not rfl)) rfl (fun _ _ => Op_move rfl) ?_
    refine SJ_q rfl (want_yes (t := 162) rfl rfl rfl (congrArg Bool.not rfl)) rfl (fun _ _ => Op_fieldAddr (o' := 1) rfl Try.underlying29 rfl sz9 rfl rfl) ?_
    refine SJ_load rfl (want_yes (t := 162) rfl rfl rfl (congrArg Bool.not rfl)) rfl rfl (load_cell Try.underlying9 rfl pkk (Nth.s Nth.z)) ?_
    refine SJ_p (rd' := [⟨9, _, _, _⟩]) [9] rfl (want_yes (t := 162) rfl rfl rfl (congrArg Bool.not rfl)) rfl (Op_call (vs := [_, _]) Try.func15 rfl rfl (MkHas_any g lim L2 o.key) rfl (.k (e := (Imp.refl _)))) (by kernel_rfl) rfl ?_
    rintro _ _ ⟨_, ⟨rfl, rfl⟩, rfl⟩
    refine OS_app1 ?_
    refine ⟨⟨(load_cell Try.underlying9 rfl pkk (Nth.s Nth.z)), trivial⟩, ?_⟩
    refine SJ_p (rd' := []) [] rfl (want_yes (t := 162) rfl rfl rfl (congrArg Bool.not rfl)) rfl (Op_call (vs := [_, _]) Try.func19 rfl rfl (RHas_any b20 lim ra2 rc2 (sortM L2) (by rw [sortM_len]; have := hJ.len; omega) o.key) rfl (.k (e := (.k (e := (Imp.refl _)))))) (by kernel_rfl) rfl ?_
    rintro _ _ ⟨_, ⟨rfl, rfl⟩, rfl⟩
    refine OS_app2 ?_
    refine ⟨trivial, ?_⟩
    refine SJ_q rfl (want_yes (t := 162) rfl rfl rfl (congrArg Bool.not rfl)) rfl (fun _ _ => Op_neqb rfl rfl Try.underlying4) ?_
    refine SJ_q rfl (want_none rfl) rfl (fun _ _ => Op_pick_f rfl (congrArg Bool.not rfl) rfl) ?_
    refine SJ_q rfl (want_none rfl) rfl (fun _ _ => Op_move rfl) ?_
    refine SJ_q rfl (want_yes (t := 173) rfl rfl rfl (by rw [has_sort]; simp)) rfl (fun _ _ => Op_move rfl) ?_
    refine SJ_q rfl (want_yes (t := 173) rfl rfl rfl (by rw [has_sort]; simp)) rfl (fun _ _ => Op_move rfl) ?_
    refine SJ_q rfl (want_yes (t := 173) rfl rfl rfl (by rw [has_sort]; simp)) rfl (fun _ _ => Op_nilCheck rfl) ?_
    refine SJ_q rfl (want_yes (t := 173) rfl rfl rfl (by rw [has_sort]; simp)) rfl (fun _ _ => Op_fieldAddr (o' := 0) rfl Try.underlying45 rfl sz43 rfl rfl) ?_
    refine SJ_load rfl (want_yes (t := 173) rfl rfl rfl (by rw [has_sort]; simp)) rfl rfl (load_cell Try.underlying43 rfl pkk Nth.z) ?_
    refine SJ_q rfl (want_yes (t := 173) rfl rfl rfl (by rw [has_sort]; simp)) rfl (fun _ _ => Op_len_slice rfl Try.underlying43) ?_
    refine SJ_p (rd' := [⟨19, _, _, _⟩]) [19] rfl (want_yes (t := 173) rfl rfl rfl (by rw [has_sort]; simp)) rfl (Op_call (vs := [_]) Try.func11 rfl rfl (MkLen_any g lim L2) rfl (.k (e := (Imp.refl _)))) (by kernel_rfl) rfl ?_
    rintro _ _ ⟨_, ⟨rfl, rfl⟩, rfl⟩
    refine OS_app1 ?_
    refine ⟨⟨(load_cell Try.underlying43 rfl pkk Nth.z), trivial⟩, ?_⟩
    refine SJ_q rfl (want_yes (t := 173) rfl rfl rfl (by rw [has_sort]; simp)) rfl (fun _ _ => Op_neq rfl rfl) ?_
    refine SJ_q rfl (want_none rfl) rfl (fun _ _ => Op_pick_f rfl (by rw [has_sort]; simp) rfl) ?_
    refine SJ_q rfl (want_none rfl) rfl (fun _ _ => Op_move rfl) ?_
    refine SJ_q rfl (want_yes (t := 183) rfl rfl rfl (by rw [sortM_len]; simp)) rfl (fun _ _ => Op_move rfl) ?_
    refine SJ_q rfl (want_yes (t := 183) rfl rfl rfl (by rw [sortM_len]; simp)) rfl (fun _ _ => Op_move rfl) ?_
    refine SJ_q rfl (want_yes (t := 183) rfl rfl rfl (by rw [sortM_len]; simp)) rfl (fun _ _ => Op_nilCheck rfl) ?_
    refine SJ_q rfl (want_yes (t := 183) rfl rfl rfl (by rw [sortM_len]; simp)) rfl (fun _ _ => Op_fieldAddr (o' := 0) rfl Try.underlying45 rfl sz43 rfl rfl) ?_
    refine SJ_load rfl (want_yes (t := 183) rfl rfl rfl (by rw [sortM_len]; simp)) rfl rfl (load_cell Try.underlying43 rfl pkk Nth.z) ?_
    refine SJ_p (rd' := [⟨29, _, _, _⟩]) [29] rfl (want_yes (t := 183) rfl rfl rfl (by rw [sortM_len]; simp)) rfl (Op_call (vs := [_]) Try.func10 rfl rfl (All_any g lim L2 (by have := hJ.len; omega)) rfl (.k (e := (Imp.refl _)))) (by kernel_rfl) rfl ?_
    rintro _ _ ⟨_, ⟨a185, c185, rfl, rfl⟩, rfl⟩
    refine OS_app2 ?_
    refine ⟨⟨(load_cell Try.underlying43 rfl pkk Nth.z), trivial⟩, ?_⟩
    refine SJ_p (rd' := []) [] rfl (want_yes (t := 183) rfl rfl rfl (by rw [sortM_len]; simp)) rfl (Op_call (vs := [_, _]) Try.func20 rfl rfl (Same_eq a185 ra2 c185 rc2 (sortM L2) (by rw [sortM_len]; have := hJ.len; omega)) rfl (.k (e := (.k (e := (Imp.refl _)))))) (by kernel_rfl) rfl ?_
    rintro _ _ ⟨_, ⟨rfl, rfl⟩, rfl⟩
    refine OS_app2 ?_
    refine ⟨trivial, ?_⟩
    refine SJ_q rfl (want_yes (t := 183) rfl rfl rfl (by rw [sortM_len]; simp)) rfl (fun _ _ => Op_not rfl) ?_
    refine SJ_q rfl (want_none rfl) rfl (fun _ _ => Op_pick_f rfl (by rw [sortM_len]; simp) rfl) ?_
    refine SJ_done ?_
    refine NJ_then ?_
    refine CJ_env (E' := [(1, _), (5, _), (6, _), (7, _), (8, _), (192, _)]) (.cons rfl rfl (.cons rfl rfl (.cons rfl rfl (.cons rfl rfl (.cons rfl rfl (.cons rfl rfl .nil)))))) ?_
    refine CJ_else rfl (congrArg Bool.not rfl) ?_
    refine CJ_skip ?_
    refine NJ_blk ?_
    refine NJ_then ?_
    refine CJ_env (E' := [(1, _), (5, _), (6, _), (7, _), (8, _)]) (.cons rfl rfl (.cons rfl rfl (.cons rfl rfl (.cons rfl rfl (.cons rfl rfl .nil))))) ?_
    refine CJ_region ?_
    refine RJ_q (Op_move rfl) rfl ?_
    refine RJ_q (Op_addN (i + 1) rfl rfl (by omega) (by omega)) rfl ?_
    refine RJ_q (Op_assign rfl) rfl ?_
    refine RJ_nil ?_
    refine NJ_back ⟨i + 1, L2, ra2, rc2, ⟨by omega, by omega, hJ⟩, rfl, rfl, rfl⟩ (by omega) (.cons rfl (by first | rfl | (simp; done)) (.cons rfl (by first | rfl | (simp; done)) (.cons rfl (by first | rfl | (simp; done)) (.cons rfl (by first | rfl | (simp; done)) (.cons rfl (by first | rfl | (simp; done)) .nil))))) (.k (e := (.k (e := (.k (e := (.k (e := skk))))))))
  ·skip
   refine RJ_q (Op_pick_t rfl (decide_eq_true hi1) rfl) rfl ?_
   refine RJ_nil ?_
   refine NJ_then ?_
   refine CJ_env (E' := [(1, _), (5, _), (6, _), (7, _), (8, _), (28, _)]) (.cons rfl rfl (.cons rfl rfl (.cons rfl rfl (.cons rfl rfl (.cons rfl rfl (.cons rfl rfl .nil)))))) ?_
   refine CJ_else rfl (decide_eq_false hi2) ?_
   refine CJ_exit ?_
   refine NJ_then_x ?_
   refine NJ_then_x ?_
   refine NJ_blk_hit ?_
   refine NJ_then ?_
   refine CJ_env (E' := [(7, _)]) (.cons rfl rfl .nil) ?_
   refine CJ_seq ?_
   refine CJ_region ?_
   refine RJ_q (Op_move rfl) rfl ?_
   refine RJ_p rfl (Op_call (vs := [_]) Try.func11 rfl rfl (MkLen_nil) rfl (Imp.refl _)) ?_
   rintro _ _ ⟨_, ⟨rfl, rfl⟩, rfl⟩
   refine RJ_app0 ?_
   refine RJ_q (Op_eql rfl rfl) rfl ?_
   refine RJ_q (Op_move rfl) rfl ?_
   refine RJ_yes (t := 196) rfl rfl (by rfl) ?_
   refine RJ_q (Op_move rfl) rfl ?_
   refine RJ_yes (t := 196) rfl rfl (by rfl) ?_
   refine RJ_p rfl (Op_call (vs := [_]) Try.func10 rfl rfl (All_nil) rfl (Imp.refl _)) ?_
   rintro _ _ ⟨_, ⟨rfl, rfl⟩, rfl⟩
   refine RJ_app0 ?_
   refine RJ_yes (t := 196) rfl rfl (by rfl) ?_
   refine RJ_q (Op_len_slice rfl Try.underlying30) rfl ?_
   refine RJ_yes (t := 196) rfl rfl (by rfl) ?_
   refine RJ_q (Op_eql rfl rfl) rfl ?_
   refine RJ_q (Op_pick_t rfl (by rfl) rfl) rfl ?_
   refine RJ_q (Op_move rfl) rfl ?_
   refine RJ_yes (t := 202) rfl rfl (by rfl) ?_
   refine RJ_q (Op_move rfl) rfl ?_
   refine RJ_yes (t := 202) rfl rfl (by rfl) ?_
   refine RJ_p rfl (Op_call (vs := [_, _]) Try.func15 rfl rfl (MkHas_nil ⟨#[97]⟩) rfl (Imp.refl _)) ?_
   rintro _ _ ⟨_, ⟨rfl, rfl⟩, rfl⟩
   refine RJ_app0 ?_
   refine RJ_yes (t := 202) rfl rfl (by rfl) ?_
   refine RJ_q (Op_not rfl) rfl ?_
   refine RJ_q (Op_pick_t rfl (by rfl) rfl) rfl ?_
   refine RJ_q (Op_assign rfl) rfl ?_
   refine RJ_nil ?_
   refine NJ_then ?_
   refine CJ_env (E' := [(4, _)]) (.cons rfl rfl .nil) ?_
   refine CJ_ret ?_
   refine NJ_ret (.inl rfl) Try.results6 (ResJ_tmp rfl ResJ_nil) ⟨rfl, rfl⟩ (.k (e := skk))
 ·skip
  refine RJ_q (Op_move rfl) rfl ?_
  refine RJ_no (t := 25) false rfl rfl (decide_eq_false hi1) (by decide) rfl ?_
  refine RJ_no (t := 25) false rfl rfl (decide_eq_false hi1) (by decide) rfl ?_
  refine RJ_q (Op_pick_f rfl (decide_eq_false hi1) rfl) rfl ?_
  refine RJ_nil ?_
  refine NJ_then ?_
  refine CJ_env (E' := [(1, _), (5, _), (6, _), (7, _), (8, _), (28, _)]) (.cons rfl rfl (.cons rfl rfl (.cons rfl rfl (.cons rfl rfl (.cons rfl rfl (.cons rfl rfl .nil)))))) ?_
  refine CJ_else rfl rfl ?_
  refine CJ_exit ?_
  refine NJ_then_x ?_
  refine NJ_then_x ?_
  refine NJ_blk_hit ?_
  refine NJ_then ?_
  refine CJ_env (E' := [(7, _)]) (.cons rfl rfl .nil) ?_
  refine CJ_seq ?_
  refine CJ_region ?_
  refine RJ_q (Op_move rfl) rfl ?_
  refine RJ_p rfl (Op_call (vs := [_]) Try.func11 rfl rfl (MkLen_nil) rfl (Imp.refl _)) ?_
  rintro _ _ ⟨_, ⟨rfl, rfl⟩, rfl⟩
  refine RJ_app0 ?_
  refine RJ_q (Op_eql rfl rfl) rfl ?_
  refine RJ_q (Op_move rfl) rfl ?_
  refine RJ_yes (t := 196) rfl rfl (by rfl) ?_
  refine RJ_q (Op_move rfl) rfl ?_
  refine RJ_yes (t := 196) rfl rfl (by rfl) ?_
  refine RJ_p rfl (Op_call (vs := [_]) Try.func10 rfl rfl (All_nil) rfl (Imp.refl _)) ?_
  rintro _ _ ⟨_, ⟨rfl, rfl⟩, rfl⟩
  refine RJ_app0 ?_
  refine RJ_yes (t := 196) rfl rfl (by rfl) ?_
  refine RJ_q (Op_len_slice rfl Try.underlying30) rfl ?_
  refine RJ_yes (t := 196) rfl rfl (by rfl) ?_
  refine RJ_q (Op_eql rfl rfl) rfl ?_
  refine RJ_q (Op_pick_t rfl (by rfl) rfl) rfl ?_
  refine RJ_q (Op_move rfl) rfl ?_
  refine RJ_yes (t := 202) rfl rfl (by rfl) ?_
  refine RJ_q (Op_move rfl) rfl ?_
  refine RJ_yes (t := 202) rfl rfl (by rfl) ?_
  refine RJ_p rfl (Op_call (vs := [_, _]) Try.func15 rfl rfl (MkHas_nil ⟨#[97]⟩) rfl (Imp.refl _)) ?_
  rintro _ _ ⟨_, ⟨rfl, rfl⟩, rfl⟩
  refine RJ_app0 ?_
  refine RJ_yes (t := 202) rfl rfl (by rfl) ?_
  refine RJ_q (Op_not rfl) rfl ?_
  refine RJ_q (Op_pick_t rfl (by rfl) rfl) rfl ?_
  refine RJ_q (Op_assign rfl) rfl ?_
  refine RJ_nil ?_
  refine NJ_then ?_
  refine CJ_env (E' := [(4, _)]) (.cons rfl rfl .nil) ?_
  refine CJ_ret ?_
  refine NJ_ret (.inl rfl) Try.results6 (ResJ_tmp rfl ResJ_nil) ⟨rfl, rfl⟩ (.k (e := skk))
end Go.Proofs.Ytbaecpddhdeapaa.SL
