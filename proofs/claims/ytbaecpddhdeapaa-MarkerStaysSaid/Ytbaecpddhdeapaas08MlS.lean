/- Contracts of MarkerStays. -/
import Derived.Test.Ytbaecpddhdeapaas08MlA
import Derived.Test.Ytbaecpddhdeapaas08Fb
namespace Go.Proofs.Ytbaecpddhdeapaa.SL
open Go Go.RowKit
set_option maxRecDepth 20000 in
set_option maxHeartbeats 4000000 in
theorem MarkerStays_any (W : World) (x : OpM) (a : Option Addr) (cap : Nat) (ops : List OpM) (hS : OpsAt W a ops) (hl : ops.length ≤ 9223372036854775807) : Spec Try.prog 4 #[.agg #[.int .i64 x.k, .string x.key, .int .i64 x.ses, .int .i64 x.req], .slice a ops.length cap] [old W] (fun v C => v = .bool true ∧ C = [old W]) := by
 refine Spec_intro (n := 163) (args := [.agg #[.int .i64 x.k, .string x.key, .int .i64 x.ses, .int .i64 x.req], .slice a ops.length cap]) Try.func4 rfl rfl rfl fun s R => ?_
 refine CJ_app1 ?_
 refine CJ_env (E' := [(0, _), (1, _)]) (.cons rfl rfl (.cons rfl rfl .nil)) ?_
 refine CJ_seq ?_
 refine CJ_region ?_
 refine RJ_p rfl (Op_box rfl) ?_
 rintro _ _ ⟨b2, rfl, rfl⟩
 refine RJ_q (Op_assign rfl) rfl ?_
 refine RJ_nil ?_
 refine NJ_then ?_
 refine CJ_env (E' := [(1, _), (2, _), (4, _)]) (.cons rfl rfl (.cons rfl rfl (.cons rfl rfl .nil))) ?_
 refine CJ_seq ?_
 refine CJ_seq ?_
 refine CJ_region ?_
 refine RJ_p rfl (Op_call (vs := []) Try.func7 rfl rfl (awake_any) rfl (Imp.refl _)) ?_
 rintro _ _ ⟨_, ⟨rfl, rfl⟩, rfl⟩
 refine RJ_app0 ?_
 refine RJ_q (Op_not rfl) rfl ?_
 refine RJ_nil ?_
 refine NJ_then ?_
 refine CJ_env (E' := [(1, _), (2, _), (4, _), (11, _)]) (.cons rfl rfl (.cons rfl rfl (.cons rfl rfl (.cons rfl rfl .nil)))) ?_
 refine CJ_else rfl (congrArg Bool.not rfl) ?_
 refine CJ_skip ?_
 refine NJ_then ?_
 refine CJ_env (E' := [(1, _), (2, _), (4, _)]) (.cons rfl rfl (.cons rfl rfl (.cons rfl rfl .nil))) ?_
 refine CJ_seq ?_
 refine CJ_region ?_
 refine RJ_p rfl (Op_call (vs := [_]) Try.func8 rfl rfl (MkNew_any 1000) rfl (Imp.refl _)) ?_
 rintro _ _ ⟨_, ⟨g, rfl, rfl⟩, rfl⟩
 refine RJ_app1 ?_
 refine RJ_q (Op_assign rfl) rfl ?_
 refine RJ_nil ?_
 refine NJ_then ?_
 refine CJ_env (E' := [(1, _), (2, _), (4, _), (5, _)]) (.cons rfl rfl (.cons rfl rfl (.cons rfl rfl (.cons rfl rfl .nil)))) ?_
 refine CJ_seq ?_
 refine CJ_seq ?_
 refine CJ_region ?_
 refine RJ_q (Op_move rfl) rfl ?_
 refine RJ_q (Op_fieldAddr (o' := 1) rfl Try.underlying29 rfl sz9 rfl rfl) rfl ?_
 refine RJ_q (Op_load rfl (load_cell Try.underlying9 rfl pkk (Nth.s Nth.z))) rfl ?_
 refine RJ_q (Op_fieldAddr (o' := 2) rfl Try.underlying29 rfl sz3 rfl rfl) rfl ?_
 refine RJ_q (Op_load rfl (load_cell Try.underlying3 rfl pkk (Nth.s (Nth.s Nth.z)))) rfl ?_
 refine RJ_q (Op_fieldAddr (o' := 3) rfl Try.underlying29 rfl sz3 rfl rfl) rfl ?_
 refine RJ_q (Op_load rfl (load_cell Try.underlying3 rfl pkk (Nth.s (Nth.s (Nth.s Nth.z))))) rfl ?_
 refine RJ_p rfl (Op_call (vs := [_, _, _, _]) Try.func9 rfl rfl (MkSet_any g 1000 [] x.key x.ses x.req) rfl (.k (e := (Imp.refl _)))) ?_
 rintro _ _ ⟨_, ⟨rfl, rfl⟩, rfl⟩
 refine RJ_app1 ?_
 rw [show setR ⟨x.key, x.ses, x.req⟩ 1000 [] = (true, [⟨x.key, x.ses, x.req⟩]) from rfl]
 refine RJ_q (Op_neq rfl rfl) rfl ?_
 refine RJ_nil ?_
 refine NJ_then ?_
 refine CJ_env (E' := [(1, _), (2, _), (4, _), (5, _), (21, _)]) (.cons rfl rfl (.cons rfl rfl (.cons rfl rfl (.cons rfl rfl (.cons rfl rfl .nil))))) ?_
 refine CJ_else rfl (by rfl) ?_
 refine CJ_skip ?_
 refine NJ_then ?_
 refine CJ_env (E' := [(1, _), (2, _), (4, _), (5, _)]) (.cons rfl rfl (.cons rfl rfl (.cons rfl rfl (.cons rfl rfl .nil)))) ?_
 refine CJ_seq ?_
 refine CJ_seq ?_
 refine CJ_region ?_
 refine RJ_q (Op_assign rfl) rfl ?_
 refine RJ_nil ?_
 refine NJ_then ?_
 refine CJ_env (E' := [(1, _), (2, _), (4, _), (5, _), (6, _)]) (.cons rfl rfl (.cons rfl rfl (.cons rfl rfl (.cons rfl rfl (.cons rfl rfl .nil))))) ?_
 refine CJ_block ?_
 refine CJ_loop (fun E H mz => ∃ (i : Nat) (L : List Mark), (i ≤ 200 ∧ i ≤ ops.length ∧ StI ⟨x.key, x.ses, x.req⟩ i L) ∧ E = [(1, .slice a ops.length cap), (2, .pointer (some ⟨b2, 0, none⟩)), (5, .pointer (some ⟨g, 0, none⟩)), (6, .int .i64 (i : Nat))] ∧ H = [MarksP g 1000 (L), pt b2 (.cells #[.int .i64 x.k, .string x.key, .int .i64 x.ses, .int .i64 x.req] 29 (0, 0)), old W] ++ R ∧ mz = 200 - i) (E' := [(1, .slice a ops.length cap), (2, .pointer (some ⟨b2, 0, none⟩)), (5, .pointer (some ⟨g, 0, none⟩)), (6, .int .i64 (0 : Nat))]) (H' := [MarksP g 1000 ([⟨x.key, x.ses, x.req⟩]), pt b2 (.cells #[.int .i64 x.k, .string x.key, .int .i64 x.ses, .int .i64 x.req] 29 (0, 0)), old W] ++ R) (m := 200 - 0) ⟨0, [⟨x.key, x.ses, x.req⟩], ⟨by omega, by omega, by simp, by simp, by simp⟩, rfl, rfl, rfl⟩ (.cons rfl rfl (.cons rfl rfl (.cons rfl rfl (.cons rfl rfl .nil)))) (.k (e := (.k (e := (.k (e := skk)))))) ?_
 rintro _ _ _ ⟨i, L, ⟨hi, hio, hI⟩, rfl, rfl, rfl⟩
 refine CJ_app3 ?_
 refine CJ_seq ?_
 refine CJ_seq ?_
 refine CJ_region ?_
 refine RJ_q (Op_move rfl) rfl ?_
 refine RJ_q (Op_move rfl) rfl ?_
 refine RJ_q (Op_len_slice rfl Try.underlying22) rfl ?_
 refine RJ_q (Op_lss rfl rfl) rfl ?_
 by_cases hi1 : (i : Int) < ops.length
 ·skip
  refine RJ_q (Op_move rfl) rfl ?_
  refine RJ_yes (t := 26) rfl rfl (decide_eq_true hi1) ?_
  refine RJ_q (Op_move rfl) rfl ?_
  refine RJ_yes (t := 26) rfl rfl (decide_eq_true hi1) ?_
  refine RJ_q (Op_lss rfl rfl) rfl ?_
  by_cases hi2 : (i : Int) < 200
  ·skip
   obtain ⟨o, hoo⟩ : ∃ o, ops[i]? = some o := ⟨ops[i], List.getElem?_eq_getElem (by omega)⟩
   obtain ⟨po, hpo, hco⟩ := hS _ _ hoo
   refine RJ_q (Op_pick_t rfl (decide_eq_true hi1) rfl) rfl ?_
   refine RJ_nil ?_
   refine NJ_then ?_
   refine CJ_env (E' := [(1, _), (2, _), (5, _), (6, _), (29, _)]) (.cons rfl rfl (.cons rfl rfl (.cons rfl rfl (.cons rfl rfl (.cons rfl rfl .nil))))) ?_
   refine CJ_then rfl (decide_eq_true hi2) ?_
   refine CJ_skip ?_
   refine NJ_then ?_
   refine CJ_env (E' := [(1, _), (2, _), (5, _), (6, _)]) (.cons rfl rfl (.cons rfl rfl (.cons rfl rfl (.cons rfl rfl .nil)))) ?_
   refine CJ_seq ?_
   refine CJ_block ?_
   refine CJ_seq ?_
   refine CJ_region ?_
   refine RJ_q (Op_move rfl) rfl ?_
   refine RJ_q (Op_move rfl) rfl ?_
   refine RJ_q (Op_indexOld rfl hpo rfl Try.underlying22 sz29 (by omega)) rfl ?_
   refine RJ_q (Op_load rfl (load_old_struct (vs := [.int .i64 o.k, .string o.key, .int .i64 o.ses, .int .i64 o.req]) Try.underlying29 sz29 pkk rfl hco)) rfl ?_
   refine RJ_p rfl (Op_alloc zr29) ?_
   rintro _ _ ⟨b7, rfl, rfl⟩
   refine RJ_d0 (Op_store (cs' := #[_, _, _, _]) rfl rfl sz29 (by rfl) (by simp [Value.cells, Value.oneCell']) rpp rfl (free_zero _ _) (by rfl)) ?_
   refine RJ_nil ?_
   refine NJ_then ?_
   refine CJ_env (E' := [(1, _), (2, _), (5, _), (6, _), (7, _)]) (.cons rfl rfl (.cons rfl rfl (.cons rfl rfl (.cons rfl rfl (.cons rfl rfl .nil))))) ?_
   refine CJ_seq ?_
   refine CJ_region ?_
   refine RJ_q (Op_fieldAddr (o' := 2) rfl Try.underlying29 rfl sz3 rfl rfl) rfl ?_
   refine RJ_q (Op_load rfl (load_cell Try.underlying3 rfl pkk (Nth.s (Nth.s Nth.z)))) rfl ?_
   refine RJ_q (Op_fieldAddr (o' := 2) rfl Try.underlying29 rfl sz3 rfl rfl) rfl ?_
   refine RJ_q (Op_load rfl (load_cell Try.underlying3 rfl pkk (Nth.s (Nth.s Nth.z)))) rfl ?_
   refine RJ_q (Op_eql rfl rfl) rfl ?_
   by_cases hm1 : o.ses = x.ses
   ·skip
    refine RJ_q (Op_move rfl) rfl ?_
    refine RJ_yes (t := 41) rfl rfl (decide_eq_true hm1) ?_
    refine RJ_q (Op_fieldAddr (o' := 3) rfl Try.underlying29 rfl sz3 rfl rfl) rfl ?_
    refine RJ_yes (t := 41) rfl rfl (decide_eq_true hm1) ?_
    refine RJ_q (Op_load rfl (load_cell Try.underlying3 rfl pkk (Nth.s (Nth.s (Nth.s Nth.z))))) rfl ?_
    refine RJ_yes (t := 41) rfl rfl (decide_eq_true hm1) ?_
    refine RJ_q (Op_fieldAddr (o' := 3) rfl Try.underlying29 rfl sz3 rfl rfl) rfl ?_
    refine RJ_yes (t := 41) rfl rfl (decide_eq_true hm1) ?_
    refine RJ_q (Op_load rfl (load_cell Try.underlying3 rfl pkk (Nth.s (Nth.s (Nth.s Nth.z))))) rfl ?_
    refine RJ_yes (t := 41) rfl rfl (decide_eq_true hm1) ?_
    refine RJ_q (Op_geq rfl rfl) rfl ?_
    by_cases hm2 : x.req ≤ o.req
    ·skip
     refine RJ_q (Op_pick_t rfl (decide_eq_true hm1) rfl) rfl ?_
     refine RJ_q (Op_assign rfl) rfl ?_
     refine RJ_nil ?_
     refine NJ_then ?_
     refine CJ_env (E' := [(1, _), (2, _), (5, _), (6, _), (7, _), (8, _)]) (.cons rfl rfl (.cons rfl rfl (.cons rfl rfl (.cons rfl rfl (.cons rfl rfl (.cons rfl rfl .nil)))))) ?_
     refine CJ_meet (fun E H => ∃ (L2 : List Mark), (StI ⟨x.key, x.ses, x.req⟩ (i + 1) L2) ∧ E = [(1, .slice a ops.length cap), (2, .pointer (some ⟨b2, 0, none⟩)), (5, .pointer (some ⟨g, 0, none⟩)), (6, .int .i64 (i : Nat))] ∧ H = [MarksP g 1000 (L2), pt b2 (.cells #[.int .i64 x.k, .string x.key, .int .i64 x.ses, .int .i64 x.req] 29 (0, 0)), old W] ++ R) ?_ ?_
     ·skip
      refine CJ_block ?_
      refine CJ_seq ?_
      refine CJ_region ?_
      refine RJ_q (Op_fieldAddr (o' := 0) rfl Try.underlying29 rfl sz3 rfl rfl) rfl ?_
      refine RJ_q (Op_load rfl (load_cell Try.underlying3 rfl pkk Nth.z)) rfl ?_
      refine RJ_q (Op_eql rfl rfl) rfl ?_
      by_cases k0 : o.k = 0
      ·skip
       refine RJ_q (Op_assign rfl) rfl ?_
       refine RJ_nil ?_
       refine NJ_then ?_
       refine CJ_env (E' := [(1, _), (2, _), (5, _), (6, _), (7, _), (8, _), (48, _)]) (.cons rfl rfl (.cons rfl rfl (.cons rfl rfl (.cons rfl rfl (.cons rfl rfl (.cons rfl rfl (.cons rfl rfl .nil))))))) ?_
       refine CJ_then rfl (decide_eq_true k0) ?_
       refine CJ_region ?_
       refine RJ_q (Op_move rfl) rfl ?_
       refine RJ_q (Op_fieldAddr (o' := 1) rfl Try.underlying29 rfl sz9 rfl rfl) rfl ?_
       refine RJ_q (Op_load rfl (load_cell Try.underlying9 rfl pkk (Nth.s Nth.z))) rfl ?_
       refine RJ_q (Op_fieldAddr (o' := 2) rfl Try.underlying29 rfl sz3 rfl rfl) rfl ?_
       refine RJ_q (Op_load rfl (load_cell Try.underlying3 rfl pkk (Nth.s (Nth.s Nth.z)))) rfl ?_
       refine RJ_q (Op_fieldAddr (o' := 3) rfl Try.underlying29 rfl sz3 rfl rfl) rfl ?_
       refine RJ_q (Op_load rfl (load_cell Try.underlying3 rfl pkk (Nth.s (Nth.s (Nth.s Nth.z))))) rfl ?_
       refine RJ_p rfl (Op_call (vs := [_, _, _, _]) Try.func9 rfl rfl (MkSet_any g 1000 L o.key o.ses o.req) rfl (.k (e := (Imp.refl _)))) ?_
       rintro _ _ ⟨_, ⟨rfl, rfl⟩, rfl⟩
       refine RJ_app1 ?_
       refine RJ_nil ?_
       refine NJ_blk ?_
       have hJ : StI ⟨x.key, x.ses, x.req⟩ (i + 1) ((setR ⟨o.key, o.ses, o.req⟩ 1000 L).2) := hI.set
       refine NJ_meet ⟨_, hJ, rfl, rfl⟩ (.cons rfl (by first | rfl | (simp; done)) (.cons rfl (by first | rfl | (simp; done)) (.cons rfl (by first | rfl | (simp; done)) (.cons rfl (by first | rfl | (simp; done)) .nil)))) (.k (e := (.k (e := (.k (e := skk))))))
      ·skip
       refine RJ_q (Op_assign rfl) rfl ?_
       refine RJ_nil ?_
       refine NJ_then ?_
       refine CJ_env (E' := [(1, _), (2, _), (5, _), (6, _), (7, _), (8, _), (48, _)]) (.cons rfl rfl (.cons rfl rfl (.cons rfl rfl (.cons rfl rfl (.cons rfl rfl (.cons rfl rfl (.cons rfl rfl .nil))))))) ?_
       refine CJ_else rfl (decide_eq_false k0) ?_
       refine CJ_seq ?_
       refine CJ_region ?_
       refine RJ_q (Op_fieldAddr (o' := 0) rfl Try.underlying29 rfl sz3 rfl rfl) rfl ?_
       refine RJ_q (Op_load rfl (load_cell Try.underlying3 rfl pkk Nth.z)) rfl ?_
       refine RJ_q (Op_eql rfl rfl) rfl ?_
       by_cases k1 : o.k = 1
       ·skip
        refine RJ_q (Op_move rfl) rfl ?_
        refine RJ_yes (t := 64) rfl rfl (decide_eq_true k1) ?_
        refine RJ_q (Op_fieldAddr (o' := 1) rfl Try.underlying29 rfl sz9 rfl rfl) rfl ?_
        refine RJ_yes (t := 64) rfl rfl (decide_eq_true k1) ?_
        refine RJ_q (Op_load rfl (load_cell Try.underlying9 rfl pkk (Nth.s Nth.z))) rfl ?_
        refine RJ_yes (t := 64) rfl rfl (decide_eq_true k1) ?_
        refine RJ_q (Op_fieldAddr (o' := 1) rfl Try.underlying29 rfl sz9 rfl rfl) rfl ?_
        refine RJ_yes (t := 64) rfl rfl (decide_eq_true k1) ?_
        refine RJ_q (Op_load rfl (load_cell Try.underlying9 rfl pkk (Nth.s Nth.z))) rfl ?_
        refine RJ_yes (t := 64) rfl rfl (decide_eq_true k1) ?_
        refine RJ_q (Op_str_neq rfl rfl) rfl ?_
        by_cases e1 : o.key ≠ x.key
        ·skip
         refine RJ_yes (t := 64) rfl rfl (decide_eq_true k1) ?_
         refine RJ_q (Op_move rfl) rfl ?_
         refine RJ_no (t := 70) true rfl rfl (decide_eq_true e1) (by decide) rfl ?_
         refine RJ_no (t := 70) true rfl rfl (decide_eq_true e1) (by decide) rfl ?_
         refine RJ_no (t := 70) true rfl rfl (decide_eq_true e1) (by decide) rfl ?_
         refine RJ_no (t := 70) true rfl rfl (decide_eq_true e1) (by decide) rfl ?_
         refine RJ_no (t := 70) true rfl rfl (decide_eq_true e1) (by decide) rfl ?_
         refine RJ_yes (t := 64) rfl rfl (decide_eq_true k1) ?_
         refine RJ_q (Op_pick_t rfl (decide_eq_true e1) rfl) rfl ?_
         refine RJ_yes (t := 64) rfl rfl (decide_eq_true k1) ?_
         refine RJ_q (Op_move rfl) rfl ?_
         refine RJ_no (t := 77) true rfl rfl rfl (by decide) rfl ?_
         refine RJ_no (t := 77) true rfl rfl rfl (by decide) rfl ?_
         refine RJ_no (t := 77) true rfl rfl rfl (by decide) rfl ?_
         refine RJ_no (t := 77) true rfl rfl rfl (by decide) rfl ?_
         refine RJ_no (t := 77) true rfl rfl rfl (by decide) rfl ?_
         refine RJ_yes (t := 64) rfl rfl (decide_eq_true k1) ?_
         refine RJ_q (Op_pick_t rfl rfl rfl) rfl ?_
         refine RJ_q (Op_pick_t rfl (decide_eq_true k1) rfl) rfl ?_
         refine RJ_q (Op_assign rfl) rfl ?_
         refine RJ_nil ?_
         refine NJ_then ?_
         refine CJ_env (E' := [(1, _), (2, _), (5, _), (6, _), (7, _), (8, _), (60, _)]) (.cons rfl rfl (.cons rfl rfl (.cons rfl rfl (.cons rfl rfl (.cons rfl rfl (.cons rfl rfl (.cons rfl rfl .nil))))))) ?_
         refine CJ_then rfl rfl ?_
         refine CJ_region ?_
         refine RJ_q (Op_move rfl) rfl ?_
         refine RJ_q (Op_fieldAddr (o' := 1) rfl Try.underlying29 rfl sz9 rfl rfl) rfl ?_
         refine RJ_q (Op_load rfl (load_cell Try.underlying9 rfl pkk (Nth.s Nth.z))) rfl ?_
         refine RJ_q (Op_fieldAddr (o' := 2) rfl Try.underlying29 rfl sz3 rfl rfl) rfl ?_
         refine RJ_q (Op_load rfl (load_cell Try.underlying3 rfl pkk (Nth.s (Nth.s Nth.z)))) rfl ?_
         refine RJ_q (Op_fieldAddr (o' := 3) rfl Try.underlying29 rfl sz3 rfl rfl) rfl ?_
         refine RJ_q (Op_load rfl (load_cell Try.underlying3 rfl pkk (Nth.s (Nth.s (Nth.s Nth.z))))) rfl ?_
         refine RJ_p rfl (Op_call (vs := [_, _, _, _]) Try.func12 rfl rfl (MkClear_any g 1000 L o.key o.ses o.req) rfl (.k (e := (Imp.refl _)))) ?_
         rintro _ _ ⟨_, ⟨rfl, rfl⟩, rfl⟩
         refine RJ_app1 ?_
         refine RJ_nil ?_
         refine NJ_blk ?_
         have hJ : StI ⟨x.key, x.ses, x.req⟩ (i + 1) ((if (⟨o.key, o.ses, o.req⟩ : Mark) ∈ L then L.erase ⟨o.key, o.ses, o.req⟩ else L)) := hI.clr (fun e => e1 (congrArg Mark.key e).symm)
         refine NJ_meet ⟨_, hJ, rfl, rfl⟩ (.cons rfl (by first | rfl | (simp; done)) (.cons rfl (by first | rfl | (simp; done)) (.cons rfl (by first | rfl | (simp; done)) (.cons rfl (by first | rfl | (simp; done)) .nil)))) (.k (e := (.k (e := (.k (e := skk))))))
        ·skip
         refine RJ_yes (t := 64) rfl rfl (decide_eq_true k1) ?_
         refine RJ_q (Op_move rfl) rfl ?_
         refine RJ_yes (t := 70) rfl rfl (decide_eq_false e1) ?_
         refine RJ_q (Op_fieldAddr (o' := 2) rfl Try.underlying29 rfl sz3 rfl rfl) rfl ?_
         refine RJ_yes (t := 70) rfl rfl (decide_eq_false e1) ?_
         refine RJ_q (Op_load rfl (load_cell Try.underlying3 rfl pkk (Nth.s (Nth.s Nth.z)))) rfl ?_
         refine RJ_yes (t := 70) rfl rfl (decide_eq_false e1) ?_
         refine RJ_q (Op_fieldAddr (o' := 2) rfl Try.underlying29 rfl sz3 rfl rfl) rfl ?_
         refine RJ_yes (t := 70) rfl rfl (decide_eq_false e1) ?_
         refine RJ_q (Op_load rfl (load_cell Try.underlying3 rfl pkk (Nth.s (Nth.s Nth.z)))) rfl ?_
         refine RJ_yes (t := 70) rfl rfl (decide_eq_false e1) ?_
         refine RJ_q (Op_neq rfl rfl) rfl ?_
         by_cases e2 : o.ses ≠ x.ses
         ·skip
          refine RJ_yes (t := 64) rfl rfl (decide_eq_true k1) ?_
          refine RJ_q (Op_pick_f rfl (decide_eq_false e1) rfl) rfl ?_
          refine RJ_yes (t := 64) rfl rfl (decide_eq_true k1) ?_
          refine RJ_q (Op_move rfl) rfl ?_
          refine RJ_no (t := 77) true rfl rfl (decide_eq_true e2) (by decide) rfl ?_
          refine RJ_no (t := 77) true rfl rfl (decide_eq_true e2) (by decide) rfl ?_
          refine RJ_no (t := 77) true rfl rfl (decide_eq_true e2) (by decide) rfl ?_
          refine RJ_no (t := 77) true rfl rfl (decide_eq_true e2) (by decide) rfl ?_
          refine RJ_no (t := 77) true rfl rfl (decide_eq_true e2) (by decide) rfl ?_
          refine RJ_yes (t := 64) rfl rfl (decide_eq_true k1) ?_
          refine RJ_q (Op_pick_t rfl (decide_eq_true e2) rfl) rfl ?_
          refine RJ_q (Op_pick_t rfl (decide_eq_true k1) rfl) rfl ?_
          refine RJ_q (Op_assign rfl) rfl ?_
          refine RJ_nil ?_
          refine NJ_then ?_
          refine CJ_env (E' := [(1, _), (2, _), (5, _), (6, _), (7, _), (8, _), (60, _)]) (.cons rfl rfl (.cons rfl rfl (.cons rfl rfl (.cons rfl rfl (.cons rfl rfl (.cons rfl rfl (.cons rfl rfl .nil))))))) ?_
          refine CJ_then rfl rfl ?_
          refine CJ_region ?_
          refine RJ_q (Op_move rfl) rfl ?_
          refine RJ_q (Op_fieldAddr (o' := 1) rfl Try.underlying29 rfl sz9 rfl rfl) rfl ?_
          refine RJ_q (Op_load rfl (load_cell Try.underlying9 rfl pkk (Nth.s Nth.z))) rfl ?_
          refine RJ_q (Op_fieldAddr (o' := 2) rfl Try.underlying29 rfl sz3 rfl rfl) rfl ?_
          refine RJ_q (Op_load rfl (load_cell Try.underlying3 rfl pkk (Nth.s (Nth.s Nth.z)))) rfl ?_
          refine RJ_q (Op_fieldAddr (o' := 3) rfl Try.underlying29 rfl sz3 rfl rfl) rfl ?_
          refine RJ_q (Op_load rfl (load_cell Try.underlying3 rfl pkk (Nth.s (Nth.s (Nth.s Nth.z))))) rfl ?_
          refine RJ_p rfl (Op_call (vs := [_, _, _, _]) Try.func12 rfl rfl (MkClear_any g 1000 L o.key o.ses o.req) rfl (.k (e := (Imp.refl _)))) ?_
          rintro _ _ ⟨_, ⟨rfl, rfl⟩, rfl⟩
          refine RJ_app1 ?_
          refine RJ_nil ?_
          refine NJ_blk ?_
          have hJ : StI ⟨x.key, x.ses, x.req⟩ (i + 1) ((if (⟨o.key, o.ses, o.req⟩ : Mark) ∈ L then L.erase ⟨o.key, o.ses, o.req⟩ else L)) := hI.clr (fun e => e2 (congrArg Mark.ses e).symm)
          refine NJ_meet ⟨_, hJ, rfl, rfl⟩ (.cons rfl (by first | rfl | (simp; done)) (.cons rfl (by first | rfl | (simp; done)) (.cons rfl (by first | rfl | (simp; done)) (.cons rfl (by first | rfl | (simp; done)) .nil)))) (.k (e := (.k (e := (.k (e := skk))))))
         ·skip
          refine RJ_yes (t := 64) rfl rfl (decide_eq_true k1) ?_
          refine RJ_q (Op_pick_f rfl (decide_eq_false e1) rfl) rfl ?_
          refine RJ_yes (t := 64) rfl rfl (decide_eq_true k1) ?_
          refine RJ_q (Op_move rfl) rfl ?_
          refine RJ_yes (t := 77) rfl rfl (decide_eq_false e2) ?_
          refine RJ_q (Op_fieldAddr (o' := 3) rfl Try.underlying29 rfl sz3 rfl rfl) rfl ?_
          refine RJ_yes (t := 77) rfl rfl (decide_eq_false e2) ?_
          refine RJ_q (Op_load rfl (load_cell Try.underlying3 rfl pkk (Nth.s (Nth.s (Nth.s Nth.z))))) rfl ?_
          refine RJ_yes (t := 77) rfl rfl (decide_eq_false e2) ?_
          refine RJ_q (Op_fieldAddr (o' := 3) rfl Try.underlying29 rfl sz3 rfl rfl) rfl ?_
          refine RJ_yes (t := 77) rfl rfl (decide_eq_false e2) ?_
          refine RJ_q (Op_load rfl (load_cell Try.underlying3 rfl pkk (Nth.s (Nth.s (Nth.s Nth.z))))) rfl ?_
          refine RJ_yes (t := 77) rfl rfl (decide_eq_false e2) ?_
          refine RJ_q (Op_neq rfl rfl) rfl ?_
          by_cases e3 : o.req ≠ x.req
          ·skip
           refine RJ_yes (t := 64) rfl rfl (decide_eq_true k1) ?_
           refine RJ_q (Op_pick_f rfl (decide_eq_false e2) rfl) rfl ?_
           refine RJ_q (Op_pick_t rfl (decide_eq_true k1) rfl) rfl ?_
           refine RJ_q (Op_assign rfl) rfl ?_
           refine RJ_nil ?_
           refine NJ_then ?_
           refine CJ_env (E' := [(1, _), (2, _), (5, _), (6, _), (7, _), (8, _), (60, _)]) (.cons rfl rfl (.cons rfl rfl (.cons rfl rfl (.cons rfl rfl (.cons rfl rfl (.cons rfl rfl (.cons rfl rfl .nil))))))) ?_
           refine CJ_then rfl (decide_eq_true e3) ?_
           refine CJ_region ?_
           refine RJ_q (Op_move rfl) rfl ?_
           refine RJ_q (Op_fieldAddr (o' := 1) rfl Try.underlying29 rfl sz9 rfl rfl) rfl ?_
           refine RJ_q (Op_load rfl (load_cell Try.underlying9 rfl pkk (Nth.s Nth.z))) rfl ?_
           refine RJ_q (Op_fieldAddr (o' := 2) rfl Try.underlying29 rfl sz3 rfl rfl) rfl ?_
           refine RJ_q (Op_load rfl (load_cell Try.underlying3 rfl pkk (Nth.s (Nth.s Nth.z)))) rfl ?_
           refine RJ_q (Op_fieldAddr (o' := 3) rfl Try.underlying29 rfl sz3 rfl rfl) rfl ?_
           refine RJ_q (Op_load rfl (load_cell Try.underlying3 rfl pkk (Nth.s (Nth.s (Nth.s Nth.z))))) rfl ?_
           refine RJ_p rfl (Op_call (vs := [_, _, _, _]) Try.func12 rfl rfl (MkClear_any g 1000 L o.key o.ses o.req) rfl (.k (e := (Imp.refl _)))) ?_
           rintro _ _ ⟨_, ⟨rfl, rfl⟩, rfl⟩
           refine RJ_app1 ?_
           refine RJ_nil ?_
           refine NJ_blk ?_
           have hJ : StI ⟨x.key, x.ses, x.req⟩ (i + 1) ((if (⟨o.key, o.ses, o.req⟩ : Mark) ∈ L then L.erase ⟨o.key, o.ses, o.req⟩ else L)) := hI.clr (fun e => e3 (congrArg Mark.req e).symm)
           refine NJ_meet ⟨_, hJ, rfl, rfl⟩ (.cons rfl (by first | rfl | (simp; done)) (.cons rfl (by first | rfl | (simp; done)) (.cons rfl (by first | rfl | (simp; done)) (.cons rfl (by first | rfl | (simp; done)) .nil)))) (.k (e := (.k (e := (.k (e := skk))))))
          ·skip
           refine RJ_yes (t := 64) rfl rfl (decide_eq_true k1) ?_
           refine RJ_q (Op_pick_f rfl (decide_eq_false e2) rfl) rfl ?_
           refine RJ_q (Op_pick_t rfl (decide_eq_true k1) rfl) rfl ?_
           refine RJ_q (Op_assign rfl) rfl ?_
           refine RJ_nil ?_
           refine NJ_then ?_
           refine CJ_env (E' := [(1, _), (2, _), (5, _), (6, _), (7, _), (8, _), (60, _)]) (.cons rfl rfl (.cons rfl rfl (.cons rfl rfl (.cons rfl rfl (.cons rfl rfl (.cons rfl rfl (.cons rfl rfl .nil))))))) ?_
           refine CJ_else rfl (decide_eq_false e3) ?_
           refine CJ_seq ?_
           refine CJ_region ?_
           refine RJ_q (Op_fieldAddr (o' := 0) rfl Try.underlying29 rfl sz3 rfl rfl) rfl ?_
           refine RJ_q (Op_load rfl (load_cell Try.underlying3 rfl pkk Nth.z)) rfl ?_
           refine RJ_q (Op_eql rfl rfl) rfl ?_
           by_cases k2 : o.k = 2
           ·skip
            refine RJ_q (Op_move rfl) rfl ?_
            refine RJ_yes (t := 97) rfl rfl (decide_eq_true k2) ?_
            refine RJ_q (Op_move rfl) rfl ?_
            refine RJ_yes (t := 97) rfl rfl (decide_eq_true k2) ?_
            refine RJ_q (Op_move rfl) rfl ?_
            refine RJ_yes (t := 99) rfl rfl (decide_eq_true hm2) ?_
            refine RJ_q (Op_fieldAddr (o' := 1) rfl Try.underlying29 rfl sz9 rfl rfl) rfl ?_
            refine RJ_yes (t := 99) rfl rfl (decide_eq_true hm2) ?_
            refine RJ_q (Op_load rfl (load_cell Try.underlying9 rfl pkk (Nth.s Nth.z))) rfl ?_
            refine RJ_yes (t := 99) rfl rfl (decide_eq_true hm2) ?_
            refine RJ_q (Op_fieldAddr (o' := 1) rfl Try.underlying29 rfl sz9 rfl rfl) rfl ?_
            refine RJ_yes (t := 99) rfl rfl (decide_eq_true hm2) ?_
            refine RJ_q (Op_load rfl (load_cell Try.underlying9 rfl pkk (Nth.s Nth.z))) rfl ?_
            refine RJ_yes (t := 99) rfl rfl (decide_eq_true hm2) ?_
            refine RJ_q (Op_str_eql rfl rfl) rfl ?_
            by_cases e4 : o.key = x.key
            ·skip
             refine RJ_yes (t := 97) rfl rfl (decide_eq_true k2) ?_
             refine RJ_q (Op_pick_t rfl (decide_eq_true hm2) rfl) rfl ?_
             refine RJ_yes (t := 97) rfl rfl (decide_eq_true k2) ?_
             refine RJ_q (Op_not rfl) rfl ?_
             refine RJ_q (Op_pick_t rfl (decide_eq_true k2) rfl) rfl ?_
             refine RJ_q (Op_assign rfl) rfl ?_
             refine RJ_nil ?_
             refine NJ_then ?_
             refine CJ_env (E' := [(1, _), (2, _), (5, _), (6, _), (7, _), (8, _), (93, _)]) (.cons rfl rfl (.cons rfl rfl (.cons rfl rfl (.cons rfl rfl (.cons rfl rfl (.cons rfl rfl (.cons rfl rfl .nil))))))) ?_
             refine CJ_else rfl (congrArg Bool.not (decide_eq_true e4)) ?_
             refine CJ_seq ?_
             refine CJ_region ?_
             refine RJ_q (Op_fieldAddr (o' := 0) rfl Try.underlying29 rfl sz3 rfl rfl) rfl ?_
             refine RJ_q (Op_load rfl (load_cell Try.underlying3 rfl pkk Nth.z)) rfl ?_
             refine RJ_q (Op_eql rfl rfl) rfl ?_
             by_cases k3 : o.k = 3
             ·skip
              refine RJ_q (Op_move rfl) rfl ?_
              refine RJ_yes (t := 120) rfl rfl (decide_eq_true k3) ?_
              refine RJ_q (Op_move rfl) rfl ?_
              refine RJ_yes (t := 120) rfl rfl (decide_eq_true k3) ?_
              refine RJ_q (Op_not rfl) rfl ?_
              refine RJ_q (Op_pick_t rfl (decide_eq_true k3) rfl) rfl ?_
              refine RJ_q (Op_assign rfl) rfl ?_
              refine RJ_nil ?_
              refine NJ_then ?_
              refine CJ_env (E' := [(1, _), (2, _), (5, _), (6, _), (7, _), (116, _)]) (.cons rfl rfl (.cons rfl rfl (.cons rfl rfl (.cons rfl rfl (.cons rfl rfl (.cons rfl rfl .nil)))))) ?_
              refine CJ_else rfl (congrArg Bool.not (decide_eq_true hm2)) ?_
              refine CJ_skip ?_
              refine NJ_blk ?_
              have hJ : StI ⟨x.key, x.ses, x.req⟩ (i + 1) (L) := hI.more
              refine NJ_meet ⟨_, hJ, rfl, rfl⟩ (.cons rfl (by first | rfl | (simp; done)) (.cons rfl (by first | rfl | (simp; done)) (.cons rfl (by first | rfl | (simp; done)) (.cons rfl (by first | rfl | (simp; done)) .nil)))) (.k (e := (.k (e := (.k (e := skk))))))
             ·skip
              refine RJ_q (Op_move rfl) rfl ?_
              refine RJ_no (t := 120) false rfl rfl (decide_eq_false k3) (by decide) rfl ?_
              refine RJ_no (t := 120) false rfl rfl (decide_eq_false k3) (by decide) rfl ?_
              refine RJ_q (Op_pick_f rfl (decide_eq_false k3) rfl) rfl ?_
              refine RJ_q (Op_assign rfl) rfl ?_
              refine RJ_nil ?_
              refine NJ_then ?_
              refine CJ_env (E' := [(1, _), (2, _), (5, _), (6, _), (7, _), (116, _)]) (.cons rfl rfl (.cons rfl rfl (.cons rfl rfl (.cons rfl rfl (.cons rfl rfl (.cons rfl rfl .nil)))))) ?_
              refine CJ_else rfl rfl ?_
              refine CJ_skip ?_
              refine NJ_blk ?_
              have hJ : StI ⟨x.key, x.ses, x.req⟩ (i + 1) (L) := hI.more
              refine NJ_meet ⟨_, hJ, rfl, rfl⟩ (.cons rfl (by first | rfl | (simp; done)) (.cons rfl (by first | rfl | (simp; done)) (.cons rfl (by first | rfl | (simp; done)) (.cons rfl (by first | rfl | (simp; done)) .nil)))) (.k (e := (.k (e := (.k (e := skk))))))
            ·skip
             refine RJ_yes (t := 97) rfl rfl (decide_eq_true k2) ?_
             refine RJ_q (Op_pick_t rfl (decide_eq_true hm2) rfl) rfl ?_
             refine RJ_yes (t := 97) rfl rfl (decide_eq_true k2) ?_
             refine RJ_q (Op_not rfl) rfl ?_
             refine RJ_q (Op_pick_t rfl (decide_eq_true k2) rfl) rfl ?_
             refine RJ_q (Op_assign rfl) rfl ?_
             refine RJ_nil ?_
             refine NJ_then ?_
             refine CJ_env (E' := [(1, _), (2, _), (5, _), (6, _), (7, _), (8, _), (93, _)]) (.cons rfl rfl (.cons rfl rfl (.cons rfl rfl (.cons rfl rfl (.cons rfl rfl (.cons rfl rfl (.cons rfl rfl .nil))))))) ?_
             refine CJ_then rfl (congrArg Bool.not (decide_eq_false e4)) ?_
             refine CJ_region ?_
             refine RJ_q (Op_move rfl) rfl ?_
             refine RJ_q (Op_fieldAddr (o' := 1) rfl Try.underlying29 rfl sz9 rfl rfl) rfl ?_
             refine RJ_q (Op_load rfl (load_cell Try.underlying9 rfl pkk (Nth.s Nth.z))) rfl ?_
             refine RJ_q (Op_fieldAddr (o' := 2) rfl Try.underlying29 rfl sz3 rfl rfl) rfl ?_
             refine RJ_q (Op_load rfl (load_cell Try.underlying3 rfl pkk (Nth.s (Nth.s Nth.z)))) rfl ?_
             refine RJ_q (Op_fieldAddr (o' := 3) rfl Try.underlying29 rfl sz3 rfl rfl) rfl ?_
             refine RJ_q (Op_load rfl (load_cell Try.underlying3 rfl pkk (Nth.s (Nth.s (Nth.s Nth.z))))) rfl ?_
             refine RJ_p rfl (Op_call (vs := [_, _, _, _]) Try.func13 rfl rfl (Upto_any g 1000 L hI.nd (by have := hI.len; omega) o.key o.ses o.req) rfl (.k (e := (Imp.refl _)))) ?_
             rintro _ _ ⟨_, ⟨rfl, rfl⟩, rfl⟩
             refine RJ_app1 ?_
             refine RJ_nil ?_
             refine NJ_blk ?_
             have hJ : StI ⟨x.key, x.ses, x.req⟩ (i + 1) (restR (uptoP o.key o.ses o.req) L) := hI.rest (by have h9 : ¬ x.key = o.key := fun h => e4 h.symm; simp [uptoP, h9])
             refine NJ_meet ⟨_, hJ, rfl, rfl⟩ (.cons rfl (by first | rfl | (simp; done)) (.cons rfl (by first | rfl | (simp; done)) (.cons rfl (by first | rfl | (simp; done)) (.cons rfl (by first | rfl | (simp; done)) .nil)))) (.k (e := (.k (e := (.k (e := skk))))))
           ·skip
            refine RJ_q (Op_move rfl) rfl ?_
            refine RJ_no (t := 97) false rfl rfl (decide_eq_false k2) (by decide) rfl ?_
            refine RJ_no (t := 97) false rfl rfl (decide_eq_false k2) (by decide) rfl ?_
            refine RJ_nou (t := 99) rfl rfl rfl ?_
            refine RJ_nou (t := 99) rfl rfl rfl ?_
            refine RJ_nou (t := 99) rfl rfl rfl ?_
            refine RJ_nou (t := 99) rfl rfl rfl ?_
            refine RJ_nou (t := 99) rfl rfl rfl ?_
            refine RJ_no (t := 97) false rfl rfl (decide_eq_false k2) (by decide) rfl ?_
            refine RJ_no (t := 97) false rfl rfl (decide_eq_false k2) (by decide) rfl ?_
            refine RJ_q (Op_pick_f rfl (decide_eq_false k2) rfl) rfl ?_
            refine RJ_q (Op_assign rfl) rfl ?_
            refine RJ_nil ?_
            refine NJ_then ?_
            refine CJ_env (E' := [(1, _), (2, _), (5, _), (6, _), (7, _), (8, _), (93, _)]) (.cons rfl rfl (.cons rfl rfl (.cons rfl rfl (.cons rfl rfl (.cons rfl rfl (.cons rfl rfl (.cons rfl rfl .nil))))))) ?_
            refine CJ_else rfl rfl ?_
            refine CJ_seq ?_
            refine CJ_region ?_
            refine RJ_q (Op_fieldAddr (o' := 0) rfl Try.underlying29 rfl sz3 rfl rfl) rfl ?_
            refine RJ_q (Op_load rfl (load_cell Try.underlying3 rfl pkk Nth.z)) rfl ?_
            refine RJ_q (Op_eql rfl rfl) rfl ?_
            by_cases k3 : o.k = 3
            ·skip
             refine RJ_q (Op_move rfl) rfl ?_
             refine RJ_yes (t := 120) rfl rfl (decide_eq_true k3) ?_
             refine RJ_q (Op_move rfl) rfl ?_
             refine RJ_yes (t := 120) rfl rfl (decide_eq_true k3) ?_
             refine RJ_q (Op_not rfl) rfl ?_
             refine RJ_q (Op_pick_t rfl (decide_eq_true k3) rfl) rfl ?_
             refine RJ_q (Op_assign rfl) rfl ?_
             refine RJ_nil ?_
             refine NJ_then ?_
             refine CJ_env (E' := [(1, _), (2, _), (5, _), (6, _), (7, _), (116, _)]) (.cons rfl rfl (.cons rfl rfl (.cons rfl rfl (.cons rfl rfl (.cons rfl rfl (.cons rfl rfl .nil)))))) ?_
             refine CJ_else rfl (congrArg Bool.not (decide_eq_true hm2)) ?_
             refine CJ_skip ?_
             refine NJ_blk ?_
             have hJ : StI ⟨x.key, x.ses, x.req⟩ (i + 1) (L) := hI.more
             refine NJ_meet ⟨_, hJ, rfl, rfl⟩ (.cons rfl (by first | rfl | (simp; done)) (.cons rfl (by first | rfl | (simp; done)) (.cons rfl (by first | rfl | (simp; done)) (.cons rfl (by first | rfl | (simp; done)) .nil)))) (.k (e := (.k (e := (.k (e := skk))))))
            ·skip
             refine RJ_q (Op_move rfl) rfl ?_
             refine RJ_no (t := 120) false rfl rfl (decide_eq_false k3) (by decide) rfl ?_
             refine RJ_no (t := 120) false rfl rfl (decide_eq_false k3) (by decide) rfl ?_
             refine RJ_q (Op_pick_f rfl (decide_eq_false k3) rfl) rfl ?_
             refine RJ_q (Op_assign rfl) rfl ?_
             refine RJ_nil ?_
             refine NJ_then ?_
             refine CJ_env (E' := [(1, _), (2, _), (5, _), (6, _), (7, _), (116, _)]) (.cons rfl rfl (.cons rfl rfl (.cons rfl rfl (.cons rfl rfl (.cons rfl rfl (.cons rfl rfl .nil)))))) ?_
             refine CJ_else rfl rfl ?_
             refine CJ_skip ?_
             refine NJ_blk ?_
             have hJ : StI ⟨x.key, x.ses, x.req⟩ (i + 1) (L) := hI.more
             refine NJ_meet ⟨_, hJ, rfl, rfl⟩ (.cons rfl (by first | rfl | (simp; done)) (.cons rfl (by first | rfl | (simp; done)) (.cons rfl (by first | rfl | (simp; done)) (.cons rfl (by first | rfl | (simp; done)) .nil)))) (.k (e := (.k (e := (.k (e := skk))))))
       ·skip
        refine RJ_q (Op_move rfl) rfl ?_
        refine RJ_no (t := 64) false rfl rfl (decide_eq_false k1) (by decide) rfl ?_
        refine RJ_no (t := 64) false rfl rfl (decide_eq_false k1) (by decide) rfl ?_
        refine RJ_no (t := 64) false rfl rfl (decide_eq_false k1) (by decide) rfl ?_
        refine RJ_no (t := 64) false rfl rfl (decide_eq_false k1) (by decide) rfl ?_
        refine RJ_no (t := 64) false rfl rfl (decide_eq_false k1) (by decide) rfl ?_
        refine RJ_no (t := 64) false rfl rfl (decide_eq_false k1) (by decide) rfl ?_
        refine RJ_nou (t := 70) rfl rfl rfl ?_
        refine RJ_nou (t := 70) rfl rfl rfl ?_
        refine RJ_nou (t := 70) rfl rfl rfl ?_
        refine RJ_nou (t := 70) rfl rfl rfl ?_
        refine RJ_nou (t := 70) rfl rfl rfl ?_
        refine RJ_no (t := 64) false rfl rfl (decide_eq_false k1) (by decide) rfl ?_
        refine RJ_no (t := 64) false rfl rfl (decide_eq_false k1) (by decide) rfl ?_
        refine RJ_nou (t := 77) rfl rfl rfl ?_
        refine RJ_nou (t := 77) rfl rfl rfl ?_
        refine RJ_nou (t := 77) rfl rfl rfl ?_
        refine RJ_nou (t := 77) rfl rfl rfl ?_
        refine RJ_nou (t := 77) rfl rfl rfl ?_
        refine RJ_no (t := 64) false rfl rfl (decide_eq_false k1) (by decide) rfl ?_
        refine RJ_q (Op_pick_f rfl (decide_eq_false k1) rfl) rfl ?_
        refine RJ_q (Op_assign rfl) rfl ?_
        refine RJ_nil ?_
        refine NJ_then ?_
        refine CJ_env (E' := [(1, _), (2, _), (5, _), (6, _), (7, _), (8, _), (60, _)]) (.cons rfl rfl (.cons rfl rfl (.cons rfl rfl (.cons rfl rfl (.cons rfl rfl (.cons rfl rfl (.cons rfl rfl .nil))))))) ?_
        refine CJ_else rfl rfl ?_
        refine CJ_seq ?_
        refine CJ_region ?_
        refine RJ_q (Op_fieldAddr (o' := 0) rfl Try.underlying29 rfl sz3 rfl rfl) rfl ?_
        refine RJ_q (Op_load rfl (load_cell Try.underlying3 rfl pkk Nth.z)) rfl ?_
        refine RJ_q (Op_eql rfl rfl) rfl ?_
        by_cases k2 : o.k = 2
        ·skip
         refine RJ_q (Op_move rfl) rfl ?_
         refine RJ_yes (t := 97) rfl rfl (decide_eq_true k2) ?_
         refine RJ_q (Op_move rfl) rfl ?_
         refine RJ_yes (t := 97) rfl rfl (decide_eq_true k2) ?_
         refine RJ_q (Op_move rfl) rfl ?_
         refine RJ_yes (t := 99) rfl rfl (decide_eq_true hm2) ?_
         refine RJ_q (Op_fieldAddr (o' := 1) rfl Try.underlying29 rfl sz9 rfl rfl) rfl ?_
         refine RJ_yes (t := 99) rfl rfl (decide_eq_true hm2) ?_
         refine RJ_q (Op_load rfl (load_cell Try.underlying9 rfl pkk (Nth.s Nth.z))) rfl ?_
         refine RJ_yes (t := 99) rfl rfl (decide_eq_true hm2) ?_
         refine RJ_q (Op_fieldAddr (o' := 1) rfl Try.underlying29 rfl sz9 rfl rfl) rfl ?_
         refine RJ_yes (t := 99) rfl rfl (decide_eq_true hm2) ?_
         refine RJ_q (Op_load rfl (load_cell Try.underlying9 rfl pkk (Nth.s Nth.z))) rfl ?_
         refine RJ_yes (t := 99) rfl rfl (decide_eq_true hm2) ?_
         refine RJ_q (Op_str_eql rfl rfl) rfl ?_
         by_cases e4 : o.key = x.key
         ·skip
          refine RJ_yes (t := 97) rfl rfl (decide_eq_true k2) ?_
          refine RJ_q (Op_pick_t rfl (decide_eq_true hm2) rfl) rfl ?_
          refine RJ_yes (t := 97) rfl rfl (decide_eq_true k2) ?_
          refine RJ_q (Op_not rfl) rfl ?_
          refine RJ_q (Op_pick_t rfl (decide_eq_true k2) rfl) rfl ?_
          refine RJ_q (Op_assign rfl) rfl ?_
          refine RJ_nil ?_
          refine NJ_then ?_
          refine CJ_env (E' := [(1, _), (2, _), (5, _), (6, _), (7, _), (8, _), (93, _)]) (.cons rfl rfl (.cons rfl rfl (.cons rfl rfl (.cons rfl rfl (.cons rfl rfl (.cons rfl rfl (.cons rfl rfl .nil))))))) ?_
          refine CJ_else rfl (congrArg Bool.not (decide_eq_true e4)) ?_
          refine CJ_seq ?_
          refine CJ_region ?_
          refine RJ_q (Op_fieldAddr (o' := 0) rfl Try.underlying29 rfl sz3 rfl rfl) rfl ?_
          refine RJ_q (Op_load rfl (load_cell Try.underlying3 rfl pkk Nth.z)) rfl ?_
          refine RJ_q (Op_eql rfl rfl) rfl ?_
          by_cases k3 : o.k = 3
          ·skip
           refine RJ_q (Op_move rfl) rfl ?_
           refine RJ_yes (t := 120) rfl rfl (decide_eq_true k3) ?_
           refine RJ_q (Op_move rfl) rfl ?_
           refine RJ_yes (t := 120) rfl rfl (decide_eq_true k3) ?_
           refine RJ_q (Op_not rfl) rfl ?_
           refine RJ_q (Op_pick_t rfl (decide_eq_true k3) rfl) rfl ?_
           refine RJ_q (Op_assign rfl) rfl ?_
           refine RJ_nil ?_
           refine NJ_then ?_
           refine CJ_env (E' := [(1, _), (2, _), (5, _), (6, _), (7, _), (116, _)]) (.cons rfl rfl (.cons rfl rfl (.cons rfl rfl (.cons rfl rfl (.cons rfl rfl (.cons rfl rfl .nil)))))) ?_
           refine CJ_else rfl (congrArg Bool.not (decide_eq_true hm2)) ?_
           refine CJ_skip ?_
           refine NJ_blk ?_
           have hJ : StI ⟨x.key, x.ses, x.req⟩ (i + 1) (L) := hI.more
           refine NJ_meet ⟨_, hJ, rfl, rfl⟩ (.cons rfl (by first | rfl | (simp; done)) (.cons rfl (by first | rfl | (simp; done)) (.cons rfl (by first | rfl | (simp; done)) (.cons rfl (by first | rfl | (simp; done)) .nil)))) (.k (e := (.k (e := (.k (e := skk))))))
          ·skip
           refine RJ_q (Op_move rfl) rfl ?_
           refine RJ_no (t := 120) false rfl rfl (decide_eq_false k3) (by decide) rfl ?_
           refine RJ_no (t := 120) false rfl rfl (decide_eq_false k3) (by decide) rfl ?_
           refine RJ_q (Op_pick_f rfl (decide_eq_false k3) rfl) rfl ?_
           refine RJ_q (Op_assign rfl) rfl ?_
           refine RJ_nil ?_
           refine NJ_then ?_
           refine CJ_env (E' := [(1, _), (2, _), (5, _), (6, _), (7, _), (116, _)]) (.cons rfl rfl (.cons rfl rfl (.cons rfl rfl (.cons rfl rfl (.cons rfl rfl (.cons rfl rfl .nil)))))) ?_
           refine CJ_else rfl rfl ?_
           refine CJ_skip ?_
           refine NJ_blk ?_
           have hJ : StI ⟨x.key, x.ses, x.req⟩ (i + 1) (L) := hI.more
           refine NJ_meet ⟨_, hJ, rfl, rfl⟩ (.cons rfl (by first | rfl | (simp; done)) (.cons rfl (by first | rfl | (simp; done)) (.cons rfl (by first | rfl | (simp; done)) (.cons rfl (by first | rfl | (simp; done)) .nil)))) (.k (e := (.k (e := (.k (e := skk))))))
         ·skip
          refine RJ_yes (t := 97) rfl rfl (decide_eq_true k2) ?_
          refine RJ_q (Op_pick_t rfl (decide_eq_true hm2) rfl) rfl ?_
          refine RJ_yes (t := 97) rfl rfl (decide_eq_true k2) ?_
          refine RJ_q (Op_not rfl) rfl ?_
          refine RJ_q (Op_pick_t rfl (decide_eq_true k2) rfl) rfl ?_
          refine RJ_q (Op_assign rfl) rfl ?_
          refine RJ_nil ?_
          refine NJ_then ?_
          refine CJ_env (E' := [(1, _), (2, _), (5, _), (6, _), (7, _), (8, _), (93, _)]) (.cons rfl rfl (.cons rfl rfl (.cons rfl rfl (.cons rfl rfl (.cons rfl rfl (.cons rfl rfl (.cons rfl rfl .nil))))))) ?_
          refine CJ_then rfl (congrArg Bool.not (decide_eq_false e4)) ?_
          refine CJ_region ?_
          refine RJ_q (Op_move rfl) rfl ?_
          refine RJ_q (Op_fieldAddr (o' := 1) rfl Try.underlying29 rfl sz9 rfl rfl) rfl ?_
          refine RJ_q (Op_load rfl (load_cell Try.underlying9 rfl pkk (Nth.s Nth.z))) rfl ?_
          refine RJ_q (Op_fieldAddr (o' := 2) rfl Try.underlying29 rfl sz3 rfl rfl) rfl ?_
          refine RJ_q (Op_load rfl (load_cell Try.underlying3 rfl pkk (Nth.s (Nth.s Nth.z)))) rfl ?_
          refine RJ_q (Op_fieldAddr (o' := 3) rfl Try.underlying29 rfl sz3 rfl rfl) rfl ?_
          refine RJ_q (Op_load rfl (load_cell Try.underlying3 rfl pkk (Nth.s (Nth.s (Nth.s Nth.z))))) rfl ?_
          refine RJ_p rfl (Op_call (vs := [_, _, _, _]) Try.func13 rfl rfl (Upto_any g 1000 L hI.nd (by have := hI.len; omega) o.key o.ses o.req) rfl (.k (e := (Imp.refl _)))) ?_
          rintro _ _ ⟨_, ⟨rfl, rfl⟩, rfl⟩
          refine RJ_app1 ?_
          refine RJ_nil ?_
          refine NJ_blk ?_
          have hJ : StI ⟨x.key, x.ses, x.req⟩ (i + 1) (restR (uptoP o.key o.ses o.req) L) := hI.rest (by have h9 : ¬ x.key = o.key := fun h => e4 h.symm; simp [uptoP, h9])
          refine NJ_meet ⟨_, hJ, rfl, rfl⟩ (.cons rfl (by first | rfl | (simp; done)) (.cons rfl (by first | rfl | (simp; done)) (.cons rfl (by first | rfl | (simp; done)) (.cons rfl (by first | rfl | (simp; done)) .nil)))) (.k (e := (.k (e := (.k (e := skk))))))
        ·skip
         refine RJ_q (Op_move rfl) rfl ?_
         refine RJ_no (t := 97) false rfl rfl (decide_eq_false k2) (by decide) rfl ?_
         refine RJ_no (t := 97) false rfl rfl (decide_eq_false k2) (by decide) rfl ?_
         refine RJ_nou (t := 99) rfl rfl rfl ?_
         refine RJ_nou (t := 99) rfl rfl rfl ?_
         refine RJ_nou (t := 99) rfl rfl rfl ?_
         refine RJ_nou (t := 99) rfl rfl rfl ?_
         refine RJ_nou (t := 99) rfl rfl rfl ?_
         refine RJ_no (t := 97) false rfl rfl (decide_eq_false k2) (by decide) rfl ?_
         refine RJ_no (t := 97) false rfl rfl (decide_eq_false k2) (by decide) rfl ?_
         refine RJ_q (Op_pick_f rfl (decide_eq_false k2) rfl) rfl ?_
         refine RJ_q (Op_assign rfl) rfl ?_
         refine RJ_nil ?_
         refine NJ_then ?_
         refine CJ_env (E' := [(1, _), (2, _), (5, _), (6, _), (7, _), (8, _), (93, _)]) (.cons rfl rfl (.cons rfl rfl (.cons rfl rfl (.cons rfl rfl (.cons rfl rfl (.cons rfl rfl (.cons rfl rfl .nil))))))) ?_
         refine CJ_else rfl rfl ?_
         refine CJ_seq ?_
         refine CJ_region ?_
         refine RJ_q (Op_fieldAddr (o' := 0) rfl Try.underlying29 rfl sz3 rfl rfl) rfl ?_
         refine RJ_q (Op_load rfl (load_cell Try.underlying3 rfl pkk Nth.z)) rfl ?_
         refine RJ_q (Op_eql rfl rfl) rfl ?_
         by_cases k3 : o.k = 3
         ·skip
          refine RJ_q (Op_move rfl) rfl ?_
          refine RJ_yes (t := 120) rfl rfl (decide_eq_true k3) ?_
          refine RJ_q (Op_move rfl) rfl ?_
          refine RJ_yes (t := 120) rfl rfl (decide_eq_true k3) ?_
          refine RJ_q (Op_not rfl) rfl ?_
          refine RJ_q (Op_pick_t rfl (decide_eq_true k3) rfl) rfl ?_
          refine RJ_q (Op_assign rfl) rfl ?_
          refine RJ_nil ?_
          refine NJ_then ?_
          refine CJ_env (E' := [(1, _), (2, _), (5, _), (6, _), (7, _), (116, _)]) (.cons rfl rfl (.cons rfl rfl (.cons rfl rfl (.cons rfl rfl (.cons rfl rfl (.cons rfl rfl .nil)))))) ?_
          refine CJ_else rfl (congrArg Bool.not (decide_eq_true hm2)) ?_
          refine CJ_skip ?_
          refine NJ_blk ?_
          have hJ : StI ⟨x.key, x.ses, x.req⟩ (i + 1) (L) := hI.more
          refine NJ_meet ⟨_, hJ, rfl, rfl⟩ (.cons rfl (by first | rfl | (simp; done)) (.cons rfl (by first | rfl | (simp; done)) (.cons rfl (by first | rfl | (simp; done)) (.cons rfl (by first | rfl | (simp; done)) .nil)))) (.k (e := (.k (e := (.k (e := skk))))))
         ·skip
          refine RJ_q (Op_move rfl) rfl ?_
          refine RJ_no (t := 120) false rfl rfl (decide_eq_false k3) (by decide) rfl ?_
          refine RJ_no (t := 120) false rfl rfl (decide_eq_false k3) (by decide) rfl ?_
          refine RJ_q (Op_pick_f rfl (decide_eq_false k3) rfl) rfl ?_
          refine RJ_q (Op_assign rfl) rfl ?_
          refine RJ_nil ?_
          refine NJ_then ?_
          refine CJ_env (E' := [(1, _), (2, _), (5, _), (6, _), (7, _), (116, _)]) (.cons rfl rfl (.cons rfl rfl (.cons rfl rfl (.cons rfl rfl (.cons rfl rfl (.cons rfl rfl .nil)))))) ?_
          refine CJ_else rfl rfl ?_
          refine CJ_skip ?_
          refine NJ_blk ?_
          have hJ : StI ⟨x.key, x.ses, x.req⟩ (i + 1) (L) := hI.more
          refine NJ_meet ⟨_, hJ, rfl, rfl⟩ (.cons rfl (by first | rfl | (simp; done)) (.cons rfl (by first | rfl | (simp; done)) (.cons rfl (by first | rfl | (simp; done)) (.cons rfl (by first | rfl | (simp; done)) .nil)))) (.k (e := (.k (e := (.k (e := skk))))))
     ·skip
      rintro _ _ ⟨L2, hJ, rfl, rfl⟩
      refine CJ_app3 ?_
      refine CJ_seq ?_
      refine CJ_region ?_
      refine RJ_q (Op_move rfl) rfl ?_
      refine RJ_q (Op_fieldAddr (o' := 1) rfl Try.underlying29 rfl sz9 rfl rfl) rfl ?_
      refine RJ_q (Op_load rfl (load_cell Try.underlying9 rfl pkk (Nth.s Nth.z))) rfl ?_
      refine RJ_p rfl (Op_call (vs := [_, _]) Try.func15 rfl rfl (MkHas_any g 1000 L2 x.key) rfl (.k (e := (Imp.refl _)))) ?_
      rintro _ _ ⟨_, ⟨rfl, rfl⟩, rfl⟩
      refine RJ_app1 ?_
      refine RJ_q (Op_not rfl) rfl ?_
      refine RJ_nil ?_
      refine NJ_then ?_
      refine CJ_env (E' := [(1, _), (2, _), (5, _), (6, _), (134, _)]) (.cons rfl rfl (.cons rfl rfl (.cons rfl rfl (.cons rfl rfl (.cons rfl rfl .nil))))) ?_
      refine CJ_else rfl (congrArg Bool.not (hasR_mem (x := ⟨x.key, x.ses, x.req⟩) hJ.mem)) ?_
      refine CJ_skip ?_
      refine NJ_blk ?_
      refine NJ_then ?_
      refine CJ_env (E' := [(1, _), (2, _), (5, _), (6, _)]) (.cons rfl rfl (.cons rfl rfl (.cons rfl rfl (.cons rfl rfl .nil)))) ?_
      refine CJ_region ?_
      refine RJ_q (Op_move rfl) rfl ?_
      refine RJ_q (Op_addN (i + 1) rfl rfl (by omega) (by omega)) rfl ?_
      refine RJ_q (Op_assign rfl) rfl ?_
      refine RJ_nil ?_
      refine NJ_back ⟨i + 1, L2, ⟨by omega, by omega, hJ⟩, rfl, rfl, rfl⟩ (by omega) (.cons rfl (by first | rfl | (simp; done)) (.cons rfl (by first | rfl | (simp; done)) (.cons rfl (by first | rfl | (simp; done)) (.cons rfl (by first | rfl | (simp; done)) .nil)))) (.k (e := (.k (e := (.k (e := skk))))))
    ·skip
     refine RJ_q (Op_pick_t rfl (decide_eq_true hm1) rfl) rfl ?_
     refine RJ_q (Op_assign rfl) rfl ?_
     refine RJ_nil ?_
     refine NJ_then ?_
     refine CJ_env (E' := [(1, _), (2, _), (5, _), (6, _), (7, _), (8, _)]) (.cons rfl rfl (.cons rfl rfl (.cons rfl rfl (.cons rfl rfl (.cons rfl rfl (.cons rfl rfl .nil)))))) ?_
     refine CJ_meet (fun E H => ∃ (L2 : List Mark), (StI ⟨x.key, x.ses, x.req⟩ (i + 1) L2) ∧ E = [(1, .slice a ops.length cap), (2, .pointer (some ⟨b2, 0, none⟩)), (5, .pointer (some ⟨g, 0, none⟩)), (6, .int .i64 (i : Nat))] ∧ H = [MarksP g 1000 (L2), pt b2 (.cells #[.int .i64 x.k, .string x.key, .int .i64 x.ses, .int .i64 x.req] 29 (0, 0)), old W] ++ R) ?_ ?_
     ·skip
      refine CJ_block ?_
      refine CJ_seq ?_
      refine CJ_region ?_
      refine RJ_q (Op_fieldAddr (o' := 0) rfl Try.underlying29 rfl sz3 rfl rfl) rfl ?_
      refine RJ_q (Op_load rfl (load_cell Try.underlying3 rfl pkk Nth.z)) rfl ?_
      refine RJ_q (Op_eql rfl rfl) rfl ?_
      by_cases k0 : o.k = 0
      ·skip
       refine RJ_q (Op_assign rfl) rfl ?_
       refine RJ_nil ?_
       refine NJ_then ?_
       refine CJ_env (E' := [(1, _), (2, _), (5, _), (6, _), (7, _), (8, _), (48, _)]) (.cons rfl rfl (.cons rfl rfl (.cons rfl rfl (.cons rfl rfl (.cons rfl rfl (.cons rfl rfl (.cons rfl rfl .nil))))))) ?_
       refine CJ_then rfl (decide_eq_true k0) ?_
       refine CJ_region ?_
       refine RJ_q (Op_move rfl) rfl ?_
       refine RJ_q (Op_fieldAddr (o' := 1) rfl Try.underlying29 rfl sz9 rfl rfl) rfl ?_
       refine RJ_q (Op_load rfl (load_cell Try.underlying9 rfl pkk (Nth.s Nth.z))) rfl ?_
       refine RJ_q (Op_fieldAddr (o' := 2) rfl Try.underlying29 rfl sz3 rfl rfl) rfl ?_
       refine RJ_q (Op_load rfl (load_cell Try.underlying3 rfl pkk (Nth.s (Nth.s Nth.z)))) rfl ?_
       refine RJ_q (Op_fieldAddr (o' := 3) rfl Try.underlying29 rfl sz3 rfl rfl) rfl ?_
       refine RJ_q (Op_load rfl (load_cell Try.underlying3 rfl pkk (Nth.s (Nth.s (Nth.s Nth.z))))) rfl ?_
       refine RJ_p rfl (Op_call (vs := [_, _, _, _]) Try.func9 rfl rfl (MkSet_any g 1000 L o.key o.ses o.req) rfl (.k (e := (Imp.refl _)))) ?_
       rintro _ _ ⟨_, ⟨rfl, rfl⟩, rfl⟩
       refine RJ_app1 ?_
       refine RJ_nil ?_
       refine NJ_blk ?_
       have hJ : StI ⟨x.key, x.ses, x.req⟩ (i + 1) ((setR ⟨o.key, o.ses, o.req⟩ 1000 L).2) := hI.set
       refine NJ_meet ⟨_, hJ, rfl, rfl⟩ (.cons rfl (by first | rfl | (simp; done)) (.cons rfl (by first | rfl | (simp; done)) (.cons rfl (by first | rfl | (simp; done)) (.cons rfl (by first | rfl | (simp; done)) .nil)))) (.k (e := (.k (e := (.k (e := skk))))))
      ·skip
       refine RJ_q (Op_assign rfl) rfl ?_
       refine RJ_nil ?_
       refine NJ_then ?_
       refine CJ_env (E' := [(1, _), (2, _), (5, _), (6, _), (7, _), (8, _), (48, _)]) (.cons rfl rfl (.cons rfl rfl (.cons rfl rfl (.cons rfl rfl (.cons rfl rfl (.cons rfl rfl (.cons rfl rfl .nil))))))) ?_
       refine CJ_else rfl (decide_eq_false k0) ?_
       refine CJ_seq ?_
       refine CJ_region ?_
       refine RJ_q (Op_fieldAddr (o' := 0) rfl Try.underlying29 rfl sz3 rfl rfl) rfl ?_
       refine RJ_q (Op_load rfl (load_cell Try.underlying3 rfl pkk Nth.z)) rfl ?_
       refine RJ_q (Op_eql rfl rfl) rfl ?_
       by_cases k1 : o.k = 1
       ·skip
        refine RJ_q (Op_move rfl) rfl ?_
        refine RJ_yes (t := 64) rfl rfl (decide_eq_true k1) ?_
        refine RJ_q (Op_fieldAddr (o' := 1) rfl Try.underlying29 rfl sz9 rfl rfl) rfl ?_
        refine RJ_yes (t := 64) rfl rfl (decide_eq_true k1) ?_
        refine RJ_q (Op_load rfl (load_cell Try.underlying9 rfl pkk (Nth.s Nth.z))) rfl ?_
        refine RJ_yes (t := 64) rfl rfl (decide_eq_true k1) ?_
        refine RJ_q (Op_fieldAddr (o' := 1) rfl Try.underlying29 rfl sz9 rfl rfl) rfl ?_
        refine RJ_yes (t := 64) rfl rfl (decide_eq_true k1) ?_
        refine RJ_q (Op_load rfl (load_cell Try.underlying9 rfl pkk (Nth.s Nth.z))) rfl ?_
        refine RJ_yes (t := 64) rfl rfl (decide_eq_true k1) ?_
        refine RJ_q (Op_str_neq rfl rfl) rfl ?_
        by_cases e1 : o.key ≠ x.key
        ·skip
         refine RJ_yes (t := 64) rfl rfl (decide_eq_true k1) ?_
         refine RJ_q (Op_move rfl) rfl ?_
         refine RJ_no (t := 70) true rfl rfl (decide_eq_true e1) (by decide) rfl ?_
         refine RJ_no (t := 70) true rfl rfl (decide_eq_true e1) (by decide) rfl ?_
         refine RJ_no (t := 70) true rfl rfl (decide_eq_true e1) (by decide) rfl ?_
         refine RJ_no (t := 70) true rfl rfl (decide_eq_true e1) (by decide) rfl ?_
         refine RJ_no (t := 70) true rfl rfl (decide_eq_true e1) (by decide) rfl ?_
         refine RJ_yes (t := 64) rfl rfl (decide_eq_true k1) ?_
         refine RJ_q (Op_pick_t rfl (decide_eq_true e1) rfl) rfl ?_
         refine RJ_yes (t := 64) rfl rfl (decide_eq_true k1) ?_
         refine RJ_q (Op_move rfl) rfl ?_
         refine RJ_no (t := 77) true rfl rfl rfl (by decide) rfl ?_
         refine RJ_no (t := 77) true rfl rfl rfl (by decide) rfl ?_
         refine RJ_no (t := 77) true rfl rfl rfl (by decide) rfl ?_
         refine RJ_no (t := 77) true rfl rfl rfl (by decide) rfl ?_
         refine RJ_no (t := 77) true rfl rfl rfl (by decide) rfl ?_
         refine RJ_yes (t := 64) rfl rfl (decide_eq_true k1) ?_
         refine RJ_q (Op_pick_t rfl rfl rfl) rfl ?_
         refine RJ_q (Op_pick_t rfl (decide_eq_true k1) rfl) rfl ?_
         refine RJ_q (Op_assign rfl) rfl ?_
         refine RJ_nil ?_
         refine NJ_then ?_
         refine CJ_env (E' := [(1, _), (2, _), (5, _), (6, _), (7, _), (8, _), (60, _)]) (.cons rfl rfl (.cons rfl rfl (.cons rfl rfl (.cons rfl rfl (.cons rfl rfl (.cons rfl rfl (.cons rfl rfl .nil))))))) ?_
         refine CJ_then rfl rfl ?_
         refine CJ_region ?_
         refine RJ_q (Op_move rfl) rfl ?_
         refine RJ_q (Op_fieldAddr (o' := 1) rfl Try.underlying29 rfl sz9 rfl rfl) rfl ?_
         refine RJ_q (Op_load rfl (load_cell Try.underlying9 rfl pkk (Nth.s Nth.z))) rfl ?_
         refine RJ_q (Op_fieldAddr (o' := 2) rfl Try.underlying29 rfl sz3 rfl rfl) rfl ?_
         refine RJ_q (Op_load rfl (load_cell Try.underlying3 rfl pkk (Nth.s (Nth.s Nth.z)))) rfl ?_
         refine RJ_q (Op_fieldAddr (o' := 3) rfl Try.underlying29 rfl sz3 rfl rfl) rfl ?_
         refine RJ_q (Op_load rfl (load_cell Try.underlying3 rfl pkk (Nth.s (Nth.s (Nth.s Nth.z))))) rfl ?_
         refine RJ_p rfl (Op_call (vs := [_, _, _, _]) Try.func12 rfl rfl (MkClear_any g 1000 L o.key o.ses o.req) rfl (.k (e := (Imp.refl _)))) ?_
         rintro _ _ ⟨_, ⟨rfl, rfl⟩, rfl⟩
         refine RJ_app1 ?_
         refine RJ_nil ?_
         refine NJ_blk ?_
         have hJ : StI ⟨x.key, x.ses, x.req⟩ (i + 1) ((if (⟨o.key, o.ses, o.req⟩ : Mark) ∈ L then L.erase ⟨o.key, o.ses, o.req⟩ else L)) := hI.clr (fun e => e1 (congrArg Mark.key e).symm)
         refine NJ_meet ⟨_, hJ, rfl, rfl⟩ (.cons rfl (by first | rfl | (simp; done)) (.cons rfl (by first | rfl | (simp; done)) (.cons rfl (by first | rfl | (simp; done)) (.cons rfl (by first | rfl | (simp; done)) .nil)))) (.k (e := (.k (e := (.k (e := skk))))))
        ·skip
         refine RJ_yes (t := 64) rfl rfl (decide_eq_true k1) ?_
         refine RJ_q (Op_move rfl) rfl ?_
         refine RJ_yes (t := 70) rfl rfl (decide_eq_false e1) ?_
         refine RJ_q (Op_fieldAddr (o' := 2) rfl Try.underlying29 rfl sz3 rfl rfl) rfl ?_
         refine RJ_yes (t := 70) rfl rfl (decide_eq_false e1) ?_
         refine RJ_q (Op_load rfl (load_cell Try.underlying3 rfl pkk (Nth.s (Nth.s Nth.z)))) rfl ?_
         refine RJ_yes (t := 70) rfl rfl (decide_eq_false e1) ?_
         refine RJ_q (Op_fieldAddr (o' := 2) rfl Try.underlying29 rfl sz3 rfl rfl) rfl ?_
         refine RJ_yes (t := 70) rfl rfl (decide_eq_false e1) ?_
         refine RJ_q (Op_load rfl (load_cell Try.underlying3 rfl pkk (Nth.s (Nth.s Nth.z)))) rfl ?_
         refine RJ_yes (t := 70) rfl rfl (decide_eq_false e1) ?_
         refine RJ_q (Op_neq rfl rfl) rfl ?_
         by_cases e2 : o.ses ≠ x.ses
         ·skip
          refine RJ_yes (t := 64) rfl rfl (decide_eq_true k1) ?_
          refine RJ_q (Op_pick_f rfl (decide_eq_false e1) rfl) rfl ?_
          refine RJ_yes (t := 64) rfl rfl (decide_eq_true k1) ?_
          refine RJ_q (Op_move rfl) rfl ?_
          refine RJ_no (t := 77) true rfl rfl (decide_eq_true e2) (by decide) rfl ?_
          refine RJ_no (t := 77) true rfl rfl (decide_eq_true e2) (by decide) rfl ?_
          refine RJ_no (t := 77) true rfl rfl (decide_eq_true e2) (by decide) rfl ?_
          refine RJ_no (t := 77) true rfl rfl (decide_eq_true e2) (by decide) rfl ?_
          refine RJ_no (t := 77) true rfl rfl (decide_eq_true e2) (by decide) rfl ?_
          refine RJ_yes (t := 64) rfl rfl (decide_eq_true k1) ?_
          refine RJ_q (Op_pick_t rfl (decide_eq_true e2) rfl) rfl ?_
          refine RJ_q (Op_pick_t rfl (decide_eq_true k1) rfl) rfl ?_
          refine RJ_q (Op_assign rfl) rfl ?_
          refine RJ_nil ?_
          refine NJ_then ?_
          refine CJ_env (E' := [(1, _), (2, _), (5, _), (6, _), (7, _), (8, _), (60, _)]) (.cons rfl rfl (.cons rfl rfl (.cons rfl rfl (.cons rfl rfl (.cons rfl rfl (.cons rfl rfl (.cons rfl rfl .nil))))))) ?_
          refine CJ_then rfl rfl ?_
          refine CJ_region ?_
          refine RJ_q (Op_move rfl) rfl ?_
          refine RJ_q (Op_fieldAddr (o' := 1) rfl Try.underlying29 rfl sz9 rfl rfl) rfl ?_
          refine RJ_q (Op_load rfl (load_cell Try.underlying9 rfl pkk (Nth.s Nth.z))) rfl ?_
          refine RJ_q (Op_fieldAddr (o' := 2) rfl Try.underlying29 rfl sz3 rfl rfl) rfl ?_
          refine RJ_q (Op_load rfl (load_cell Try.underlying3 rfl pkk (Nth.s (Nth.s Nth.z)))) rfl ?_
          refine RJ_q (Op_fieldAddr (o' := 3) rfl Try.underlying29 rfl sz3 rfl rfl) rfl ?_
          refine RJ_q (Op_load rfl (load_cell Try.underlying3 rfl pkk (Nth.s (Nth.s (Nth.s Nth.z))))) rfl ?_
          refine RJ_p rfl (Op_call (vs := [_, _, _, _]) Try.func12 rfl rfl (MkClear_any g 1000 L o.key o.ses o.req) rfl (.k (e := (Imp.refl _)))) ?_
          rintro _ _ ⟨_, ⟨rfl, rfl⟩, rfl⟩
          refine RJ_app1 ?_
          refine RJ_nil ?_
          refine NJ_blk ?_
          have hJ : StI ⟨x.key, x.ses, x.req⟩ (i + 1) ((if (⟨o.key, o.ses, o.req⟩ : Mark) ∈ L then L.erase ⟨o.key, o.ses, o.req⟩ else L)) := hI.clr (fun e => e2 (congrArg Mark.ses e).symm)
          refine NJ_meet ⟨_, hJ, rfl, rfl⟩ (.cons rfl (by first | rfl | (simp; done)) (.cons rfl (by first | rfl | (simp; done)) (.cons rfl (by first | rfl | (simp; done)) (.cons rfl (by first | rfl | (simp; done)) .nil)))) (.k (e := (.k (e := (.k (e := skk))))))
         ·skip
          refine RJ_yes (t := 64) rfl rfl (decide_eq_true k1) ?_
          refine RJ_q (Op_pick_f rfl (decide_eq_false e1) rfl) rfl ?_
          refine RJ_yes (t := 64) rfl rfl (decide_eq_true k1) ?_
          refine RJ_q (Op_move rfl) rfl ?_
          refine RJ_yes (t := 77) rfl rfl (decide_eq_false e2) ?_
          refine RJ_q (Op_fieldAddr (o' := 3) rfl Try.underlying29 rfl sz3 rfl rfl) rfl ?_
          refine RJ_yes (t := 77) rfl rfl (decide_eq_false e2) ?_
          refine RJ_q (Op_load rfl (load_cell Try.underlying3 rfl pkk (Nth.s (Nth.s (Nth.s Nth.z))))) rfl ?_
          refine RJ_yes (t := 77) rfl rfl (decide_eq_false e2) ?_
          refine RJ_q (Op_fieldAddr (o' := 3) rfl Try.underlying29 rfl sz3 rfl rfl) rfl ?_
          refine RJ_yes (t := 77) rfl rfl (decide_eq_false e2) ?_
          refine RJ_q (Op_load rfl (load_cell Try.underlying3 rfl pkk (Nth.s (Nth.s (Nth.s Nth.z))))) rfl ?_
          refine RJ_yes (t := 77) rfl rfl (decide_eq_false e2) ?_
          refine RJ_q (Op_neq rfl rfl) rfl ?_
          by_cases e3 : o.req ≠ x.req
          ·skip
           refine RJ_yes (t := 64) rfl rfl (decide_eq_true k1) ?_
           refine RJ_q (Op_pick_f rfl (decide_eq_false e2) rfl) rfl ?_
           refine RJ_q (Op_pick_t rfl (decide_eq_true k1) rfl) rfl ?_
           refine RJ_q (Op_assign rfl) rfl ?_
           refine RJ_nil ?_
           refine NJ_then ?_
           refine CJ_env (E' := [(1, _), (2, _), (5, _), (6, _), (7, _), (8, _), (60, _)]) (.cons rfl rfl (.cons rfl rfl (.cons rfl rfl (.cons rfl rfl (.cons rfl rfl (.cons rfl rfl (.cons rfl rfl .nil))))))) ?_
           refine CJ_then rfl (decide_eq_true e3) ?_
           refine CJ_region ?_
           refine RJ_q (Op_move rfl) rfl ?_
           refine RJ_q (Op_fieldAddr (o' := 1) rfl Try.underlying29 rfl sz9 rfl rfl) rfl ?_
           refine RJ_q (Op_load rfl (load_cell Try.underlying9 rfl pkk (Nth.s Nth.z))) rfl ?_
           refine RJ_q (Op_fieldAddr (o' := 2) rfl Try.underlying29 rfl sz3 rfl rfl) rfl ?_
           refine RJ_q (Op_load rfl (load_cell Try.underlying3 rfl pkk (Nth.s (Nth.s Nth.z)))) rfl ?_
           refine RJ_q (Op_fieldAddr (o' := 3) rfl Try.underlying29 rfl sz3 rfl rfl) rfl ?_
           refine RJ_q (Op_load rfl (load_cell Try.underlying3 rfl pkk (Nth.s (Nth.s (Nth.s Nth.z))))) rfl ?_
           refine RJ_p rfl (Op_call (vs := [_, _, _, _]) Try.func12 rfl rfl (MkClear_any g 1000 L o.key o.ses o.req) rfl (.k (e := (Imp.refl _)))) ?_
           rintro _ _ ⟨_, ⟨rfl, rfl⟩, rfl⟩
           refine RJ_app1 ?_
           refine RJ_nil ?_
           refine NJ_blk ?_
           have hJ : StI ⟨x.key, x.ses, x.req⟩ (i + 1) ((if (⟨o.key, o.ses, o.req⟩ : Mark) ∈ L then L.erase ⟨o.key, o.ses, o.req⟩ else L)) := hI.clr (fun e => e3 (congrArg Mark.req e).symm)
           refine NJ_meet ⟨_, hJ, rfl, rfl⟩ (.cons rfl (by first | rfl | (simp; done)) (.cons rfl (by first | rfl | (simp; done)) (.cons rfl (by first | rfl | (simp; done)) (.cons rfl (by first | rfl | (simp; done)) .nil)))) (.k (e := (.k (e := (.k (e := skk))))))
          ·skip
           refine RJ_yes (t := 64) rfl rfl (decide_eq_true k1) ?_
           refine RJ_q (Op_pick_f rfl (decide_eq_false e2) rfl) rfl ?_
           refine RJ_q (Op_pick_t rfl (decide_eq_true k1) rfl) rfl ?_
           refine RJ_q (Op_assign rfl) rfl ?_
           refine RJ_nil ?_
           refine NJ_then ?_
           refine CJ_env (E' := [(1, _), (2, _), (5, _), (6, _), (7, _), (8, _), (60, _)]) (.cons rfl rfl (.cons rfl rfl (.cons rfl rfl (.cons rfl rfl (.cons rfl rfl (.cons rfl rfl (.cons rfl rfl .nil))))))) ?_
           refine CJ_else rfl (decide_eq_false e3) ?_
           refine CJ_seq ?_
           refine CJ_region ?_
           refine RJ_q (Op_fieldAddr (o' := 0) rfl Try.underlying29 rfl sz3 rfl rfl) rfl ?_
           refine RJ_q (Op_load rfl (load_cell Try.underlying3 rfl pkk Nth.z)) rfl ?_
           refine RJ_q (Op_eql rfl rfl) rfl ?_
           by_cases k2 : o.k = 2
           ·skip
            refine RJ_q (Op_move rfl) rfl ?_
            refine RJ_yes (t := 97) rfl rfl (decide_eq_true k2) ?_
            refine RJ_q (Op_move rfl) rfl ?_
            refine RJ_yes (t := 97) rfl rfl (decide_eq_true k2) ?_
            refine RJ_q (Op_move rfl) rfl ?_
            refine RJ_no (t := 99) false rfl rfl (decide_eq_false hm2) (by decide) rfl ?_
            refine RJ_no (t := 99) false rfl rfl (decide_eq_false hm2) (by decide) rfl ?_
            refine RJ_no (t := 99) false rfl rfl (decide_eq_false hm2) (by decide) rfl ?_
            refine RJ_no (t := 99) false rfl rfl (decide_eq_false hm2) (by decide) rfl ?_
            refine RJ_no (t := 99) false rfl rfl (decide_eq_false hm2) (by decide) rfl ?_
            refine RJ_yes (t := 97) rfl rfl (decide_eq_true k2) ?_
            refine RJ_q (Op_pick_f rfl (decide_eq_false hm2) rfl) rfl ?_
            refine RJ_yes (t := 97) rfl rfl (decide_eq_true k2) ?_
            refine RJ_q (Op_not rfl) rfl ?_
            refine RJ_q (Op_pick_t rfl (decide_eq_true k2) rfl) rfl ?_
            refine RJ_q (Op_assign rfl) rfl ?_
            refine RJ_nil ?_
            refine NJ_then ?_
            refine CJ_env (E' := [(1, _), (2, _), (5, _), (6, _), (7, _), (8, _), (93, _)]) (.cons rfl rfl (.cons rfl rfl (.cons rfl rfl (.cons rfl rfl (.cons rfl rfl (.cons rfl rfl (.cons rfl rfl .nil))))))) ?_
            refine CJ_then rfl (congrArg Bool.not rfl) ?_
            refine CJ_region ?_
            refine RJ_q (Op_move rfl) rfl ?_
            refine RJ_q (Op_fieldAddr (o' := 1) rfl Try.underlying29 rfl sz9 rfl rfl) rfl ?_
            refine RJ_q (Op_load rfl (load_cell Try.underlying9 rfl pkk (Nth.s Nth.z))) rfl ?_
            refine RJ_q (Op_fieldAddr (o' := 2) rfl Try.underlying29 rfl sz3 rfl rfl) rfl ?_
            refine RJ_q (Op_load rfl (load_cell Try.underlying3 rfl pkk (Nth.s (Nth.s Nth.z)))) rfl ?_
            refine RJ_q (Op_fieldAddr (o' := 3) rfl Try.underlying29 rfl sz3 rfl rfl) rfl ?_
            refine RJ_q (Op_load rfl (load_cell Try.underlying3 rfl pkk (Nth.s (Nth.s (Nth.s Nth.z))))) rfl ?_
            refine RJ_p rfl (Op_call (vs := [_, _, _, _]) Try.func13 rfl rfl (Upto_any g 1000 L hI.nd (by have := hI.len; omega) o.key o.ses o.req) rfl (.k (e := (Imp.refl _)))) ?_
            rintro _ _ ⟨_, ⟨rfl, rfl⟩, rfl⟩
            refine RJ_app1 ?_
            refine RJ_nil ?_
            refine NJ_blk ?_
            have hJ : StI ⟨x.key, x.ses, x.req⟩ (i + 1) (restR (uptoP o.key o.ses o.req) L) := hI.rest (by have h9 : ¬ x.req ≤ o.req := hm2; simp [uptoP, h9])
            refine NJ_meet ⟨_, hJ, rfl, rfl⟩ (.cons rfl (by first | rfl | (simp; done)) (.cons rfl (by first | rfl | (simp; done)) (.cons rfl (by first | rfl | (simp; done)) (.cons rfl (by first | rfl | (simp; done)) .nil)))) (.k (e := (.k (e := (.k (e := skk))))))
           ·skip
            refine RJ_q (Op_move rfl) rfl ?_
            refine RJ_no (t := 97) false rfl rfl (decide_eq_false k2) (by decide) rfl ?_
            refine RJ_no (t := 97) false rfl rfl (decide_eq_false k2) (by decide) rfl ?_
            refine RJ_nou (t := 99) rfl rfl rfl ?_
            refine RJ_nou (t := 99) rfl rfl rfl ?_
            refine RJ_nou (t := 99) rfl rfl rfl ?_
            refine RJ_nou (t := 99) rfl rfl rfl ?_
            refine RJ_nou (t := 99) rfl rfl rfl ?_
            refine RJ_no (t := 97) false rfl rfl (decide_eq_false k2) (by decide) rfl ?_
            refine RJ_no (t := 97) false rfl rfl (decide_eq_false k2) (by decide) rfl ?_
            refine RJ_q (Op_pick_f rfl (decide_eq_false k2) rfl) rfl ?_
            refine RJ_q (Op_assign rfl) rfl ?_
            refine RJ_nil ?_
            refine NJ_then ?_
            refine CJ_env (E' := [(1, _), (2, _), (5, _), (6, _), (7, _), (8, _), (93, _)]) (.cons rfl rfl (.cons rfl rfl (.cons rfl rfl (.cons rfl rfl (.cons rfl rfl (.cons rfl rfl (.cons rfl rfl .nil))))))) ?_
            refine CJ_else rfl rfl ?_
            refine CJ_seq ?_
            refine CJ_region ?_
            refine RJ_q (Op_fieldAddr (o' := 0) rfl Try.underlying29 rfl sz3 rfl rfl) rfl ?_
            refine RJ_q (Op_load rfl (load_cell Try.underlying3 rfl pkk Nth.z)) rfl ?_
            refine RJ_q (Op_eql rfl rfl) rfl ?_
            by_cases k3 : o.k = 3
            ·skip
             refine RJ_q (Op_move rfl) rfl ?_
             refine RJ_yes (t := 120) rfl rfl (decide_eq_true k3) ?_
             refine RJ_q (Op_move rfl) rfl ?_
             refine RJ_yes (t := 120) rfl rfl (decide_eq_true k3) ?_
             refine RJ_q (Op_not rfl) rfl ?_
             refine RJ_q (Op_pick_t rfl (decide_eq_true k3) rfl) rfl ?_
             refine RJ_q (Op_assign rfl) rfl ?_
             refine RJ_nil ?_
             refine NJ_then ?_
             refine CJ_env (E' := [(1, _), (2, _), (5, _), (6, _), (7, _), (116, _)]) (.cons rfl rfl (.cons rfl rfl (.cons rfl rfl (.cons rfl rfl (.cons rfl rfl (.cons rfl rfl .nil)))))) ?_
             refine CJ_then rfl (congrArg Bool.not (decide_eq_false hm2)) ?_
             refine CJ_region ?_
             refine RJ_q (Op_move rfl) rfl ?_
             refine RJ_q (Op_fieldAddr (o' := 2) rfl Try.underlying29 rfl sz3 rfl rfl) rfl ?_
             refine RJ_q (Op_load rfl (load_cell Try.underlying3 rfl pkk (Nth.s (Nth.s Nth.z)))) rfl ?_
             refine RJ_q (Op_fieldAddr (o' := 3) rfl Try.underlying29 rfl sz3 rfl rfl) rfl ?_
             refine RJ_q (Op_load rfl (load_cell Try.underlying3 rfl pkk (Nth.s (Nth.s (Nth.s Nth.z))))) rfl ?_
             refine RJ_p rfl (Op_call (vs := [_, _, _]) Try.func14 rfl rfl (Past_any g 1000 L hI.nd (by have := hI.len; omega) o.ses o.req) rfl (.k (e := (Imp.refl _)))) ?_
             rintro _ _ ⟨_, ⟨rfl, rfl⟩, rfl⟩
             refine RJ_app1 ?_
             refine RJ_nil ?_
             refine NJ_blk ?_
             have hJ : StI ⟨x.key, x.ses, x.req⟩ (i + 1) (restR (pastP o.ses o.req) L) := hI.rest (by have h9 : ¬ x.req ≤ o.req := hm2; simp [pastP, h9])
             refine NJ_meet ⟨_, hJ, rfl, rfl⟩ (.cons rfl (by first | rfl | (simp; done)) (.cons rfl (by first | rfl | (simp; done)) (.cons rfl (by first | rfl | (simp; done)) (.cons rfl (by first | rfl | (simp; done)) .nil)))) (.k (e := (.k (e := (.k (e := skk))))))
            ·skip
             refine RJ_q (Op_move rfl) rfl ?_
             refine RJ_no (t := 120) false rfl rfl (decide_eq_false k3) (by decide) rfl ?_
             refine RJ_no (t := 120) false rfl rfl (decide_eq_false k3) (by decide) rfl ?_
             refine RJ_q (Op_pick_f rfl (decide_eq_false k3) rfl) rfl ?_
             refine RJ_q (Op_assign rfl) rfl ?_
             refine RJ_nil ?_
             refine NJ_then ?_
             refine CJ_env (E' := [(1, _), (2, _), (5, _), (6, _), (7, _), (116, _)]) (.cons rfl rfl (.cons rfl rfl (.cons rfl rfl (.cons rfl rfl (.cons rfl rfl (.cons rfl rfl .nil)))))) ?_
             refine CJ_else rfl rfl ?_
             refine CJ_skip ?_
             refine NJ_blk ?_
             have hJ : StI ⟨x.key, x.ses, x.req⟩ (i + 1) (L) := hI.more
             refine NJ_meet ⟨_, hJ, rfl, rfl⟩ (.cons rfl (by first | rfl | (simp; done)) (.cons rfl (by first | rfl | (simp; done)) (.cons rfl (by first | rfl | (simp; done)) (.cons rfl (by first | rfl | (simp; done)) .nil)))) (.k (e := (.k (e := (.k (e := skk))))))
       ·skip
        refine RJ_q (Op_move rfl) rfl ?_
        refine RJ_no (t := 64) false rfl rfl (decide_eq_false k1) (by decide) rfl ?_
        refine RJ_no (t := 64) false rfl rfl (decide_eq_false k1) (by decide) rfl ?_
        refine RJ_no (t := 64) false rfl rfl (decide_eq_false k1) (by decide) rfl ?_
        refine RJ_no (t := 64) false rfl rfl (decide_eq_false k1) (by decide) rfl ?_
        refine RJ_no (t := 64) false rfl rfl (decide_eq_false k1) (by decide) rfl ?_
        refine RJ_no (t := 64) false rfl rfl (decide_eq_false k1) (by decide) rfl ?_
        refine RJ_nou (t := 70) rfl rfl rfl ?_
        refine RJ_nou (t := 70) rfl rfl rfl ?_
        refine RJ_nou (t := 70) rfl rfl rfl ?_
        refine RJ_nou (t := 70) rfl rfl rfl ?_
        refine RJ_nou (t := 70) rfl rfl rfl ?_
        refine RJ_no (t := 64) false rfl rfl (decide_eq_false k1) (by decide) rfl ?_
        refine RJ_no (t := 64) false rfl rfl (decide_eq_false k1) (by decide) rfl ?_
        refine RJ_nou (t := 77) rfl rfl rfl ?_
        refine RJ_nou (t := 77) rfl rfl rfl ?_
        refine RJ_nou (t := 77) rfl rfl rfl ?_
        refine RJ_nou (t := 77) rfl rfl rfl ?_
        refine RJ_nou (t := 77) rfl rfl rfl ?_
        refine RJ_no (t := 64) false rfl rfl (decide_eq_false k1) (by decide) rfl ?_
        refine RJ_q (Op_pick_f rfl (decide_eq_false k1) rfl) rfl ?_
        refine RJ_q (Op_assign rfl) rfl ?_
        refine RJ_nil ?_
        refine NJ_then ?_
        refine CJ_env (E' := [(1, _), (2, _), (5, _), (6, _), (7, _), (8, _), (60, _)]) (.cons rfl rfl (.cons rfl rfl (.cons rfl rfl (.cons rfl rfl (.cons rfl rfl (.cons rfl rfl (.cons rfl rfl .nil))))))) ?_
        refine CJ_else rfl rfl ?_
        refine CJ_seq ?_
        refine CJ_region ?_
        refine RJ_q (Op_fieldAddr (o' := 0) rfl Try.underlying29 rfl sz3 rfl rfl) rfl ?_
        refine RJ_q (Op_load rfl (load_cell Try.underlying3 rfl pkk Nth.z)) rfl ?_
        refine RJ_q (Op_eql rfl rfl) rfl ?_
        by_cases k2 : o.k = 2
        ·skip
         refine RJ_q (Op_move rfl) rfl ?_
         refine RJ_yes (t := 97) rfl rfl (decide_eq_true k2) ?_
         refine RJ_q (Op_move rfl) rfl ?_
         refine RJ_yes (t := 97) rfl rfl (decide_eq_true k2) ?_
         refine RJ_q (Op_move rfl) rfl ?_
         refine RJ_no (t := 99) false rfl rfl (decide_eq_false hm2) (by decide) rfl ?_
         refine RJ_no (t := 99) false rfl rfl (decide_eq_false hm2) (by decide) rfl ?_
         refine RJ_no (t := 99) false rfl rfl (decide_eq_false hm2) (by decide) rfl ?_
         refine RJ_no (t := 99) false rfl rfl (decide_eq_false hm2) (by decide) rfl ?_
         refine RJ_no (t := 99) false rfl rfl (decide_eq_false hm2) (by decide) rfl ?_
         refine RJ_yes (t := 97) rfl rfl (decide_eq_true k2) ?_
         refine RJ_q (Op_pick_f rfl (decide_eq_false hm2) rfl) rfl ?_
         refine RJ_yes (t := 97) rfl rfl (decide_eq_true k2) ?_
         refine RJ_q (Op_not rfl) rfl ?_
         refine RJ_q (Op_pick_t rfl (decide_eq_true k2) rfl) rfl ?_
         refine RJ_q (Op_assign rfl) rfl ?_
         refine RJ_nil ?_
         refine NJ_then ?_
         refine CJ_env (E' := [(1, _), (2, _), (5, _), (6, _), (7, _), (8, _), (93, _)]) (.cons rfl rfl (.cons rfl rfl (.cons rfl rfl (.cons rfl rfl (.cons rfl rfl (.cons rfl rfl (.cons rfl rfl .nil))))))) ?_
         refine CJ_then rfl (congrArg Bool.not rfl) ?_
         refine CJ_region ?_
         refine RJ_q (Op_move rfl) rfl ?_
         refine RJ_q (Op_fieldAddr (o' := 1) rfl Try.underlying29 rfl sz9 rfl rfl) rfl ?_
         refine RJ_q (Op_load rfl (load_cell Try.underlying9 rfl pkk (Nth.s Nth.z))) rfl ?_
         refine RJ_q (Op_fieldAddr (o' := 2) rfl Try.underlying29 rfl sz3 rfl rfl) rfl ?_
         refine RJ_q (Op_load rfl (load_cell Try.underlying3 rfl pkk (Nth.s (Nth.s Nth.z)))) rfl ?_
         refine RJ_q (Op_fieldAddr (o' := 3) rfl Try.underlying29 rfl sz3 rfl rfl) rfl ?_
         refine RJ_q (Op_load rfl (load_cell Try.underlying3 rfl pkk (Nth.s (Nth.s (Nth.s Nth.z))))) rfl ?_
         refine RJ_p rfl (Op_call (vs := [_, _, _, _]) Try.func13 rfl rfl (Upto_any g 1000 L hI.nd (by have := hI.len; omega) o.key o.ses o.req) rfl (.k (e := (Imp.refl _)))) ?_
         rintro _ _ ⟨_, ⟨rfl, rfl⟩, rfl⟩
         refine RJ_app1 ?_
         refine RJ_nil ?_
         refine NJ_blk ?_
         have hJ : StI ⟨x.key, x.ses, x.req⟩ (i + 1) (restR (uptoP o.key o.ses o.req) L) := hI.rest (by have h9 : ¬ x.req ≤ o.req := hm2; simp [uptoP, h9])
         refine NJ_meet ⟨_, hJ, rfl, rfl⟩ (.cons rfl (by first | rfl | (simp; done)) (.cons rfl (by first | rfl | (simp; done)) (.cons rfl (by first | rfl | (simp; done)) (.cons rfl (by first | rfl | (simp; done)) .nil)))) (.k (e := (.k (e := (.k (e := skk))))))
        ·skip
         refine RJ_q (Op_move rfl) rfl ?_
         refine RJ_no (t := 97) false rfl rfl (decide_eq_false k2) (by decide) rfl ?_
         refine RJ_no (t := 97) false rfl rfl (decide_eq_false k2) (by decide) rfl ?_
         refine RJ_nou (t := 99) rfl rfl rfl ?_
         refine RJ_nou (t := 99) rfl rfl rfl ?_
         refine RJ_nou (t := 99) rfl rfl rfl ?_
         refine RJ_nou (t := 99) rfl rfl rfl ?_
         refine RJ_nou (t := 99) rfl rfl rfl ?_
         refine RJ_no (t := 97) false rfl rfl (decide_eq_false k2) (by decide) rfl ?_
         refine RJ_no (t := 97) false rfl rfl (decide_eq_false k2) (by decide) rfl ?_
         refine RJ_q (Op_pick_f rfl (decide_eq_false k2) rfl) rfl ?_
         refine RJ_q (Op_assign rfl) rfl ?_
         refine RJ_nil ?_
         refine NJ_then ?_
         refine CJ_env (E' := [(1, _), (2, _), (5, _), (6, _), (7, _), (8, _), (93, _)]) (.cons rfl rfl (.cons rfl rfl (.cons rfl rfl (.cons rfl rfl (.cons rfl rfl (.cons rfl rfl (.cons rfl rfl .nil))))))) ?_
         refine CJ_else rfl rfl ?_
         refine CJ_seq ?_
         refine CJ_region ?_
         refine RJ_q (Op_fieldAddr (o' := 0) rfl Try.underlying29 rfl sz3 rfl rfl) rfl ?_
         refine RJ_q (Op_load rfl (load_cell Try.underlying3 rfl pkk Nth.z)) rfl ?_
         refine RJ_q (Op_eql rfl rfl) rfl ?_
         by_cases k3 : o.k = 3
         ·skip
          refine RJ_q (Op_move rfl) rfl ?_
          refine RJ_yes (t := 120) rfl rfl (decide_eq_true k3) ?_
          refine RJ_q (Op_move rfl) rfl ?_
          refine RJ_yes (t := 120) rfl rfl (decide_eq_true k3) ?_
          refine RJ_q (Op_not rfl) rfl ?_
          refine RJ_q (Op_pick_t rfl (decide_eq_true k3) rfl) rfl ?_
          refine RJ_q (Op_assign rfl) rfl ?_
          refine RJ_nil ?_
          refine NJ_then ?_
          refine CJ_env (E' := [(1, _), (2, _), (5, _), (6, _), (7, _), (116, _)]) (.cons rfl rfl (.cons rfl rfl (.cons rfl rfl (.cons rfl rfl (.cons rfl rfl (.cons rfl rfl .nil)))))) ?_
          refine CJ_then rfl (congrArg Bool.not (decide_eq_false hm2)) ?_
          refine CJ_region ?_
          refine RJ_q (Op_move rfl) rfl ?_
          refine RJ_q (Op_fieldAddr (o' := 2) rfl Try.underlying29 rfl sz3 rfl rfl) rfl ?_
          refine RJ_q (Op_load rfl (load_cell Try.underlying3 rfl pkk (Nth.s (Nth.s Nth.z)))) rfl ?_
          refine RJ_q (Op_fieldAddr (o' := 3) rfl Try.underlying29 rfl sz3 rfl rfl) rfl ?_
          refine RJ_q (Op_load rfl (load_cell Try.underlying3 rfl pkk (Nth.s (Nth.s (Nth.s Nth.z))))) rfl ?_
          refine RJ_p rfl (Op_call (vs := [_, _, _]) Try.func14 rfl rfl (Past_any g 1000 L hI.nd (by have := hI.len; omega) o.ses o.req) rfl (.k (e := (Imp.refl _)))) ?_
          rintro _ _ ⟨_, ⟨rfl, rfl⟩, rfl⟩
          refine RJ_app1 ?_
          refine RJ_nil ?_
          refine NJ_blk ?_
          have hJ : StI ⟨x.key, x.ses, x.req⟩ (i + 1) (restR (pastP o.ses o.req) L) := hI.rest (by have h9 : ¬ x.req ≤ o.req := hm2; simp [pastP, h9])
          refine NJ_meet ⟨_, hJ, rfl, rfl⟩ (.cons rfl (by first | rfl | (simp; done)) (.cons rfl (by first | rfl | (simp; done)) (.cons rfl (by first | rfl | (simp; done)) (.cons rfl (by first | rfl | (simp; done)) .nil)))) (.k (e := (.k (e := (.k (e := skk))))))
         ·skip
          refine RJ_q (Op_move rfl) rfl ?_
          refine RJ_no (t := 120) false rfl rfl (decide_eq_false k3) (by decide) rfl ?_
          refine RJ_no (t := 120) false rfl rfl (decide_eq_false k3) (by decide) rfl ?_
          refine RJ_q (Op_pick_f rfl (decide_eq_false k3) rfl) rfl ?_
          refine RJ_q (Op_assign rfl) rfl ?_
          refine RJ_nil ?_
          refine NJ_then ?_
          refine CJ_env (E' := [(1, _), (2, _), (5, _), (6, _), (7, _), (116, _)]) (.cons rfl rfl (.cons rfl rfl (.cons rfl rfl (.cons rfl rfl (.cons rfl rfl (.cons rfl rfl .nil)))))) ?_
          refine CJ_else rfl rfl ?_
          refine CJ_skip ?_
          refine NJ_blk ?_
          have hJ : StI ⟨x.key, x.ses, x.req⟩ (i + 1) (L) := hI.more
          refine NJ_meet ⟨_, hJ, rfl, rfl⟩ (.cons rfl (by first | rfl | (simp; done)) (.cons rfl (by first | rfl | (simp; done)) (.cons rfl (by first | rfl | (simp; done)) (.cons rfl (by first | rfl | (simp; done)) .nil)))) (.k (e := (.k (e := (.k (e := skk))))))
     ·skip
      rintro _ _ ⟨L2, hJ, rfl, rfl⟩
      refine CJ_app3 ?_
      refine CJ_seq ?_
      refine CJ_region ?_
      refine RJ_q (Op_move rfl) rfl ?_
      refine RJ_q (Op_fieldAddr (o' := 1) rfl Try.underlying29 rfl sz9 rfl rfl) rfl ?_
      refine RJ_q (Op_load rfl (load_cell Try.underlying9 rfl pkk (Nth.s Nth.z))) rfl ?_
      refine RJ_p rfl (Op_call (vs := [_, _]) Try.func15 rfl rfl (MkHas_any g 1000 L2 x.key) rfl (.k (e := (Imp.refl _)))) ?_
      rintro _ _ ⟨_, ⟨rfl, rfl⟩, rfl⟩
      refine RJ_app1 ?_
      refine RJ_q (Op_not rfl) rfl ?_
      refine RJ_nil ?_
      refine NJ_then ?_
      refine CJ_env (E' := [(1, _), (2, _), (5, _), (6, _), (134, _)]) (.cons rfl rfl (.cons rfl rfl (.cons rfl rfl (.cons rfl rfl (.cons rfl rfl .nil))))) ?_
      refine CJ_else rfl (congrArg Bool.not (hasR_mem (x := ⟨x.key, x.ses, x.req⟩) hJ.mem)) ?_
      refine CJ_skip ?_
      refine NJ_blk ?_
      refine NJ_then ?_
      refine CJ_env (E' := [(1, _), (2, _), (5, _), (6, _)]) (.cons rfl rfl (.cons rfl rfl (.cons rfl rfl (.cons rfl rfl .nil)))) ?_
      refine CJ_region ?_
      refine RJ_q (Op_move rfl) rfl ?_
      refine RJ_q (Op_addN (i + 1) rfl rfl (by omega) (by omega)) rfl ?_
      refine RJ_q (Op_assign rfl) rfl ?_
      refine RJ_nil ?_
      refine NJ_back ⟨i + 1, L2, ⟨by omega, by omega, hJ⟩, rfl, rfl, rfl⟩ (by omega) (.cons rfl (by first | rfl | (simp; done)) (.cons rfl (by first | rfl | (simp; done)) (.cons rfl (by first | rfl | (simp; done)) (.cons rfl (by first | rfl | (simp; done)) .nil)))) (.k (e := (.k (e := (.k (e := skk))))))
   ·skip
    refine RJ_q (Op_move rfl) rfl ?_
    refine RJ_no (t := 41) false rfl rfl (decide_eq_false hm1) (by decide) rfl ?_
    refine RJ_no (t := 41) false rfl rfl (decide_eq_false hm1) (by decide) rfl ?_
    refine RJ_no (t := 41) false rfl rfl (decide_eq_false hm1) (by decide) rfl ?_
    refine RJ_no (t := 41) false rfl rfl (decide_eq_false hm1) (by decide) rfl ?_
    refine RJ_no (t := 41) false rfl rfl (decide_eq_false hm1) (by decide) rfl ?_
    refine RJ_q (Op_pick_f rfl (decide_eq_false hm1) rfl) rfl ?_
    refine RJ_q (Op_assign rfl) rfl ?_
    refine RJ_nil ?_
    refine NJ_then ?_
    refine CJ_env (E' := [(1, _), (2, _), (5, _), (6, _), (7, _), (8, _)]) (.cons rfl rfl (.cons rfl rfl (.cons rfl rfl (.cons rfl rfl (.cons rfl rfl (.cons rfl rfl .nil)))))) ?_
    refine CJ_meet (fun E H => ∃ (L2 : List Mark), (StI ⟨x.key, x.ses, x.req⟩ (i + 1) L2) ∧ E = [(1, .slice a ops.length cap), (2, .pointer (some ⟨b2, 0, none⟩)), (5, .pointer (some ⟨g, 0, none⟩)), (6, .int .i64 (i : Nat))] ∧ H = [MarksP g 1000 (L2), pt b2 (.cells #[.int .i64 x.k, .string x.key, .int .i64 x.ses, .int .i64 x.req] 29 (0, 0)), old W] ++ R) ?_ ?_
    ·skip
     refine CJ_block ?_
     refine CJ_seq ?_
     refine CJ_region ?_
     refine RJ_q (Op_fieldAddr (o' := 0) rfl Try.underlying29 rfl sz3 rfl rfl) rfl ?_
     refine RJ_q (Op_load rfl (load_cell Try.underlying3 rfl pkk Nth.z)) rfl ?_
     refine RJ_q (Op_eql rfl rfl) rfl ?_
     by_cases k0 : o.k = 0
     ·skip
      refine RJ_q (Op_assign rfl) rfl ?_
      refine RJ_nil ?_
      refine NJ_then ?_
      refine CJ_env (E' := [(1, _), (2, _), (5, _), (6, _), (7, _), (8, _), (48, _)]) (.cons rfl rfl (.cons rfl rfl (.cons rfl rfl (.cons rfl rfl (.cons rfl rfl (.cons rfl rfl (.cons rfl rfl .nil))))))) ?_
      refine CJ_then rfl (decide_eq_true k0) ?_
      refine CJ_region ?_
      refine RJ_q (Op_move rfl) rfl ?_
      refine RJ_q (Op_fieldAddr (o' := 1) rfl Try.underlying29 rfl sz9 rfl rfl) rfl ?_
      refine RJ_q (Op_load rfl (load_cell Try.underlying9 rfl pkk (Nth.s Nth.z))) rfl ?_
      refine RJ_q (Op_fieldAddr (o' := 2) rfl Try.underlying29 rfl sz3 rfl rfl) rfl ?_
      refine RJ_q (Op_load rfl (load_cell Try.underlying3 rfl pkk (Nth.s (Nth.s Nth.z)))) rfl ?_
      refine RJ_q (Op_fieldAddr (o' := 3) rfl Try.underlying29 rfl sz3 rfl rfl) rfl ?_
      refine RJ_q (Op_load rfl (load_cell Try.underlying3 rfl pkk (Nth.s (Nth.s (Nth.s Nth.z))))) rfl ?_
      refine RJ_p rfl (Op_call (vs := [_, _, _, _]) Try.func9 rfl rfl (MkSet_any g 1000 L o.key o.ses o.req) rfl (.k (e := (Imp.refl _)))) ?_
      rintro _ _ ⟨_, ⟨rfl, rfl⟩, rfl⟩
      refine RJ_app1 ?_
      refine RJ_nil ?_
      refine NJ_blk ?_
      have hJ : StI ⟨x.key, x.ses, x.req⟩ (i + 1) ((setR ⟨o.key, o.ses, o.req⟩ 1000 L).2) := hI.set
      refine NJ_meet ⟨_, hJ, rfl, rfl⟩ (.cons rfl (by first | rfl | (simp; done)) (.cons rfl (by first | rfl | (simp; done)) (.cons rfl (by first | rfl | (simp; done)) (.cons rfl (by first | rfl | (simp; done)) .nil)))) (.k (e := (.k (e := (.k (e := skk))))))
     ·skip
      refine RJ_q (Op_assign rfl) rfl ?_
      refine RJ_nil ?_
      refine NJ_then ?_
      refine CJ_env (E' := [(1, _), (2, _), (5, _), (6, _), (7, _), (8, _), (48, _)]) (.cons rfl rfl (.cons rfl rfl (.cons rfl rfl (.cons rfl rfl (.cons rfl rfl (.cons rfl rfl (.cons rfl rfl .nil))))))) ?_
      refine CJ_else rfl (decide_eq_false k0) ?_
      refine CJ_seq ?_
      refine CJ_region ?_
      refine RJ_q (Op_fieldAddr (o' := 0) rfl Try.underlying29 rfl sz3 rfl rfl) rfl ?_
      refine RJ_q (Op_load rfl (load_cell Try.underlying3 rfl pkk Nth.z)) rfl ?_
      refine RJ_q (Op_eql rfl rfl) rfl ?_
      by_cases k1 : o.k = 1
      ·skip
       refine RJ_q (Op_move rfl) rfl ?_
       refine RJ_yes (t := 64) rfl rfl (decide_eq_true k1) ?_
       refine RJ_q (Op_fieldAddr (o' := 1) rfl Try.underlying29 rfl sz9 rfl rfl) rfl ?_
       refine RJ_yes (t := 64) rfl rfl (decide_eq_true k1) ?_
       refine RJ_q (Op_load rfl (load_cell Try.underlying9 rfl pkk (Nth.s Nth.z))) rfl ?_
       refine RJ_yes (t := 64) rfl rfl (decide_eq_true k1) ?_
       refine RJ_q (Op_fieldAddr (o' := 1) rfl Try.underlying29 rfl sz9 rfl rfl) rfl ?_
       refine RJ_yes (t := 64) rfl rfl (decide_eq_true k1) ?_
       refine RJ_q (Op_load rfl (load_cell Try.underlying9 rfl pkk (Nth.s Nth.z))) rfl ?_
       refine RJ_yes (t := 64) rfl rfl (decide_eq_true k1) ?_
       refine RJ_q (Op_str_neq rfl rfl) rfl ?_
       by_cases e1 : o.key ≠ x.key
       ·skip
        refine RJ_yes (t := 64) rfl rfl (decide_eq_true k1) ?_
        refine RJ_q (Op_move rfl) rfl ?_
        refine RJ_no (t := 70) true rfl rfl (decide_eq_true e1) (by decide) rfl ?_
        refine RJ_no (t := 70) true rfl rfl (decide_eq_true e1) (by decide) rfl ?_
        refine RJ_no (t := 70) true rfl rfl (decide_eq_true e1) (by decide) rfl ?_
        refine RJ_no (t := 70) true rfl rfl (decide_eq_true e1) (by decide) rfl ?_
        refine RJ_no (t := 70) true rfl rfl (decide_eq_true e1) (by decide) rfl ?_
        refine RJ_yes (t := 64) rfl rfl (decide_eq_true k1) ?_
        refine RJ_q (Op_pick_t rfl (decide_eq_true e1) rfl) rfl ?_
        refine RJ_yes (t := 64) rfl rfl (decide_eq_true k1) ?_
        refine RJ_q (Op_move rfl) rfl ?_
        refine RJ_no (t := 77) true rfl rfl rfl (by decide) rfl ?_
        refine RJ_no (t := 77) true rfl rfl rfl (by decide) rfl ?_
        refine RJ_no (t := 77) true rfl rfl rfl (by decide) rfl ?_
        refine RJ_no (t := 77) true rfl rfl rfl (by decide) rfl ?_
        refine RJ_no (t := 77) true rfl rfl rfl (by decide) rfl ?_
        refine RJ_yes (t := 64) rfl rfl (decide_eq_true k1) ?_
        refine RJ_q (Op_pick_t rfl rfl rfl) rfl ?_
        refine RJ_q (Op_pick_t rfl (decide_eq_true k1) rfl) rfl ?_
        refine RJ_q (Op_assign rfl) rfl ?_
        refine RJ_nil ?_
        refine NJ_then ?_
        refine CJ_env (E' := [(1, _), (2, _), (5, _), (6, _), (7, _), (8, _), (60, _)]) (.cons rfl rfl (.cons rfl rfl (.cons rfl rfl (.cons rfl rfl (.cons rfl rfl (.cons rfl rfl (.cons rfl rfl .nil))))))) ?_
        refine CJ_then rfl rfl ?_
        refine CJ_region ?_
        refine RJ_q (Op_move rfl) rfl ?_
        refine RJ_q (Op_fieldAddr (o' := 1) rfl Try.underlying29 rfl sz9 rfl rfl) rfl ?_
        refine RJ_q (Op_load rfl (load_cell Try.underlying9 rfl pkk (Nth.s Nth.z))) rfl ?_
        refine RJ_q (Op_fieldAddr (o' := 2) rfl Try.underlying29 rfl sz3 rfl rfl) rfl ?_
        refine RJ_q (Op_load rfl (load_cell Try.underlying3 rfl pkk (Nth.s (Nth.s Nth.z)))) rfl ?_
        refine RJ_q (Op_fieldAddr (o' := 3) rfl Try.underlying29 rfl sz3 rfl rfl) rfl ?_
        refine RJ_q (Op_load rfl (load_cell Try.underlying3 rfl pkk (Nth.s (Nth.s (Nth.s Nth.z))))) rfl ?_
        refine RJ_p rfl (Op_call (vs := [_, _, _, _]) Try.func12 rfl rfl (MkClear_any g 1000 L o.key o.ses o.req) rfl (.k (e := (Imp.refl _)))) ?_
        rintro _ _ ⟨_, ⟨rfl, rfl⟩, rfl⟩
        refine RJ_app1 ?_
        refine RJ_nil ?_
        refine NJ_blk ?_
        have hJ : StI ⟨x.key, x.ses, x.req⟩ (i + 1) ((if (⟨o.key, o.ses, o.req⟩ : Mark) ∈ L then L.erase ⟨o.key, o.ses, o.req⟩ else L)) := hI.clr (fun e => e1 (congrArg Mark.key e).symm)
        refine NJ_meet ⟨_, hJ, rfl, rfl⟩ (.cons rfl (by first | rfl | (simp; done)) (.cons rfl (by first | rfl | (simp; done)) (.cons rfl (by first | rfl | (simp; done)) (.cons rfl (by first | rfl | (simp; done)) .nil)))) (.k (e := (.k (e := (.k (e := skk))))))
       ·skip
        refine RJ_yes (t := 64) rfl rfl (decide_eq_true k1) ?_
        refine RJ_q (Op_move rfl) rfl ?_
        refine RJ_yes (t := 70) rfl rfl (decide_eq_false e1) ?_
        refine RJ_q (Op_fieldAddr (o' := 2) rfl Try.underlying29 rfl sz3 rfl rfl) rfl ?_
        refine RJ_yes (t := 70) rfl rfl (decide_eq_false e1) ?_
        refine RJ_q (Op_load rfl (load_cell Try.underlying3 rfl pkk (Nth.s (Nth.s Nth.z)))) rfl ?_
        refine RJ_yes (t := 70) rfl rfl (decide_eq_false e1) ?_
        refine RJ_q (Op_fieldAddr (o' := 2) rfl Try.underlying29 rfl sz3 rfl rfl) rfl ?_
        refine RJ_yes (t := 70) rfl rfl (decide_eq_false e1) ?_
        refine RJ_q (Op_load rfl (load_cell Try.underlying3 rfl pkk (Nth.s (Nth.s Nth.z)))) rfl ?_
        refine RJ_yes (t := 70) rfl rfl (decide_eq_false e1) ?_
        refine RJ_q (Op_neq rfl rfl) rfl ?_
        by_cases e2 : o.ses ≠ x.ses
        ·skip
         refine RJ_yes (t := 64) rfl rfl (decide_eq_true k1) ?_
         refine RJ_q (Op_pick_f rfl (decide_eq_false e1) rfl) rfl ?_
         refine RJ_yes (t := 64) rfl rfl (decide_eq_true k1) ?_
         refine RJ_q (Op_move rfl) rfl ?_
         refine RJ_no (t := 77) true rfl rfl (decide_eq_true e2) (by decide) rfl ?_
         refine RJ_no (t := 77) true rfl rfl (decide_eq_true e2) (by decide) rfl ?_
         refine RJ_no (t := 77) true rfl rfl (decide_eq_true e2) (by decide) rfl ?_
         refine RJ_no (t := 77) true rfl rfl (decide_eq_true e2) (by decide) rfl ?_
         refine RJ_no (t := 77) true rfl rfl (decide_eq_true e2) (by decide) rfl ?_
         refine RJ_yes (t := 64) rfl rfl (decide_eq_true k1) ?_
         refine RJ_q (Op_pick_t rfl (decide_eq_true e2) rfl) rfl ?_
         refine RJ_q (Op_pick_t rfl (decide_eq_true k1) rfl) rfl ?_
         refine RJ_q (Op_assign rfl) rfl ?_
         refine RJ_nil ?_
         refine NJ_then ?_
         refine CJ_env (E' := [(1, _), (2, _), (5, _), (6, _), (7, _), (8, _), (60, _)]) (.cons rfl rfl (.cons rfl rfl (.cons rfl rfl (.cons rfl rfl (.cons rfl rfl (.cons rfl rfl (.cons rfl rfl .nil))))))) ?_
         refine CJ_then rfl rfl ?_
         refine CJ_region ?_
         refine RJ_q (Op_move rfl) rfl ?_
         refine RJ_q (Op_fieldAddr (o' := 1) rfl Try.underlying29 rfl sz9 rfl rfl) rfl ?_
         refine RJ_q (Op_load rfl (load_cell Try.underlying9 rfl pkk (Nth.s Nth.z))) rfl ?_
         refine RJ_q (Op_fieldAddr (o' := 2) rfl Try.underlying29 rfl sz3 rfl rfl) rfl ?_
         refine RJ_q (Op_load rfl (load_cell Try.underlying3 rfl pkk (Nth.s (Nth.s Nth.z)))) rfl ?_
         refine RJ_q (Op_fieldAddr (o' := 3) rfl Try.underlying29 rfl sz3 rfl rfl) rfl ?_
         refine RJ_q (Op_load rfl (load_cell Try.underlying3 rfl pkk (Nth.s (Nth.s (Nth.s Nth.z))))) rfl ?_
         refine RJ_p rfl (Op_call (vs := [_, _, _, _]) Try.func12 rfl rfl (MkClear_any g 1000 L o.key o.ses o.req) rfl (.k (e := (Imp.refl _)))) ?_
         rintro _ _ ⟨_, ⟨rfl, rfl⟩, rfl⟩
         refine RJ_app1 ?_
         refine RJ_nil ?_
         refine NJ_blk ?_
         have hJ : StI ⟨x.key, x.ses, x.req⟩ (i + 1) ((if (⟨o.key, o.ses, o.req⟩ : Mark) ∈ L then L.erase ⟨o.key, o.ses, o.req⟩ else L)) := hI.clr (fun e => e2 (congrArg Mark.ses e).symm)
         refine NJ_meet ⟨_, hJ, rfl, rfl⟩ (.cons rfl (by first | rfl | (simp; done)) (.cons rfl (by first | rfl | (simp; done)) (.cons rfl (by first | rfl | (simp; done)) (.cons rfl (by first | rfl | (simp; done)) .nil)))) (.k (e := (.k (e := (.k (e := skk))))))
        ·skip
         refine RJ_yes (t := 64) rfl rfl (decide_eq_true k1) ?_
         refine RJ_q (Op_pick_f rfl (decide_eq_false e1) rfl) rfl ?_
         refine RJ_yes (t := 64) rfl rfl (decide_eq_true k1) ?_
         refine RJ_q (Op_move rfl) rfl ?_
         refine RJ_yes (t := 77) rfl rfl (decide_eq_false e2) ?_
         refine RJ_q (Op_fieldAddr (o' := 3) rfl Try.underlying29 rfl sz3 rfl rfl) rfl ?_
         refine RJ_yes (t := 77) rfl rfl (decide_eq_false e2) ?_
         refine RJ_q (Op_load rfl (load_cell Try.underlying3 rfl pkk (Nth.s (Nth.s (Nth.s Nth.z))))) rfl ?_
         refine RJ_yes (t := 77) rfl rfl (decide_eq_false e2) ?_
         refine RJ_q (Op_fieldAddr (o' := 3) rfl Try.underlying29 rfl sz3 rfl rfl) rfl ?_
         refine RJ_yes (t := 77) rfl rfl (decide_eq_false e2) ?_
         refine RJ_q (Op_load rfl (load_cell Try.underlying3 rfl pkk (Nth.s (Nth.s (Nth.s Nth.z))))) rfl ?_
         refine RJ_yes (t := 77) rfl rfl (decide_eq_false e2) ?_
         refine RJ_q (Op_neq rfl rfl) rfl ?_
         by_cases e3 : o.req ≠ x.req
         ·skip
          refine RJ_yes (t := 64) rfl rfl (decide_eq_true k1) ?_
          refine RJ_q (Op_pick_f rfl (decide_eq_false e2) rfl) rfl ?_
          refine RJ_q (Op_pick_t rfl (decide_eq_true k1) rfl) rfl ?_
          refine RJ_q (Op_assign rfl) rfl ?_
          refine RJ_nil ?_
          refine NJ_then ?_
          refine CJ_env (E' := [(1, _), (2, _), (5, _), (6, _), (7, _), (8, _), (60, _)]) (.cons rfl rfl (.cons rfl rfl (.cons rfl rfl (.cons rfl rfl (.cons rfl rfl (.cons rfl rfl (.cons rfl rfl .nil))))))) ?_
          refine CJ_then rfl (decide_eq_true e3) ?_
          refine CJ_region ?_
          refine RJ_q (Op_move rfl) rfl ?_
          refine RJ_q (Op_fieldAddr (o' := 1) rfl Try.underlying29 rfl sz9 rfl rfl) rfl ?_
          refine RJ_q (Op_load rfl (load_cell Try.underlying9 rfl pkk (Nth.s Nth.z))) rfl ?_
          refine RJ_q (Op_fieldAddr (o' := 2) rfl Try.underlying29 rfl sz3 rfl rfl) rfl ?_
          refine RJ_q (Op_load rfl (load_cell Try.underlying3 rfl pkk (Nth.s (Nth.s Nth.z)))) rfl ?_
          refine RJ_q (Op_fieldAddr (o' := 3) rfl Try.underlying29 rfl sz3 rfl rfl) rfl ?_
          refine RJ_q (Op_load rfl (load_cell Try.underlying3 rfl pkk (Nth.s (Nth.s (Nth.s Nth.z))))) rfl ?_
          refine RJ_p rfl (Op_call (vs := [_, _, _, _]) Try.func12 rfl rfl (MkClear_any g 1000 L o.key o.ses o.req) rfl (.k (e := (Imp.refl _)))) ?_
          rintro _ _ ⟨_, ⟨rfl, rfl⟩, rfl⟩
          refine RJ_app1 ?_
          refine RJ_nil ?_
          refine NJ_blk ?_
          have hJ : StI ⟨x.key, x.ses, x.req⟩ (i + 1) ((if (⟨o.key, o.ses, o.req⟩ : Mark) ∈ L then L.erase ⟨o.key, o.ses, o.req⟩ else L)) := hI.clr (fun e => e3 (congrArg Mark.req e).symm)
          refine NJ_meet ⟨_, hJ, rfl, rfl⟩ (.cons rfl (by first | rfl | (simp; done)) (.cons rfl (by first | rfl | (simp; done)) (.cons rfl (by first | rfl | (simp; done)) (.cons rfl (by first | rfl | (simp; done)) .nil)))) (.k (e := (.k (e := (.k (e := skk))))))
         ·skip
          refine RJ_yes (t := 64) rfl rfl (decide_eq_true k1) ?_
          refine RJ_q (Op_pick_f rfl (decide_eq_false e2) rfl) rfl ?_
          refine RJ_q (Op_pick_t rfl (decide_eq_true k1) rfl) rfl ?_
          refine RJ_q (Op_assign rfl) rfl ?_
          refine RJ_nil ?_
          refine NJ_then ?_
          refine CJ_env (E' := [(1, _), (2, _), (5, _), (6, _), (7, _), (8, _), (60, _)]) (.cons rfl rfl (.cons rfl rfl (.cons rfl rfl (.cons rfl rfl (.cons rfl rfl (.cons rfl rfl (.cons rfl rfl .nil))))))) ?_
          refine CJ_else rfl (decide_eq_false e3) ?_
          refine CJ_seq ?_
          refine CJ_region ?_
          refine RJ_q (Op_fieldAddr (o' := 0) rfl Try.underlying29 rfl sz3 rfl rfl) rfl ?_
          refine RJ_q (Op_load rfl (load_cell Try.underlying3 rfl pkk Nth.z)) rfl ?_
          refine RJ_q (Op_eql rfl rfl) rfl ?_
          by_cases k2 : o.k = 2
          ·skip
           refine RJ_q (Op_move rfl) rfl ?_
           refine RJ_yes (t := 97) rfl rfl (decide_eq_true k2) ?_
           refine RJ_q (Op_move rfl) rfl ?_
           refine RJ_yes (t := 97) rfl rfl (decide_eq_true k2) ?_
           refine RJ_q (Op_move rfl) rfl ?_
           refine RJ_no (t := 99) false rfl rfl rfl (by decide) rfl ?_
           refine RJ_no (t := 99) false rfl rfl rfl (by decide) rfl ?_
           refine RJ_no (t := 99) false rfl rfl rfl (by decide) rfl ?_
           refine RJ_no (t := 99) false rfl rfl rfl (by decide) rfl ?_
           refine RJ_no (t := 99) false rfl rfl rfl (by decide) rfl ?_
           refine RJ_yes (t := 97) rfl rfl (decide_eq_true k2) ?_
           refine RJ_q (Op_pick_f rfl rfl rfl) rfl ?_
           refine RJ_yes (t := 97) rfl rfl (decide_eq_true k2) ?_
           refine RJ_q (Op_not rfl) rfl ?_
           refine RJ_q (Op_pick_t rfl (decide_eq_true k2) rfl) rfl ?_
           refine RJ_q (Op_assign rfl) rfl ?_
           refine RJ_nil ?_
           refine NJ_then ?_
           refine CJ_env (E' := [(1, _), (2, _), (5, _), (6, _), (7, _), (8, _), (93, _)]) (.cons rfl rfl (.cons rfl rfl (.cons rfl rfl (.cons rfl rfl (.cons rfl rfl (.cons rfl rfl (.cons rfl rfl .nil))))))) ?_
           refine CJ_then rfl (congrArg Bool.not rfl) ?_
           refine CJ_region ?_
           refine RJ_q (Op_move rfl) rfl ?_
           refine RJ_q (Op_fieldAddr (o' := 1) rfl Try.underlying29 rfl sz9 rfl rfl) rfl ?_
           refine RJ_q (Op_load rfl (load_cell Try.underlying9 rfl pkk (Nth.s Nth.z))) rfl ?_
           refine RJ_q (Op_fieldAddr (o' := 2) rfl Try.underlying29 rfl sz3 rfl rfl) rfl ?_
           refine RJ_q (Op_load rfl (load_cell Try.underlying3 rfl pkk (Nth.s (Nth.s Nth.z)))) rfl ?_
           refine RJ_q (Op_fieldAddr (o' := 3) rfl Try.underlying29 rfl sz3 rfl rfl) rfl ?_
           refine RJ_q (Op_load rfl (load_cell Try.underlying3 rfl pkk (Nth.s (Nth.s (Nth.s Nth.z))))) rfl ?_
           refine RJ_p rfl (Op_call (vs := [_, _, _, _]) Try.func13 rfl rfl (Upto_any g 1000 L hI.nd (by have := hI.len; omega) o.key o.ses o.req) rfl (.k (e := (Imp.refl _)))) ?_
           rintro _ _ ⟨_, ⟨rfl, rfl⟩, rfl⟩
           refine RJ_app1 ?_
           refine RJ_nil ?_
           refine NJ_blk ?_
           have hJ : StI ⟨x.key, x.ses, x.req⟩ (i + 1) (restR (uptoP o.key o.ses o.req) L) := hI.rest (by have h9 : ¬ x.ses = o.ses := fun h => hm1 h.symm; simp [uptoP, h9])
           refine NJ_meet ⟨_, hJ, rfl, rfl⟩ (.cons rfl (by first | rfl | (simp; done)) (.cons rfl (by first | rfl | (simp; done)) (.cons rfl (by first | rfl | (simp; done)) (.cons rfl (by first | rfl | (simp; done)) .nil)))) (.k (e := (.k (e := (.k (e := skk))))))
          ·skip
           refine RJ_q (Op_move rfl) rfl ?_
           refine RJ_no (t := 97) false rfl rfl (decide_eq_false k2) (by decide) rfl ?_
           refine RJ_no (t := 97) false rfl rfl (decide_eq_false k2) (by decide) rfl ?_
           refine RJ_nou (t := 99) rfl rfl rfl ?_
           refine RJ_nou (t := 99) rfl rfl rfl ?_
           refine RJ_nou (t := 99) rfl rfl rfl ?_
           refine RJ_nou (t := 99) rfl rfl rfl ?_
           refine RJ_nou (t := 99) rfl rfl rfl ?_
           refine RJ_no (t := 97) false rfl rfl (decide_eq_false k2) (by decide) rfl ?_
           refine RJ_no (t := 97) false rfl rfl (decide_eq_false k2) (by decide) rfl ?_
           refine RJ_q (Op_pick_f rfl (decide_eq_false k2) rfl) rfl ?_
           refine RJ_q (Op_assign rfl) rfl ?_
           refine RJ_nil ?_
           refine NJ_then ?_
           refine CJ_env (E' := [(1, _), (2, _), (5, _), (6, _), (7, _), (8, _), (93, _)]) (.cons rfl rfl (.cons rfl rfl (.cons rfl rfl (.cons rfl rfl (.cons rfl rfl (.cons rfl rfl (.cons rfl rfl .nil))))))) ?_
           refine CJ_else rfl rfl ?_
           refine CJ_seq ?_
           refine CJ_region ?_
           refine RJ_q (Op_fieldAddr (o' := 0) rfl Try.underlying29 rfl sz3 rfl rfl) rfl ?_
           refine RJ_q (Op_load rfl (load_cell Try.underlying3 rfl pkk Nth.z)) rfl ?_
           refine RJ_q (Op_eql rfl rfl) rfl ?_
           by_cases k3 : o.k = 3
           ·skip
            refine RJ_q (Op_move rfl) rfl ?_
            refine RJ_yes (t := 120) rfl rfl (decide_eq_true k3) ?_
            refine RJ_q (Op_move rfl) rfl ?_
            refine RJ_yes (t := 120) rfl rfl (decide_eq_true k3) ?_
            refine RJ_q (Op_not rfl) rfl ?_
            refine RJ_q (Op_pick_t rfl (decide_eq_true k3) rfl) rfl ?_
            refine RJ_q (Op_assign rfl) rfl ?_
            refine RJ_nil ?_
            refine NJ_then ?_
            refine CJ_env (E' := [(1, _), (2, _), (5, _), (6, _), (7, _), (116, _)]) (.cons rfl rfl (.cons rfl rfl (.cons rfl rfl (.cons rfl rfl (.cons rfl rfl (.cons rfl rfl .nil)))))) ?_
            refine CJ_then rfl (congrArg Bool.not rfl) ?_
            refine CJ_region ?_
            refine RJ_q (Op_move rfl) rfl ?_
            refine RJ_q (Op_fieldAddr (o' := 2) rfl Try.underlying29 rfl sz3 rfl rfl) rfl ?_
            refine RJ_q (Op_load rfl (load_cell Try.underlying3 rfl pkk (Nth.s (Nth.s Nth.z)))) rfl ?_
            refine RJ_q (Op_fieldAddr (o' := 3) rfl Try.underlying29 rfl sz3 rfl rfl) rfl ?_
            refine RJ_q (Op_load rfl (load_cell Try.underlying3 rfl pkk (Nth.s (Nth.s (Nth.s Nth.z))))) rfl ?_
            refine RJ_p rfl (Op_call (vs := [_, _, _]) Try.func14 rfl rfl (Past_any g 1000 L hI.nd (by have := hI.len; omega) o.ses o.req) rfl (.k (e := (Imp.refl _)))) ?_
            rintro _ _ ⟨_, ⟨rfl, rfl⟩, rfl⟩
            refine RJ_app1 ?_
            refine RJ_nil ?_
            refine NJ_blk ?_
            have hJ : StI ⟨x.key, x.ses, x.req⟩ (i + 1) (restR (pastP o.ses o.req) L) := hI.rest (by have h9 : ¬ x.ses = o.ses := fun h => hm1 h.symm; simp [pastP, h9])
            refine NJ_meet ⟨_, hJ, rfl, rfl⟩ (.cons rfl (by first | rfl | (simp; done)) (.cons rfl (by first | rfl | (simp; done)) (.cons rfl (by first | rfl | (simp; done)) (.cons rfl (by first | rfl | (simp; done)) .nil)))) (.k (e := (.k (e := (.k (e := skk))))))
           ·skip
            refine RJ_q (Op_move rfl) rfl ?_
            refine RJ_no (t := 120) false rfl rfl (decide_eq_false k3) (by decide) rfl ?_
            refine RJ_no (t := 120) false rfl rfl (decide_eq_false k3) (by decide) rfl ?_
            refine RJ_q (Op_pick_f rfl (decide_eq_false k3) rfl) rfl ?_
            refine RJ_q (Op_assign rfl) rfl ?_
            refine RJ_nil ?_
            refine NJ_then ?_
            refine CJ_env (E' := [(1, _), (2, _), (5, _), (6, _), (7, _), (116, _)]) (.cons rfl rfl (.cons rfl rfl (.cons rfl rfl (.cons rfl rfl (.cons rfl rfl (.cons rfl rfl .nil)))))) ?_
            refine CJ_else rfl rfl ?_
            refine CJ_skip ?_
            refine NJ_blk ?_
            have hJ : StI ⟨x.key, x.ses, x.req⟩ (i + 1) (L) := hI.more
            refine NJ_meet ⟨_, hJ, rfl, rfl⟩ (.cons rfl (by first | rfl | (simp; done)) (.cons rfl (by first | rfl | (simp; done)) (.cons rfl (by first | rfl | (simp; done)) (.cons rfl (by first | rfl | (simp; done)) .nil)))) (.k (e := (.k (e := (.k (e := skk))))))
      ·skip
       refine RJ_q (Op_move rfl) rfl ?_
       refine RJ_no (t := 64) false rfl rfl (decide_eq_false k1) (by decide) rfl ?_
       refine RJ_no (t := 64) false rfl rfl (decide_eq_false k1) (by decide) rfl ?_
       refine RJ_no (t := 64) false rfl rfl (decide_eq_false k1) (by decide) rfl ?_
       refine RJ_no (t := 64) false rfl rfl (decide_eq_false k1) (by decide) rfl ?_
       refine RJ_no (t := 64) false rfl rfl (decide_eq_false k1) (by decide) rfl ?_
       refine RJ_no (t := 64) false rfl rfl (decide_eq_false k1) (by decide) rfl ?_
       refine RJ_nou (t := 70) rfl rfl rfl ?_
       refine RJ_nou (t := 70) rfl rfl rfl ?_
       refine RJ_nou (t := 70) rfl rfl rfl ?_
       refine RJ_nou (t := 70) rfl rfl rfl ?_
       refine RJ_nou (t := 70) rfl rfl rfl ?_
       refine RJ_no (t := 64) false rfl rfl (decide_eq_false k1) (by decide) rfl ?_
       refine RJ_no (t := 64) false rfl rfl (decide_eq_false k1) (by decide) rfl ?_
       refine RJ_nou (t := 77) rfl rfl rfl ?_
       refine RJ_nou (t := 77) rfl rfl rfl ?_
       refine RJ_nou (t := 77) rfl rfl rfl ?_
       refine RJ_nou (t := 77) rfl rfl rfl ?_
       refine RJ_nou (t := 77) rfl rfl rfl ?_
       refine RJ_no (t := 64) false rfl rfl (decide_eq_false k1) (by decide) rfl ?_
       refine RJ_q (Op_pick_f rfl (decide_eq_false k1) rfl) rfl ?_
       refine RJ_q (Op_assign rfl) rfl ?_
       refine RJ_nil ?_
       refine NJ_then ?_
       refine CJ_env (E' := [(1, _), (2, _), (5, _), (6, _), (7, _), (8, _), (60, _)]) (.cons rfl rfl (.cons rfl rfl (.cons rfl rfl (.cons rfl rfl (.cons rfl rfl (.cons rfl rfl (.cons rfl rfl .nil))))))) ?_
       refine CJ_else rfl rfl ?_
       refine CJ_seq ?_
       refine CJ_region ?_
       refine RJ_q (Op_fieldAddr (o' := 0) rfl Try.underlying29 rfl sz3 rfl rfl) rfl ?_
       refine RJ_q (Op_load rfl (load_cell Try.underlying3 rfl pkk Nth.z)) rfl ?_
       refine RJ_q (Op_eql rfl rfl) rfl ?_
       by_cases k2 : o.k = 2
       ·skip
        refine RJ_q (Op_move rfl) rfl ?_
        refine RJ_yes (t := 97) rfl rfl (decide_eq_true k2) ?_
        refine RJ_q (Op_move rfl) rfl ?_
        refine RJ_yes (t := 97) rfl rfl (decide_eq_true k2) ?_
        refine RJ_q (Op_move rfl) rfl ?_
        refine RJ_no (t := 99) false rfl rfl rfl (by decide) rfl ?_
        refine RJ_no (t := 99) false rfl rfl rfl (by decide) rfl ?_
        refine RJ_no (t := 99) false rfl rfl rfl (by decide) rfl ?_
        refine RJ_no (t := 99) false rfl rfl rfl (by decide) rfl ?_
        refine RJ_no (t := 99) false rfl rfl rfl (by decide) rfl ?_
        refine RJ_yes (t := 97) rfl rfl (decide_eq_true k2) ?_
        refine RJ_q (Op_pick_f rfl rfl rfl) rfl ?_
        refine RJ_yes (t := 97) rfl rfl (decide_eq_true k2) ?_
        refine RJ_q (Op_not rfl) rfl ?_
        refine RJ_q (Op_pick_t rfl (decide_eq_true k2) rfl) rfl ?_
        refine RJ_q (Op_assign rfl) rfl ?_
        refine RJ_nil ?_
        refine NJ_then ?_
        refine CJ_env (E' := [(1, _), (2, _), (5, _), (6, _), (7, _), (8, _), (93, _)]) (.cons rfl rfl (.cons rfl rfl (.cons rfl rfl (.cons rfl rfl (.cons rfl rfl (.cons rfl rfl (.cons rfl rfl .nil))))))) ?_
        refine CJ_then rfl (congrArg Bool.not rfl) ?_
        refine CJ_region ?_
        refine RJ_q (Op_move rfl) rfl ?_
        refine RJ_q (Op_fieldAddr (o' := 1) rfl Try.underlying29 rfl sz9 rfl rfl) rfl ?_
        refine RJ_q (Op_load rfl (load_cell Try.underlying9 rfl pkk (Nth.s Nth.z))) rfl ?_
        refine RJ_q (Op_fieldAddr (o' := 2) rfl Try.underlying29 rfl sz3 rfl rfl) rfl ?_
        refine RJ_q (Op_load rfl (load_cell Try.underlying3 rfl pkk (Nth.s (Nth.s Nth.z)))) rfl ?_
        refine RJ_q (Op_fieldAddr (o' := 3) rfl Try.underlying29 rfl sz3 rfl rfl) rfl ?_
        refine RJ_q (Op_load rfl (load_cell Try.underlying3 rfl pkk (Nth.s (Nth.s (Nth.s Nth.z))))) rfl ?_
        refine RJ_p rfl (Op_call (vs := [_, _, _, _]) Try.func13 rfl rfl (Upto_any g 1000 L hI.nd (by have := hI.len; omega) o.key o.ses o.req) rfl (.k (e := (Imp.refl _)))) ?_
        rintro _ _ ⟨_, ⟨rfl, rfl⟩, rfl⟩
        refine RJ_app1 ?_
        refine RJ_nil ?_
        refine NJ_blk ?_
        have hJ : StI ⟨x.key, x.ses, x.req⟩ (i + 1) (restR (uptoP o.key o.ses o.req) L) := hI.rest (by have h9 : ¬ x.ses = o.ses := fun h => hm1 h.symm; simp [uptoP, h9])
        refine NJ_meet ⟨_, hJ, rfl, rfl⟩ (.cons rfl (by first | rfl | (simp; done)) (.cons rfl (by first | rfl | (simp; done)) (.cons rfl (by first | rfl | (simp; done)) (.cons rfl (by first | rfl | (simp; done)) .nil)))) (.k (e := (.k (e := (.k (e := skk))))))
       ·skip
        refine RJ_q (Op_move rfl) rfl ?_
        refine RJ_no (t := 97) false rfl rfl (decide_eq_false k2) (by decide) rfl ?_
        refine RJ_no (t := 97) false rfl rfl (decide_eq_false k2) (by decide) rfl ?_
        refine RJ_nou (t := 99) rfl rfl rfl ?_
        refine RJ_nou (t := 99) rfl rfl rfl ?_
        refine RJ_nou (t := 99) rfl rfl rfl ?_
        refine RJ_nou (t := 99) rfl rfl rfl ?_
        refine RJ_nou (t := 99) rfl rfl rfl ?_
        refine RJ_no (t := 97) false rfl rfl (decide_eq_false k2) (by decide) rfl ?_
        refine RJ_no (t := 97) false rfl rfl (decide_eq_false k2) (by decide) rfl ?_
        refine RJ_q (Op_pick_f rfl (decide_eq_false k2) rfl) rfl ?_
        refine RJ_q (Op_assign rfl) rfl ?_
        refine RJ_nil ?_
        refine NJ_then ?_
        refine CJ_env (E' := [(1, _), (2, _), (5, _), (6, _), (7, _), (8, _), (93, _)]) (.cons rfl rfl (.cons rfl rfl (.cons rfl rfl (.cons rfl rfl (.cons rfl rfl (.cons rfl rfl (.cons rfl rfl .nil))))))) ?_
        refine CJ_else rfl rfl ?_
        refine CJ_seq ?_
        refine CJ_region ?_
        refine RJ_q (Op_fieldAddr (o' := 0) rfl Try.underlying29 rfl sz3 rfl rfl) rfl ?_
        refine RJ_q (Op_load rfl (load_cell Try.underlying3 rfl pkk Nth.z)) rfl ?_
        refine RJ_q (Op_eql rfl rfl) rfl ?_
        by_cases k3 : o.k = 3
        ·skip
         refine RJ_q (Op_move rfl) rfl ?_
         refine RJ_yes (t := 120) rfl rfl (decide_eq_true k3) ?_
         refine RJ_q (Op_move rfl) rfl ?_
         refine RJ_yes (t := 120) rfl rfl (decide_eq_true k3) ?_
         refine RJ_q (Op_not rfl) rfl ?_
         refine RJ_q (Op_pick_t rfl (decide_eq_true k3) rfl) rfl ?_
         refine RJ_q (Op_assign rfl) rfl ?_
         refine RJ_nil ?_
         refine NJ_then ?_
         refine CJ_env (E' := [(1, _), (2, _), (5, _), (6, _), (7, _), (116, _)]) (.cons rfl rfl (.cons rfl rfl (.cons rfl rfl (.cons rfl rfl (.cons rfl rfl (.cons rfl rfl .nil)))))) ?_
         refine CJ_then rfl (congrArg Bool.not rfl) ?_
         refine CJ_region ?_
         refine RJ_q (Op_move rfl) rfl ?_
         refine RJ_q (Op_fieldAddr (o' := 2) rfl Try.underlying29 rfl sz3 rfl rfl) rfl ?_
         refine RJ_q (Op_load rfl (load_cell Try.underlying3 rfl pkk (Nth.s (Nth.s Nth.z)))) rfl ?_
         refine RJ_q (Op_fieldAddr (o' := 3) rfl Try.underlying29 rfl sz3 rfl rfl) rfl ?_
         refine RJ_q (Op_load rfl (load_cell Try.underlying3 rfl pkk (Nth.s (Nth.s (Nth.s Nth.z))))) rfl ?_
         refine RJ_p rfl (Op_call (vs := [_, _, _]) Try.func14 rfl rfl (Past_any g 1000 L hI.nd (by have := hI.len; omega) o.ses o.req) rfl (.k (e := (Imp.refl _)))) ?_
         rintro _ _ ⟨_, ⟨rfl, rfl⟩, rfl⟩
         refine RJ_app1 ?_
         refine RJ_nil ?_
         refine NJ_blk ?_
         have hJ : StI ⟨x.key, x.ses, x.req⟩ (i + 1) (restR (pastP o.ses o.req) L) := hI.rest (by have h9 : ¬ x.ses = o.ses := fun h => hm1 h.symm; simp [pastP, h9])
         refine NJ_meet ⟨_, hJ, rfl, rfl⟩ (.cons rfl (by first | rfl | (simp; done)) (.cons rfl (by first | rfl | (simp; done)) (.cons rfl (by first | rfl | (simp; done)) (.cons rfl (by first | rfl | (simp; done)) .nil)))) (.k (e := (.k (e := (.k (e := skk))))))
        ·skip
         refine RJ_q (Op_move rfl) rfl ?_
         refine RJ_no (t := 120) false rfl rfl (decide_eq_false k3) (by decide) rfl ?_
         refine RJ_no (t := 120) false rfl rfl (decide_eq_false k3) (by decide) rfl ?_
         refine RJ_q (Op_pick_f rfl (decide_eq_false k3) rfl) rfl ?_
         refine RJ_q (Op_assign rfl) rfl ?_
         refine RJ_nil ?_
         refine NJ_then ?_
         refine CJ_env (E' := [(1, _), (2, _), (5, _), (6, _), (7, _), (116, _)]) (.cons rfl rfl (.cons rfl rfl (.cons rfl rfl (.cons rfl rfl (.cons rfl rfl (.cons rfl rfl .nil)))))) ?_
         refine CJ_else rfl rfl ?_
         refine CJ_skip ?_
         refine NJ_blk ?_
         have hJ : StI ⟨x.key, x.ses, x.req⟩ (i + 1) (L) := hI.more
         refine NJ_meet ⟨_, hJ, rfl, rfl⟩ (.cons rfl (by first | rfl | (simp; done)) (.cons rfl (by first | rfl | (simp; done)) (.cons rfl (by first | rfl | (simp; done)) (.cons rfl (by first | rfl | (simp; done)) .nil)))) (.k (e := (.k (e := (.k (e := skk))))))
    ·skip
     rintro _ _ ⟨L2, hJ, rfl, rfl⟩
     refine CJ_app3 ?_
     refine CJ_seq ?_
     refine CJ_region ?_
     refine RJ_q (Op_move rfl) rfl ?_
     refine RJ_q (Op_fieldAddr (o' := 1) rfl Try.underlying29 rfl sz9 rfl rfl) rfl ?_
     refine RJ_q (Op_load rfl (load_cell Try.underlying9 rfl pkk (Nth.s Nth.z))) rfl ?_
     refine RJ_p rfl (Op_call (vs := [_, _]) Try.func15 rfl rfl (MkHas_any g 1000 L2 x.key) rfl (.k (e := (Imp.refl _)))) ?_
     rintro _ _ ⟨_, ⟨rfl, rfl⟩, rfl⟩
     refine RJ_app1 ?_
     refine RJ_q (Op_not rfl) rfl ?_
     refine RJ_nil ?_
     refine NJ_then ?_
     refine CJ_env (E' := [(1, _), (2, _), (5, _), (6, _), (134, _)]) (.cons rfl rfl (.cons rfl rfl (.cons rfl rfl (.cons rfl rfl (.cons rfl rfl .nil))))) ?_
     refine CJ_else rfl (congrArg Bool.not (hasR_mem (x := ⟨x.key, x.ses, x.req⟩) hJ.mem)) ?_
     refine CJ_skip ?_
     refine NJ_blk ?_
     refine NJ_then ?_
     refine CJ_env (E' := [(1, _), (2, _), (5, _), (6, _)]) (.cons rfl rfl (.cons rfl rfl (.cons rfl rfl (.cons rfl rfl .nil)))) ?_
     refine CJ_region ?_
     refine RJ_q (Op_move rfl) rfl ?_
     refine RJ_q (Op_addN (i + 1) rfl rfl (by omega) (by omega)) rfl ?_
     refine RJ_q (Op_assign rfl) rfl ?_
     refine RJ_nil ?_
     refine NJ_back ⟨i + 1, L2, ⟨by omega, by omega, hJ⟩, rfl, rfl, rfl⟩ (by omega) (.cons rfl (by first | rfl | (simp; done)) (.cons rfl (by first | rfl | (simp; done)) (.cons rfl (by first | rfl | (simp; done)) (.cons rfl (by first | rfl | (simp; done)) .nil)))) (.k (e := (.k (e := (.k (e := skk))))))
  ·skip
   refine RJ_q (Op_pick_t rfl (decide_eq_true hi1) rfl) rfl ?_
   refine RJ_nil ?_
   refine NJ_then ?_
   refine CJ_env (E' := [(1, _), (2, _), (5, _), (6, _), (29, _)]) (.cons rfl rfl (.cons rfl rfl (.cons rfl rfl (.cons rfl rfl (.cons rfl rfl .nil))))) ?_
   refine CJ_else rfl (decide_eq_false hi2) ?_
   refine CJ_exit ?_
   refine NJ_then_x ?_
   refine NJ_then_x ?_
   refine NJ_blk_hit ?_
   refine NJ_then ?_
   refine CJ_env (E' := [(2, _), (5, _)]) (.cons rfl rfl (.cons rfl rfl .nil)) ?_
   refine CJ_seq ?_
   refine CJ_region ?_
   refine RJ_q (Op_move rfl) rfl ?_
   refine RJ_p rfl (Op_call (vs := [_]) Try.func11 rfl rfl (MkLen_any g 1000 L) rfl (.k (e := (Imp.refl _)))) ?_
   rintro _ _ ⟨_, ⟨rfl, rfl⟩, rfl⟩
   refine RJ_app1 ?_
   refine RJ_q (Op_assign rfl) rfl ?_
   refine RJ_nil ?_
   refine NJ_then ?_
   refine CJ_env (E' := [(2, _), (5, _), (9, _)]) (.cons rfl rfl (.cons rfl rfl (.cons rfl rfl .nil))) ?_
   refine CJ_seq ?_
   refine CJ_region ?_
   refine RJ_q (Op_move rfl) rfl ?_
   refine RJ_q (Op_fieldAddr (o' := 1) rfl Try.underlying29 rfl sz9 rfl rfl) rfl ?_
   refine RJ_q (Op_load rfl (load_cell Try.underlying9 rfl pkk (Nth.s Nth.z))) rfl ?_
   refine RJ_q (Op_fieldAddr (o' := 2) rfl Try.underlying29 rfl sz3 rfl rfl) rfl ?_
   refine RJ_q (Op_load rfl (load_cell Try.underlying3 rfl pkk (Nth.s (Nth.s Nth.z)))) rfl ?_
   refine RJ_q (Op_fieldAddr (o' := 3) rfl Try.underlying29 rfl sz3 rfl rfl) rfl ?_
   refine RJ_q (Op_load rfl (load_cell Try.underlying3 rfl pkk (Nth.s (Nth.s (Nth.s Nth.z))))) rfl ?_
   refine RJ_p rfl (Op_call (vs := [_, _, _, _]) Try.func12 rfl rfl (MkClear_any g 1000 L x.key x.ses x.req) rfl (.k (e := (Imp.refl _)))) ?_
   rintro _ _ ⟨_, ⟨rfl, rfl⟩, rfl⟩
   refine RJ_app1 ?_
   rw [if_pos hI.mem]
   refine RJ_q (Op_move rfl) rfl ?_
   refine RJ_yes (t := 145) rfl rfl (decide_eq_true hI.mem) ?_
   refine RJ_q (Op_move rfl) rfl ?_
   refine RJ_yes (t := 145) rfl rfl (decide_eq_true hI.mem) ?_
   refine RJ_p rfl (Op_call (vs := [_]) Try.func11 rfl rfl (MkLen_any g 1000 (L.erase ⟨x.key, x.ses, x.req⟩)) rfl (.k (e := (Imp.refl _)))) ?_
   rintro _ _ ⟨_, ⟨rfl, rfl⟩, rfl⟩
   refine RJ_app1 ?_
   refine RJ_yes (t := 145) rfl rfl (decide_eq_true hI.mem) ?_
   refine RJ_q (Op_move rfl) rfl ?_
   refine RJ_yes (t := 145) rfl rfl (decide_eq_true hI.mem) ?_
   have hlen := hI.len
   have hpos := List.length_pos_of_mem hI.mem
   refine RJ_q (Op_sub64 rfl rfl (by omega)) rfl ?_
   refine RJ_yes (t := 145) rfl rfl (decide_eq_true hI.mem) ?_
   refine RJ_q (Op_eql rfl rfl) rfl ?_
   refine RJ_q (Op_pick_t rfl (decide_eq_true hI.mem) rfl) rfl ?_
   refine RJ_q (Op_move rfl) rfl ?_
   refine RJ_yes (t := 152) rfl rfl (by rw [List.length_erase_of_mem hI.mem]; simp; omega) ?_
   refine RJ_q (Op_move rfl) rfl ?_
   refine RJ_yes (t := 152) rfl rfl (by rw [List.length_erase_of_mem hI.mem]; simp; omega) ?_
   refine RJ_q (Op_fieldAddr (o' := 1) rfl Try.underlying29 rfl sz9 rfl rfl) rfl ?_
   refine RJ_yes (t := 152) rfl rfl (by rw [List.length_erase_of_mem hI.mem]; simp; omega) ?_
   refine RJ_q (Op_load rfl (load_cell Try.underlying9 rfl pkk (Nth.s Nth.z))) rfl ?_
   refine RJ_yes (t := 152) rfl rfl (by rw [List.length_erase_of_mem hI.mem]; simp; omega) ?_
   refine RJ_q (Op_fieldAddr (o' := 2) rfl Try.underlying29 rfl sz3 rfl rfl) rfl ?_
   refine RJ_yes (t := 152) rfl rfl (by rw [List.length_erase_of_mem hI.mem]; simp; omega) ?_
   refine RJ_q (Op_load rfl (load_cell Try.underlying3 rfl pkk (Nth.s (Nth.s Nth.z)))) rfl ?_
   refine RJ_yes (t := 152) rfl rfl (by rw [List.length_erase_of_mem hI.mem]; simp; omega) ?_
   refine RJ_q (Op_fieldAddr (o' := 3) rfl Try.underlying29 rfl sz3 rfl rfl) rfl ?_
   refine RJ_yes (t := 152) rfl rfl (by rw [List.length_erase_of_mem hI.mem]; simp; omega) ?_
   refine RJ_q (Op_load rfl (load_cell Try.underlying3 rfl pkk (Nth.s (Nth.s (Nth.s Nth.z))))) rfl ?_
   refine RJ_yes (t := 152) rfl rfl (by rw [List.length_erase_of_mem hI.mem]; simp; omega) ?_
   refine RJ_p rfl (Op_call (vs := [_, _, _, _]) Try.func12 rfl rfl (MkClear_any g 1000 (L.erase ⟨x.key, x.ses, x.req⟩) x.key x.ses x.req) rfl (.k (e := (Imp.refl _)))) ?_
   rintro _ _ ⟨_, ⟨rfl, rfl⟩, rfl⟩
   refine RJ_app1 ?_
   refine RJ_yes (t := 152) rfl rfl (by rw [List.length_erase_of_mem hI.mem]; simp; omega) ?_
   refine RJ_q (Op_not rfl) rfl ?_
   refine RJ_q (Op_pick_t rfl (by rw [List.length_erase_of_mem hI.mem]; simp; omega) rfl) rfl ?_
   refine RJ_q (Op_assign rfl) rfl ?_
   refine RJ_nil ?_
   refine NJ_then ?_
   refine CJ_env (E' := [(4, _)]) (.cons rfl rfl .nil) ?_
   refine CJ_ret ?_
   refine NJ_ret (.inl rfl) Try.results4 (ResJ_tmp rfl ResJ_nil) ⟨by first | rfl | (simp [packRes, hI.nd.mem_erase_iff]; done), rfl⟩ (.k (e := skk))
 ·skip
  refine RJ_q (Op_move rfl) rfl ?_
  refine RJ_no (t := 26) false rfl rfl (decide_eq_false hi1) (by decide) rfl ?_
  refine RJ_no (t := 26) false rfl rfl (decide_eq_false hi1) (by decide) rfl ?_
  refine RJ_q (Op_pick_f rfl (decide_eq_false hi1) rfl) rfl ?_
  refine RJ_nil ?_
  refine NJ_then ?_
  refine CJ_env (E' := [(1, _), (2, _), (5, _), (6, _), (29, _)]) (.cons rfl rfl (.cons rfl rfl (.cons rfl rfl (.cons rfl rfl (.cons rfl rfl .nil))))) ?_
  refine CJ_else rfl rfl ?_
  refine CJ_exit ?_
  refine NJ_then_x ?_
  refine NJ_then_x ?_
  refine NJ_blk_hit ?_
  refine NJ_then ?_
  refine CJ_env (E' := [(2, _), (5, _)]) (.cons rfl rfl (.cons rfl rfl .nil)) ?_
  refine CJ_seq ?_
  refine CJ_region ?_
  refine RJ_q (Op_move rfl) rfl ?_
  refine RJ_p rfl (Op_call (vs := [_]) Try.func11 rfl rfl (MkLen_any g 1000 L) rfl (.k (e := (Imp.refl _)))) ?_
  rintro _ _ ⟨_, ⟨rfl, rfl⟩, rfl⟩
  refine RJ_app1 ?_
  refine RJ_q (Op_assign rfl) rfl ?_
  refine RJ_nil ?_
  refine NJ_then ?_
  refine CJ_env (E' := [(2, _), (5, _), (9, _)]) (.cons rfl rfl (.cons rfl rfl (.cons rfl rfl .nil))) ?_
  refine CJ_seq ?_
  refine CJ_region ?_
  refine RJ_q (Op_move rfl) rfl ?_
  refine RJ_q (Op_fieldAddr (o' := 1) rfl Try.underlying29 rfl sz9 rfl rfl) rfl ?_
  refine RJ_q (Op_load rfl (load_cell Try.underlying9 rfl pkk (Nth.s Nth.z))) rfl ?_
  refine RJ_q (Op_fieldAddr (o' := 2) rfl Try.underlying29 rfl sz3 rfl rfl) rfl ?_
  refine RJ_q (Op_load rfl (load_cell Try.underlying3 rfl pkk (Nth.s (Nth.s Nth.z)))) rfl ?_
  refine RJ_q (Op_fieldAddr (o' := 3) rfl Try.underlying29 rfl sz3 rfl rfl) rfl ?_
  refine RJ_q (Op_load rfl (load_cell Try.underlying3 rfl pkk (Nth.s (Nth.s (Nth.s Nth.z))))) rfl ?_
  refine RJ_p rfl (Op_call (vs := [_, _, _, _]) Try.func12 rfl rfl (MkClear_any g 1000 L x.key x.ses x.req) rfl (.k (e := (Imp.refl _)))) ?_
  rintro _ _ ⟨_, ⟨rfl, rfl⟩, rfl⟩
  refine RJ_app1 ?_
  rw [if_pos hI.mem]
  refine RJ_q (Op_move rfl) rfl ?_
  refine RJ_yes (t := 145) rfl rfl (decide_eq_true hI.mem) ?_
  refine RJ_q (Op_move rfl) rfl ?_
  refine RJ_yes (t := 145) rfl rfl (decide_eq_true hI.mem) ?_
  refine RJ_p rfl (Op_call (vs := [_]) Try.func11 rfl rfl (MkLen_any g 1000 (L.erase ⟨x.key, x.ses, x.req⟩)) rfl (.k (e := (Imp.refl _)))) ?_
  rintro _ _ ⟨_, ⟨rfl, rfl⟩, rfl⟩
  refine RJ_app1 ?_
  refine RJ_yes (t := 145) rfl rfl (decide_eq_true hI.mem) ?_
  refine RJ_q (Op_move rfl) rfl ?_
  refine RJ_yes (t := 145) rfl rfl (decide_eq_true hI.mem) ?_
  have hlen := hI.len
  have hpos := List.length_pos_of_mem hI.mem
  refine RJ_q (Op_sub64 rfl rfl (by omega)) rfl ?_
  refine RJ_yes (t := 145) rfl rfl (decide_eq_true hI.mem) ?_
  refine RJ_q (Op_eql rfl rfl) rfl ?_
  refine RJ_q (Op_pick_t rfl (decide_eq_true hI.mem) rfl) rfl ?_
  refine RJ_q (Op_move rfl) rfl ?_
  refine RJ_yes (t := 152) rfl rfl (by rw [List.length_erase_of_mem hI.mem]; simp; omega) ?_
  refine RJ_q (Op_move rfl) rfl ?_
  refine RJ_yes (t := 152) rfl rfl (by rw [List.length_erase_of_mem hI.mem]; simp; omega) ?_
  refine RJ_q (Op_fieldAddr (o' := 1) rfl Try.underlying29 rfl sz9 rfl rfl) rfl ?_
  refine RJ_yes (t := 152) rfl rfl (by rw [List.length_erase_of_mem hI.mem]; simp; omega) ?_
  refine RJ_q (Op_load rfl (load_cell Try.underlying9 rfl pkk (Nth.s Nth.z))) rfl ?_
  refine RJ_yes (t := 152) rfl rfl (by rw [List.length_erase_of_mem hI.mem]; simp; omega) ?_
  refine RJ_q (Op_fieldAddr (o' := 2) rfl Try.underlying29 rfl sz3 rfl rfl) rfl ?_
  refine RJ_yes (t := 152) rfl rfl (by rw [List.length_erase_of_mem hI.mem]; simp; omega) ?_
  refine RJ_q (Op_load rfl (load_cell Try.underlying3 rfl pkk (Nth.s (Nth.s Nth.z)))) rfl ?_
  refine RJ_yes (t := 152) rfl rfl (by rw [List.length_erase_of_mem hI.mem]; simp; omega) ?_
  refine RJ_q (Op_fieldAddr (o' := 3) rfl Try.underlying29 rfl sz3 rfl rfl) rfl ?_
  refine RJ_yes (t := 152) rfl rfl (by rw [List.length_erase_of_mem hI.mem]; simp; omega) ?_
  refine RJ_q (Op_load rfl (load_cell Try.underlying3 rfl pkk (Nth.s (Nth.s (Nth.s Nth.z))))) rfl ?_
  refine RJ_yes (t := 152) rfl rfl (by rw [List.length_erase_of_mem hI.mem]; simp; omega) ?_
  refine RJ_p rfl (Op_call (vs := [_, _, _, _]) Try.func12 rfl rfl (MkClear_any g 1000 (L.erase ⟨x.key, x.ses, x.req⟩) x.key x.ses x.req) rfl (.k (e := (Imp.refl _)))) ?_
  rintro _ _ ⟨_, ⟨rfl, rfl⟩, rfl⟩
  refine RJ_app1 ?_
  refine RJ_yes (t := 152) rfl rfl (by rw [List.length_erase_of_mem hI.mem]; simp; omega) ?_
  refine RJ_q (Op_not rfl) rfl ?_
  refine RJ_q (Op_pick_t rfl (by rw [List.length_erase_of_mem hI.mem]; simp; omega) rfl) rfl ?_
  refine RJ_q (Op_assign rfl) rfl ?_
  refine RJ_nil ?_
  refine NJ_then ?_
  refine CJ_env (E' := [(4, _)]) (.cons rfl rfl .nil) ?_
  refine CJ_ret ?_
  refine NJ_ret (.inl rfl) Try.results4 (ResJ_tmp rfl ResJ_nil) ⟨by first | rfl | (simp [packRes, hI.nd.mem_erase_iff]; done), rfl⟩ (.k (e := skk))
end Go.Proofs.Ytbaecpddhdeapaa.SL
