/- Contracts of the document's list of markers. -/
import Derived.Test.Ytbaecpddhdeapaas08MpD
import Derived.Test.Ytbaecpddhdeapaas08Fb
namespace Go.Proofs.Ytbaecpddhdeapaa.SL
open Go Go.RowKit
set_option maxRecDepth 20000 in
theorem RLess_any (x y : Mark) : Spec Try.prog 29 #[.agg #[.string x.key, .int .i64 x.ses, .int .i64 x.req], .agg #[.string y.key, .int .i64 y.ses, .int .i64 y.req]] [] (fun v C => v = .bool (lessB x y) ∧ C = []) := by
 refine Spec_intro (n := 30) (args := [.agg #[.string x.key, .int .i64 x.ses, .int .i64 x.req], .agg #[.string y.key, .int .i64 y.ses, .int .i64 y.req]]) Try.func29 rfl rfl rfl fun s R => ?_
 refine CJ_app0 ?_
 refine CJ_env (E' := [(0, _), (1, _)]) (.cons rfl rfl (.cons rfl rfl .nil)) ?_
 refine CJ_seq ?_
 refine CJ_region ?_
 refine RJ_p rfl (Op_box rfl) ?_
 rintro _ _ ⟨b2, rfl, rfl⟩
 refine RJ_p rfl (Op_box rfl) ?_
 rintro _ _ ⟨b3, rfl, rfl⟩
 refine RJ_q (Op_assign rfl) rfl ?_
 refine RJ_nil ?_
 refine NJ_then ?_
 refine CJ_env (E' := [(2, _), (3, _), (4, _)]) (.cons rfl rfl (.cons rfl rfl (.cons rfl rfl .nil))) ?_
 refine CJ_seq ?_
 refine CJ_seq ?_
 refine CJ_region ?_
 refine RJ_q (Op_fieldAddr (o' := 0) rfl Try.underlying46 rfl sz9 rfl rfl) rfl ?_
 refine RJ_q (Op_load rfl (load_cell Try.underlying9 rfl pkk Nth.z)) rfl ?_
 refine RJ_q (Op_fieldAddr (o' := 0) rfl Try.underlying46 rfl sz9 rfl rfl) rfl ?_
 refine RJ_q (Op_load rfl (load_cell Try.underlying9 rfl pkk Nth.z)) rfl ?_
 refine RJ_q (Op_str_neq rfl rfl) rfl ?_
 by_cases h1 : x.key ≠ y.key
 ·skip
  refine RJ_nil ?_
  refine NJ_then ?_
  refine CJ_env (E' := [(2, _), (3, _), (4, _), (9, _)]) (.cons rfl rfl (.cons rfl rfl (.cons rfl rfl (.cons rfl rfl .nil)))) ?_
  refine CJ_then rfl (decide_eq_true h1) ?_
  refine CJ_seq ?_
  refine CJ_region ?_
  refine RJ_q (Op_fieldAddr (o' := 0) rfl Try.underlying46 rfl sz9 rfl rfl) rfl ?_
  refine RJ_q (Op_load rfl (load_cell Try.underlying9 rfl pkk Nth.z)) rfl ?_
  refine RJ_q (Op_fieldAddr (o' := 0) rfl Try.underlying46 rfl sz9 rfl rfl) rfl ?_
  refine RJ_q (Op_load rfl (load_cell Try.underlying9 rfl pkk Nth.z)) rfl ?_
  refine RJ_q (Op_str_lss rfl rfl) rfl ?_
  refine RJ_q (Op_assign rfl) rfl ?_
  refine RJ_nil ?_
  refine NJ_then ?_
  refine CJ_env (E' := [(4, _)]) (.cons rfl rfl .nil) ?_
  refine CJ_ret ?_
  refine NJ_then_r ?_
  have hU : lessB x y = Op.bytesLess x.key.data.toList y.key.data.toList := by unfold lessB; rw [if_pos h1]
  rw [hU]
  refine NJ_ret (.inl rfl) Try.results29 (ResJ_tmp rfl ResJ_nil) ⟨rfl, rfl⟩ skk
 ·skip
  refine RJ_nil ?_
  refine NJ_then ?_
  refine CJ_env (E' := [(2, _), (3, _), (4, _), (9, _)]) (.cons rfl rfl (.cons rfl rfl (.cons rfl rfl (.cons rfl rfl .nil)))) ?_
  refine CJ_else rfl (decide_eq_false h1) ?_
  refine CJ_skip ?_
  refine NJ_then ?_
  refine CJ_env (E' := [(2, _), (3, _), (4, _)]) (.cons rfl rfl (.cons rfl rfl (.cons rfl rfl .nil))) ?_
  refine CJ_seq ?_
  refine CJ_seq ?_
  refine CJ_region ?_
  refine RJ_q (Op_fieldAddr (o' := 1) rfl Try.underlying46 rfl sz3 rfl rfl) rfl ?_
  refine RJ_q (Op_load rfl (load_cell Try.underlying3 rfl pkk (Nth.s Nth.z))) rfl ?_
  refine RJ_q (Op_fieldAddr (o' := 1) rfl Try.underlying46 rfl sz3 rfl rfl) rfl ?_
  refine RJ_q (Op_load rfl (load_cell Try.underlying3 rfl pkk (Nth.s Nth.z))) rfl ?_
  refine RJ_q (Op_neq rfl rfl) rfl ?_
  by_cases h2 : x.ses ≠ y.ses
  ·skip
   refine RJ_nil ?_
   refine NJ_then ?_
   refine CJ_env (E' := [(2, _), (3, _), (4, _), (19, _)]) (.cons rfl rfl (.cons rfl rfl (.cons rfl rfl (.cons rfl rfl .nil)))) ?_
   refine CJ_then rfl (decide_eq_true h2) ?_
   refine CJ_seq ?_
   refine CJ_region ?_
   refine RJ_q (Op_fieldAddr (o' := 1) rfl Try.underlying46 rfl sz3 rfl rfl) rfl ?_
   refine RJ_q (Op_load rfl (load_cell Try.underlying3 rfl pkk (Nth.s Nth.z))) rfl ?_
   refine RJ_q (Op_fieldAddr (o' := 1) rfl Try.underlying46 rfl sz3 rfl rfl) rfl ?_
   refine RJ_q (Op_load rfl (load_cell Try.underlying3 rfl pkk (Nth.s Nth.z))) rfl ?_
   refine RJ_q (Op_lss rfl rfl) rfl ?_
   refine RJ_q (Op_assign rfl) rfl ?_
   refine RJ_nil ?_
   refine NJ_then ?_
   refine CJ_env (E' := [(4, _)]) (.cons rfl rfl .nil) ?_
   refine CJ_ret ?_
   refine NJ_then_r ?_
   have hU : lessB x y = decide (x.ses < y.ses) := by unfold lessB; rw [if_neg h1, if_pos h2]
   rw [hU]
   refine NJ_ret (.inl rfl) Try.results29 (ResJ_tmp rfl ResJ_nil) ⟨rfl, rfl⟩ skk
  ·skip
   refine RJ_nil ?_
   refine NJ_then ?_
   refine CJ_env (E' := [(2, _), (3, _), (4, _), (19, _)]) (.cons rfl rfl (.cons rfl rfl (.cons rfl rfl (.cons rfl rfl .nil)))) ?_
   refine CJ_else rfl (decide_eq_false h2) ?_
   refine CJ_skip ?_
   refine NJ_then ?_
   refine CJ_env (E' := [(2, _), (3, _), (4, _)]) (.cons rfl rfl (.cons rfl rfl (.cons rfl rfl .nil))) ?_
   refine CJ_seq ?_
   refine CJ_region ?_
   refine RJ_q (Op_fieldAddr (o' := 2) rfl Try.underlying46 rfl sz3 rfl rfl) rfl ?_
   refine RJ_q (Op_load rfl (load_cell Try.underlying3 rfl pkk (Nth.s (Nth.s Nth.z)))) rfl ?_
   refine RJ_q (Op_fieldAddr (o' := 2) rfl Try.underlying46 rfl sz3 rfl rfl) rfl ?_
   refine RJ_q (Op_load rfl (load_cell Try.underlying3 rfl pkk (Nth.s (Nth.s Nth.z)))) rfl ?_
   refine RJ_q (Op_lss rfl rfl) rfl ?_
   refine RJ_q (Op_assign rfl) rfl ?_
   refine RJ_nil ?_
   refine NJ_then ?_
   refine CJ_env (E' := [(4, _)]) (.cons rfl rfl .nil) ?_
   refine CJ_ret ?_
   have hU : lessB x y = decide (x.req < y.req) := by unfold lessB; rw [if_neg h1, if_neg h2]
   rw [hU]
   refine NJ_ret (.inl rfl) Try.results29 (ResJ_tmp rfl ResJ_nil) ⟨rfl, rfl⟩ skk

set_option maxRecDepth 20000 in
theorem RGoes0_any (x m : Mark) : Spec Try.prog 30 #[.agg #[.string x.key, .int .i64 x.ses, .int .i64 x.req], .agg #[.string m.key, .int .i64 m.ses, .int .i64 m.req], .int .i64 0] [] (fun v C => v = .bool (decide (x = m)) ∧ C = []) := by
 refine Spec_intro (n := 35) (args := [.agg #[.string x.key, .int .i64 x.ses, .int .i64 x.req], .agg #[.string m.key, .int .i64 m.ses, .int .i64 m.req], .int .i64 0]) Try.func30 rfl rfl rfl fun s R => ?_
 refine CJ_app0 ?_
 refine CJ_env (E' := [(0, _), (1, _), (2, _)]) (.cons rfl rfl (.cons rfl rfl (.cons rfl rfl .nil))) ?_
 refine CJ_seq ?_
 refine CJ_region ?_
 refine RJ_p rfl (Op_box rfl) ?_
 rintro _ _ ⟨b3, rfl, rfl⟩
 refine RJ_p rfl (Op_box rfl) ?_
 rintro _ _ ⟨b4, rfl, rfl⟩
 refine RJ_q (Op_assign rfl) rfl ?_
 refine RJ_nil ?_
 refine NJ_then ?_
 refine CJ_env (E' := [(2, _), (3, _), (4, _), (6, _)]) (.cons rfl rfl (.cons rfl rfl (.cons rfl rfl (.cons rfl rfl .nil)))) ?_
 refine CJ_seq ?_
 refine CJ_seq ?_
 refine CJ_region ?_
 refine RJ_q (Op_move rfl) rfl ?_
 refine RJ_q (Op_eql rfl rfl) rfl ?_
 refine RJ_nil ?_
 refine NJ_then ?_
 refine CJ_env (E' := [(2, _), (3, _), (4, _), (6, _), (8, _)]) (.cons rfl rfl (.cons rfl rfl (.cons rfl rfl (.cons rfl rfl (.cons rfl rfl .nil))))) ?_
 refine CJ_then rfl (by rfl) ?_
 refine CJ_seq ?_
 refine CJ_region ?_
 refine RJ_q (Op_load rfl (load_struct (o := 0) (vs := [_, _, _]) Try.underlying46 sz46 pkk (by rfl) rfl)) rfl ?_
 refine RJ_q (Op_load rfl (load_struct (o := 0) (vs := [_, _, _]) Try.underlying46 sz46 pkk (by rfl) rfl)) rfl ?_
 refine RJ_q (Op_struct_eql rfl rfl (by kernel_rfl) (EqJ_markR x m)) rfl ?_
 refine RJ_q (Op_assign rfl) rfl ?_
 refine RJ_nil ?_
 refine NJ_then ?_
 refine CJ_env (E' := [(6, _)]) (.cons rfl rfl .nil) ?_
 refine CJ_ret ?_
 refine NJ_then_r ?_
 refine NJ_ret (.inl rfl) Try.results30 (ResJ_tmp rfl ResJ_nil) ⟨by first | rfl | (simp [packRes, uptoP, pastP, *]; done), rfl⟩ skk

set_option maxRecDepth 20000 in
theorem RGoes1_any (x m : Mark) : Spec Try.prog 30 #[.agg #[.string x.key, .int .i64 x.ses, .int .i64 x.req], .agg #[.string m.key, .int .i64 m.ses, .int .i64 m.req], .int .i64 1] [] (fun v C => v = .bool (uptoP m.key m.ses m.req x) ∧ C = []) := by
 refine Spec_intro (n := 35) (args := [.agg #[.string x.key, .int .i64 x.ses, .int .i64 x.req], .agg #[.string m.key, .int .i64 m.ses, .int .i64 m.req], .int .i64 1]) Try.func30 rfl rfl rfl fun s R => ?_
 refine CJ_app0 ?_
 refine CJ_env (E' := [(0, _), (1, _), (2, _)]) (.cons rfl rfl (.cons rfl rfl (.cons rfl rfl .nil))) ?_
 refine CJ_seq ?_
 refine CJ_region ?_
 refine RJ_p rfl (Op_box rfl) ?_
 rintro _ _ ⟨b3, rfl, rfl⟩
 refine RJ_p rfl (Op_box rfl) ?_
 rintro _ _ ⟨b4, rfl, rfl⟩
 refine RJ_q (Op_assign rfl) rfl ?_
 refine RJ_nil ?_
 refine NJ_then ?_
 refine CJ_env (E' := [(2, _), (3, _), (4, _), (6, _)]) (.cons rfl rfl (.cons rfl rfl (.cons rfl rfl (.cons rfl rfl .nil)))) ?_
 refine CJ_seq ?_
 refine CJ_seq ?_
 refine CJ_region ?_
 refine RJ_q (Op_move rfl) rfl ?_
 refine RJ_q (Op_eql rfl rfl) rfl ?_
 refine RJ_nil ?_
 refine NJ_then ?_
 refine CJ_env (E' := [(2, _), (3, _), (4, _), (6, _), (8, _)]) (.cons rfl rfl (.cons rfl rfl (.cons rfl rfl (.cons rfl rfl (.cons rfl rfl .nil))))) ?_
 refine CJ_else rfl (by rfl) ?_
 refine CJ_skip ?_
 refine NJ_then ?_
 refine CJ_env (E' := [(2, _), (3, _), (4, _), (6, _)]) (.cons rfl rfl (.cons rfl rfl (.cons rfl rfl (.cons rfl rfl .nil)))) ?_
 refine CJ_seq ?_
 refine CJ_region ?_
 refine RJ_q (Op_fieldAddr (o' := 1) rfl Try.underlying46 rfl sz3 rfl rfl) rfl ?_
 refine RJ_q (Op_load rfl (load_cell Try.underlying3 rfl pkk (Nth.s Nth.z))) rfl ?_
 refine RJ_q (Op_fieldAddr (o' := 1) rfl Try.underlying46 rfl sz3 rfl rfl) rfl ?_
 refine RJ_q (Op_load rfl (load_cell Try.underlying3 rfl pkk (Nth.s Nth.z))) rfl ?_
 refine RJ_q (Op_eql rfl rfl) rfl ?_
 by_cases h1 : x.ses = m.ses
 ·skip
  refine RJ_q (Op_move rfl) rfl ?_
  refine RJ_yes (t := 17) rfl rfl (decide_eq_true h1) ?_
  refine RJ_q (Op_fieldAddr (o' := 2) rfl Try.underlying46 rfl sz3 rfl rfl) rfl ?_
  refine RJ_yes (t := 17) rfl rfl (decide_eq_true h1) ?_
  refine RJ_q (Op_load rfl (load_cell Try.underlying3 rfl pkk (Nth.s (Nth.s Nth.z)))) rfl ?_
  refine RJ_yes (t := 17) rfl rfl (decide_eq_true h1) ?_
  refine RJ_q (Op_fieldAddr (o' := 2) rfl Try.underlying46 rfl sz3 rfl rfl) rfl ?_
  refine RJ_yes (t := 17) rfl rfl (decide_eq_true h1) ?_
  refine RJ_q (Op_load rfl (load_cell Try.underlying3 rfl pkk (Nth.s (Nth.s Nth.z)))) rfl ?_
  refine RJ_yes (t := 17) rfl rfl (decide_eq_true h1) ?_
  refine RJ_q (Op_leq rfl rfl) rfl ?_
  by_cases h2 : x.req ≤ m.req
  ·skip
   refine RJ_q (Op_pick_t rfl (decide_eq_true h1) rfl) rfl ?_
   refine RJ_q (Op_move rfl) rfl ?_
   refine RJ_yes (t := 24) rfl rfl (decide_eq_true h2) ?_
   refine RJ_q (Op_move rfl) rfl ?_
   refine RJ_yes (t := 24) rfl rfl (decide_eq_true h2) ?_
   refine RJ_q (Op_eql rfl rfl) rfl ?_
   refine RJ_yes (t := 24) rfl rfl (decide_eq_true h2) ?_
   refine RJ_q (Op_move rfl) rfl ?_
   refine RJ_yes (t := 27) rfl rfl (by rfl) ?_
   refine RJ_q (Op_fieldAddr (o' := 0) rfl Try.underlying46 rfl sz9 rfl rfl) rfl ?_
   refine RJ_yes (t := 27) rfl rfl (by rfl) ?_
   refine RJ_q (Op_load rfl (load_cell Try.underlying9 rfl pkk Nth.z)) rfl ?_
   refine RJ_yes (t := 27) rfl rfl (by rfl) ?_
   refine RJ_q (Op_fieldAddr (o' := 0) rfl Try.underlying46 rfl sz9 rfl rfl) rfl ?_
   refine RJ_yes (t := 27) rfl rfl (by rfl) ?_
   refine RJ_q (Op_load rfl (load_cell Try.underlying9 rfl pkk Nth.z)) rfl ?_
   refine RJ_yes (t := 27) rfl rfl (by rfl) ?_
   refine RJ_q (Op_str_eql rfl rfl) rfl ?_
   by_cases h3 : x.key = m.key
   ·skip
    refine RJ_yes (t := 24) rfl rfl (decide_eq_true h2) ?_
    refine RJ_q (Op_pick_f rfl (by rfl) rfl) rfl ?_
    refine RJ_q (Op_pick_t rfl (decide_eq_true h2) rfl) rfl ?_
    refine RJ_q (Op_assign rfl) rfl ?_
    refine RJ_nil ?_
    refine NJ_then ?_
    refine CJ_env (E' := [(6, _)]) (.cons rfl rfl .nil) ?_
    refine CJ_ret ?_
    refine NJ_ret (.inl rfl) Try.results30 (ResJ_tmp rfl ResJ_nil) ⟨by first | rfl | (simp [packRes, uptoP, pastP, *]; done), rfl⟩ skk
   ·skip
    refine RJ_yes (t := 24) rfl rfl (decide_eq_true h2) ?_
    refine RJ_q (Op_pick_f rfl (by rfl) rfl) rfl ?_
    refine RJ_q (Op_pick_t rfl (decide_eq_true h2) rfl) rfl ?_
    refine RJ_q (Op_assign rfl) rfl ?_
    refine RJ_nil ?_
    refine NJ_then ?_
    refine CJ_env (E' := [(6, _)]) (.cons rfl rfl .nil) ?_
    refine CJ_ret ?_
    refine NJ_ret (.inl rfl) Try.results30 (ResJ_tmp rfl ResJ_nil) ⟨by first | rfl | (simp [packRes, uptoP, pastP, *]; done), rfl⟩ skk
  ·skip
   refine RJ_q (Op_pick_t rfl (decide_eq_true h1) rfl) rfl ?_
   refine RJ_q (Op_move rfl) rfl ?_
   refine RJ_no (t := 24) false rfl rfl (decide_eq_false h2) (by decide) rfl ?_
   refine RJ_no (t := 24) false rfl rfl (decide_eq_false h2) (by decide) rfl ?_
   refine RJ_no (t := 24) false rfl rfl (decide_eq_false h2) (by decide) rfl ?_
   refine RJ_nou (t := 27) rfl rfl rfl ?_
   refine RJ_nou (t := 27) rfl rfl rfl ?_
   refine RJ_nou (t := 27) rfl rfl rfl ?_
   refine RJ_nou (t := 27) rfl rfl rfl ?_
   refine RJ_nou (t := 27) rfl rfl rfl ?_
   refine RJ_no (t := 24) false rfl rfl (decide_eq_false h2) (by decide) rfl ?_
   refine RJ_q (Op_pick_f rfl (decide_eq_false h2) rfl) rfl ?_
   refine RJ_q (Op_assign rfl) rfl ?_
   refine RJ_nil ?_
   refine NJ_then ?_
   refine CJ_env (E' := [(6, _)]) (.cons rfl rfl .nil) ?_
   refine CJ_ret ?_
   refine NJ_ret (.inl rfl) Try.results30 (ResJ_tmp rfl ResJ_nil) ⟨by first | rfl | (simp [packRes, uptoP, pastP, *]; done), rfl⟩ skk
 ·skip
  refine RJ_q (Op_move rfl) rfl ?_
  refine RJ_no (t := 17) false rfl rfl (decide_eq_false h1) (by decide) rfl ?_
  refine RJ_no (t := 17) false rfl rfl (decide_eq_false h1) (by decide) rfl ?_
  refine RJ_no (t := 17) false rfl rfl (decide_eq_false h1) (by decide) rfl ?_
  refine RJ_no (t := 17) false rfl rfl (decide_eq_false h1) (by decide) rfl ?_
  refine RJ_no (t := 17) false rfl rfl (decide_eq_false h1) (by decide) rfl ?_
  refine RJ_q (Op_pick_f rfl (decide_eq_false h1) rfl) rfl ?_
  refine RJ_q (Op_move rfl) rfl ?_
  refine RJ_no (t := 24) false rfl rfl rfl (by decide) rfl ?_
  refine RJ_no (t := 24) false rfl rfl rfl (by decide) rfl ?_
  refine RJ_no (t := 24) false rfl rfl rfl (by decide) rfl ?_
  refine RJ_nou (t := 27) rfl rfl rfl ?_
  refine RJ_nou (t := 27) rfl rfl rfl ?_
  refine RJ_nou (t := 27) rfl rfl rfl ?_
  refine RJ_nou (t := 27) rfl rfl rfl ?_
  refine RJ_nou (t := 27) rfl rfl rfl ?_
  refine RJ_no (t := 24) false rfl rfl rfl (by decide) rfl ?_
  refine RJ_q (Op_pick_f rfl rfl rfl) rfl ?_
  refine RJ_q (Op_assign rfl) rfl ?_
  refine RJ_nil ?_
  refine NJ_then ?_
  refine CJ_env (E' := [(6, _)]) (.cons rfl rfl .nil) ?_
  refine CJ_ret ?_
  refine NJ_ret (.inl rfl) Try.results30 (ResJ_tmp rfl ResJ_nil) ⟨by first | rfl | (simp [packRes, uptoP, pastP, *]; done), rfl⟩ skk

set_option maxRecDepth 20000 in
theorem RGoes2_any (x m : Mark) : Spec Try.prog 30 #[.agg #[.string x.key, .int .i64 x.ses, .int .i64 x.req], .agg #[.string m.key, .int .i64 m.ses, .int .i64 m.req], .int .i64 2] [] (fun v C => v = .bool (pastP m.ses m.req x) ∧ C = []) := by
 refine Spec_intro (n := 35) (args := [.agg #[.string x.key, .int .i64 x.ses, .int .i64 x.req], .agg #[.string m.key, .int .i64 m.ses, .int .i64 m.req], .int .i64 2]) Try.func30 rfl rfl rfl fun s R => ?_
 refine CJ_app0 ?_
 refine CJ_env (E' := [(0, _), (1, _), (2, _)]) (.cons rfl rfl (.cons rfl rfl (.cons rfl rfl .nil))) ?_
 refine CJ_seq ?_
 refine CJ_region ?_
 refine RJ_p rfl (Op_box rfl) ?_
 rintro _ _ ⟨b3, rfl, rfl⟩
 refine RJ_p rfl (Op_box rfl) ?_
 rintro _ _ ⟨b4, rfl, rfl⟩
 refine RJ_q (Op_assign rfl) rfl ?_
 refine RJ_nil ?_
 refine NJ_then ?_
 refine CJ_env (E' := [(2, _), (3, _), (4, _), (6, _)]) (.cons rfl rfl (.cons rfl rfl (.cons rfl rfl (.cons rfl rfl .nil)))) ?_
 refine CJ_seq ?_
 refine CJ_seq ?_
 refine CJ_region ?_
 refine RJ_q (Op_move rfl) rfl ?_
 refine RJ_q (Op_eql rfl rfl) rfl ?_
 refine RJ_nil ?_
 refine NJ_then ?_
 refine CJ_env (E' := [(2, _), (3, _), (4, _), (6, _), (8, _)]) (.cons rfl rfl (.cons rfl rfl (.cons rfl rfl (.cons rfl rfl (.cons rfl rfl .nil))))) ?_
 refine CJ_else rfl (by rfl) ?_
 refine CJ_skip ?_
 refine NJ_then ?_
 refine CJ_env (E' := [(2, _), (3, _), (4, _), (6, _)]) (.cons rfl rfl (.cons rfl rfl (.cons rfl rfl (.cons rfl rfl .nil)))) ?_
 refine CJ_seq ?_
 refine CJ_region ?_
 refine RJ_q (Op_fieldAddr (o' := 1) rfl Try.underlying46 rfl sz3 rfl rfl) rfl ?_
 refine RJ_q (Op_load rfl (load_cell Try.underlying3 rfl pkk (Nth.s Nth.z))) rfl ?_
 refine RJ_q (Op_fieldAddr (o' := 1) rfl Try.underlying46 rfl sz3 rfl rfl) rfl ?_
 refine RJ_q (Op_load rfl (load_cell Try.underlying3 rfl pkk (Nth.s Nth.z))) rfl ?_
 refine RJ_q (Op_eql rfl rfl) rfl ?_
 by_cases h1 : x.ses = m.ses
 ·skip
  refine RJ_q (Op_move rfl) rfl ?_
  refine RJ_yes (t := 17) rfl rfl (decide_eq_true h1) ?_
  refine RJ_q (Op_fieldAddr (o' := 2) rfl Try.underlying46 rfl sz3 rfl rfl) rfl ?_
  refine RJ_yes (t := 17) rfl rfl (decide_eq_true h1) ?_
  refine RJ_q (Op_load rfl (load_cell Try.underlying3 rfl pkk (Nth.s (Nth.s Nth.z)))) rfl ?_
  refine RJ_yes (t := 17) rfl rfl (decide_eq_true h1) ?_
  refine RJ_q (Op_fieldAddr (o' := 2) rfl Try.underlying46 rfl sz3 rfl rfl) rfl ?_
  refine RJ_yes (t := 17) rfl rfl (decide_eq_true h1) ?_
  refine RJ_q (Op_load rfl (load_cell Try.underlying3 rfl pkk (Nth.s (Nth.s Nth.z)))) rfl ?_
  refine RJ_yes (t := 17) rfl rfl (decide_eq_true h1) ?_
  refine RJ_q (Op_leq rfl rfl) rfl ?_
  by_cases h2 : x.req ≤ m.req
  ·skip
   refine RJ_q (Op_pick_t rfl (decide_eq_true h1) rfl) rfl ?_
   refine RJ_q (Op_move rfl) rfl ?_
   refine RJ_yes (t := 24) rfl rfl (decide_eq_true h2) ?_
   refine RJ_q (Op_move rfl) rfl ?_
   refine RJ_yes (t := 24) rfl rfl (decide_eq_true h2) ?_
   refine RJ_q (Op_eql rfl rfl) rfl ?_
   refine RJ_yes (t := 24) rfl rfl (decide_eq_true h2) ?_
   refine RJ_q (Op_move rfl) rfl ?_
   refine RJ_no (t := 27) true rfl rfl (by rfl) (by decide) rfl ?_
   refine RJ_no (t := 27) true rfl rfl (by rfl) (by decide) rfl ?_
   refine RJ_no (t := 27) true rfl rfl (by rfl) (by decide) rfl ?_
   refine RJ_no (t := 27) true rfl rfl (by rfl) (by decide) rfl ?_
   refine RJ_no (t := 27) true rfl rfl (by rfl) (by decide) rfl ?_
   refine RJ_yes (t := 24) rfl rfl (decide_eq_true h2) ?_
   refine RJ_q (Op_pick_t rfl (by rfl) rfl) rfl ?_
   refine RJ_q (Op_pick_t rfl (decide_eq_true h2) rfl) rfl ?_
   refine RJ_q (Op_assign rfl) rfl ?_
   refine RJ_nil ?_
   refine NJ_then ?_
   refine CJ_env (E' := [(6, _)]) (.cons rfl rfl .nil) ?_
   refine CJ_ret ?_
   refine NJ_ret (.inl rfl) Try.results30 (ResJ_tmp rfl ResJ_nil) ⟨by first | rfl | (simp [packRes, uptoP, pastP, *]; done), rfl⟩ skk
  ·skip
   refine RJ_q (Op_pick_t rfl (decide_eq_true h1) rfl) rfl ?_
   refine RJ_q (Op_move rfl) rfl ?_
   refine RJ_no (t := 24) false rfl rfl (decide_eq_false h2) (by decide) rfl ?_
   refine RJ_no (t := 24) false rfl rfl (decide_eq_false h2) (by decide) rfl ?_
   refine RJ_no (t := 24) false rfl rfl (decide_eq_false h2) (by decide) rfl ?_
   refine RJ_nou (t := 27) rfl rfl rfl ?_
   refine RJ_nou (t := 27) rfl rfl rfl ?_
   refine RJ_nou (t := 27) rfl rfl rfl ?_
   refine RJ_nou (t := 27) rfl rfl rfl ?_
   refine RJ_nou (t := 27) rfl rfl rfl ?_
   refine RJ_no (t := 24) false rfl rfl (decide_eq_false h2) (by decide) rfl ?_
   refine RJ_q (Op_pick_f rfl (decide_eq_false h2) rfl) rfl ?_
   refine RJ_q (Op_assign rfl) rfl ?_
   refine RJ_nil ?_
   refine NJ_then ?_
   refine CJ_env (E' := [(6, _)]) (.cons rfl rfl .nil) ?_
   refine CJ_ret ?_
   refine NJ_ret (.inl rfl) Try.results30 (ResJ_tmp rfl ResJ_nil) ⟨by first | rfl | (simp [packRes, uptoP, pastP, *]; done), rfl⟩ skk
 ·skip
  refine RJ_q (Op_move rfl) rfl ?_
  refine RJ_no (t := 17) false rfl rfl (decide_eq_false h1) (by decide) rfl ?_
  refine RJ_no (t := 17) false rfl rfl (decide_eq_false h1) (by decide) rfl ?_
  refine RJ_no (t := 17) false rfl rfl (decide_eq_false h1) (by decide) rfl ?_
  refine RJ_no (t := 17) false rfl rfl (decide_eq_false h1) (by decide) rfl ?_
  refine RJ_no (t := 17) false rfl rfl (decide_eq_false h1) (by decide) rfl ?_
  refine RJ_q (Op_pick_f rfl (decide_eq_false h1) rfl) rfl ?_
  refine RJ_q (Op_move rfl) rfl ?_
  refine RJ_no (t := 24) false rfl rfl rfl (by decide) rfl ?_
  refine RJ_no (t := 24) false rfl rfl rfl (by decide) rfl ?_
  refine RJ_no (t := 24) false rfl rfl rfl (by decide) rfl ?_
  refine RJ_nou (t := 27) rfl rfl rfl ?_
  refine RJ_nou (t := 27) rfl rfl rfl ?_
  refine RJ_nou (t := 27) rfl rfl rfl ?_
  refine RJ_nou (t := 27) rfl rfl rfl ?_
  refine RJ_nou (t := 27) rfl rfl rfl ?_
  refine RJ_no (t := 24) false rfl rfl rfl (by decide) rfl ?_
  refine RJ_q (Op_pick_f rfl rfl rfl) rfl ?_
  refine RJ_q (Op_assign rfl) rfl ?_
  refine RJ_nil ?_
  refine NJ_then ?_
  refine CJ_env (E' := [(6, _)]) (.cons rfl rfl .nil) ?_
  refine CJ_ret ?_
  refine NJ_ret (.inl rfl) Try.results30 (ResJ_tmp rfl ResJ_nil) ⟨by first | rfl | (simp [packRes, uptoP, pastP, *]; done), rfl⟩ skk
end Go.Proofs.Ytbaecpddhdeapaa.SL
