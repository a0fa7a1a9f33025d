/- Contracts of marker, Upto and Past. -/
import Derived.Test.Ytbaecpddhdeapaas08MsF
import Derived.Test.Ytbaecpddhdeapaas08Fb
namespace Go.Proofs.Ytbaecpddhdeapaa.SL
open Go Go.RowKit
set_option maxRecDepth 20000 in
theorem UptoC_any (b1 b2 b3 : Nat) (key : ByteArray) (ses req : Int) (m : Mark) : Spec Try.prog 27 #[.agg #[.string m.key, .int .i64 m.ses, .int .i64 m.req], .pointer (some ⟨b1, 0, none⟩), .pointer (some ⟨b2, 0, none⟩), .pointer (some ⟨b3, 0, none⟩)] [CapU b1 b2 b3 key ses req] (fun v C => v = .bool (uptoP key ses req m) ∧ C = [CapU b1 b2 b3 key ses req]) := by
 refine Spec_intro (n := 22) (args := [.agg #[.string m.key, .int .i64 m.ses, .int .i64 m.req], .pointer (some ⟨b1, 0, none⟩), .pointer (some ⟨b2, 0, none⟩), .pointer (some ⟨b3, 0, none⟩)]) Try.func27 rfl rfl rfl fun s R => ?_
 refine CJ_app1 ?_
 refine CJ_env (E' := [(0, _), (1, _), (2, _), (3, _)]) (.cons rfl rfl (.cons rfl rfl (.cons rfl rfl (.cons rfl rfl .nil)))) ?_
 refine CJ_open (CapU_opens _ _ _ _ _ _) pkk ?_
 rintro _ rfl
 refine CJ_app3 ?_
 refine CJ_seq ?_
 refine CJ_region ?_
 refine RJ_p rfl (Op_box rfl) ?_
 rintro _ _ ⟨b4, rfl, rfl⟩
 refine RJ_q (Op_assign rfl) rfl ?_
 refine RJ_nil ?_
 refine NJ_then ?_
 refine CJ_env (E' := [(1, _), (2, _), (3, _), (4, _), (5, _)]) (.cons rfl rfl (.cons rfl rfl (.cons rfl rfl (.cons rfl rfl (.cons rfl rfl .nil))))) ?_
 refine CJ_seq ?_
 refine CJ_region ?_
 refine RJ_q (Op_fieldAddr (o' := 0) rfl Try.underlying34 rfl sz9 rfl rfl) rfl ?_
 refine RJ_q (Op_load rfl (load_cell Try.underlying9 rfl pkk Nth.z)) rfl ?_
 refine RJ_q (Op_load rfl (load_cell Try.underlying9 rfl pkk Nth.z)) rfl ?_
 refine RJ_q (Op_str_eql rfl rfl) rfl ?_
 by_cases h1 : m.key = key
 ·skip
  refine RJ_q (Op_move rfl) rfl ?_
  refine RJ_yes (t := 10) rfl rfl (decide_eq_true h1) ?_
  refine RJ_q (Op_fieldAddr (o' := 1) rfl Try.underlying34 rfl sz3 rfl rfl) rfl ?_
  refine RJ_yes (t := 10) rfl rfl (decide_eq_true h1) ?_
  refine RJ_q (Op_load rfl (load_cell Try.underlying3 rfl pkk (Nth.s Nth.z))) rfl ?_
  refine RJ_yes (t := 10) rfl rfl (decide_eq_true h1) ?_
  refine RJ_q (Op_load rfl (load_cell Try.underlying3 rfl pkk Nth.z)) rfl ?_
  refine RJ_yes (t := 10) rfl rfl (decide_eq_true h1) ?_
  refine RJ_q (Op_eql rfl rfl) rfl ?_
  by_cases h2 : m.ses = ses
  ·skip
   refine RJ_q (Op_pick_t rfl (decide_eq_true h1) rfl) rfl ?_
   refine RJ_q (Op_move rfl) rfl ?_
   refine RJ_yes (t := 16) rfl rfl (decide_eq_true h2) ?_
   refine RJ_q (Op_fieldAddr (o' := 2) rfl Try.underlying34 rfl sz3 rfl rfl) rfl ?_
   refine RJ_yes (t := 16) rfl rfl (decide_eq_true h2) ?_
   refine RJ_q (Op_load rfl (load_cell Try.underlying3 rfl pkk (Nth.s (Nth.s Nth.z)))) rfl ?_
   refine RJ_yes (t := 16) rfl rfl (decide_eq_true h2) ?_
   refine RJ_q (Op_load rfl (load_cell Try.underlying3 rfl pkk Nth.z)) rfl ?_
   refine RJ_yes (t := 16) rfl rfl (decide_eq_true h2) ?_
   refine RJ_q (Op_leq rfl rfl) rfl ?_
   by_cases h3 : m.req ≤ req
   ·skip
    refine RJ_q (Op_pick_t rfl (decide_eq_true h2) rfl) rfl ?_
    refine RJ_q (Op_assign rfl) rfl ?_
    refine RJ_nil ?_
    refine NJ_then ?_
    refine CJ_env (E' := [(5, _)]) (.cons rfl rfl .nil) ?_
    refine CJ_ret ?_
    have hU : uptoP key ses req m = true := by simp [uptoP, pastP, h1, h2, h3]
    rw [hU]
    refine NJ_ret (.inl rfl) Try.results27 (ResJ_tmp rfl ResJ_nil) ⟨by first | rfl | (simp [packRes, *]; done), rfl⟩ (.swap (C := [pt b1 (.cells #[.string key] 9 (0, 0)), pt b2 (.cells #[.int .i64 ses] 3 (0, 0)), pt b3 (.cells #[.int .i64 req] 3 (0, 0))]) (.k (e := (.k (e := (.k (e := (Imp.refl _))))))) CapU_close (.k (e := skk)))
   ·skip
    refine RJ_q (Op_pick_t rfl (decide_eq_true h2) rfl) rfl ?_
    refine RJ_q (Op_assign rfl) rfl ?_
    refine RJ_nil ?_
    refine NJ_then ?_
    refine CJ_env (E' := [(5, _)]) (.cons rfl rfl .nil) ?_
    refine CJ_ret ?_
    have hU : uptoP key ses req m = false := by simp [uptoP, pastP, h1, h2, h3]
    rw [hU]
    refine NJ_ret (.inl rfl) Try.results27 (ResJ_tmp rfl ResJ_nil) ⟨by first | rfl | (simp [packRes, *]; done), rfl⟩ (.swap (C := [pt b1 (.cells #[.string key] 9 (0, 0)), pt b2 (.cells #[.int .i64 ses] 3 (0, 0)), pt b3 (.cells #[.int .i64 req] 3 (0, 0))]) (.k (e := (.k (e := (.k (e := (Imp.refl _))))))) CapU_close (.k (e := skk)))
  ·skip
   refine RJ_q (Op_pick_t rfl (decide_eq_true h1) rfl) rfl ?_
   refine RJ_q (Op_move rfl) rfl ?_
   refine RJ_no (t := 16) false rfl rfl (decide_eq_false h2) (by decide) rfl ?_
   refine RJ_no (t := 16) false rfl rfl (decide_eq_false h2) (by decide) rfl ?_
   refine RJ_no (t := 16) false rfl rfl (decide_eq_false h2) (by decide) rfl ?_
   refine RJ_no (t := 16) false rfl rfl (decide_eq_false h2) (by decide) rfl ?_
   refine RJ_q (Op_pick_f rfl (decide_eq_false h2) rfl) rfl ?_
   refine RJ_q (Op_assign rfl) rfl ?_
   refine RJ_nil ?_
   refine NJ_then ?_
   refine CJ_env (E' := [(5, _)]) (.cons rfl rfl .nil) ?_
   refine CJ_ret ?_
   have hU : uptoP key ses req m = false := by simp [uptoP, pastP, h1, h2]
   rw [hU]
   refine NJ_ret (.inl rfl) Try.results27 (ResJ_tmp rfl ResJ_nil) ⟨by first | rfl | (simp [packRes, *]; done), rfl⟩ (.swap (C := [pt b1 (.cells #[.string key] 9 (0, 0)), pt b2 (.cells #[.int .i64 ses] 3 (0, 0)), pt b3 (.cells #[.int .i64 req] 3 (0, 0))]) (.k (e := (.k (e := (.k (e := (Imp.refl _))))))) CapU_close (.k (e := skk)))
 ·skip
  refine RJ_q (Op_move rfl) rfl ?_
  refine RJ_no (t := 10) false rfl rfl (decide_eq_false h1) (by decide) rfl ?_
  refine RJ_no (t := 10) false rfl rfl (decide_eq_false h1) (by decide) rfl ?_
  refine RJ_no (t := 10) false rfl rfl (decide_eq_false h1) (by decide) rfl ?_
  refine RJ_no (t := 10) false rfl rfl (decide_eq_false h1) (by decide) rfl ?_
  refine RJ_q (Op_pick_f rfl (decide_eq_false h1) rfl) rfl ?_
  refine RJ_q (Op_move rfl) rfl ?_
  refine RJ_no (t := 16) false rfl rfl rfl (by decide) rfl ?_
  refine RJ_no (t := 16) false rfl rfl rfl (by decide) rfl ?_
  refine RJ_no (t := 16) false rfl rfl rfl (by decide) rfl ?_
  refine RJ_no (t := 16) false rfl rfl rfl (by decide) rfl ?_
  refine RJ_q (Op_pick_f rfl rfl rfl) rfl ?_
  refine RJ_q (Op_assign rfl) rfl ?_
  refine RJ_nil ?_
  refine NJ_then ?_
  refine CJ_env (E' := [(5, _)]) (.cons rfl rfl .nil) ?_
  refine CJ_ret ?_
  have hU : uptoP key ses req m = false := by simp [uptoP, pastP, h1]
  rw [hU]
  refine NJ_ret (.inl rfl) Try.results27 (ResJ_tmp rfl ResJ_nil) ⟨by first | rfl | (simp [packRes, *]; done), rfl⟩ (.swap (C := [pt b1 (.cells #[.string key] 9 (0, 0)), pt b2 (.cells #[.int .i64 ses] 3 (0, 0)), pt b3 (.cells #[.int .i64 req] 3 (0, 0))]) (.k (e := (.k (e := (.k (e := (Imp.refl _))))))) CapU_close (.k (e := skk)))

set_option maxRecDepth 20000 in
theorem PastC_any (b1 b2 : Nat) (ses req : Int) (m : Mark) : Spec Try.prog 28 #[.agg #[.string m.key, .int .i64 m.ses, .int .i64 m.req], .pointer (some ⟨b1, 0, none⟩), .pointer (some ⟨b2, 0, none⟩)] [CapP b1 b2 ses req] (fun v C => v = .bool (pastP ses req m) ∧ C = [CapP b1 b2 ses req]) := by
 refine Spec_intro (n := 15) (args := [.agg #[.string m.key, .int .i64 m.ses, .int .i64 m.req], .pointer (some ⟨b1, 0, none⟩), .pointer (some ⟨b2, 0, none⟩)]) Try.func28 rfl rfl rfl fun s R => ?_
 refine CJ_app1 ?_
 refine CJ_env (E' := [(0, _), (1, _), (2, _)]) (.cons rfl rfl (.cons rfl rfl (.cons rfl rfl .nil))) ?_
 refine CJ_open (CapP_opens _ _ _ _) pkk ?_
 rintro _ rfl
 refine CJ_app2 ?_
 refine CJ_seq ?_
 refine CJ_region ?_
 refine RJ_p rfl (Op_box rfl) ?_
 rintro _ _ ⟨b3, rfl, rfl⟩
 refine RJ_q (Op_assign rfl) rfl ?_
 refine RJ_nil ?_
 refine NJ_then ?_
 refine CJ_env (E' := [(1, _), (2, _), (3, _), (4, _)]) (.cons rfl rfl (.cons rfl rfl (.cons rfl rfl (.cons rfl rfl .nil)))) ?_
 refine CJ_seq ?_
 refine CJ_region ?_
 refine RJ_q (Op_fieldAddr (o' := 1) rfl Try.underlying34 rfl sz3 rfl rfl) rfl ?_
 refine RJ_q (Op_load rfl (load_cell Try.underlying3 rfl pkk (Nth.s Nth.z))) rfl ?_
 refine RJ_q (Op_load rfl (load_cell Try.underlying3 rfl pkk Nth.z)) rfl ?_
 refine RJ_q (Op_eql rfl rfl) rfl ?_
 by_cases h1 : m.ses = ses
 ·skip
  refine RJ_q (Op_move rfl) rfl ?_
  refine RJ_yes (t := 9) rfl rfl (decide_eq_true h1) ?_
  refine RJ_q (Op_fieldAddr (o' := 2) rfl Try.underlying34 rfl sz3 rfl rfl) rfl ?_
  refine RJ_yes (t := 9) rfl rfl (decide_eq_true h1) ?_
  refine RJ_q (Op_load rfl (load_cell Try.underlying3 rfl pkk (Nth.s (Nth.s Nth.z)))) rfl ?_
  refine RJ_yes (t := 9) rfl rfl (decide_eq_true h1) ?_
  refine RJ_q (Op_load rfl (load_cell Try.underlying3 rfl pkk Nth.z)) rfl ?_
  refine RJ_yes (t := 9) rfl rfl (decide_eq_true h1) ?_
  refine RJ_q (Op_leq rfl rfl) rfl ?_
  by_cases h2 : m.req ≤ req
  ·skip
   refine RJ_q (Op_pick_t rfl (decide_eq_true h1) rfl) rfl ?_
   refine RJ_q (Op_assign rfl) rfl ?_
   refine RJ_nil ?_
   refine NJ_then ?_
   refine CJ_env (E' := [(4, _)]) (.cons rfl rfl .nil) ?_
   refine CJ_ret ?_
   have hU : pastP ses req m = true := by simp [pastP, h1, h2]
   rw [hU]
   refine NJ_ret (.inl rfl) Try.results28 (ResJ_tmp rfl ResJ_nil) ⟨by first | rfl | (simp [packRes, *]; done), rfl⟩ (.swap (C := [pt b1 (.cells #[.int .i64 ses] 3 (0, 0)), pt b2 (.cells #[.int .i64 req] 3 (0, 0))]) (.k (e := (.k (e := (Imp.refl _))))) CapP_close (.k (e := skk)))
  ·skip
   refine RJ_q (Op_pick_t rfl (decide_eq_true h1) rfl) rfl ?_
   refine RJ_q (Op_assign rfl) rfl ?_
   refine RJ_nil ?_
   refine NJ_then ?_
   refine CJ_env (E' := [(4, _)]) (.cons rfl rfl .nil) ?_
   refine CJ_ret ?_
   have hU : pastP ses req m = false := by simp [uptoP, pastP, h1, h2]
   rw [hU]
   refine NJ_ret (.inl rfl) Try.results28 (ResJ_tmp rfl ResJ_nil) ⟨by first | rfl | (simp [packRes, *]; done), rfl⟩ (.swap (C := [pt b1 (.cells #[.int .i64 ses] 3 (0, 0)), pt b2 (.cells #[.int .i64 req] 3 (0, 0))]) (.k (e := (.k (e := (Imp.refl _))))) CapP_close (.k (e := skk)))
 ·skip
  refine RJ_q (Op_move rfl) rfl ?_
  refine RJ_no (t := 9) false rfl rfl (decide_eq_false h1) (by decide) rfl ?_
  refine RJ_no (t := 9) false rfl rfl (decide_eq_false h1) (by decide) rfl ?_
  refine RJ_no (t := 9) false rfl rfl (decide_eq_false h1) (by decide) rfl ?_
  refine RJ_no (t := 9) false rfl rfl (decide_eq_false h1) (by decide) rfl ?_
  refine RJ_q (Op_pick_f rfl (decide_eq_false h1) rfl) rfl ?_
  refine RJ_q (Op_assign rfl) rfl ?_
  refine RJ_nil ?_
  refine NJ_then ?_
  refine CJ_env (E' := [(4, _)]) (.cons rfl rfl .nil) ?_
  refine CJ_ret ?_
  have hU : pastP ses req m = false := by simp [uptoP, pastP, h1]
  rw [hU]
  refine NJ_ret (.inl rfl) Try.results28 (ResJ_tmp rfl ResJ_nil) ⟨by first | rfl | (simp [packRes, *]; done), rfl⟩ (.swap (C := [pt b1 (.cells #[.int .i64 ses] 3 (0, 0)), pt b2 (.cells #[.int .i64 req] 3 (0, 0))]) (.k (e := (.k (e := (Imp.refl _))))) CapP_close (.k (e := skk)))
end Go.Proofs.Ytbaecpddhdeapaa.SL
