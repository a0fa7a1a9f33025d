/- Contracts of lease. -/
import Derived.Test.Ytgakbdofjlhoeaas21LsD
import Derived.Test.Ytgakbdofjlhoeaas21Facts
namespace Go.Proofs.Ytgakbdofjlhoeaa.SL
open Go Go.RowKit
set_option maxRecDepth 20000 in
theorem LsLen_any (g : Nat) (limit ticks : Int) (L : List (ByteArray × One)) (last : Int) : Spec Try.prog 39 #[.pointer (some ⟨g, 0, none⟩)] [LeaseP g limit ticks L last] (fun v C => v = .int .i64 (L.length : Nat) ∧ C = [LeaseP g limit ticks L last]) := by
 refine Spec_intro (n := 10) (args := [.pointer (some ⟨g, 0, none⟩)]) Try.func39 rfl rfl rfl fun s R => ?_
 refine CJ_app1 ?_
 refine CJ_env (E' := [(0, _)]) (.cons rfl rfl .nil) ?_
 refine CJ_open (LeaseP_opens _ _ _ _ _) pkk ?_
 rintro _ ⟨mm, rfl⟩
 refine CJ_app2 ?_
 refine CJ_seq ?_
 refine CJ_region ?_
 refine RJ_q (Op_assign rfl) rfl ?_
 refine RJ_nil ?_
 refine NJ_then ?_
 refine CJ_env (E' := [(0, _), (2, _)]) (.cons rfl rfl (.cons rfl rfl .nil)) ?_
 refine CJ_seq ?_
 refine CJ_seq ?_
 refine CJ_region ?_
 refine RJ_q (Op_move rfl) rfl ?_
 refine RJ_q (Op_ptr_eq_nil rfl rfl Try.underlying72) rfl ?_
 refine RJ_nil ?_
 refine NJ_then ?_
 refine CJ_env (E' := [(0, _), (2, _), (4, _)]) (.cons rfl rfl (.cons rfl rfl (.cons rfl rfl .nil))) ?_
 refine CJ_else rfl rfl ?_
 refine CJ_skip ?_
 refine NJ_then ?_
 refine CJ_env (E' := [(0, _), (2, _)]) (.cons rfl rfl (.cons rfl rfl .nil)) ?_
 refine CJ_seq ?_
 refine CJ_region ?_
 refine RJ_q (Op_move rfl) rfl ?_
 refine RJ_q (Op_nilCheck rfl) rfl ?_
 refine RJ_q (Op_fieldAddr (o' := 2) rfl Try.underlying112 rfl sz105 rfl rfl) rfl ?_
 refine RJ_q (Op_load rfl (load_cell Try.underlying105 rfl pkk (Nth.s (Nth.s Nth.z)))) rfl ?_
 refine RJ_q (Op_len_map rfl Try.underlying105 pkk) rfl ?_
 refine RJ_q (Op_assign rfl) rfl ?_
 refine RJ_nil ?_
 refine NJ_then ?_
 refine CJ_env (E' := [(2, _)]) (.cons rfl rfl .nil) ?_
 refine CJ_ret ?_
 refine NJ_ret (.inl rfl) Try.results39 (ResJ_tmp rfl ResJ_nil) ⟨by rw [encL_len]; rfl, rfl⟩ (.swap (C := [LsC g mm limit ticks (last), Mp KS mm (encL oneV (L))]) (.k (e := (.k (e := (Imp.refl _))))) LeaseP_close (.k (e := skk)))

set_option maxRecDepth 20000 in
theorem LsClear_any (g : Nat) (limit ticks : Int) (L : List (ByteArray × One)) (last : Int) : Spec Try.prog 35 #[.pointer (some ⟨g, 0, none⟩)] [LeaseP g limit ticks L last] (fun v C => v = .tuple #[] ∧ C = [LeaseP g limit ticks [] last]) := by
 refine Spec_intro (n := 8) (args := [.pointer (some ⟨g, 0, none⟩)]) Try.func35 rfl rfl rfl fun s R => ?_
 refine CJ_app1 ?_
 refine CJ_env (E' := [(0, _)]) (.cons rfl rfl .nil) ?_
 refine CJ_open (LeaseP_opens _ _ _ _ _) pkk ?_
 rintro _ ⟨mm, rfl⟩
 refine CJ_app2 ?_
 refine CJ_seq ?_
 refine CJ_region ?_
 refine RJ_q (Op_move rfl) rfl ?_
 refine RJ_q (Op_ptr_ne_nil rfl rfl Try.underlying72) rfl ?_
 refine RJ_nil ?_
 refine NJ_then ?_
 refine CJ_env (E' := [(0, _), (3, _)]) (.cons rfl rfl (.cons rfl rfl .nil)) ?_
 refine CJ_then rfl rfl ?_
 refine CJ_region ?_
 refine RJ_q (Op_move rfl) rfl ?_
 refine RJ_q (Op_nilCheck rfl) rfl ?_
 refine RJ_q (Op_fieldAddr (o' := 2) rfl Try.underlying112 rfl sz105 rfl rfl) rfl ?_
 refine RJ_q (Op_load rfl (load_cell Try.underlying105 rfl pkk (Nth.s (Nth.s Nth.z)))) rfl ?_
 refine RJ_d0 (Op_clear (K := KStr 9) rfl Try.underlying105 pkk) ?_
 refine RJ_nil ?_
 refine NJ_ret (.inr rfl) Try.results35 ResJ_nil ⟨rfl, rfl⟩ (.swap (C := [LsC g mm limit ticks (last), Mp KS mm (encL oneV ([]))]) (.k (e := (.k (e := (Imp.refl _))))) LeaseP_close (.k (e := skk)))

set_option maxRecDepth 20000 in
theorem LsKill_any (g : Nat) (limit ticks : Int) (L : List (ByteArray × One)) (last : Int) (key : ByteArray) : Spec Try.prog 44 #[.pointer (some ⟨g, 0, none⟩), .string key] [LeaseP g limit ticks L last] (fun v C => v = .bool (aget key L).isSome ∧ C = [LeaseP g limit ticks (adel key L) last]) := by
 refine Spec_intro (n := 24) (args := [.pointer (some ⟨g, 0, none⟩), .string key]) Try.func44 rfl rfl rfl fun s R => ?_
 refine CJ_app1 ?_
 refine CJ_env (E' := [(0, _), (1, _)]) (.cons rfl rfl (.cons rfl rfl .nil)) ?_
 refine CJ_open (LeaseP_opens _ _ _ _ _) pkk ?_
 rintro _ ⟨mm, rfl⟩
 refine CJ_app2 ?_
 refine CJ_seq ?_
 refine CJ_region ?_
 refine RJ_q (Op_assign rfl) rfl ?_
 refine RJ_nil ?_
 refine NJ_then ?_
 refine CJ_env (E' := [(0, _), (1, _), (4, _)]) (.cons rfl rfl (.cons rfl rfl (.cons rfl rfl .nil))) ?_
 refine CJ_seq ?_
 refine CJ_seq ?_
 refine CJ_region ?_
 refine RJ_q (Op_move rfl) rfl ?_
 refine RJ_q (Op_ptr_eq_nil rfl rfl Try.underlying72) rfl ?_
 refine RJ_nil ?_
 refine NJ_then ?_
 refine CJ_env (E' := [(0, _), (1, _), (4, _), (8, _)]) (.cons rfl rfl (.cons rfl rfl (.cons rfl rfl (.cons rfl rfl .nil)))) ?_
 refine CJ_else rfl rfl ?_
 refine CJ_skip ?_
 refine NJ_then ?_
 refine CJ_env (E' := [(0, _), (1, _), (4, _)]) (.cons rfl rfl (.cons rfl rfl (.cons rfl rfl .nil))) ?_
 refine CJ_seq ?_
 by_cases hf : (aget key L).isSome = true
 ·skip
  obtain ⟨o, ho⟩ := Option.isSome_iff_exists.1 hf
  refine CJ_region ?_
  refine RJ_q (Op_move rfl) rfl ?_
  refine RJ_q (Op_nilCheck rfl) rfl ?_
  refine RJ_q (Op_fieldAddr (o' := 2) rfl Try.underlying112 rfl sz105 rfl rfl) rfl ?_
  refine RJ_q (Op_load rfl (load_cell Try.underlying105 rfl pkk (Nth.s (Nth.s Nth.z)))) rfl ?_
  refine RJ_q (Op_move rfl) rfl ?_
  refine RJ_q (Op_lookup_ok (K := KStr 9) rfl rfl Try.underlying105 ko9 zr114 pkk) rfl ?_
  rw [oneV_some ho, oneV_is]
  refine RJ_q (Op_move rfl) rfl ?_
  refine RJ_q (Op_extract rfl rfl) rfl ?_
  refine RJ_q (Op_extract rfl rfl) rfl ?_
  refine RJ_p rfl (Op_alloc zr114) ?_
  rintro _ _ ⟨b5, rfl, rfl⟩
  refine RJ_d0 (Op_store (cs' := #[_, _]) rfl rfl sz114 (by rfl) (by simp [Value.cells, Value.oneCell']) rpp rfl (free_zero _ _) (by rfl)) ?_
  refine RJ_q (Op_assign rfl) rfl ?_
  refine RJ_nil ?_
  refine NJ_then ?_
  refine CJ_env (E' := [(0, _), (1, _), (4, _), (6, _)]) (.cons rfl rfl (.cons rfl rfl (.cons rfl rfl (.cons rfl rfl .nil)))) ?_
  refine CJ_seq ?_
  refine CJ_region ?_
  refine RJ_q (Op_move rfl) rfl ?_
  refine RJ_q (Op_nilCheck rfl) rfl ?_
  refine RJ_q (Op_fieldAddr (o' := 2) rfl Try.underlying112 rfl sz105 rfl rfl) rfl ?_
  refine RJ_q (Op_load rfl (load_cell Try.underlying105 rfl pkk (Nth.s (Nth.s Nth.z)))) rfl ?_
  refine RJ_q (Op_move rfl) rfl ?_
  refine RJ_d0 (Op_delete (K := KStr 9) rfl rfl Try.underlying105 ko9 pkk) ?_
  rw [mdel_enc]
  refine RJ_nil ?_
  refine NJ_then ?_
  refine CJ_env (E' := [(4, _), (6, _)]) (.cons rfl rfl (.cons rfl rfl .nil)) ?_
  refine CJ_seq ?_
  refine CJ_region ?_
  refine RJ_q (Op_move rfl) rfl ?_
  refine RJ_q (Op_assign rfl) rfl ?_
  refine RJ_nil ?_
  refine NJ_then ?_
  refine CJ_env (E' := [(4, _)]) (.cons rfl rfl .nil) ?_
  refine CJ_ret ?_
  refine NJ_ret (.inl rfl) Try.results44 (ResJ_tmp rfl ResJ_nil) ⟨rfl, rfl⟩ (.swap (C := [LsC g mm limit ticks (last), Mp KS mm (encL oneV (adel key L))]) (.k (e := (.k (e := (Imp.refl _))))) LeaseP_close (.k (e := skk)))
 ·skip
  have ho : aget key L = none := by simpa using hf
  refine CJ_region ?_
  refine RJ_q (Op_move rfl) rfl ?_
  refine RJ_q (Op_nilCheck rfl) rfl ?_
  refine RJ_q (Op_fieldAddr (o' := 2) rfl Try.underlying112 rfl sz105 rfl rfl) rfl ?_
  refine RJ_q (Op_load rfl (load_cell Try.underlying105 rfl pkk (Nth.s (Nth.s Nth.z)))) rfl ?_
  refine RJ_q (Op_move rfl) rfl ?_
  refine RJ_q (Op_lookup_ok (K := KStr 9) rfl rfl Try.underlying105 ko9 zr114 pkk) rfl ?_
  rw [oneV_none ho, oneV_is]
  refine RJ_q (Op_move rfl) rfl ?_
  refine RJ_q (Op_extract rfl rfl) rfl ?_
  refine RJ_q (Op_extract rfl rfl) rfl ?_
  refine RJ_p rfl (Op_alloc zr114) ?_
  rintro _ _ ⟨b5, rfl, rfl⟩
  refine RJ_d0 (Op_store (cs' := #[_, _]) rfl rfl sz114 (by rfl) (by simp [Value.cells, Value.oneCell']) rpp rfl (free_zero _ _) (by rfl)) ?_
  refine RJ_q (Op_assign rfl) rfl ?_
  refine RJ_nil ?_
  refine NJ_then ?_
  refine CJ_env (E' := [(0, _), (1, _), (4, _), (6, _)]) (.cons rfl rfl (.cons rfl rfl (.cons rfl rfl (.cons rfl rfl .nil)))) ?_
  refine CJ_seq ?_
  refine CJ_region ?_
  refine RJ_q (Op_move rfl) rfl ?_
  refine RJ_q (Op_nilCheck rfl) rfl ?_
  refine RJ_q (Op_fieldAddr (o' := 2) rfl Try.underlying112 rfl sz105 rfl rfl) rfl ?_
  refine RJ_q (Op_load rfl (load_cell Try.underlying105 rfl pkk (Nth.s (Nth.s Nth.z)))) rfl ?_
  refine RJ_q (Op_move rfl) rfl ?_
  refine RJ_d0 (Op_delete (K := KStr 9) rfl rfl Try.underlying105 ko9 pkk) ?_
  rw [mdel_enc]
  refine RJ_nil ?_
  refine NJ_then ?_
  refine CJ_env (E' := [(4, _), (6, _)]) (.cons rfl rfl (.cons rfl rfl .nil)) ?_
  refine CJ_seq ?_
  refine CJ_region ?_
  refine RJ_q (Op_move rfl) rfl ?_
  refine RJ_q (Op_assign rfl) rfl ?_
  refine RJ_nil ?_
  refine NJ_then ?_
  refine CJ_env (E' := [(4, _)]) (.cons rfl rfl .nil) ?_
  refine CJ_ret ?_
  refine NJ_ret (.inl rfl) Try.results44 (ResJ_tmp rfl ResJ_nil) ⟨rfl, rfl⟩ (.swap (C := [LsC g mm limit ticks (last), Mp KS mm (encL oneV (adel key L))]) (.k (e := (.k (e := (Imp.refl _))))) LeaseP_close (.k (e := skk)))

set_option maxRecDepth 20000 in
theorem LsUse_any (g : Nat) (limit ticks : Int) (L : List (ByteArray × One)) (last : Int) (key : ByteArray) (token : Int) : Spec Try.prog 26 #[.pointer (some ⟨g, 0, none⟩), .string key, .int .i64 token] [LeaseP g limit ticks L last] (fun v C => v = .bool (useR key token L).1 ∧ C = [LeaseP g limit ticks (useR key token L).2 last]) := by
 refine Spec_intro (n := 33) (args := [.pointer (some ⟨g, 0, none⟩), .string key, .int .i64 token]) Try.func26 rfl rfl rfl fun s R => ?_
 refine CJ_app1 ?_
 refine CJ_env (E' := [(0, _), (1, _), (2, _)]) (.cons rfl rfl (.cons rfl rfl (.cons rfl rfl .nil))) ?_
 refine CJ_open (LeaseP_opens _ _ _ _ _) pkk ?_
 rintro _ ⟨mm, rfl⟩
 refine CJ_app2 ?_
 refine CJ_seq ?_
 refine CJ_region ?_
 refine RJ_q (Op_assign rfl) rfl ?_
 refine RJ_nil ?_
 refine NJ_then ?_
 refine CJ_env (E' := [(0, _), (1, _), (2, _), (6, _)]) (.cons rfl rfl (.cons rfl rfl (.cons rfl rfl (.cons rfl rfl .nil)))) ?_
 refine CJ_seq ?_
 refine CJ_seq ?_
 refine CJ_region ?_
 refine RJ_q (Op_move rfl) rfl ?_
 refine RJ_q (Op_ptr_eq_nil rfl rfl Try.underlying72) rfl ?_
 refine RJ_nil ?_
 refine NJ_then ?_
 refine CJ_env (E' := [(0, _), (1, _), (2, _), (6, _), (10, _)]) (.cons rfl rfl (.cons rfl rfl (.cons rfl rfl (.cons rfl rfl (.cons rfl rfl .nil))))) ?_
 refine CJ_else rfl rfl ?_
 refine CJ_skip ?_
 refine NJ_then ?_
 refine CJ_env (E' := [(0, _), (1, _), (2, _), (6, _)]) (.cons rfl rfl (.cons rfl rfl (.cons rfl rfl (.cons rfl rfl .nil)))) ?_
 refine CJ_seq ?_
 by_cases hf : (aget key L).isSome = true
 ·skip
  obtain ⟨o, ho⟩ := Option.isSome_iff_exists.1 hf
  refine CJ_region ?_
  refine RJ_q (Op_move rfl) rfl ?_
  refine RJ_q (Op_nilCheck rfl) rfl ?_
  refine RJ_q (Op_fieldAddr (o' := 2) rfl Try.underlying112 rfl sz105 rfl rfl) rfl ?_
  refine RJ_q (Op_load rfl (load_cell Try.underlying105 rfl pkk (Nth.s (Nth.s Nth.z)))) rfl ?_
  refine RJ_q (Op_move rfl) rfl ?_
  refine RJ_q (Op_lookup_ok (K := KStr 9) rfl rfl Try.underlying105 ko9 zr114 pkk) rfl ?_
  rw [oneV_some ho, oneV_is]
  refine RJ_q (Op_move rfl) rfl ?_
  refine RJ_q (Op_extract rfl rfl) rfl ?_
  refine RJ_q (Op_extract rfl rfl) rfl ?_
  refine RJ_p rfl (Op_alloc zr114) ?_
  rintro _ _ ⟨b7, rfl, rfl⟩
  refine RJ_d0 (Op_store (cs' := #[_, _]) rfl rfl sz114 (by rfl) (by simp [Value.cells, Value.oneCell']) rpp rfl (free_zero _ _) (by rfl)) ?_
  refine RJ_q (Op_assign rfl) rfl ?_
  refine RJ_nil ?_
  refine NJ_then ?_
  refine CJ_env (E' := [(0, _), (1, _), (2, _), (6, _), (7, _), (8, _)]) (.cons rfl rfl (.cons rfl rfl (.cons rfl rfl (.cons rfl rfl (.cons rfl rfl (.cons rfl rfl .nil)))))) ?_
  refine CJ_seq ?_
  refine CJ_seq ?_
  refine CJ_region ?_
  refine RJ_q (Op_move rfl) rfl ?_
  refine RJ_q (Op_not rfl) rfl ?_
  refine RJ_q (Op_move rfl) rfl ?_
  refine RJ_yes (t := 22) rfl rfl (by rw [ho]; rfl) ?_
  refine RJ_q (Op_fieldAddr (o' := 0) rfl Try.underlying114 rfl sz2 rfl rfl) rfl ?_
  refine RJ_yes (t := 22) rfl rfl (by rw [ho]; rfl) ?_
  refine RJ_q (Op_load rfl (load_cell Try.underlying2 rfl pkk Nth.z)) rfl ?_
  refine RJ_yes (t := 22) rfl rfl (by rw [ho]; rfl) ?_
  refine RJ_q (Op_move rfl) rfl ?_
  refine RJ_yes (t := 22) rfl rfl (by rw [ho]; rfl) ?_
  refine RJ_q (Op_neq rfl rfl) rfl ?_
  by_cases htk : o.token ≠ token
  ·skip
   refine RJ_q (Op_pick_f rfl (by rw [ho]; rfl) rfl) rfl ?_
   refine RJ_nil ?_
   refine NJ_then ?_
   refine CJ_env (E' := [(0, _), (1, _), (6, _), (27, _)]) (.cons rfl rfl (.cons rfl rfl (.cons rfl rfl (.cons rfl rfl .nil)))) ?_
   refine CJ_then rfl (decide_eq_true htk) ?_
   refine CJ_seq ?_
   refine CJ_region ?_
   refine RJ_q (Op_assign rfl) rfl ?_
   refine RJ_nil ?_
   refine NJ_then ?_
   refine CJ_env (E' := [(6, _)]) (.cons rfl rfl .nil) ?_
   refine CJ_ret ?_
   refine NJ_then_r ?_
   have hU : useR key token L = (false, L) := by unfold useR; simp [ho, htk]
   rw [hU]
   refine NJ_ret (.inl rfl) Try.results26 (ResJ_tmp rfl ResJ_nil) ⟨rfl, rfl⟩ (.swap (C := [LsC g mm limit ticks (last), Mp KS mm (encL oneV (L))]) (.k (e := (.k (e := (Imp.refl _))))) LeaseP_close (.k (e := skk)))
  ·skip
   refine RJ_q (Op_pick_f rfl (by rw [ho]; rfl) rfl) rfl ?_
   refine RJ_nil ?_
   refine NJ_then ?_
   refine CJ_env (E' := [(0, _), (1, _), (6, _), (27, _)]) (.cons rfl rfl (.cons rfl rfl (.cons rfl rfl (.cons rfl rfl .nil)))) ?_
   refine CJ_else rfl (decide_eq_false htk) ?_
   refine CJ_skip ?_
   refine NJ_then ?_
   refine CJ_env (E' := [(0, _), (1, _), (6, _)]) (.cons rfl rfl (.cons rfl rfl (.cons rfl rfl .nil))) ?_
   refine CJ_seq ?_
   refine CJ_region ?_
   refine RJ_q (Op_move rfl) rfl ?_
   refine RJ_q (Op_nilCheck rfl) rfl ?_
   refine RJ_q (Op_fieldAddr (o' := 2) rfl Try.underlying112 rfl sz105 rfl rfl) rfl ?_
   refine RJ_q (Op_load rfl (load_cell Try.underlying105 rfl pkk (Nth.s (Nth.s Nth.z)))) rfl ?_
   refine RJ_q (Op_move rfl) rfl ?_
   refine RJ_d0 (Op_delete (K := KStr 9) rfl rfl Try.underlying105 ko9 pkk) ?_
   rw [mdel_enc]
   refine RJ_nil ?_
   refine NJ_then ?_
   refine CJ_env (E' := [(6, _)]) (.cons rfl rfl .nil) ?_
   refine CJ_seq ?_
   refine CJ_region ?_
   refine RJ_q (Op_assign rfl) rfl ?_
   refine RJ_nil ?_
   refine NJ_then ?_
   refine CJ_env (E' := [(6, _)]) (.cons rfl rfl .nil) ?_
   refine CJ_ret ?_
   have hU : useR key token L = (true, adel key L) := by unfold useR; simp [ho, htk]
   rw [hU]
   refine NJ_ret (.inl rfl) Try.results26 (ResJ_tmp rfl ResJ_nil) ⟨rfl, rfl⟩ (.swap (C := [LsC g mm limit ticks (last), Mp KS mm (encL oneV (adel key L))]) (.k (e := (.k (e := (Imp.refl _))))) LeaseP_close (.k (e := skk)))
 ·skip
  have ho : aget key L = none := by simpa using hf
  refine CJ_region ?_
  refine RJ_q (Op_move rfl) rfl ?_
  refine RJ_q (Op_nilCheck rfl) rfl ?_
  refine RJ_q (Op_fieldAddr (o' := 2) rfl Try.underlying112 rfl sz105 rfl rfl) rfl ?_
  refine RJ_q (Op_load rfl (load_cell Try.underlying105 rfl pkk (Nth.s (Nth.s Nth.z)))) rfl ?_
  refine RJ_q (Op_move rfl) rfl ?_
  refine RJ_q (Op_lookup_ok (K := KStr 9) rfl rfl Try.underlying105 ko9 zr114 pkk) rfl ?_
  rw [oneV_none ho, oneV_is]
  refine RJ_q (Op_move rfl) rfl ?_
  refine RJ_q (Op_extract rfl rfl) rfl ?_
  refine RJ_q (Op_extract rfl rfl) rfl ?_
  refine RJ_p rfl (Op_alloc zr114) ?_
  rintro _ _ ⟨b7, rfl, rfl⟩
  refine RJ_d0 (Op_store (cs' := #[_, _]) rfl rfl sz114 (by rfl) (by simp [Value.cells, Value.oneCell']) rpp rfl (free_zero _ _) (by rfl)) ?_
  refine RJ_q (Op_assign rfl) rfl ?_
  refine RJ_nil ?_
  refine NJ_then ?_
  refine CJ_env (E' := [(0, _), (1, _), (2, _), (6, _), (7, _), (8, _)]) (.cons rfl rfl (.cons rfl rfl (.cons rfl rfl (.cons rfl rfl (.cons rfl rfl (.cons rfl rfl .nil)))))) ?_
  refine CJ_seq ?_
  refine CJ_seq ?_
  refine CJ_region ?_
  refine RJ_q (Op_move rfl) rfl ?_
  refine RJ_q (Op_not rfl) rfl ?_
  refine RJ_q (Op_move rfl) rfl ?_
  refine RJ_no (t := 22) true rfl rfl (by rw [ho]; rfl) (by decide) rfl ?_
  refine RJ_no (t := 22) true rfl rfl (by rw [ho]; rfl) (by decide) rfl ?_
  refine RJ_no (t := 22) true rfl rfl (by rw [ho]; rfl) (by decide) rfl ?_
  refine RJ_no (t := 22) true rfl rfl (by rw [ho]; rfl) (by decide) rfl ?_
  refine RJ_q (Op_pick_t rfl (by rw [ho]; rfl) rfl) rfl ?_
  refine RJ_nil ?_
  refine NJ_then ?_
  refine CJ_env (E' := [(0, _), (1, _), (6, _), (27, _)]) (.cons rfl rfl (.cons rfl rfl (.cons rfl rfl (.cons rfl rfl .nil)))) ?_
  refine CJ_then rfl rfl ?_
  refine CJ_seq ?_
  refine CJ_region ?_
  refine RJ_q (Op_assign rfl) rfl ?_
  refine RJ_nil ?_
  refine NJ_then ?_
  refine CJ_env (E' := [(6, _)]) (.cons rfl rfl .nil) ?_
  refine CJ_ret ?_
  refine NJ_then_r ?_
  have hU : useR key token L = (false, L) := by unfold useR; simp [ho]
  rw [hU]
  refine NJ_ret (.inl rfl) Try.results26 (ResJ_tmp rfl ResJ_nil) ⟨rfl, rfl⟩ (.swap (C := [LsC g mm limit ticks (last), Mp KS mm (encL oneV (L))]) (.k (e := (.k (e := (Imp.refl _))))) LeaseP_close (.k (e := skk)))

set_option maxRecDepth 20000 in
theorem AtAdd_lease (g : Nat) (v0 v1 v2 : Value) (x d : Int) (hr : -9223372036854775808 ≤ x + d ∧ x + d ≤ 9223372036854775807) : Spec Try.prog 55 #[.pointer (some ⟨g, 3, none⟩), .int .i64 d] [pt g (.cells #[v0, v1, v2, .int .i64 x] 112 (0, 0))] (fun v C => v = .int .i64 (x + d) ∧ C = [pt g (.cells #[v0, v1, v2, .int .i64 (x + d)] 112 (0, 0))]) := by
 refine Spec_intro (n := 10) (args := [.pointer (some ⟨g, 3, none⟩), .int .i64 d]) Try.func55 rfl rfl rfl fun s R => ?_
 refine CJ_app1 ?_
 refine CJ_env (E' := [(0, _), (1, _)]) (.cons rfl rfl (.cons rfl rfl .nil)) ?_
 refine CJ_seq ?_
 refine CJ_region ?_
 refine RJ_q (Op_assign rfl) rfl ?_
 refine RJ_nil ?_
 refine NJ_then ?_
 refine CJ_env (E' := [(0, _), (1, _), (4, _)]) (.cons rfl rfl (.cons rfl rfl (.cons rfl rfl .nil))) ?_
 refine CJ_seq ?_
 refine CJ_region ?_
 refine RJ_q (Op_move rfl) rfl ?_
 refine RJ_q (Op_nilCheck rfl) rfl ?_
 refine RJ_q (Op_fieldAddr (o' := 3) rfl Try.underlying110 rfl sz2 rfl rfl) rfl ?_
 refine RJ_q (Op_move rfl) rfl ?_
 refine RJ_p rfl (Op_atomic_add (cs' := #[_, _, _, _]) Try.func61 rfl rfl (by kernel_rfl) (by kernel_rfl) rfl rfl rpp (Nth.s (Nth.s (Nth.s Nth.z))) hr (free_zero _ _) (by rfl)) ?_
 rintro _ _ ⟨rfl, rfl⟩
 refine RJ_q (Op_assign rfl) rfl ?_
 refine RJ_nil ?_
 refine NJ_then ?_
 refine CJ_env (E' := [(4, _)]) (.cons rfl rfl .nil) ?_
 refine CJ_ret ?_
 refine NJ_ret (.inl rfl) Try.results55 (ResJ_tmp rfl ResJ_nil) ⟨rfl, rfl⟩ (.k (e := skk))

set_option maxRecDepth 20000 in
theorem LsGrant_any (g : Nat) (limit ticks : Int) (L : List (ByteArray × One)) (last : Int) (key : ByteArray) (hlast : 0 ≤ last ∧ last ≤ 9223372036854775806) : Spec Try.prog 25 #[.pointer (some ⟨g, 0, none⟩), .string key] [LeaseP g limit ticks L last] (fun v C => v = .tuple #[.int .i64 (grantR key limit ticks L last).1, .bool (grantR key limit ticks L last).2.1] ∧ C = [LeaseP g limit ticks (grantR key limit ticks L last).2.2.1 (grantR key limit ticks L last).2.2.2]) := by
 refine Spec_intro (n := 50) (args := [.pointer (some ⟨g, 0, none⟩), .string key]) Try.func25 rfl rfl rfl fun s R => ?_
 refine CJ_app1 ?_
 refine CJ_env (E' := [(0, _), (1, _)]) (.cons rfl rfl (.cons rfl rfl .nil)) ?_
 refine CJ_open (LeaseP_opens _ _ _ _ _) pkk ?_
 rintro _ ⟨mm, rfl⟩
 refine CJ_app2 ?_
 refine CJ_seq ?_
 refine CJ_region ?_
 refine RJ_q (Op_assign rfl) rfl ?_
 refine RJ_q (Op_assign rfl) rfl ?_
 refine RJ_nil ?_
 refine NJ_then ?_
 refine CJ_env (E' := [(0, _), (1, _), (4, _), (5, _)]) (.cons rfl rfl (.cons rfl rfl (.cons rfl rfl (.cons rfl rfl .nil)))) ?_
 refine CJ_seq ?_
 refine CJ_seq ?_
 refine CJ_draw (.q 0 (.q 1 (.q 2 (.q 3 (.q 4 (.q 5 (.q 6 (.q 8 (.q 9 (.q 10 (.q 11 (.e 7 (.q 12 (.q 13 .done)))))))))))))) (by kernel_rfl) (by kernel_rfl) (by kernel_rfl) ?_
 refine SJ_q rfl (want_none rfl) rfl (fun _ _ => Op_move rfl) ?_
 refine SJ_q rfl (want_none rfl) rfl (fun _ _ => Op_ptr_eq_nil rfl rfl Try.underlying72) ?_
 refine SJ_q rfl (want_none rfl) rfl (fun _ _ => Op_move rfl) ?_
 refine SJ_q rfl (want_yes (t := 11) rfl rfl rfl rfl) rfl (fun _ _ => Op_move rfl) ?_
 refine SJ_q rfl (want_yes (t := 11) rfl rfl rfl rfl) rfl (fun _ _ => Op_nilCheck rfl) ?_
 refine SJ_q rfl (want_yes (t := 11) rfl rfl rfl rfl) rfl (fun _ _ => Op_fieldAddr (o' := 2) rfl Try.underlying112 rfl sz105 rfl rfl) ?_
 refine SJ_load rfl (want_yes (t := 11) rfl rfl rfl rfl) rfl rfl (load_cell Try.underlying105 rfl pkk (Nth.s (Nth.s Nth.z))) ?_
 refine SJ_q rfl (want_yes (t := 11) rfl rfl rfl rfl) rfl (fun _ _ => Op_move rfl) ?_
 refine SJ_q rfl (want_yes (t := 11) rfl rfl rfl rfl) rfl (fun _ _ => Op_nilCheck rfl) ?_
 refine SJ_q rfl (want_yes (t := 11) rfl rfl rfl rfl) rfl (fun _ _ => Op_fieldAddr (o' := 0) rfl Try.underlying112 rfl sz3 rfl rfl) ?_
 refine SJ_load rfl (want_yes (t := 11) rfl rfl rfl rfl) rfl rfl (load_cell Try.underlying3 rfl pkk Nth.z) ?_
 refine SJ_d (rd' := [⟨11, _, _, _⟩]) [11] rfl (want_yes (t := 11) rfl rfl rfl rfl) rfl ((Op_len_map rfl Try.underlying105 pkk).opD) (by kernel_rfl) rfl ⟨(load_cell Try.underlying3 rfl pkk Nth.z), trivial⟩ ?_
 rw [encL_len]
 refine SJ_q rfl (want_yes (t := 11) rfl rfl rfl rfl) rfl (fun _ _ => Op_geq rfl rfl) ?_
 by_cases hl : limit ≤ (L.length : Int)
 ·skip
  refine SJ_q rfl (want_none rfl) rfl (fun _ _ => Op_pick_f rfl rfl rfl) ?_
  refine SJ_done ?_
  refine NJ_then ?_
  refine CJ_env (E' := [(0, _), (1, _), (4, _), (5, _), (22, _)]) (.cons rfl rfl (.cons rfl rfl (.cons rfl rfl (.cons rfl rfl (.cons rfl rfl .nil))))) ?_
  refine CJ_then rfl (decide_eq_true hl) ?_
  refine CJ_seq ?_
  refine CJ_region ?_
  refine RJ_q (Op_assign rfl) rfl ?_
  refine RJ_q (Op_assign rfl) rfl ?_
  refine RJ_nil ?_
  refine NJ_then ?_
  refine CJ_env (E' := [(4, _), (5, _)]) (.cons rfl rfl (.cons rfl rfl .nil)) ?_
  refine CJ_ret ?_
  refine NJ_then_r ?_
  have hU : grantR key limit ticks L last = (0, false, L, last) := by unfold grantR; rw [if_pos hl]
  rw [hU]
  refine NJ_ret (.inl rfl) Try.results25 (ResJ_tmp rfl (ResJ_tmp rfl ResJ_nil)) ⟨rfl, rfl⟩ (.swap (C := [LsC g mm limit ticks (last), Mp KS mm (encL oneV (L))]) (.k (e := (.k (e := (Imp.refl _))))) LeaseP_close (.k (e := skk)))
 ·skip
  refine SJ_q rfl (want_none rfl) rfl (fun _ _ => Op_pick_f rfl rfl rfl) ?_
  refine SJ_done ?_
  refine NJ_then ?_
  refine CJ_env (E' := [(0, _), (1, _), (4, _), (5, _), (22, _)]) (.cons rfl rfl (.cons rfl rfl (.cons rfl rfl (.cons rfl rfl (.cons rfl rfl .nil))))) ?_
  refine CJ_else rfl (decide_eq_false hl) ?_
  refine CJ_skip ?_
  refine NJ_then ?_
  refine CJ_env (E' := [(0, _), (1, _), (4, _), (5, _)]) (.cons rfl rfl (.cons rfl rfl (.cons rfl rfl (.cons rfl rfl .nil)))) ?_
  refine CJ_seq ?_
  refine CJ_seq ?_
  by_cases hf : (aget key L).isSome = true
  ·skip
   obtain ⟨o, ho⟩ := Option.isSome_iff_exists.1 hf
   refine CJ_region ?_
   refine RJ_q (Op_move rfl) rfl ?_
   refine RJ_q (Op_nilCheck rfl) rfl ?_
   refine RJ_q (Op_fieldAddr (o' := 2) rfl Try.underlying112 rfl sz105 rfl rfl) rfl ?_
   refine RJ_q (Op_load rfl (load_cell Try.underlying105 rfl pkk (Nth.s (Nth.s Nth.z)))) rfl ?_
   refine RJ_q (Op_move rfl) rfl ?_
   refine RJ_q (Op_lookup_ok (K := KStr 9) rfl rfl Try.underlying105 ko9 zr114 pkk) rfl ?_
   rw [oneV_some ho, oneV_is]
   refine RJ_q (Op_move rfl) rfl ?_
   refine RJ_q (Op_extract rfl rfl) rfl ?_
   refine RJ_q (Op_extract rfl rfl) rfl ?_
   refine RJ_p rfl (Op_alloc zr114) ?_
   rintro _ _ ⟨b6, rfl, rfl⟩
   refine RJ_d0 (Op_store (cs' := #[_, _]) rfl rfl sz114 (by rfl) (by simp [Value.cells, Value.oneCell']) rpp rfl (free_zero _ _) (by rfl)) ?_
   refine RJ_q (Op_assign rfl) rfl ?_
   refine RJ_nil ?_
   refine NJ_then ?_
   refine CJ_env (E' := [(0, _), (1, _), (4, _), (5, _), (7, _)]) (.cons rfl rfl (.cons rfl rfl (.cons rfl rfl (.cons rfl rfl (.cons rfl rfl .nil))))) ?_
   refine CJ_seq ?_
   refine CJ_region ?_
   refine RJ_q (Op_move rfl) rfl ?_
   refine RJ_nil ?_
   refine NJ_then ?_
   refine CJ_env (E' := [(0, _), (1, _), (4, _), (5, _), (32, _)]) (.cons rfl rfl (.cons rfl rfl (.cons rfl rfl (.cons rfl rfl (.cons rfl rfl .nil))))) ?_
   refine CJ_then rfl (by rw [ho]; rfl) ?_
   refine CJ_seq ?_
   refine CJ_region ?_
   refine RJ_q (Op_assign rfl) rfl ?_
   refine RJ_q (Op_assign rfl) rfl ?_
   refine RJ_nil ?_
   refine NJ_then ?_
   refine CJ_env (E' := [(4, _), (5, _)]) (.cons rfl rfl (.cons rfl rfl .nil)) ?_
   refine CJ_ret ?_
   refine NJ_then_r ?_
   have hU : grantR key limit ticks L last = (0, false, L, last) := by unfold grantR; rw [if_neg hl, ho]
   rw [hU]
   refine NJ_ret (.inl rfl) Try.results25 (ResJ_tmp rfl (ResJ_tmp rfl ResJ_nil)) ⟨rfl, rfl⟩ (.swap (C := [LsC g mm limit ticks (last), Mp KS mm (encL oneV (L))]) (.k (e := (.k (e := (Imp.refl _))))) LeaseP_close (.k (e := skk)))
  ·skip
   have ho : aget key L = none := by simpa using hf
   refine CJ_region ?_
   refine RJ_q (Op_move rfl) rfl ?_
   refine RJ_q (Op_nilCheck rfl) rfl ?_
   refine RJ_q (Op_fieldAddr (o' := 2) rfl Try.underlying112 rfl sz105 rfl rfl) rfl ?_
   refine RJ_q (Op_load rfl (load_cell Try.underlying105 rfl pkk (Nth.s (Nth.s Nth.z)))) rfl ?_
   refine RJ_q (Op_move rfl) rfl ?_
   refine RJ_q (Op_lookup_ok (K := KStr 9) rfl rfl Try.underlying105 ko9 zr114 pkk) rfl ?_
   rw [oneV_none ho, oneV_is]
   refine RJ_q (Op_move rfl) rfl ?_
   refine RJ_q (Op_extract rfl rfl) rfl ?_
   refine RJ_q (Op_extract rfl rfl) rfl ?_
   refine RJ_p rfl (Op_alloc zr114) ?_
   rintro _ _ ⟨b6, rfl, rfl⟩
   refine RJ_d0 (Op_store (cs' := #[_, _]) rfl rfl sz114 (by rfl) (by simp [Value.cells, Value.oneCell']) rpp rfl (free_zero _ _) (by rfl)) ?_
   refine RJ_q (Op_assign rfl) rfl ?_
   refine RJ_nil ?_
   refine NJ_then ?_
   refine CJ_env (E' := [(0, _), (1, _), (4, _), (5, _), (7, _)]) (.cons rfl rfl (.cons rfl rfl (.cons rfl rfl (.cons rfl rfl (.cons rfl rfl .nil))))) ?_
   refine CJ_seq ?_
   refine CJ_region ?_
   refine RJ_q (Op_move rfl) rfl ?_
   refine RJ_nil ?_
   refine NJ_then ?_
   refine CJ_env (E' := [(0, _), (1, _), (4, _), (5, _), (32, _)]) (.cons rfl rfl (.cons rfl rfl (.cons rfl rfl (.cons rfl rfl (.cons rfl rfl .nil))))) ?_
   refine CJ_else rfl (by rw [ho]; rfl) ?_
   refine CJ_skip ?_
   refine NJ_then ?_
   refine CJ_env (E' := [(0, _), (1, _), (4, _), (5, _)]) (.cons rfl rfl (.cons rfl rfl (.cons rfl rfl (.cons rfl rfl .nil)))) ?_
   refine CJ_seq ?_
   refine CJ_draw (.q 0 (.q 1 (.q 2 (.q 4 (.q 5 (.q 6 (.q 7 (.br 3 (.q 8 (.e 9 (.e 10 .done))) (.e 9 (.e 3 (.q 8 (.e 10 .done)))))))))))) (by kernel_rfl) (by kernel_rfl) (by kernel_rfl) ?_
   refine SJ_q rfl (want_none rfl) rfl (fun _ _ => Op_move rfl) ?_
   refine SJ_q rfl (want_none rfl) rfl (fun _ _ => Op_nilCheck rfl) ?_
   refine SJ_q rfl (want_none rfl) rfl (fun _ _ => Op_fieldAddr (o' := 3) rfl Try.underlying112 rfl sz110 rfl rfl) ?_
   refine SJ_q rfl (want_none rfl) rfl (fun _ _ => Op_move rfl) ?_
   refine SJ_q rfl (want_none rfl) rfl (fun _ _ => Op_nilCheck rfl) ?_
   refine SJ_q rfl (want_none rfl) rfl (fun _ _ => Op_fieldAddr (o' := 1) rfl Try.underlying112 rfl sz3 rfl rfl) ?_
   refine SJ_load rfl (want_none rfl) rfl rfl (load_cell Try.underlying3 rfl pkk (Nth.s Nth.z)) ?_
   refine SJ_br ?_ ?_
   ·skip
    refine SJ_p (rd' := [⟨7, _, _, _⟩]) [7] rfl (want_none rfl) rfl (Op_call (vs := [_, _]) Try.func55 rfl rfl (AtAdd_lease g _ _ _ last 1 (by omega)) rfl (.k (e := (Imp.refl _)))) (by kernel_rfl) rfl ?_
    rintro _ _ ⟨_, ⟨rfl, rfl⟩, rfl⟩
    refine OS_app1 ?_
    refine ⟨⟨(load_cell Try.underlying3 rfl pkk (Nth.s Nth.z)), trivial⟩, ?_⟩
    refine SJ_q rfl (want_none rfl) rfl (fun _ _ => Op_build (vs := [_, _]) (cells := [_, _]) Try.underlying114 zr114 rfl pl114 (by rfl)) ?_
    refine SJ_p (rd' := [⟨7, _, _, _⟩]) [7] rfl (want_none rfl) rfl (Op_alloc zr114) (by kernel_rfl) rfl ?_
    rintro _ _ ⟨b8, rfl, rfl⟩
    refine ⟨⟨(load_cell Try.underlying3 rfl pkk (Nth.s Nth.z)), trivial⟩, ?_⟩
    refine SJ_d0 (rd' := []) [] rfl (want_none rfl) (Op_store (cs' := #[_, _]) rfl rfl sz114 (by rfl) (by simp [Value.cells, Value.oneCell']) rpp rfl (free_zero _ _) (by rfl)) (by kernel_rfl) rfl trivial ?_
    refine SJ_done ?_
    refine NJ_then ?_
    refine CJ_env (E' := [(0, _), (1, _), (4, _), (5, _), (8, _)]) (.cons rfl rfl (.cons rfl rfl (.cons rfl rfl (.cons rfl rfl (.cons rfl rfl .nil))))) ?_
    refine CJ_seq ?_
    refine CJ_draw (.q 0 (.q 1 (.q 2 (.q 3 (.q 4 (.q 5 (.e 6 .done))))))) (by kernel_rfl) (by kernel_rfl) (by kernel_rfl) ?_
    refine SJ_q rfl (want_none rfl) rfl (fun _ _ => Op_move rfl) ?_
    refine SJ_q rfl (want_none rfl) rfl (fun _ _ => Op_nilCheck rfl) ?_
    refine SJ_q rfl (want_none rfl) rfl (fun _ _ => Op_fieldAddr (o' := 2) rfl Try.underlying112 rfl sz105 rfl rfl) ?_
    refine SJ_load rfl (want_none rfl) rfl rfl (load_cell Try.underlying105 rfl pkk (Nth.s (Nth.s Nth.z))) ?_
    refine SJ_q rfl (want_none rfl) rfl (fun _ _ => Op_move rfl) ?_
    refine SJ_load rfl (want_none rfl) rfl rfl (load_struct (o := 0) (vs := [_, _]) Try.underlying114 sz114 pkk (by rfl) rfl) ?_
    refine SJ_d0 (rd' := []) [] rfl (want_none rfl) (Op_mapUpdate (K := KStr 9) rfl rfl rfl Try.underlying105 ko9 pkk) (by kernel_rfl) rfl trivial ?_
    rw [show (.agg #[.int .i64 (last + 1), .int .i64 ticks] : Value) = oneV ⟨last + 1, ticks⟩ from rfl, mput_enc, aput_new ho]
    refine SJ_done ?_
    refine NJ_then ?_
    refine CJ_env (E' := [(4, _), (5, _), (8, _)]) (.cons rfl rfl (.cons rfl rfl (.cons rfl rfl .nil))) ?_
    refine CJ_seq ?_
    refine CJ_region ?_
    refine RJ_q (Op_fieldAddr (o' := 0) rfl Try.underlying114 rfl sz2 rfl rfl) rfl ?_
    refine RJ_q (Op_load rfl (load_cell Try.underlying2 rfl pkk Nth.z)) rfl ?_
    refine RJ_q (Op_assign rfl) rfl ?_
    refine RJ_q (Op_assign rfl) rfl ?_
    refine RJ_nil ?_
    refine NJ_then ?_
    refine CJ_env (E' := [(4, _), (5, _)]) (.cons rfl rfl (.cons rfl rfl .nil)) ?_
    refine CJ_ret ?_
    have hU : grantR key limit ticks L last = (last + 1, true, L ++ [(key, ⟨last + 1, ticks⟩)], last + 1) := by unfold grantR; rw [if_neg hl, ho]
    rw [hU]
    refine NJ_ret (.inl rfl) Try.results25 (ResJ_tmp rfl (ResJ_tmp rfl ResJ_nil)) ⟨rfl, rfl⟩ (.swap (C := [LsC g mm limit ticks (last + 1), Mp KS mm (encL oneV (L ++ [(key, ⟨last + 1, ticks⟩)]))]) (.k (e := (.k (e := (Imp.refl _))))) LeaseP_close (.k (e := skk)))
   ·skip
    refine SJ_p (rd' := [⟨7, _, _, _⟩]) [7] rfl (want_none rfl) rfl (Op_alloc zr114) (by kernel_rfl) rfl ?_
    rintro _ _ ⟨b8, rfl, rfl⟩
    refine ⟨⟨(load_cell Try.underlying3 rfl pkk (Nth.s Nth.z)), trivial⟩, ?_⟩
    refine SJ_p (rd' := [⟨7, _, _, _⟩]) [7] rfl (want_none rfl) rfl (Op_call (vs := [_, _]) Try.func55 rfl rfl (AtAdd_lease g _ _ _ last 1 (by omega)) rfl (.k (e := (Imp.refl _)))) (by kernel_rfl) rfl ?_
    rintro _ _ ⟨_, ⟨rfl, rfl⟩, rfl⟩
    refine OS_app1 ?_
    refine ⟨⟨(load_cell Try.underlying3 rfl pkk (Nth.s Nth.z)), trivial⟩, ?_⟩
    refine SJ_q rfl (want_none rfl) rfl (fun _ _ => Op_build (vs := [_, _]) (cells := [_, _]) Try.underlying114 zr114 rfl pl114 (by rfl)) ?_
    refine SJ_d0 (rd' := []) [] rfl (want_none rfl) (Op_store (cs' := #[_, _]) rfl rfl sz114 (by rfl) (by simp [Value.cells, Value.oneCell']) rpp rfl (free_zero _ _) (by rfl)) (by kernel_rfl) rfl trivial ?_
    refine SJ_done ?_
    refine NJ_then ?_
    refine CJ_env (E' := [(0, _), (1, _), (4, _), (5, _), (8, _)]) (.cons rfl rfl (.cons rfl rfl (.cons rfl rfl (.cons rfl rfl (.cons rfl rfl .nil))))) ?_
    refine CJ_seq ?_
    refine CJ_draw (.q 0 (.q 1 (.q 2 (.q 3 (.q 4 (.q 5 (.e 6 .done))))))) (by kernel_rfl) (by kernel_rfl) (by kernel_rfl) ?_
    refine SJ_q rfl (want_none rfl) rfl (fun _ _ => Op_move rfl) ?_
    refine SJ_q rfl (want_none rfl) rfl (fun _ _ => Op_nilCheck rfl) ?_
    refine SJ_q rfl (want_none rfl) rfl (fun _ _ => Op_fieldAddr (o' := 2) rfl Try.underlying112 rfl sz105 rfl rfl) ?_
    refine SJ_load rfl (want_none rfl) rfl rfl (load_cell Try.underlying105 rfl pkk (Nth.s (Nth.s Nth.z))) ?_
    refine SJ_q rfl (want_none rfl) rfl (fun _ _ => Op_move rfl) ?_
    refine SJ_load rfl (want_none rfl) rfl rfl (load_struct (o := 0) (vs := [_, _]) Try.underlying114 sz114 pkk (by rfl) rfl) ?_
    refine SJ_d0 (rd' := []) [] rfl (want_none rfl) (Op_mapUpdate (K := KStr 9) rfl rfl rfl Try.underlying105 ko9 pkk) (by kernel_rfl) rfl trivial ?_
    rw [show (.agg #[.int .i64 (last + 1), .int .i64 ticks] : Value) = oneV ⟨last + 1, ticks⟩ from rfl, mput_enc, aput_new ho]
    refine SJ_done ?_
    refine NJ_then ?_
    refine CJ_env (E' := [(4, _), (5, _), (8, _)]) (.cons rfl rfl (.cons rfl rfl (.cons rfl rfl .nil))) ?_
    refine CJ_seq ?_
    refine CJ_region ?_
    refine RJ_q (Op_fieldAddr (o' := 0) rfl Try.underlying114 rfl sz2 rfl rfl) rfl ?_
    refine RJ_q (Op_load rfl (load_cell Try.underlying2 rfl pkk Nth.z)) rfl ?_
    refine RJ_q (Op_assign rfl) rfl ?_
    refine RJ_q (Op_assign rfl) rfl ?_
    refine RJ_nil ?_
    refine NJ_then ?_
    refine CJ_env (E' := [(4, _), (5, _)]) (.cons rfl rfl (.cons rfl rfl .nil)) ?_
    refine CJ_ret ?_
    have hU : grantR key limit ticks L last = (last + 1, true, L ++ [(key, ⟨last + 1, ticks⟩)], last + 1) := by unfold grantR; rw [if_neg hl, ho]
    rw [hU]
    refine NJ_ret (.inl rfl) Try.results25 (ResJ_tmp rfl (ResJ_tmp rfl ResJ_nil)) ⟨rfl, rfl⟩ (.swap (C := [LsC g mm limit ticks (last + 1), Mp KS mm (encL oneV (L ++ [(key, ⟨last + 1, ticks⟩)]))]) (.k (e := (.k (e := (Imp.refl _))))) LeaseP_close (.k (e := skk)))

set_option maxRecDepth 20000 in
theorem AtStore_lease (g : Nat) (v0 v1 v2 : Value) (x d : Int) : Spec Try.prog 60 #[.pointer (some ⟨g, 3, none⟩), .int .i64 d] [pt g (.cells #[v0, v1, v2, .int .i64 x] 112 (0, 0))] (fun v C => v = .tuple #[] ∧ C = [pt g (.cells #[v0, v1, v2, .int .i64 d] 112 (0, 0))]) := by
 refine Spec_intro (n := 9) (args := [.pointer (some ⟨g, 3, none⟩), .int .i64 d]) Try.func60 rfl rfl rfl fun s R => ?_
 refine CJ_app1 ?_
 refine CJ_env (E' := [(0, _), (1, _)]) (.cons rfl rfl (.cons rfl rfl .nil)) ?_
 refine CJ_region ?_
 refine RJ_q (Op_move rfl) rfl ?_
 refine RJ_q (Op_nilCheck rfl) rfl ?_
 refine RJ_q (Op_fieldAddr (o' := 3) rfl Try.underlying110 rfl sz2 rfl rfl) rfl ?_
 refine RJ_q (Op_move rfl) rfl ?_
 refine RJ_p rfl (Op_atomic_store (cs' := #[_, _, _, _]) Try.func62 rfl rfl (by kernel_rfl) (by kernel_rfl) rfl rfl rpp (Nth.s (Nth.s (Nth.s Nth.z))) (free_zero _ _) (by rfl)) ?_
 rintro _ _ ⟨rfl, rfl⟩
 refine RJ_nil ?_
 refine NJ_ret (.inr rfl) Try.results60 ResJ_nil ⟨rfl, rfl⟩ (.k (e := skk))

set_option maxRecDepth 20000 in
theorem LsNew_any (limit ticks : Int) : Spec Try.prog 59 #[.int .i64 limit, .int .i64 ticks] [] (fun v C => ∃ g, v = .pointer (some ⟨g, 0, none⟩) ∧ C = [LeaseP g limit (max ticks 1) [] 0]) := by
 refine Spec_intro (n := 11) (args := [.int .i64 limit, .int .i64 ticks]) Try.func59 rfl rfl rfl fun s R => ?_
 refine CJ_app0 ?_
 refine CJ_env (E' := [(0, _), (1, _)]) (.cons rfl rfl (.cons rfl rfl .nil)) ?_
 refine CJ_seq ?_
 refine CJ_region ?_
 refine RJ_q (Op_assign rfl) rfl ?_
 refine RJ_nil ?_
 refine NJ_then ?_
 refine CJ_env (E' := [(0, _), (1, _), (4, _)]) (.cons rfl rfl (.cons rfl rfl (.cons rfl rfl .nil))) ?_
 refine CJ_seq ?_
 refine CJ_region ?_
 refine RJ_q (Op_move rfl) rfl ?_
 refine RJ_q (Op_move rfl) rfl ?_
 refine RJ_q (Op_max rfl rfl) rfl ?_
 refine RJ_p rfl (Op_makeMap (K := KStr 9)) ?_
 rintro _ _ ⟨g8, rfl, rfl⟩
 refine RJ_q (Op_build (vs := [_, _, _]) (cells := [_, _, _, _]) Try.underlying112 zr112 rfl pl112 (by rfl)) rfl ?_
 refine RJ_p rfl (Op_box rfl) ?_
 rintro _ _ ⟨b10, rfl, rfl⟩
 refine RJ_q (Op_assign rfl) rfl ?_
 refine RJ_nil ?_
 refine NJ_then ?_
 refine CJ_env (E' := [(4, _)]) (.cons rfl rfl .nil) ?_
 refine CJ_ret ?_
 refine NJ_ret (.inl rfl) Try.results59 (ResJ_tmp rfl ResJ_nil) ⟨b10, rfl, rfl⟩ (.swap (C := [LsC b10 g8 limit (max ticks 1) 0, Mp KS g8 (encL oneV [])]) (.k (e := (.k (e := (Imp.refl _))))) LeaseP_close (.k (e := skk)))

set_option maxRecDepth 20000 in
theorem LsAgain_any (limit ticks last : Int) : Spec Try.prog 51 #[.int .i64 limit, .int .i64 ticks, .int .i64 last] [] (fun v C => ∃ g, v = .pointer (some ⟨g, 0, none⟩) ∧ C = [LeaseP g limit (max ticks 1) [] (againR last)]) := by
 refine Spec_intro (n := 23) (args := [.int .i64 limit, .int .i64 ticks, .int .i64 last]) Try.func51 rfl rfl rfl fun s R => ?_
 refine CJ_app0 ?_
 refine CJ_env (E' := [(0, _), (1, _), (2, _)]) (.cons rfl rfl (.cons rfl rfl (.cons rfl rfl .nil))) ?_
 refine CJ_seq ?_
 refine CJ_region ?_
 refine RJ_q (Op_assign rfl) rfl ?_
 refine RJ_nil ?_
 refine NJ_then ?_
 refine CJ_env (E' := [(0, _), (1, _), (2, _), (6, _)]) (.cons rfl rfl (.cons rfl rfl (.cons rfl rfl (.cons rfl rfl .nil)))) ?_
 refine CJ_seq ?_
 refine CJ_region ?_
 refine RJ_q (Op_move rfl) rfl ?_
 refine RJ_q (Op_move rfl) rfl ?_
 refine RJ_p rfl (Op_call (vs := [_, _]) Try.func59 rfl rfl (LsNew_any limit ticks) rfl (Imp.refl _)) ?_
 rintro _ _ ⟨_, ⟨g, rfl, rfl⟩, rfl⟩
 refine RJ_app1 ?_
 refine RJ_q (Op_assign rfl) rfl ?_
 refine RJ_nil ?_
 refine NJ_then ?_
 refine CJ_env (E' := [(2, _), (6, _), (7, _)]) (.cons rfl rfl (.cons rfl rfl (.cons rfl rfl .nil))) ?_
 refine CJ_seq ?_
 refine CJ_seq ?_
 refine CJ_region ?_
 refine RJ_q (Op_move rfl) rfl ?_
 refine RJ_q (Op_geq rfl rfl) rfl ?_
 by_cases h1 : 0 ≤ last
 ·skip
  refine RJ_q (Op_move rfl) rfl ?_
  refine RJ_yes (t := 13) rfl rfl (decide_eq_true h1) ?_
  refine RJ_q (Op_move rfl) rfl ?_
  refine RJ_yes (t := 13) rfl rfl (decide_eq_true h1) ?_
  refine RJ_q (Op_leq rfl rfl) rfl ?_
  by_cases h2 : last ≤ 9007199254740992
  ·skip
   refine RJ_q (Op_pick_t rfl (decide_eq_true h1) rfl) rfl ?_
   refine RJ_nil ?_
   refine NJ_then ?_
   refine CJ_env (E' := [(2, _), (6, _), (7, _), (16, _)]) (.cons rfl rfl (.cons rfl rfl (.cons rfl rfl (.cons rfl rfl .nil)))) ?_
   refine CJ_then rfl (decide_eq_true h2) ?_
   refine CJ_open (LeaseP_opens _ _ _ _ _) pkk ?_
   rintro _ ⟨mm, rfl⟩
   refine CJ_app2 ?_
   refine CJ_region ?_
   refine RJ_q (Op_move rfl) rfl ?_
   refine RJ_q (Op_nilCheck rfl) rfl ?_
   refine RJ_q (Op_fieldAddr rfl Try.underlying112 rfl sz110 rfl rfl) rfl ?_
   refine RJ_q (Op_move rfl) rfl ?_
   refine RJ_p rfl (Op_call (vs := [_, _]) Try.func60 rfl rfl (AtStore_lease g _ _ _ 0 last) rfl (.k (e := (Imp.refl _)))) ?_
   rintro _ _ ⟨_, ⟨rfl, rfl⟩, rfl⟩
   refine RJ_app1 ?_
   refine RJ_nil ?_
   refine NJ_then ?_
   refine CJ_env (E' := [(6, _), (7, _)]) (.cons rfl rfl (.cons rfl rfl .nil)) ?_
   refine CJ_seq ?_
   refine CJ_region ?_
   refine RJ_q (Op_move rfl) rfl ?_
   refine RJ_q (Op_assign rfl) rfl ?_
   refine RJ_nil ?_
   refine NJ_then ?_
   refine CJ_env (E' := [(6, _)]) (.cons rfl rfl .nil) ?_
   refine CJ_ret ?_
   have hA : againR last = last := by unfold againR; rw [if_pos ⟨h1, h2⟩]
   rw [hA]
   refine NJ_ret (.inl rfl) Try.results51 (ResJ_tmp rfl ResJ_nil) ⟨g, rfl, rfl⟩ (.swap (C := [LsC g mm limit (max ticks 1) last, Mp KS mm (encL oneV [])]) (.k (e := (.k (e := (Imp.refl _))))) LeaseP_close (.k (e := skk)))
  ·skip
   refine RJ_q (Op_pick_t rfl (decide_eq_true h1) rfl) rfl ?_
   refine RJ_nil ?_
   refine NJ_then ?_
   refine CJ_env (E' := [(2, _), (6, _), (7, _), (16, _)]) (.cons rfl rfl (.cons rfl rfl (.cons rfl rfl (.cons rfl rfl .nil)))) ?_
   refine CJ_else rfl (decide_eq_false h2) ?_
   refine CJ_skip ?_
   refine NJ_then ?_
   refine CJ_env (E' := [(6, _), (7, _)]) (.cons rfl rfl (.cons rfl rfl .nil)) ?_
   refine CJ_seq ?_
   refine CJ_region ?_
   refine RJ_q (Op_move rfl) rfl ?_
   refine RJ_q (Op_assign rfl) rfl ?_
   refine RJ_nil ?_
   refine NJ_then ?_
   refine CJ_env (E' := [(6, _)]) (.cons rfl rfl .nil) ?_
   refine CJ_ret ?_
   have hA : againR last = 0 := by unfold againR; rw [if_neg (fun h => h2 h.2)]
   rw [hA]
   refine NJ_ret (.inl rfl) Try.results51 (ResJ_tmp rfl ResJ_nil) ⟨g, rfl, rfl⟩ (.k (e := skk))
 ·skip
  refine RJ_q (Op_move rfl) rfl ?_
  refine RJ_no (t := 13) false rfl rfl (decide_eq_false h1) (by decide) rfl ?_
  refine RJ_no (t := 13) false rfl rfl (decide_eq_false h1) (by decide) rfl ?_
  refine RJ_q (Op_pick_f rfl (decide_eq_false h1) rfl) rfl ?_
  refine RJ_nil ?_
  refine NJ_then ?_
  refine CJ_env (E' := [(2, _), (6, _), (7, _), (16, _)]) (.cons rfl rfl (.cons rfl rfl (.cons rfl rfl (.cons rfl rfl .nil)))) ?_
  refine CJ_else rfl rfl ?_
  refine CJ_skip ?_
  refine NJ_then ?_
  refine CJ_env (E' := [(6, _), (7, _)]) (.cons rfl rfl (.cons rfl rfl .nil)) ?_
  refine CJ_seq ?_
  refine CJ_region ?_
  refine RJ_q (Op_move rfl) rfl ?_
  refine RJ_q (Op_assign rfl) rfl ?_
  refine RJ_nil ?_
  refine NJ_then ?_
  refine CJ_env (E' := [(6, _)]) (.cons rfl rfl .nil) ?_
  refine CJ_ret ?_
  have hA : againR last = 0 := by unfold againR; rw [if_neg (fun h => h1 h.1)]
  rw [hA]
  refine NJ_ret (.inl rfl) Try.results51 (ResJ_tmp rfl ResJ_nil) ⟨g, rfl, rfl⟩ (.k (e := skk))

set_option maxRecDepth 20000 in
theorem LsTick_any (g : Nat) (limit ticks : Int) (L : List (ByteArray × One)) (last : Int) (hN : (L.map (·.1)).Nodup) (hb : ∀ x ∈ L, -9223372036854775807 ≤ x.2.left ∧ x.2.left ≤ 9223372036854775807) : Spec Try.prog 48 #[.pointer (some ⟨g, 0, none⟩)] [LeaseP g limit ticks L last] (fun v C => v = .tuple #[] ∧ C = [LeaseP g limit ticks (L.filterMap tickOne) last]) := by
 refine Spec_intro (n := 34) (args := [.pointer (some ⟨g, 0, none⟩)]) Try.func48 rfl rfl rfl fun s R => ?_
 refine CJ_app1 ?_
 refine CJ_env (E' := [(0, _)]) (.cons rfl rfl .nil) ?_
 refine CJ_open (LeaseP_opens _ _ _ _ _) pkk ?_
 rintro _ ⟨mm, rfl⟩
 refine CJ_app2 ?_
 refine CJ_seq ?_
 refine CJ_seq ?_
 refine CJ_region ?_
 refine RJ_q (Op_move rfl) rfl ?_
 refine RJ_q (Op_ptr_eq_nil rfl rfl Try.underlying72) rfl ?_
 refine RJ_nil ?_
 refine NJ_then ?_
 refine CJ_env (E' := [(0, _), (5, _)]) (.cons rfl rfl (.cons rfl rfl .nil)) ?_
 refine CJ_else rfl rfl ?_
 refine CJ_skip ?_
 refine NJ_then ?_
 refine CJ_env (E' := [(0, _)]) (.cons rfl rfl .nil) ?_
 refine CJ_seq ?_
 refine CJ_region ?_
 refine RJ_q (Op_move rfl) rfl ?_
 refine RJ_q (Op_nilCheck rfl) rfl ?_
 refine RJ_q (Op_fieldAddr (o' := 2) rfl Try.underlying112 rfl sz105 rfl rfl) rfl ?_
 refine RJ_q (Op_load rfl (load_cell Try.underlying105 rfl pkk (Nth.s (Nth.s Nth.z)))) rfl ?_
 refine RJ_p rfl (Op_range (K := KStr 9) rfl Try.underlying105 pkk) ?_
 rintro _ _ ⟨g10, rfl, rfl⟩
 rw [encL_keys]
 refine RJ_nil ?_
 refine NJ_then ?_
 refine CJ_env (E' := [(0, _), (10, _)]) (.cons rfl rfl (.cons rfl rfl .nil)) ?_
 refine CJ_block ?_
 refine CJ_loop (fun E H m => ∃ (todo : List ByteArray), (todo.Nodup) ∧ E = [(0, .pointer (some ⟨g, 0, none⟩)), (10, .pointer (some ⟨g10, 0, none⟩))] ∧ H = [LsC g mm limit ticks last, ItP KS mm g10 (encL oneV (L.filterMap (pend todo))) todo none] ++ R ∧ m = todo.length) (E' := [(0, .pointer (some ⟨g, 0, none⟩)), (10, .pointer (some ⟨g10, 0, none⟩))]) (H' := [LsC g mm limit ticks last, ItP KS mm g10 (encL oneV (L.filterMap (pend (L.map (·.1))))) (L.map (·.1)) none] ++ R) (m := (L.map (·.1)).length) ⟨L.map (·.1), hN, rfl, rfl, rfl⟩ (.cons rfl rfl (.cons rfl rfl .nil)) (by rw [pend_all]; exact (.k (e := (.k (e := skk))))) ?_
 rintro _ _ _ ⟨todo, htd, rfl, rfl, rfl⟩
 refine CJ_app2 ?_
 refine CJ_seq ?_
 by_cases ht : todo = []
 ·skip
  subst ht
  refine CJ_region ?_
  refine RJ_q (Op_next_done rfl pkk) rfl ?_
  refine RJ_q (Op_extract rfl rfl) rfl ?_
  refine RJ_nil ?_
  refine NJ_then ?_
  refine CJ_env (E' := [(0, _), (10, _), (12, _)]) (.cons rfl rfl (.cons rfl rfl (.cons rfl rfl .nil))) ?_
  refine CJ_seq ?_
  refine CJ_else rfl rfl ?_
  refine CJ_exit ?_
  refine NJ_then_x ?_
  refine NJ_then_x ?_
  refine NJ_blk_hit ?_
  refine NJ_ret (.inr rfl) Try.results48 ResJ_nil ⟨rfl, rfl⟩ (.swap (C := [ItP KS mm g10 (encL oneV (L.filterMap (pend []))) [] none]) (.k (e := (Imp.refl _))) ItP_end (by rw [pend_none]; exact (.swap (C := [LsC g mm limit ticks last, Mp KS mm (encL oneV (L.filterMap tickOne))]) (.k (e := (.k (e := (Imp.refl _))))) LeaseP_close (.k (e := skk)))))
 ·skip
  refine CJ_region ?_
  refine RJ_p rfl (Op_next_more rfl ht pkk) ?_
  rintro _ _ ⟨j, k, u, hj, hku, rfl, rfl⟩
  obtain ⟨o, rfl, hop⟩ := oneV_mem hku
  have hoL := pend_mem (List.mem_of_getElem? hj) hop
  have hob := hb _ hoL
  simp only at hob
  have hnd := List.Nodup.sublist (List.eraseIdx_sublist todo j) htd
  have hlt : (todo.eraseIdx j).length < todo.length := by have := (List.getElem?_eq_some_iff.1 hj).1; rw [List.length_eraseIdx_of_lt this]; omega
  have hk1 : pend todo (k, o) = some (k, o) := by unfold pend; rw [if_pos (List.mem_of_getElem? hj)]
  have hk2 : pend (todo.eraseIdx j) (k, o) = tickOne (k, o) := by unfold pend; rw [if_neg (erase_not htd hj)]
  refine RJ_q (Op_extract rfl rfl) rfl ?_
  refine RJ_nil ?_
  refine NJ_then ?_
  refine CJ_env (E' := [(0, _), (10, _), (12, _)]) (.cons rfl rfl (.cons rfl rfl (.cons rfl rfl .nil))) ?_
  refine CJ_seq ?_
  refine CJ_then rfl rfl ?_
  refine CJ_skip ?_
  refine NJ_then ?_
  refine CJ_env (E' := [(0, _), (10, _)]) (.cons rfl rfl (.cons rfl rfl .nil)) ?_
  refine CJ_block ?_
  refine CJ_seq ?_
  refine CJ_region ?_
  refine RJ_q (Op_entry rfl pkk) rfl ?_
  refine RJ_q (Op_extract rfl rfl) rfl ?_
  refine RJ_q (Op_extract rfl rfl) rfl ?_
  refine RJ_p rfl (Op_alloc zr114) ?_
  rintro _ _ ⟨b3, rfl, rfl⟩
  refine RJ_q (Op_assign rfl) rfl ?_
  refine RJ_d0 (Op_store (cs' := #[_, _]) rfl rfl sz114 (by rfl) (by simp [oneV, Value.cells, Value.oneCell']) rpp rfl (free_zero _ _) (by rfl)) ?_
  refine RJ_nil ?_
  refine NJ_then ?_
  refine CJ_env (E' := [(0, _), (2, _), (3, _), (10, _)]) (.cons rfl rfl (.cons rfl rfl (.cons rfl rfl (.cons rfl rfl .nil)))) ?_
  refine CJ_seq ?_
  refine CJ_region ?_
  refine RJ_q (Op_fieldAddr (o' := 1) rfl Try.underlying114 rfl sz3 rfl rfl) rfl ?_
  refine RJ_q (Op_load rfl (load_cell Try.underlying3 rfl pkk (Nth.s Nth.z))) rfl ?_
  refine RJ_q (Op_sub64 rfl rfl (by omega)) rfl ?_
  refine RJ_q (Op_fieldAddr (o' := 1) rfl Try.underlying114 rfl sz3 rfl rfl) rfl ?_
  refine RJ_d0 (Op_store (cs' := #[_, _]) rfl rfl sz3 (by rfl) (by simp [Value.cells, Value.oneCell']) rpp rfl (free_zero _ _) (by rfl)) ?_
  refine RJ_nil ?_
  refine NJ_then ?_
  refine CJ_env (E' := [(0, _), (2, _), (3, _), (10, _)]) (.cons rfl rfl (.cons rfl rfl (.cons rfl rfl (.cons rfl rfl .nil)))) ?_
  refine CJ_seq ?_
  refine CJ_region ?_
  refine RJ_q (Op_fieldAddr (o' := 1) rfl Try.underlying114 rfl sz3 rfl rfl) rfl ?_
  refine RJ_q (Op_load rfl (load_cell Try.underlying3 rfl pkk (Nth.s Nth.z))) rfl ?_
  refine RJ_q (Op_lss rfl rfl) rfl ?_
  by_cases h1 : o.left - 1 < 1
  ·skip
   refine RJ_nil ?_
   refine NJ_then ?_
   refine CJ_env (E' := [(0, _), (2, _), (3, _), (10, _), (22, _)]) (.cons rfl rfl (.cons rfl rfl (.cons rfl rfl (.cons rfl rfl (.cons rfl rfl .nil))))) ?_
   refine CJ_then rfl (decide_eq_true h1) ?_
   refine CJ_region ?_
   refine RJ_q (Op_move rfl) rfl ?_
   refine RJ_q (Op_nilCheck rfl) rfl ?_
   refine RJ_q (Op_fieldAddr (o' := 2) rfl Try.underlying112 rfl sz105 rfl rfl) rfl ?_
   refine RJ_q (Op_load rfl (load_cell Try.underlying105 rfl pkk (Nth.s (Nth.s Nth.z)))) rfl ?_
   refine RJ_q (Op_move rfl) rfl ?_
   have hfin : L.filterMap (pend (todo.eraseIdx j)) = adel k (L.filterMap (pend todo)) := (fm_del (pend_else htd hj) (fun _ _ => pend_key) hk1 (by rw [hk2]; unfold tickOne; rw [if_pos h1]) hN hoL).symm
   refine RJ_d0 (Op_deleteI (K := KStr 9) rfl rfl Try.underlying105 ko9 (erase_not htd hj) pkk) ?_
   rw [mdel_enc]
   refine RJ_nil ?_
   refine NJ_blk ?_
   refine NJ_back ⟨todo.eraseIdx j, hnd, rfl, rfl, rfl⟩ hlt (.cons rfl rfl (.cons rfl rfl .nil)) (by rw [hfin]; exact (.k (e := (.k (e := skk)))))
  ·skip
   refine RJ_nil ?_
   refine NJ_then ?_
   refine CJ_env (E' := [(0, _), (2, _), (3, _), (10, _), (22, _)]) (.cons rfl rfl (.cons rfl rfl (.cons rfl rfl (.cons rfl rfl (.cons rfl rfl .nil))))) ?_
   refine CJ_else rfl (decide_eq_false h1) ?_
   refine CJ_draw (.q 0 (.q 1 (.q 2 (.q 3 (.q 4 (.q 5 (.e 6 .done))))))) (by kernel_rfl) (by kernel_rfl) (by kernel_rfl) ?_
   refine SJ_q rfl (want_none rfl) rfl (fun _ _ => Op_move rfl) ?_
   refine SJ_q rfl (want_none rfl) rfl (fun _ _ => Op_nilCheck rfl) ?_
   refine SJ_q rfl (want_none rfl) rfl (fun _ _ => Op_fieldAddr (o' := 2) rfl Try.underlying112 rfl sz105 rfl rfl) ?_
   refine SJ_load rfl (want_none rfl) rfl rfl (load_cell Try.underlying105 rfl pkk (Nth.s (Nth.s Nth.z))) ?_
   refine SJ_q rfl (want_none rfl) rfl (fun _ _ => Op_move rfl) ?_
   refine SJ_load rfl (want_none rfl) rfl rfl (load_struct (o := 0) (vs := [_, _]) Try.underlying114 sz114 pkk (by rfl) rfl) ?_
   have hmem : k ∈ (encL oneV (L.filterMap (pend todo))).map (·.1) := by rw [encL_keys]; exact List.mem_map.2 ⟨(k, o), hop, rfl⟩
   have hfin : L.filterMap (pend (todo.eraseIdx j)) = aput k ⟨o.token, o.left - 1⟩ (L.filterMap (pend todo)) := (fm_put (pend_else htd hj) (fun _ _ => pend_key) hk1 (by rw [hk2]; unfold tickOne; rw [if_neg h1]) hN hoL).symm
   refine SJ_d0 (rd' := []) [] rfl (want_none rfl) (Op_mapUpdateI (K := KStr 9) rfl rfl rfl Try.underlying105 ko9 hmem pkk) (by kernel_rfl) rfl trivial ?_
   rw [show (.agg #[.int .i64 o.token, .int .i64 (o.left - 1)] : Value) = oneV ⟨o.token, o.left - 1⟩ from rfl, mput_enc]
   refine SJ_done ?_
   refine NJ_blk ?_
   refine NJ_back ⟨todo.eraseIdx j, hnd, rfl, rfl, rfl⟩ hlt (.cons rfl rfl (.cons rfl rfl .nil)) (by rw [hfin]; exact (.k (e := (.k (e := skk)))))
end Go.Proofs.Ytgakbdofjlhoeaa.SL
