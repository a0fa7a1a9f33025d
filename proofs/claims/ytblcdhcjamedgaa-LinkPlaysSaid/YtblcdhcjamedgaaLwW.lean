/- Contracts of the functions of package meridianlaw18. -/
import Derived.Test.YtblcdhcjamedgaaLwD
namespace Go.Proofs.Ytblcdhcjamedgaa.SL
open Go Go.RowKit
set_option maxRecDepth 20000 in
theorem same_eq (f t : Int) (a : Option Nat) (cap : Nat) (bs : List UInt8) (b u : Bool) : Spec Try.prog 10 #[.agg #[.int .i64 f, .int .i64 t, .slice (sl a) bs.length cap], .bool b, .agg #[.int .i64 f, .int .i64 t, .string ⟨bs.toArray⟩, .bool u], .bool b] [Row U8 a cap bs] (fun v C => v = .bool true ∧ C = [Row U8 a cap bs]) := by
  refine Spec_intro (n := 34) (args := [.agg #[.int .i64 f, .int .i64 t, .slice (sl a) bs.length cap], .bool b, .agg #[.int .i64 f, .int .i64 t, .string ⟨bs.toArray⟩, .bool u], .bool b]) Try.func10 rfl rfl rfl fun s R => ?_
  refine CJ_app1 ?_
  refine CJ_env (E' := [(0, _), (1, _), (2, _), (3, _)]) (.cons rfl rfl (.cons rfl rfl (.cons rfl rfl (.cons rfl rfl .nil)))) ?_
  refine CJ_seq ?_
  refine CJ_region ?_
  refine RJ_p rfl (Op_box rfl) ?_
  rintro _ _ ⟨b4, rfl, rfl⟩
  refine RJ_p rfl (Op_box rfl) ?_
  rintro _ _ ⟨b6, rfl, rfl⟩
  refine RJ_q (Op_assign rfl) rfl ?_
  refine RJ_nil ?_
  refine NJ_then ?_
  refine CJ_env (E' := [(1, _), (3, _), (4, _), (6, _), (8, _)]) (.cons rfl rfl (.cons rfl rfl (.cons rfl rfl (.cons rfl rfl (.cons rfl rfl .nil))))) ?_
  refine CJ_seq ?_
  refine CJ_region ?_
  refine RJ_q (Op_move rfl) rfl ?_
  refine RJ_q (Op_move rfl) rfl ?_
  refine RJ_q (Op_eqb rfl rfl Try.underlying4) rfl ?_
  refine RJ_q (Op_move rfl) rfl ?_
  refine RJ_yes (t := 12) rfl rfl (decide_eq_true rfl) ?_
  refine RJ_q (Op_fieldAddr (o' := 0) rfl Try.underlying38 rfl sz3 rfl rfl) rfl ?_
  refine RJ_yes (t := 12) rfl rfl (decide_eq_true rfl) ?_
  refine RJ_q (Op_load rfl (load_cell Try.underlying3 rfl (by first | ((repeat (first | with_reducible exact .here | apply Pick.there)); done) | ((repeat (first | exact .here | apply Pick.there)); done)) Nth.z)) rfl ?_
  refine RJ_yes (t := 12) rfl rfl (decide_eq_true rfl) ?_
  refine RJ_q (Op_fieldAddr (o' := 0) rfl Try.underlying36 rfl sz3 rfl rfl) rfl ?_
  refine RJ_yes (t := 12) rfl rfl (decide_eq_true rfl) ?_
  refine RJ_q (Op_load rfl (load_cell Try.underlying3 rfl (by first | ((repeat (first | with_reducible exact .here | apply Pick.there)); done) | ((repeat (first | exact .here | apply Pick.there)); done)) Nth.z)) rfl ?_
  refine RJ_yes (t := 12) rfl rfl (decide_eq_true rfl) ?_
  refine RJ_q (Op_eql rfl rfl) rfl ?_
  refine RJ_q (Op_pick_t rfl (decide_eq_true rfl) rfl) rfl ?_
  refine RJ_q (Op_move rfl) rfl ?_
  refine RJ_yes (t := 19) rfl rfl (decide_eq_true rfl) ?_
  refine RJ_q (Op_fieldAddr (o' := 1) rfl Try.underlying38 rfl sz3 rfl rfl) rfl ?_
  refine RJ_yes (t := 19) rfl rfl (decide_eq_true rfl) ?_
  refine RJ_q (Op_load rfl (load_cell Try.underlying3 rfl (by first | ((repeat (first | with_reducible exact .here | apply Pick.there)); done) | ((repeat (first | exact .here | apply Pick.there)); done)) (Nth.s Nth.z))) rfl ?_
  refine RJ_yes (t := 19) rfl rfl (decide_eq_true rfl) ?_
  refine RJ_q (Op_fieldAddr (o' := 1) rfl Try.underlying36 rfl sz3 rfl rfl) rfl ?_
  refine RJ_yes (t := 19) rfl rfl (decide_eq_true rfl) ?_
  refine RJ_q (Op_load rfl (load_cell Try.underlying3 rfl (by first | ((repeat (first | with_reducible exact .here | apply Pick.there)); done) | ((repeat (first | exact .here | apply Pick.there)); done)) (Nth.s Nth.z))) rfl ?_
  refine RJ_yes (t := 19) rfl rfl (decide_eq_true rfl) ?_
  refine RJ_q (Op_eql rfl rfl) rfl ?_
  refine RJ_q (Op_pick_t rfl (decide_eq_true rfl) rfl) rfl ?_
  refine RJ_q (Op_move rfl) rfl ?_
  refine RJ_yes (t := 26) rfl rfl (decide_eq_true rfl) ?_
  refine RJ_q (Op_fieldAddr (o' := 2) rfl Try.underlying38 rfl sz30 rfl rfl) rfl ?_
  refine RJ_yes (t := 26) rfl rfl (decide_eq_true rfl) ?_
  refine RJ_q (Op_load rfl (load_cell Try.underlying30 rfl (by first | ((repeat (first | with_reducible exact .here | apply Pick.there)); done) | ((repeat (first | exact .here | apply Pick.there)); done)) (Nth.s (Nth.s Nth.z)))) rfl ?_
  refine RJ_yes (t := 26) rfl rfl (decide_eq_true rfl) ?_
  refine RJ_q (Op_string_of_bytes (bs := bs) rfl Try.underlying30 Try.underlying9 Try.underlying5 rfl (reads_u8 (Reads_row (T := U8) (by first | ((repeat (first | with_reducible exact .here | apply Pick.there)); done) | ((repeat (first | exact .here | apply Pick.there)); done))))) rfl ?_
  refine RJ_yes (t := 26) rfl rfl (decide_eq_true rfl) ?_
  refine RJ_q (Op_fieldAddr (o' := 2) rfl Try.underlying36 rfl sz9 rfl rfl) rfl ?_
  refine RJ_yes (t := 26) rfl rfl (decide_eq_true rfl) ?_
  refine RJ_q (Op_load rfl (load_cell Try.underlying9 rfl (by first | ((repeat (first | with_reducible exact .here | apply Pick.there)); done) | ((repeat (first | exact .here | apply Pick.there)); done)) (Nth.s (Nth.s Nth.z)))) rfl ?_
  refine RJ_yes (t := 26) rfl rfl (decide_eq_true rfl) ?_
  refine RJ_q (Op_str_eql rfl rfl) rfl ?_
  refine RJ_q (Op_pick_t rfl (decide_eq_true rfl) rfl) rfl ?_
  refine RJ_q (Op_assign rfl) rfl ?_
  refine RJ_nil ?_
  refine NJ_then ?_
  refine CJ_env (E' := [(8, _)]) (.cons rfl rfl .nil) ?_
  refine CJ_ret ?_
  refine NJ_ret (.inl rfl) Try.results10 (ResJ_tmp rfl ResJ_nil) ⟨by simp [packRes], rfl⟩ (.cons (by first | ((repeat (first | with_reducible exact .here | apply Pick.there)); done) | ((repeat (first | exact .here | apply Pick.there)); done)) (by repeat (first | exact Imp.refl _ | refine Imp.skip ?_)))

set_option maxRecDepth 20000 in
theorem awake_any  : Spec Try.prog 4 #[] [] (fun v C => v = .bool true ∧ C = []) := by
  refine Spec_intro (n := 52) (args := []) Try.func4 rfl rfl rfl fun s R => ?_
  refine CJ_app0 ?_
  refine CJ_env (E' := []) .nil ?_
  refine CJ_seq ?_
  refine CJ_region ?_
  refine RJ_q (Op_assign rfl) rfl ?_
  refine RJ_nil ?_
  refine NJ_then ?_
  refine CJ_env (E' := [(0, _)]) (.cons rfl rfl .nil) ?_
  refine CJ_seq ?_
  refine CJ_region ?_
  refine RJ_p rfl (Op_call (vs := [_]) Try.func5 rfl rfl (New_any 2) rfl (Imp.refl _)) ?_
  rintro _ _ ⟨_, ⟨g, rfl, rfl⟩, rfl⟩
  refine RJ_app1 ?_
  refine RJ_q (Op_assign rfl) rfl ?_
  refine RJ_nil ?_
  refine NJ_then ?_
  refine CJ_env (E' := [(0, _), (1, _)]) (.cons rfl rfl (.cons rfl rfl .nil)) ?_
  refine CJ_seq ?_
  refine CJ_seq ?_
  refine CJ_region ?_
  refine RJ_q (Op_move rfl) rfl ?_
  refine RJ_p rfl (Op_buildSlice (vs := [_]) (cells := [_]) Try.underlying30 sz5 zr5 rfl rfl rfl rfl (by rfl)) ?_
  rintro _ _ ⟨g6, rfl, rfl⟩
  refine RJ_p rfl (Op_mark (T := U8) (xs := [97]) rfl (by first | ((repeat (first | with_reducible exact .here | apply Pick.there)); done) | ((repeat (first | exact .here | apply Pick.there)); done)) (by rfl) rfl Try.underlying30 Try.underlying5 (by decide)) ?_
  rintro _ _ ⟨rfl, rfl⟩
  refine RJ_p rfl (Op_call (vs := [_, _, _, _]) Try.func6 rfl rfl (Send_two g 2 [] 0 1 2 (some g6) 1 [97] (by decide) (by decide) (by decide) (by decide)) rfl (.cons (by first | ((repeat (first | with_reducible exact .here | apply Pick.there)); done) | ((repeat (first | exact .here | apply Pick.there)); done)) (.cons (by first | ((repeat (first | with_reducible exact .here | apply Pick.there)); done) | ((repeat (first | exact .here | apply Pick.there)); done)) (Imp.refl _)))) ?_
  rintro _ _ ⟨_, ⟨rfl, rfl⟩, rfl⟩
  refine RJ_app2 ?_
  refine RJ_q (Op_not rfl) rfl ?_
  refine RJ_q (Op_move rfl) rfl ?_
  refine RJ_yes (t := 10) rfl rfl rfl ?_
  refine RJ_q (Op_move rfl) rfl ?_
  refine RJ_yes (t := 10) rfl rfl rfl ?_
  refine RJ_p rfl (Op_buildSlice (vs := [_]) (cells := [_]) Try.underlying30 sz5 zr5 rfl rfl rfl rfl (by rfl)) ?_
  rintro _ _ ⟨g12, rfl, rfl⟩
  refine RJ_yes (t := 10) rfl rfl rfl ?_
  refine RJ_p rfl (Op_mark (T := U8) (xs := [98]) rfl (by first | ((repeat (first | with_reducible exact .here | apply Pick.there)); done) | ((repeat (first | exact .here | apply Pick.there)); done)) (by rfl) rfl Try.underlying30 Try.underlying5 (by decide)) ?_
  rintro _ _ ⟨rfl, rfl⟩
  refine RJ_yes (t := 10) rfl rfl rfl ?_
  refine RJ_p rfl (Op_call (vs := [_, _, _, _]) Try.func6 rfl rfl (Send_two g 2 (sendP 2 [] ⟨1, 2, [97], false⟩) 1 1 3 (some g12) 1 [98] (by decide) (by decide) (by decide) (by decide)) rfl (.cons (by first | ((repeat (first | with_reducible exact .here | apply Pick.there)); done) | ((repeat (first | exact .here | apply Pick.there)); done)) (.cons (by first | ((repeat (first | with_reducible exact .here | apply Pick.there)); done) | ((repeat (first | exact .here | apply Pick.there)); done)) (Imp.refl _)))) ?_
  rintro _ _ ⟨_, ⟨rfl, rfl⟩, rfl⟩
  refine RJ_app2 ?_
  refine RJ_yes (t := 10) rfl rfl rfl ?_
  refine RJ_q (Op_not rfl) rfl ?_
  refine RJ_q (Op_pick_f rfl rfl rfl) rfl ?_
  refine RJ_q (Op_move rfl) rfl ?_
  refine RJ_yes (t := 17) rfl rfl rfl ?_
  refine RJ_q (Op_move rfl) rfl ?_
  refine RJ_yes (t := 17) rfl rfl rfl ?_
  refine RJ_imp (.trans (Row_none U8).imp_add (.refl _)) ?_
  refine RJ_p rfl (Op_call (vs := [_, _, _, _]) Try.func6 rfl rfl (Send_two g 2 (sendP 2 (sendP 2 [] ⟨1, 2, [97], false⟩) ⟨1, 3, [98], false⟩) 2 1 2 none 0 [] (by decide) (by decide) (by decide) (by decide)) rfl (.cons (by first | ((repeat (first | with_reducible exact .here | apply Pick.there)); done) | ((repeat (first | exact .here | apply Pick.there)); done)) (.cons (by first | ((repeat (first | with_reducible exact .here | apply Pick.there)); done) | ((repeat (first | exact .here | apply Pick.there)); done)) (Imp.refl _)))) ?_
  rintro _ _ ⟨_, ⟨rfl, rfl⟩, rfl⟩
  refine RJ_app2 ?_
  refine RJ_q (Op_pick_f rfl rfl rfl) rfl ?_
  refine RJ_nil ?_
  refine NJ_then ?_
  refine CJ_env (E' := [(0, _), (1, _), (20, _)]) (.cons rfl rfl (.cons rfl rfl (.cons rfl rfl .nil))) ?_
  refine CJ_else rfl (by decide) ?_
  refine CJ_skip ?_
  refine NJ_then ?_
  refine CJ_env (E' := [(0, _), (1, _)]) (.cons rfl rfl (.cons rfl rfl .nil)) ?_
  refine CJ_seq ?_
  refine CJ_region ?_
  refine RJ_q (Op_move rfl) rfl ?_
  refine RJ_p rfl (Op_call (vs := [_, _]) Try.func11 rfl rfl (Take_yes g 2 [⟨1, 2, [97], false⟩, ⟨1, 3, [98], false⟩] 2 0 ⟨1, 2, [97], false⟩ rfl (by decide) (by decide)) rfl (.cons (by first | ((repeat (first | with_reducible exact .here | apply Pick.there)); done) | ((repeat (first | exact .here | apply Pick.there)); done)) (Imp.refl _))) ?_
  rintro _ _ ⟨_, ⟨g23, rfl, rfl⟩, rfl⟩
  refine RJ_app2 ?_
  refine RJ_q (Op_move rfl) rfl ?_
  refine RJ_q (Op_extract rfl rfl) rfl ?_
  refine RJ_q (Op_extract rfl rfl) rfl ?_
  refine RJ_p rfl (Op_alloc zr38) ?_
  rintro _ _ ⟨b2, rfl, rfl⟩
  refine RJ_d0 (Op_store (cs' := #[_, _, _]) rfl rfl sz38 (by rfl) (by simp [Value.cells, Value.oneCell']) (by repeat (first | exact .here | apply Repl.there)) rfl (free_zero _ _) (by rfl)) ?_
  refine RJ_q (Op_assign rfl) rfl ?_
  refine RJ_nil ?_
  refine NJ_then ?_
  refine CJ_env (E' := [(0, _), (1, _), (2, _), (3, _)]) (.cons rfl rfl (.cons rfl rfl (.cons rfl rfl (.cons rfl rfl .nil)))) ?_
  refine CJ_seq ?_
  refine CJ_region ?_
  refine RJ_q (Op_move rfl) rfl ?_
  refine RJ_q (Op_move rfl) rfl ?_
  refine RJ_yes (t := 27) rfl rfl rfl ?_
  refine RJ_q (Op_fieldAddr (o' := 1) rfl Try.underlying38 rfl sz3 rfl rfl) rfl ?_
  refine RJ_yes (t := 27) rfl rfl rfl ?_
  refine RJ_q (Op_load rfl (load_cell Try.underlying3 rfl (by first | ((repeat (first | with_reducible exact .here | apply Pick.there)); done) | ((repeat (first | exact .here | apply Pick.there)); done)) (Nth.s Nth.z))) rfl ?_
  refine RJ_yes (t := 27) rfl rfl rfl ?_
  refine RJ_q (Op_eql rfl rfl) rfl ?_
  refine RJ_q (Op_pick_t rfl rfl rfl) rfl ?_
  refine RJ_q (Op_move rfl) rfl ?_
  refine RJ_yes (t := 32) rfl rfl (by decide) ?_
  refine RJ_q (Op_fieldAddr (o' := 2) rfl Try.underlying38 rfl sz30 rfl rfl) rfl ?_
  refine RJ_yes (t := 32) rfl rfl (by decide) ?_
  refine RJ_q (Op_load rfl (load_cell Try.underlying30 rfl (by first | ((repeat (first | with_reducible exact .here | apply Pick.there)); done) | ((repeat (first | exact .here | apply Pick.there)); done)) (Nth.s (Nth.s Nth.z)))) rfl ?_
  refine RJ_yes (t := 32) rfl rfl (by decide) ?_
  refine RJ_q (Op_string_of_bytes (bs := [97]) rfl Try.underlying30 Try.underlying9 Try.underlying5 rfl (reads_u8 (Reads_row (T := U8) (by first | ((repeat (first | with_reducible exact .here | apply Pick.there)); done) | ((repeat (first | exact .here | apply Pick.there)); done))))) rfl ?_
  refine RJ_yes (t := 32) rfl rfl (by decide) ?_
  refine RJ_q (Op_str_eql rfl rfl) rfl ?_
  refine RJ_q (Op_pick_t rfl (by decide) rfl) rfl ?_
  refine RJ_q (Op_move rfl) rfl ?_
  refine RJ_yes (t := 38) rfl rfl (by decide) ?_
  refine RJ_q (Op_move rfl) rfl ?_
  refine RJ_yes (t := 38) rfl rfl (by decide) ?_
  refine RJ_p rfl (Op_call (vs := [_, _]) Try.func13 rfl rfl (Double_two g 2 [⟨1, 3, [98], false⟩] 2 0 ⟨1, 3, [98], false⟩ rfl (by decide) (by decide)) rfl (.cons (by first | ((repeat (first | with_reducible exact .here | apply Pick.there)); done) | ((repeat (first | exact .here | apply Pick.there)); done)) (Imp.refl _))) ?_
  rintro _ _ ⟨_, ⟨rfl, rfl⟩, rfl⟩
  refine RJ_app1 ?_
  refine RJ_q (Op_pick_t rfl (by decide) rfl) rfl ?_
  refine RJ_q (Op_move rfl) rfl ?_
  refine RJ_yes (t := 42) rfl rfl rfl ?_
  refine RJ_q (Op_move rfl) rfl ?_
  refine RJ_yes (t := 42) rfl rfl rfl ?_
  refine RJ_p rfl (Op_call (vs := [_, _]) Try.func17 rfl rfl (Drop_any g 2 [⟨1, 3, [98], false⟩, ⟨1, 3, [98], false⟩] 2 3 (by decide)) rfl (.cons (by first | ((repeat (first | with_reducible exact .here | apply Pick.there)); done) | ((repeat (first | exact .here | apply Pick.there)); done)) (Imp.refl _))) ?_
  rintro _ _ ⟨_, ⟨rfl, rfl⟩, rfl⟩
  refine RJ_app1 ?_
  refine RJ_yes (t := 42) rfl rfl rfl ?_
  refine RJ_q (Op_eql rfl rfl) rfl ?_
  refine RJ_q (Op_pick_t rfl rfl rfl) rfl ?_
  refine RJ_q (Op_move rfl) rfl ?_
  refine RJ_yes (t := 47) rfl rfl (by decide) ?_
  refine RJ_q (Op_move rfl) rfl ?_
  refine RJ_yes (t := 47) rfl rfl (by decide) ?_
  refine RJ_p rfl (Op_call (vs := [_]) Try.func20 rfl rfl (Sent_any g 2 [] 2) rfl (.cons (by first | ((repeat (first | with_reducible exact .here | apply Pick.there)); done) | ((repeat (first | exact .here | apply Pick.there)); done)) (Imp.refl _))) ?_
  rintro _ _ ⟨_, ⟨rfl, rfl⟩, rfl⟩
  refine RJ_app1 ?_
  refine RJ_yes (t := 47) rfl rfl (by decide) ?_
  refine RJ_q (Op_eql rfl rfl) rfl ?_
  refine RJ_q (Op_pick_t rfl (by decide) rfl) rfl ?_
  refine RJ_q (Op_assign rfl) rfl ?_
  refine RJ_nil ?_
  refine NJ_then ?_
  refine CJ_env (E' := [(0, _)]) (.cons rfl rfl .nil) ?_
  refine CJ_ret ?_
  refine NJ_ret (.inl rfl) Try.results4 (ResJ_tmp rfl ResJ_nil) (C := []) ⟨rfl, rfl⟩ (by repeat (first | exact Imp.refl _ | refine Imp.skip ?_))

set_option maxRecDepth 20000 in
set_option maxHeartbeats 8000000 in
theorem LinkPlays_any (W : World) (room : Int) (a : Option Addr) (cap : Nat) (ops : List OpG) (hS : ScriptAt W a ops) (hl : ops.length ≤ 9223372036854775807) : Spec Try.prog 3 #[.int .i64 room, .slice a ops.length cap] [old W] (fun v C => v = .bool true ∧ C = [old W]) := by
  refine Spec_intro (n := 296) (args := [.int .i64 room, .slice a ops.length cap]) Try.func3 rfl rfl rfl fun s R => ?_
  refine CJ_app1 ?_
  refine CJ_env (E' := [(0, _), (1, _)]) (.cons rfl rfl (.cons rfl rfl .nil)) ?_
  refine CJ_seq ?_
  refine CJ_region ?_
  refine RJ_q (Op_assign rfl) rfl ?_
  refine RJ_nil ?_
  refine NJ_then ?_
  refine CJ_env (E' := [(0, _), (1, _), (4, _)]) (.cons rfl rfl (.cons rfl rfl (.cons rfl rfl .nil))) ?_
  refine CJ_seq ?_
  refine CJ_seq ?_
  refine CJ_region ?_
  refine RJ_p rfl (Op_call (vs := []) Try.func4 rfl rfl (awake_any) rfl (Imp.refl _)) ?_
  rintro _ _ ⟨_, ⟨rfl, rfl⟩, rfl⟩
  refine RJ_app0 ?_
  refine RJ_q (Op_not rfl) rfl ?_
  refine RJ_nil ?_
  refine NJ_then ?_
  refine CJ_env (E' := [(0, _), (1, _), (4, _), (27, _)]) (.cons rfl rfl (.cons rfl rfl (.cons rfl rfl (.cons rfl rfl .nil)))) ?_
  refine CJ_else rfl rfl ?_
  refine CJ_skip ?_
  refine NJ_then ?_
  refine CJ_env (E' := [(0, _), (1, _), (4, _)]) (.cons rfl rfl (.cons rfl rfl (.cons rfl rfl .nil))) ?_
  refine CJ_seq ?_
  refine CJ_region ?_
  refine RJ_q (Op_move rfl) rfl ?_
  refine RJ_p rfl (Op_call (vs := [_]) Try.func5 rfl rfl (New_any room) rfl (Imp.refl _)) ?_
  rintro _ _ ⟨_, ⟨gn, rfl, rfl⟩, rfl⟩
  refine RJ_app1 ?_
  refine RJ_q (Op_move rfl) rfl ?_
  refine RJ_q (Op_build (vs := [_]) (cells := [_, _, _]) Try.underlying29 zr29 rfl pl29 (by rfl)) rfl ?_
  refine RJ_p rfl (Op_box rfl) ?_
  rintro _ _ ⟨b32, rfl, rfl⟩
  obtain ⟨gw, rfl⟩ : ∃ gw, gw = b32 := ⟨_, rfl⟩
  refine RJ_imp (RefP_new gw room _) ?_
  refine RJ_q (Op_assign rfl) rfl ?_
  refine RJ_q (Op_assign rfl) rfl ?_
  refine RJ_nil ?_
  refine NJ_then ?_
  refine CJ_env (E' := [(1, _), (4, _), (5, _), (6, _)]) (.cons rfl rfl (.cons rfl rfl (.cons rfl rfl (.cons rfl rfl .nil)))) ?_
  refine CJ_seq ?_
  refine CJ_region ?_
  refine RJ_q (Op_assign rfl) rfl ?_
  refine RJ_nil ?_
  refine NJ_then ?_
  refine CJ_env (E' := [(1, _), (4, _), (5, _), (6, _), (7, _)]) (.cons rfl rfl (.cons rfl rfl (.cons rfl rfl (.cons rfl rfl (.cons rfl rfl .nil))))) ?_
  refine CJ_meet (fun E H => ∃ (ps : List Pkt) (sent : Int), (ps.length ≤ 200 ∧ ∀ p ∈ ps, p.bs.length ≤ 10000) ∧ E = [(5, .pointer (some ⟨gn, 0, none⟩)), (6, .pointer (some ⟨gw, 0, none⟩)), (7, .pointer none)] ∧ H = [NetP gn room ps sent, RefP gw room ps sent, old W] ++ R) ?_ ?_
  · skip
    refine CJ_seq ?_
    refine CJ_region ?_
    refine RJ_q (Op_assign rfl) rfl ?_
    refine RJ_nil ?_
    refine NJ_then ?_
    refine CJ_env (E' := [(1, _), (4, _), (5, _), (6, _), (7, _), (8, _)]) (.cons rfl rfl (.cons rfl rfl (.cons rfl rfl (.cons rfl rfl (.cons rfl rfl (.cons rfl rfl .nil)))))) ?_
    refine CJ_block ?_
    refine CJ_loop (fun E H m => ∃ (i : Nat) (ps : List Pkt) (sent : Int), (i ≤ ops.length ∧ i ≤ 200 ∧ ps.length ≤ i ∧ 0 ≤ sent ∧ sent ≤ i ∧ ∀ p ∈ ps, p.bs.length ≤ 10000) ∧ E = [(1, .slice a ops.length cap), (5, .pointer (some ⟨gn, 0, none⟩)), (6, .pointer (some ⟨gw, 0, none⟩)), (7, .pointer none), (8, .int .i64 (i : Int))] ∧ H = [NetP gn room ps sent, RefP gw room ps sent, old W] ++ R ∧ m = ops.length - i) (E' := [(1, .slice a ops.length cap), (5, .pointer (some ⟨gn, 0, none⟩)), (6, .pointer (some ⟨gw, 0, none⟩)), (7, .pointer none), (8, .int .i64 0)]) (H' := [NetP gn room [] 0, RefP gw room [] 0, old W] ++ R) (m := ops.length - 0) ⟨0, [], 0, ⟨by omega, by omega, by simp, by omega, by omega, by simp⟩, rfl, rfl, rfl⟩ (.cons rfl rfl (.cons rfl rfl (.cons rfl rfl (.cons rfl rfl (.cons rfl rfl .nil))))) (.cons (by first | ((repeat (first | with_reducible exact .here | apply Pick.there)); done) | ((repeat (first | exact .here | apply Pick.there)); done)) (.cons (by first | ((repeat (first | with_reducible exact .here | apply Pick.there)); done) | ((repeat (first | exact .here | apply Pick.there)); done)) (.cons (by first | ((repeat (first | with_reducible exact .here | apply Pick.there)); done) | ((repeat (first | exact .here | apply Pick.there)); done)) (Imp.refl _)))) ?_
    rintro _ _ _ ⟨i, ps, sent, ⟨hi1, hi2, hq1, hq2, hq3, hbs⟩, rfl, rfl, rfl⟩
    refine CJ_app3 ?_
    refine CJ_seq ?_
    refine CJ_seq ?_
    refine CJ_region ?_
    refine RJ_q (Op_move rfl) rfl ?_
    refine RJ_q (Op_move rfl) rfl ?_
    refine RJ_q (Op_len_slice rfl Try.underlying22) rfl ?_
    refine RJ_q (Op_lss rfl rfl) rfl ?_
    by_cases h0 : (i : Int) < ops.length
    · skip
      refine RJ_q (Op_move rfl) rfl ?_
      refine RJ_yes (t := 37) rfl rfl (decide_eq_true h0) ?_
      refine RJ_q (Op_move rfl) rfl ?_
      refine RJ_yes (t := 37) rfl rfl (decide_eq_true h0) ?_
      refine RJ_q (Op_lss rfl rfl) rfl ?_
      by_cases h1 : (i : Int) < 200
      · skip
        refine RJ_q (Op_pick_t rfl (decide_eq_true h0) rfl) rfl ?_
        refine RJ_nil ?_
        refine NJ_then ?_
        refine CJ_env (E' := [(1, _), (5, _), (6, _), (7, _), (8, _), (33, _), (34, _), (35, _), (36, _), (37, _), (38, _), (39, _), (40, _)]) (.cons rfl rfl (.cons rfl rfl (.cons rfl rfl (.cons rfl rfl (.cons rfl rfl (.cons rfl rfl (.cons rfl rfl (.cons rfl rfl (.cons rfl rfl (.cons rfl rfl (.cons rfl rfl (.cons rfl rfl (.cons rfl rfl .nil))))))))))))) ?_
        refine CJ_then rfl (decide_eq_true h1) ?_
        refine CJ_skip ?_
        refine NJ_then ?_
        refine CJ_env (E' := [(1, _), (5, _), (6, _), (7, _), (8, _), (33, _), (34, _), (35, _), (36, _), (37, _), (38, _), (39, _), (40, _)]) (.cons rfl rfl (.cons rfl rfl (.cons rfl rfl (.cons rfl rfl (.cons rfl rfl (.cons rfl rfl (.cons rfl rfl (.cons rfl rfl (.cons rfl rfl (.cons rfl rfl (.cons rfl rfl (.cons rfl rfl (.cons rfl rfl .nil))))))))))))) ?_
        refine CJ_seq ?_
        refine CJ_block ?_
        refine CJ_seq ?_
        refine CJ_region ?_
        refine RJ_q (Op_move rfl) rfl ?_
        refine RJ_q (Op_move rfl) rfl ?_
        have hlti : i < ops.length := by omega
        obtain ⟨o, ho⟩ : ∃ o, ops[i]? = some o := ⟨ops[i], List.getElem?_eq_getElem hlti⟩
        obtain ⟨pa, hpa, hcells, hB⟩ := hS i o ho
        obtain ⟨ok, ofr, oto, oi, oj, oc, oB, ocap, obs⟩ := o
        simp only at hB
        refine RJ_q (Op_indexOld rfl hpa rfl Try.underlying22 sz32 hlti) rfl ?_
        refine RJ_q (Op_load rfl (load_old_struct (vs := [.int .i64 ok, .int .i64 ofr, .int .i64 oto, .int .i64 oi, .int .i64 oj, .int .u8 oc.toNat, .slice oB obs.length ocap]) Try.underlying32 sz32 (by first | ((repeat (first | with_reducible exact .here | apply Pick.there)); done) | ((repeat (first | exact .here | apply Pick.there)); done)) rfl hcells)) rfl ?_
        refine RJ_p rfl (Op_alloc zr32) ?_
        rintro _ _ ⟨b9, rfl, rfl⟩
        refine RJ_d0 (Op_store (cs' := #[_, _, _, _, _, _, _]) rfl rfl sz32 (by rfl) (by simp [Value.cells, Value.oneCell']) (by repeat (first | exact .here | apply Repl.there)) rfl (free_zero _ _) (by rfl)) ?_
        refine RJ_nil ?_
        refine NJ_then ?_
        refine CJ_env (E' := [(1, _), (5, _), (6, _), (7, _), (8, _), (9, _), (33, _), (34, _), (35, _), (36, _), (37, _), (38, _), (39, _), (40, _), (43, _), (44, _), (45, _), (46, _)]) (.cons rfl rfl (.cons rfl rfl (.cons rfl rfl (.cons rfl rfl (.cons rfl rfl (.cons rfl rfl (.cons rfl rfl (.cons rfl rfl (.cons rfl rfl (.cons rfl rfl (.cons rfl rfl (.cons rfl rfl (.cons rfl rfl (.cons rfl rfl (.cons rfl rfl (.cons rfl rfl (.cons rfl rfl (.cons rfl rfl .nil)))))))))))))))))) ?_
        refine CJ_seq ?_
        refine CJ_seq ?_
        refine CJ_region ?_
        refine RJ_q (Op_fieldAddr (o' := 6) rfl Try.underlying32 rfl sz30 rfl rfl) rfl ?_
        refine RJ_q (Op_load rfl (load_cell Try.underlying30 rfl (by first | ((repeat (first | with_reducible exact .here | apply Pick.there)); done) | ((repeat (first | exact .here | apply Pick.there)); done)) (Nth.s (Nth.s (Nth.s (Nth.s (Nth.s (Nth.s Nth.z)))))))) rfl ?_
        refine RJ_q (Op_len_slice rfl Try.underlying30) rfl ?_
        refine RJ_q (Op_gtr rfl rfl) rfl ?_
        refine RJ_nil ?_
        refine NJ_then ?_
        refine CJ_env (E' := [(1, _), (5, _), (6, _), (7, _), (8, _), (9, _), (33, _), (34, _), (35, _), (36, _), (37, _), (38, _), (39, _), (40, _), (43, _), (44, _), (45, _), (46, _), (47, _), (48, _), (49, _), (50, _)]) (.cons rfl rfl (.cons rfl rfl (.cons rfl rfl (.cons rfl rfl (.cons rfl rfl (.cons rfl rfl (.cons rfl rfl (.cons rfl rfl (.cons rfl rfl (.cons rfl rfl (.cons rfl rfl (.cons rfl rfl (.cons rfl rfl (.cons rfl rfl (.cons rfl rfl (.cons rfl rfl (.cons rfl rfl (.cons rfl rfl (.cons rfl rfl (.cons rfl rfl (.cons rfl rfl (.cons rfl rfl .nil)))))))))))))))))))))) ?_
        refine CJ_cond rfl ?_ ?_
        · intro hob
          skip
          refine CJ_seq ?_
          refine CJ_region ?_
          refine RJ_q (Op_assign rfl) rfl ?_
          refine RJ_nil ?_
          refine NJ_then ?_
          refine CJ_env (E' := [(1, _), (4, _), (5, _), (6, _), (7, _), (8, _), (9, _), (33, _), (34, _), (35, _), (36, _), (37, _), (38, _), (39, _), (40, _), (43, _), (44, _), (45, _), (46, _), (47, _), (48, _), (49, _), (50, _)]) (.cons rfl rfl (.cons rfl rfl (.cons rfl rfl (.cons rfl rfl (.cons rfl rfl (.cons rfl rfl (.cons rfl rfl (.cons rfl rfl (.cons rfl rfl (.cons rfl rfl (.cons rfl rfl (.cons rfl rfl (.cons rfl rfl (.cons rfl rfl (.cons rfl rfl (.cons rfl rfl (.cons rfl rfl (.cons rfl rfl (.cons rfl rfl (.cons rfl rfl (.cons rfl rfl (.cons rfl rfl (.cons rfl rfl .nil))))))))))))))))))))))) ?_
          refine CJ_ret ?_
          refine NJ_then_r ?_
          refine NJ_blk_r ?_
          refine NJ_then_r ?_
          refine NJ_then_r ?_
          refine NJ_blk_r ?_
          refine NJ_then_r ?_
          refine NJ_ret (.inl rfl) Try.results3 (ResJ_tmp rfl ResJ_nil) ⟨by first | rfl | simp [packRes], rfl⟩ (.cons (by first | ((repeat (first | with_reducible exact .here | apply Pick.there)); done) | ((repeat (first | exact .here | apply Pick.there)); done)) (by repeat (first | exact Imp.refl _ | refine Imp.skip ?_)))
        · intro hob
          have hob : obs.length ≤ 10000 := by have := of_decide_eq_false hob; omega
          refine CJ_skip ?_
          refine NJ_then ?_
          refine CJ_env (E' := [(1, _), (5, _), (6, _), (7, _), (8, _), (9, _), (33, _), (34, _), (35, _), (36, _), (37, _), (38, _), (39, _), (40, _), (43, _), (44, _), (45, _), (46, _), (47, _), (48, _), (49, _), (50, _)]) (.cons rfl rfl (.cons rfl rfl (.cons rfl rfl (.cons rfl rfl (.cons rfl rfl (.cons rfl rfl (.cons rfl rfl (.cons rfl rfl (.cons rfl rfl (.cons rfl rfl (.cons rfl rfl (.cons rfl rfl (.cons rfl rfl (.cons rfl rfl (.cons rfl rfl (.cons rfl rfl (.cons rfl rfl (.cons rfl rfl (.cons rfl rfl (.cons rfl rfl (.cons rfl rfl (.cons rfl rfl .nil)))))))))))))))))))))) ?_
          refine CJ_seq ?_
          refine CJ_region ?_
          refine RJ_q (Op_assign rfl) rfl ?_
          refine RJ_nil ?_
          refine NJ_then ?_
          refine CJ_env (E' := [(1, _), (5, _), (6, _), (7, _), (8, _), (9, _), (10, _), (33, _), (34, _), (35, _), (36, _), (37, _), (38, _), (39, _), (40, _), (43, _), (44, _), (45, _), (46, _), (47, _), (48, _), (49, _), (50, _)]) (.cons rfl rfl (.cons rfl rfl (.cons rfl rfl (.cons rfl rfl (.cons rfl rfl (.cons rfl rfl (.cons rfl rfl (.cons rfl rfl (.cons rfl rfl (.cons rfl rfl (.cons rfl rfl (.cons rfl rfl (.cons rfl rfl (.cons rfl rfl (.cons rfl rfl (.cons rfl rfl (.cons rfl rfl (.cons rfl rfl (.cons rfl rfl (.cons rfl rfl (.cons rfl rfl (.cons rfl rfl (.cons rfl rfl .nil))))))))))))))))))))))) ?_
          refine CJ_meet (fun E H => ∃ (ps : List Pkt) (sent : Int), (ps.length ≤ i + 1 ∧ 0 ≤ sent ∧ sent ≤ i + 1 ∧ ∀ p ∈ ps, p.bs.length ≤ 10000) ∧ E = [(1, .slice a ops.length cap), (5, .pointer (some ⟨gn, 0, none⟩)), (6, .pointer (some ⟨gw, 0, none⟩)), (7, .pointer none), (8, .int .i64 (i : Int)), (10, .bool true)] ∧ H = [NetP gn room ps sent, RefP gw room ps sent, old W] ++ R) ?_ ?_
          · skip
            refine CJ_seq ?_
            refine CJ_region ?_
            refine RJ_q (Op_fieldAddr (o' := 0) rfl Try.underlying32 rfl sz3 rfl rfl) rfl ?_
            refine RJ_q (Op_load rfl (load_cell Try.underlying3 rfl (by first | ((repeat (first | with_reducible exact .here | apply Pick.there)); done) | ((repeat (first | exact .here | apply Pick.there)); done)) Nth.z)) rfl ?_
            refine RJ_nil ?_
            refine NJ_then ?_
            refine CJ_env (E' := [(1, _), (5, _), (6, _), (7, _), (8, _), (9, _), (10, _), (33, _), (34, _), (35, _), (36, _), (37, _), (38, _), (39, _), (40, _), (43, _), (44, _), (45, _), (46, _), (47, _), (48, _), (49, _), (50, _), (51, _), (52, _)]) (.cons rfl rfl (.cons rfl rfl (.cons rfl rfl (.cons rfl rfl (.cons rfl rfl (.cons rfl rfl (.cons rfl rfl (.cons rfl rfl (.cons rfl rfl (.cons rfl rfl (.cons rfl rfl (.cons rfl rfl (.cons rfl rfl (.cons rfl rfl (.cons rfl rfl (.cons rfl rfl (.cons rfl rfl (.cons rfl rfl (.cons rfl rfl (.cons rfl rfl (.cons rfl rfl (.cons rfl rfl (.cons rfl rfl (.cons rfl rfl (.cons rfl rfl .nil))))))))))))))))))))))))) ?_
            refine CJ_block ?_
            refine CJ_seq ?_
            refine CJ_region ?_
            refine RJ_q (Op_eql rfl rfl) rfl ?_
            by_cases k0 : ok = 0
            · skip
              refine RJ_q (Op_assign rfl) rfl ?_
              refine RJ_nil ?_
              refine NJ_then ?_
              refine CJ_env (E' := [(1, _), (5, _), (6, _), (7, _), (8, _), (9, _), (10, _), (33, _), (34, _), (35, _), (36, _), (37, _), (38, _), (39, _), (40, _), (43, _), (44, _), (45, _), (46, _), (47, _), (48, _), (49, _), (50, _), (51, _), (52, _), (53, _), (54, _)]) (.cons rfl rfl (.cons rfl rfl (.cons rfl rfl (.cons rfl rfl (.cons rfl rfl (.cons rfl rfl (.cons rfl rfl (.cons rfl rfl (.cons rfl rfl (.cons rfl rfl (.cons rfl rfl (.cons rfl rfl (.cons rfl rfl (.cons rfl rfl (.cons rfl rfl (.cons rfl rfl (.cons rfl rfl (.cons rfl rfl (.cons rfl rfl (.cons rfl rfl (.cons rfl rfl (.cons rfl rfl (.cons rfl rfl (.cons rfl rfl (.cons rfl rfl (.cons rfl rfl (.cons rfl rfl .nil))))))))))))))))))))))))))) ?_
              refine CJ_then rfl (decide_eq_true k0) ?_
              refine CJ_seq ?_
              refine CJ_region ?_
              refine RJ_p rfl (Op_buildSlice0 (T := U8) Try.underlying30 sz5) ?_
              rintro _ _ ⟨g55, rfl, rfl⟩
              refine RJ_q (Op_fieldAddr (o' := 6) rfl Try.underlying32 rfl sz30 rfl rfl) rfl ?_
              refine RJ_q (Op_load rfl (load_cell Try.underlying30 rfl (by first | ((repeat (first | with_reducible exact .here | apply Pick.there)); done) | ((repeat (first | exact .here | apply Pick.there)); done)) (Nth.s (Nth.s (Nth.s (Nth.s (Nth.s (Nth.s Nth.z)))))))) rfl ?_
              refine RJ_p rfl (Op_append_s (T := U8) (news := obs) rfl rfl (by first | ((repeat (first | with_reducible exact .here | apply Pick.there)); done) | ((repeat (first | exact .here | apply Pick.there)); done)) rfl rfl (Reads_old (by first | ((repeat (first | with_reducible exact .here | apply Pick.there)); done) | ((repeat (first | exact .here | apply Pick.there)); done)) hB) Try.underlying30 sz5 zr5 (by rfl) by5 (by simp [U8]; omega) (by simp [maxLen]; omega)) ?_
              rintro _ _ ⟨g58, c58, rfl, rfl⟩
              refine RJ_q (Op_assign rfl) rfl ?_
              refine RJ_nil ?_
              refine NJ_then ?_
              refine CJ_env (E' := [(1, _), (5, _), (6, _), (7, _), (8, _), (9, _), (10, _), (11, _), (33, _), (34, _), (35, _), (36, _), (37, _), (38, _), (39, _), (40, _), (43, _), (44, _), (45, _), (46, _), (47, _), (48, _), (49, _), (50, _), (51, _), (52, _), (53, _), (54, _), (55, _), (56, _), (57, _), (58, _)]) (.cons rfl rfl (.cons rfl rfl (.cons rfl rfl (.cons rfl rfl (.cons rfl rfl (.cons rfl rfl (.cons rfl rfl (.cons rfl rfl (.cons rfl rfl (.cons rfl rfl (.cons rfl rfl (.cons rfl rfl (.cons rfl rfl (.cons rfl rfl (.cons rfl rfl (.cons rfl rfl (.cons rfl rfl (.cons rfl rfl (.cons rfl rfl (.cons rfl rfl (.cons rfl rfl (.cons rfl rfl (.cons rfl rfl (.cons rfl rfl (.cons rfl rfl (.cons rfl rfl (.cons rfl rfl (.cons rfl rfl (.cons rfl rfl (.cons rfl rfl (.cons rfl rfl (.cons rfl rfl .nil)))))))))))))))))))))))))))))))) ?_
              refine CJ_seq ?_
              refine CJ_draw (.q 0 (.q 1 (.q 2 (.q 3 (.q 4 (.q 5 (.q 7 (.q 8 (.q 9 (.q 10 (.q 11 (.q 12 (.q 13 (.br 6 (.e 14 (.q 15 (.e 16 (.q 17 (.q 18 (.q 19 (.q 20 (.q 21 (.q 22 (.q 23 (.q 24 (.e 25 (.q 26 (.q 27 (.q 28 .done))))))))))))))) (.e 14 (.q 15 (.e 6 (.e 16 (.q 17 (.q 18 (.q 19 (.q 20 (.q 21 (.q 22 (.q 23 (.q 24 (.e 25 (.q 26 (.q 27 (.q 28 .done)))))))))))))))))))))))))))))) (by kernel_rfl) (by kernel_rfl) (by kernel_rfl) ?_
              refine SJ_q rfl (want_none rfl) rfl (fun _ _ => Op_move rfl) ?_
              refine SJ_q rfl (want_none rfl) rfl (fun _ _ => Op_fieldAddr (o' := 1) rfl Try.underlying32 rfl sz3 rfl rfl) ?_
              refine SJ_load rfl (want_none rfl) rfl rfl (load_cell Try.underlying3 rfl (by first | ((repeat (first | with_reducible exact .here | apply Pick.there)); done) | ((repeat (first | exact .here | apply Pick.there)); done)) (Nth.s Nth.z)) ?_
              refine SJ_q rfl (want_none rfl) rfl (fun _ _ => Op_fieldAddr (o' := 2) rfl Try.underlying32 rfl sz3 rfl rfl) ?_
              refine SJ_load rfl (want_none rfl) rfl rfl (load_cell Try.underlying3 rfl (by first | ((repeat (first | with_reducible exact .here | apply Pick.there)); done) | ((repeat (first | exact .here | apply Pick.there)); done)) (Nth.s (Nth.s Nth.z))) ?_
              refine SJ_q rfl (want_none rfl) rfl (fun _ _ => Op_move rfl) ?_
              refine SJ_q rfl (want_none rfl) rfl (fun _ _ => Op_move rfl) ?_
              refine SJ_q rfl (want_none rfl) rfl (fun _ _ => Op_fieldAddr (o' := 1) rfl Try.underlying32 rfl sz3 rfl rfl) ?_
              refine SJ_load rfl (want_none rfl) rfl rfl (load_cell Try.underlying3 rfl (by first | ((repeat (first | with_reducible exact .here | apply Pick.there)); done) | ((repeat (first | exact .here | apply Pick.there)); done)) (Nth.s Nth.z)) ?_
              refine SJ_q rfl (want_none rfl) rfl (fun _ _ => Op_fieldAddr (o' := 2) rfl Try.underlying32 rfl sz3 rfl rfl) ?_
              refine SJ_load rfl (want_none rfl) rfl rfl (load_cell Try.underlying3 rfl (by first | ((repeat (first | with_reducible exact .here | apply Pick.there)); done) | ((repeat (first | exact .here | apply Pick.there)); done)) (Nth.s (Nth.s Nth.z))) ?_
              refine SJ_q rfl (want_none rfl) rfl (fun _ _ => Op_fieldAddr (o' := 6) rfl Try.underlying32 rfl sz30 rfl rfl) ?_
              refine SJ_load rfl (want_none rfl) rfl rfl (load_cell Try.underlying30 rfl (by first | ((repeat (first | with_reducible exact .here | apply Pick.there)); done) | ((repeat (first | exact .here | apply Pick.there)); done)) (Nth.s (Nth.s (Nth.s (Nth.s (Nth.s (Nth.s Nth.z))))))) ?_
              refine SJ_br ?_ ?_
              · skip
                refine SJ_p (rd' := [⟨13, _, _, _⟩, ⟨11, _, _, _⟩, ⟨9, _, _, _⟩]) [13, 11, 9] rfl (want_none rfl) rfl (Op_call (vs := [_, _, _, _]) Try.func6 rfl rfl (Send_two gn room ps sent ofr oto (some g58) c58 obs (by omega) (by omega) (by omega) (by omega)) rfl (.cons (by first | ((repeat (first | with_reducible exact .here | apply Pick.there)); done) | ((repeat (first | exact .here | apply Pick.there)); done)) (.cons (by first | ((repeat (first | with_reducible exact .here | apply Pick.there)); done) | ((repeat (first | exact .here | apply Pick.there)); done)) (Imp.refl _)))) (by kernel_rfl) rfl ?_
                rintro _ _ ⟨_, ⟨rfl, rfl⟩, rfl⟩
                refine OS_app2 ?_
                refine ⟨⟨(load_cell Try.underlying30 rfl (by first | ((repeat (first | with_reducible exact .here | apply Pick.there)); done) | ((repeat (first | exact .here | apply Pick.there)); done)) (Nth.s (Nth.s (Nth.s (Nth.s (Nth.s (Nth.s Nth.z))))))), ⟨(load_cell Try.underlying3 rfl (by first | ((repeat (first | with_reducible exact .here | apply Pick.there)); done) | ((repeat (first | exact .here | apply Pick.there)); done)) (Nth.s (Nth.s Nth.z))), ⟨(load_cell Try.underlying3 rfl (by first | ((repeat (first | with_reducible exact .here | apply Pick.there)); done) | ((repeat (first | exact .here | apply Pick.there)); done)) (Nth.s Nth.z)), trivial⟩⟩⟩, ?_⟩
                refine SJ_d (rd' := [⟨11, _, _, _⟩, ⟨9, _, _, _⟩]) [11, 9] rfl (want_none rfl) rfl ((Op_string_of_bytes (bs := obs) rfl Try.underlying30 Try.underlying9 Try.underlying5 rfl (reads_u8 (Reads_old (by first | ((repeat (first | with_reducible exact .here | apply Pick.there)); done) | ((repeat (first | exact .here | apply Pick.there)); done)) hB))).opD) (by kernel_rfl) rfl ⟨(load_cell Try.underlying3 rfl (by first | ((repeat (first | with_reducible exact .here | apply Pick.there)); done) | ((repeat (first | exact .here | apply Pick.there)); done)) (Nth.s (Nth.s Nth.z))), ⟨(load_cell Try.underlying3 rfl (by first | ((repeat (first | with_reducible exact .here | apply Pick.there)); done) | ((repeat (first | exact .here | apply Pick.there)); done)) (Nth.s Nth.z)), trivial⟩⟩ ?_
                refine SJ_q rfl (want_none rfl) rfl (fun _ _ => Op_build (vs := [_, _, _]) (cells := [_, _, _, _]) Try.underlying36 zr36 rfl pl36 (by rfl)) ?_
                refine SJ_p (rd' := []) [] rfl (want_none rfl) rfl (Op_call (vs := [_, _]) Try.func7 rfl rfl (RSend_two gw room ps sent ⟨ofr, oto, obs, false⟩ (by omega) (by omega) (by omega)) rfl (.cons (by first | ((repeat (first | with_reducible exact .here | apply Pick.there)); done) | ((repeat (first | exact .here | apply Pick.there)); done)) (Imp.refl _))) (by kernel_rfl) rfl ?_
                rintro _ _ ⟨_, ⟨rfl, rfl⟩, rfl⟩
                refine OS_app1 ?_
                refine ⟨trivial, ?_⟩
                refine SJ_q rfl (want_none rfl) rfl (fun _ _ => Op_eqb rfl rfl Try.underlying4) ?_
                refine SJ_q rfl (want_none rfl) rfl (fun _ _ => Op_move rfl) ?_
                refine SJ_q rfl (want_yes (t := 77) rfl rfl rfl (decide_eq_true rfl)) rfl (fun _ _ => Op_move rfl) ?_
                refine SJ_q rfl (want_yes (t := 77) rfl rfl rfl (decide_eq_true rfl)) rfl (fun _ _ => Op_fieldAddr (o' := 1) rfl Try.underlying32 rfl sz3 rfl rfl) ?_
                refine SJ_load rfl (want_yes (t := 77) rfl rfl rfl (decide_eq_true rfl)) rfl rfl (load_cell Try.underlying3 rfl (by first | ((repeat (first | with_reducible exact .here | apply Pick.there)); done) | ((repeat (first | exact .here | apply Pick.there)); done)) (Nth.s Nth.z)) ?_
                refine SJ_q rfl (want_yes (t := 77) rfl rfl rfl (decide_eq_true rfl)) rfl (fun _ _ => Op_fieldAddr (o' := 2) rfl Try.underlying32 rfl sz3 rfl rfl) ?_
                refine SJ_load rfl (want_yes (t := 77) rfl rfl rfl (decide_eq_true rfl)) rfl rfl (load_cell Try.underlying3 rfl (by first | ((repeat (first | with_reducible exact .here | apply Pick.there)); done) | ((repeat (first | exact .here | apply Pick.there)); done)) (Nth.s (Nth.s Nth.z))) ?_
                refine SJ_q rfl (want_yes (t := 77) rfl rfl rfl (decide_eq_true rfl)) rfl (fun _ _ => Op_move rfl) ?_
                refine SJ_p (rd' := []) [] rfl (want_yes (t := 77) rfl rfl rfl (decide_eq_true rfl)) rfl (Op_call (vs := [_, _, _, _]) Try.func6 rfl rfl (Send_nil _ _ _) rfl (Imp.refl _)) (by kernel_rfl) rfl ?_
                rintro _ _ ⟨_, ⟨rfl, rfl⟩, rfl⟩
                refine OS_app0 ?_
                refine ⟨trivial, ?_⟩
                refine SJ_q rfl (want_yes (t := 77) rfl rfl rfl (decide_eq_true rfl)) rfl (fun _ _ => Op_not rfl) ?_
                refine SJ_q rfl (want_none rfl) rfl (fun _ _ => Op_pick_t rfl (decide_eq_true rfl) rfl) ?_
                refine SJ_q rfl (want_none rfl) rfl (fun _ _ => Op_assign rfl) ?_
                refine SJ_done ?_
                refine NJ_then ?_
                refine CJ_env (E' := [(1, _), (5, _), (6, _), (7, _), (8, _), (9, _), (10, _), (11, _), (33, _), (34, _), (35, _), (36, _), (37, _), (38, _), (39, _), (40, _), (43, _), (44, _), (45, _), (46, _), (47, _), (48, _), (49, _), (50, _), (51, _), (52, _), (53, _), (54, _), (55, _), (56, _), (57, _), (58, _), (59, _), (60, _), (61, _), (62, _), (63, _), (64, _), (65, _), (66, _), (67, _), (68, _), (69, _), (70, _), (71, _), (72, _), (73, _), (74, _), (75, _), (76, _), (77, _), (78, _), (79, _), (80, _), (81, _), (82, _), (83, _), (84, _), (85, _), (86, _)]) (.cons rfl rfl (.cons rfl rfl (.cons rfl rfl (.cons rfl rfl (.cons rfl rfl (.cons rfl rfl (.cons rfl rfl (.cons rfl rfl (.cons rfl rfl (.cons rfl rfl (.cons rfl rfl (.cons rfl rfl (.cons rfl rfl (.cons rfl rfl (.cons rfl rfl (.cons rfl rfl (.cons rfl rfl (.cons rfl rfl (.cons rfl rfl (.cons rfl rfl (.cons rfl rfl (.cons rfl rfl (.cons rfl rfl (.cons rfl rfl (.cons rfl rfl (.cons rfl rfl (.cons rfl rfl (.cons rfl rfl (.cons rfl rfl (.cons rfl rfl (.cons rfl rfl (.cons rfl rfl (.cons rfl rfl (.cons rfl rfl (.cons rfl rfl (.cons rfl rfl (.cons rfl rfl (.cons rfl rfl (.cons rfl rfl (.cons rfl rfl (.cons rfl rfl (.cons rfl rfl (.cons rfl rfl (.cons rfl rfl (.cons rfl rfl (.cons rfl rfl (.cons rfl rfl (.cons rfl rfl (.cons rfl rfl (.cons rfl rfl (.cons rfl rfl (.cons rfl rfl (.cons rfl rfl (.cons rfl rfl (.cons rfl rfl (.cons rfl rfl (.cons rfl rfl (.cons rfl rfl (.cons rfl rfl (.cons rfl rfl .nil)))))))))))))))))))))))))))))))))))))))))))))))))))))))))))) ?_
                refine CJ_seq ?_
                refine CJ_region ?_
                refine RJ_q (Op_move rfl) rfl ?_
                refine RJ_q (Op_len_slice rfl Try.underlying30) rfl ?_
                refine RJ_q (Op_move rfl) rfl ?_
                refine RJ_nil ?_
                refine NJ_then ?_
                refine CJ_env (E' := [(1, _), (5, _), (6, _), (7, _), (8, _), (9, _), (10, _), (11, _), (33, _), (34, _), (35, _), (36, _), (37, _), (38, _), (39, _), (40, _), (43, _), (44, _), (45, _), (46, _), (47, _), (48, _), (49, _), (50, _), (51, _), (52, _), (53, _), (54, _), (55, _), (56, _), (57, _), (58, _), (59, _), (60, _), (61, _), (62, _), (63, _), (64, _), (65, _), (66, _), (67, _), (68, _), (69, _), (70, _), (71, _), (72, _), (73, _), (74, _), (75, _), (76, _), (77, _), (78, _), (79, _), (80, _), (81, _), (82, _), (83, _), (84, _), (85, _), (86, _), (87, _), (88, _), (89, _)]) (.cons rfl rfl (.cons rfl rfl (.cons rfl rfl (.cons rfl rfl (.cons rfl rfl (.cons rfl rfl (.cons rfl rfl (.cons rfl rfl (.cons rfl rfl (.cons rfl rfl (.cons rfl rfl (.cons rfl rfl (.cons rfl rfl (.cons rfl rfl (.cons rfl rfl (.cons rfl rfl (.cons rfl rfl (.cons rfl rfl (.cons rfl rfl (.cons rfl rfl (.cons rfl rfl (.cons rfl rfl (.cons rfl rfl (.cons rfl rfl (.cons rfl rfl (.cons rfl rfl (.cons rfl rfl (.cons rfl rfl (.cons rfl rfl (.cons rfl rfl (.cons rfl rfl (.cons rfl rfl (.cons rfl rfl (.cons rfl rfl (.cons rfl rfl (.cons rfl rfl (.cons rfl rfl (.cons rfl rfl (.cons rfl rfl (.cons rfl rfl (.cons rfl rfl (.cons rfl rfl (.cons rfl rfl (.cons rfl rfl (.cons rfl rfl (.cons rfl rfl (.cons rfl rfl (.cons rfl rfl (.cons rfl rfl (.cons rfl rfl (.cons rfl rfl (.cons rfl rfl (.cons rfl rfl (.cons rfl rfl (.cons rfl rfl (.cons rfl rfl (.cons rfl rfl (.cons rfl rfl (.cons rfl rfl (.cons rfl rfl (.cons rfl rfl (.cons rfl rfl (.cons rfl rfl .nil))))))))))))))))))))))))))))))))))))))))))))))))))))))))))))))) ?_
                refine CJ_block ?_
                refine CJ_loop (fun E H m => ∃ (q : Nat) (ys : List UInt8), (ys.length = obs.length ∧ q ≤ obs.length) ∧ E = [(1, .slice a ops.length cap), (5, .pointer (some ⟨gn, 0, none⟩)), (6, .pointer (some ⟨gw, 0, none⟩)), (7, .pointer none), (8, .int .i64 (i : Int)), (10, .bool true), (11, .slice (sl (some g58)) obs.length c58), (88, .int .i64 ((obs.length : Nat) : Int)), (89, .int .i64 (q : Int))] ∧ H = [Row U8 (some g58) c58 ys, NetP gn room (sendP room ps ⟨ofr, oto, obs, false⟩) (sendC room ps sent), RefP gw room (sendP room ps ⟨ofr, oto, obs, false⟩) (sendC room ps sent), old W] ++ R ∧ m = obs.length - q) (E' := [(1, .slice a ops.length cap), (5, .pointer (some ⟨gn, 0, none⟩)), (6, .pointer (some ⟨gw, 0, none⟩)), (7, .pointer none), (8, .int .i64 (i : Int)), (10, .bool true), (11, .slice (sl (some g58)) obs.length c58), (88, .int .i64 ((obs.length : Nat) : Int)), (89, .int .i64 0)]) (H' := [Row U8 (some g58) c58 (obs), NetP gn room (sendP room ps ⟨ofr, oto, obs, false⟩) (sendC room ps sent), RefP gw room (sendP room ps ⟨ofr, oto, obs, false⟩) (sendC room ps sent), old W] ++ R) (m := obs.length - 0) ⟨0, obs, ⟨rfl, Nat.zero_le _⟩, rfl, rfl, rfl⟩ (.cons rfl (by first | rfl | (simp; done)) (.cons rfl (by first | rfl | (simp; done)) (.cons rfl (by first | rfl | (simp; done)) (.cons rfl (by first | rfl | (simp; done)) (.cons rfl (by first | rfl | (simp; done)) (.cons rfl (by first | rfl | (simp; done)) (.cons rfl (by first | rfl | (simp; done)) (.cons rfl (by first | rfl | (simp; done)) (.cons rfl (by first | rfl | (simp; done)) .nil))))))))) (.cons (by first | ((repeat (first | with_reducible exact .here | apply Pick.there)); done) | ((repeat (first | exact .here | apply Pick.there)); done)) (.cons (by first | ((repeat (first | with_reducible exact .here | apply Pick.there)); done) | ((repeat (first | exact .here | apply Pick.there)); done)) (.cons (by first | ((repeat (first | with_reducible exact .here | apply Pick.there)); done) | ((repeat (first | exact .here | apply Pick.there)); done)) (.cons (by first | ((repeat (first | with_reducible exact .here | apply Pick.there)); done) | ((repeat (first | exact .here | apply Pick.there)); done)) (by repeat (first | exact Imp.refl _ | refine Imp.skip ?_)))))) ?_
                rintro _ _ _ ⟨q, ys, hokq, rfl, rfl, rfl⟩
                refine CJ_app4 ?_
                refine CJ_seq ?_
                refine CJ_region ?_
                refine RJ_q (Op_lss rfl rfl) rfl ?_
                refine RJ_nil ?_
                refine NJ_then ?_
                refine CJ_env (E' := [(1, _), (5, _), (6, _), (7, _), (8, _), (10, _), (11, _), (88, _), (89, _), (90, _)]) (.cons rfl rfl (.cons rfl rfl (.cons rfl rfl (.cons rfl rfl (.cons rfl rfl (.cons rfl rfl (.cons rfl rfl (.cons rfl rfl (.cons rfl rfl (.cons rfl rfl .nil)))))))))) ?_
                refine CJ_seq ?_
                refine CJ_cond rfl ?_ ?_
                · intro hcq
                  have hq : q < ys.length := by have := of_decide_eq_true hcq; omega
                  obtain ⟨y, hy⟩ : ∃ y, ys[q]? = some y := ⟨ys[q], List.getElem?_eq_getElem hq⟩
                  refine CJ_skip ?_
                  refine NJ_then ?_
                  refine CJ_env (E' := [(1, _), (5, _), (6, _), (7, _), (8, _), (10, _), (11, _), (88, _), (89, _), (90, _)]) (.cons rfl rfl (.cons rfl rfl (.cons rfl rfl (.cons rfl rfl (.cons rfl rfl (.cons rfl rfl (.cons rfl rfl (.cons rfl rfl (.cons rfl rfl (.cons rfl rfl .nil)))))))))) ?_
                  refine CJ_seq ?_
                  refine CJ_block ?_
                  refine CJ_seq ?_
                  refine CJ_region ?_
                  refine RJ_q (Op_move rfl) rfl ?_
                  refine RJ_q (Op_assign rfl) rfl ?_
                  refine RJ_nil ?_
                  refine NJ_then ?_
                  refine CJ_env (E' := [(1, _), (5, _), (6, _), (7, _), (8, _), (10, _), (11, _), (12, _), (88, _), (89, _), (90, _), (91, _)]) (.cons rfl rfl (.cons rfl rfl (.cons rfl rfl (.cons rfl rfl (.cons rfl rfl (.cons rfl rfl (.cons rfl rfl (.cons rfl rfl (.cons rfl rfl (.cons rfl rfl (.cons rfl rfl (.cons rfl rfl .nil)))))))))))) ?_
                  refine CJ_region ?_
                  refine RJ_q (Op_move rfl) rfl ?_
                  refine RJ_q (Op_move rfl) rfl ?_
                  refine RJ_q (Op_indexAddr (o' := q * U8.sz + 0) rfl rfl Try.underlying30 sz5 (by omega) (by omega) (by simp [U8])) rfl ?_
                  refine RJ_q (Op_load rfl (load_row_cell (o := 0) Try.underlying5 rfl (by first | ((repeat (first | with_reducible exact .here | apply Pick.there)); done) | ((repeat (first | exact .here | apply Pick.there)); done)) hy Nth.z)) rfl ?_
                  refine RJ_q (Op_inc8 rfl rfl) rfl ?_
                  refine RJ_q (Op_indexAddr (o' := q * U8.sz + 0) rfl rfl Try.underlying30 sz5 (by omega) (by omega) (by simp [U8])) rfl ?_
                  refine RJ_d0 (Op_store_row (i := q) (o := 0) (u' := (y + 1)) rfl rfl sz5 (by rfl) (by simp [Value.cells, Value.oneCell']) (by repeat (first | exact .here | apply Repl.there)) hy (by decide) (by rfl)) ?_
                  refine RJ_nil ?_
                  refine NJ_blk ?_
                  refine NJ_then ?_
                  refine CJ_env (E' := [(1, _), (5, _), (6, _), (7, _), (8, _), (10, _), (11, _), (12, _), (88, _), (89, _), (90, _), (91, _), (92, _), (93, _), (94, _), (95, _), (96, _), (97, _)]) (.cons rfl rfl (.cons rfl rfl (.cons rfl rfl (.cons rfl rfl (.cons rfl rfl (.cons rfl rfl (.cons rfl rfl (.cons rfl rfl (.cons rfl rfl (.cons rfl rfl (.cons rfl rfl (.cons rfl rfl (.cons rfl rfl (.cons rfl rfl (.cons rfl rfl (.cons rfl rfl (.cons rfl rfl (.cons rfl rfl .nil)))))))))))))))))) ?_
                  refine CJ_region ?_
                  refine RJ_q (Op_addN (q + 1) rfl rfl (by omega) (by omega)) rfl ?_
                  refine RJ_q (Op_move rfl) rfl ?_
                  refine RJ_nil ?_
                  refine NJ_back (E' := [(1, .slice a ops.length cap), (5, .pointer (some ⟨gn, 0, none⟩)), (6, .pointer (some ⟨gw, 0, none⟩)), (7, .pointer none), (8, .int .i64 (i : Int)), (10, .bool true), (11, .slice (sl (some g58)) obs.length c58), (88, .int .i64 ((obs.length : Nat) : Int)), (89, .int .i64 ((q + 1 : Nat) : Int))]) (m' := obs.length - (q + 1)) ⟨q + 1, ys.set q (y + 1), ⟨by rw [List.length_set]; exact hokq.1, by omega⟩, rfl, rfl, rfl⟩ (by omega) (.cons rfl (by first | rfl | (simp; done)) (.cons rfl (by first | rfl | (simp; done)) (.cons rfl (by first | rfl | (simp; done)) (.cons rfl (by first | rfl | (simp; done)) (.cons rfl (by first | rfl | (simp; done)) (.cons rfl (by first | rfl | (simp; done)) (.cons rfl (by first | rfl | (simp; done)) (.cons rfl (by first | rfl | (simp; done)) (.cons rfl (by first | rfl | (simp; done)) .nil))))))))) (.cons (by first | ((repeat (first | with_reducible exact .here | apply Pick.there)); done) | ((repeat (first | exact .here | apply Pick.there)); done)) (.cons (by first | ((repeat (first | with_reducible exact .here | apply Pick.there)); done) | ((repeat (first | exact .here | apply Pick.there)); done)) (.cons (by first | ((repeat (first | with_reducible exact .here | apply Pick.there)); done) | ((repeat (first | exact .here | apply Pick.there)); done)) (.cons (by first | ((repeat (first | with_reducible exact .here | apply Pick.there)); done) | ((repeat (first | exact .here | apply Pick.there)); done)) (by repeat (first | exact Imp.refl _ | refine Imp.skip ?_))))))
                · intro hcq
                  skip
                  refine CJ_exit ?_
                  refine NJ_then_x ?_
                  refine NJ_then_x ?_
                  refine NJ_blk_hit ?_
                  refine NJ_blk ?_
                  refine NJ_meet (E' := [(1, .slice a ops.length cap), (5, .pointer (some ⟨gn, 0, none⟩)), (6, .pointer (some ⟨gw, 0, none⟩)), (7, .pointer none), (8, .int .i64 (i : Int)), (10, .bool true)]) (H' := [NetP gn room (sendP room ps ⟨ofr, oto, obs, false⟩) (sendC room ps sent), RefP gw room (sendP room ps ⟨ofr, oto, obs, false⟩) (sendC room ps sent), old W] ++ R) ⟨(sendP room ps ⟨ofr, oto, obs, false⟩), (sendC room ps sent), ⟨by have := sendP_len room ps ⟨ofr, oto, obs, false⟩; omega, by have := sendC_le room ps sent; omega, by have := sendC_le room ps sent; omega, sendP_all hbs hob⟩, rfl, rfl⟩ (.cons rfl (by first | rfl | (simp; done)) (.cons rfl (by first | rfl | (simp; done)) (.cons rfl (by first | rfl | (simp; done)) (.cons rfl (by first | rfl | (simp; done)) (.cons rfl (by first | rfl | (simp; done)) (.cons rfl (by first | rfl | (simp; done)) .nil)))))) (.cons (by first | ((repeat (first | with_reducible exact .here | apply Pick.there)); done) | ((repeat (first | exact .here | apply Pick.there)); done)) (.cons (by first | ((repeat (first | with_reducible exact .here | apply Pick.there)); done) | ((repeat (first | exact .here | apply Pick.there)); done)) (.cons (by first | ((repeat (first | with_reducible exact .here | apply Pick.there)); done) | ((repeat (first | exact .here | apply Pick.there)); done)) (by repeat (first | exact Imp.refl _ | refine Imp.skip ?_)))))
              · skip
                refine SJ_d (rd' := [⟨11, _, _, _⟩, ⟨9, _, _, _⟩, ⟨4, _, _, _⟩, ⟨2, _, _, _⟩]) [11, 9, 4, 2] rfl (want_none rfl) rfl ((Op_string_of_bytes (bs := obs) rfl Try.underlying30 Try.underlying9 Try.underlying5 rfl (reads_u8 (Reads_old (by first | ((repeat (first | with_reducible exact .here | apply Pick.there)); done) | ((repeat (first | exact .here | apply Pick.there)); done)) hB))).opD) (by kernel_rfl) rfl ⟨(load_cell Try.underlying3 rfl (by first | ((repeat (first | with_reducible exact .here | apply Pick.there)); done) | ((repeat (first | exact .here | apply Pick.there)); done)) (Nth.s (Nth.s Nth.z))), ⟨(load_cell Try.underlying3 rfl (by first | ((repeat (first | with_reducible exact .here | apply Pick.there)); done) | ((repeat (first | exact .here | apply Pick.there)); done)) (Nth.s Nth.z)), ⟨(load_cell Try.underlying3 rfl (by first | ((repeat (first | with_reducible exact .here | apply Pick.there)); done) | ((repeat (first | exact .here | apply Pick.there)); done)) (Nth.s (Nth.s Nth.z))), ⟨(load_cell Try.underlying3 rfl (by first | ((repeat (first | with_reducible exact .here | apply Pick.there)); done) | ((repeat (first | exact .here | apply Pick.there)); done)) (Nth.s Nth.z)), trivial⟩⟩⟩⟩ ?_
                refine SJ_q rfl (want_none rfl) rfl (fun _ _ => Op_build (vs := [_, _, _]) (cells := [_, _, _, _]) Try.underlying36 zr36 rfl pl36 (by rfl)) ?_
                refine SJ_p (rd' := [⟨11, _, _, _⟩, ⟨9, _, _, _⟩]) [11, 9] rfl (want_none rfl) rfl (Op_call (vs := [_, _, _, _]) Try.func6 rfl rfl (Send_two gn room ps sent ofr oto (some g58) c58 obs (by omega) (by omega) (by omega) (by omega)) rfl (.cons (by first | ((repeat (first | with_reducible exact .here | apply Pick.there)); done) | ((repeat (first | exact .here | apply Pick.there)); done)) (.cons (by first | ((repeat (first | with_reducible exact .here | apply Pick.there)); done) | ((repeat (first | exact .here | apply Pick.there)); done)) (Imp.refl _)))) (by kernel_rfl) rfl ?_
                rintro _ _ ⟨_, ⟨rfl, rfl⟩, rfl⟩
                refine OS_app2 ?_
                refine ⟨⟨(load_cell Try.underlying3 rfl (by first | ((repeat (first | with_reducible exact .here | apply Pick.there)); done) | ((repeat (first | exact .here | apply Pick.there)); done)) (Nth.s (Nth.s Nth.z))), ⟨(load_cell Try.underlying3 rfl (by first | ((repeat (first | with_reducible exact .here | apply Pick.there)); done) | ((repeat (first | exact .here | apply Pick.there)); done)) (Nth.s Nth.z)), trivial⟩⟩, ?_⟩
                refine SJ_p (rd' := []) [] rfl (want_none rfl) rfl (Op_call (vs := [_, _]) Try.func7 rfl rfl (RSend_two gw room ps sent ⟨ofr, oto, obs, false⟩ (by omega) (by omega) (by omega)) rfl (.cons (by first | ((repeat (first | with_reducible exact .here | apply Pick.there)); done) | ((repeat (first | exact .here | apply Pick.there)); done)) (Imp.refl _))) (by kernel_rfl) rfl ?_
                rintro _ _ ⟨_, ⟨rfl, rfl⟩, rfl⟩
                refine OS_app1 ?_
                refine ⟨trivial, ?_⟩
                refine SJ_q rfl (want_none rfl) rfl (fun _ _ => Op_eqb rfl rfl Try.underlying4) ?_
                refine SJ_q rfl (want_none rfl) rfl (fun _ _ => Op_move rfl) ?_
                refine SJ_q rfl (want_yes (t := 77) rfl rfl rfl (decide_eq_true rfl)) rfl (fun _ _ => Op_move rfl) ?_
                refine SJ_q rfl (want_yes (t := 77) rfl rfl rfl (decide_eq_true rfl)) rfl (fun _ _ => Op_fieldAddr (o' := 1) rfl Try.underlying32 rfl sz3 rfl rfl) ?_
                refine SJ_load rfl (want_yes (t := 77) rfl rfl rfl (decide_eq_true rfl)) rfl rfl (load_cell Try.underlying3 rfl (by first | ((repeat (first | with_reducible exact .here | apply Pick.there)); done) | ((repeat (first | exact .here | apply Pick.there)); done)) (Nth.s Nth.z)) ?_
                refine SJ_q rfl (want_yes (t := 77) rfl rfl rfl (decide_eq_true rfl)) rfl (fun _ _ => Op_fieldAddr (o' := 2) rfl Try.underlying32 rfl sz3 rfl rfl) ?_
                refine SJ_load rfl (want_yes (t := 77) rfl rfl rfl (decide_eq_true rfl)) rfl rfl (load_cell Try.underlying3 rfl (by first | ((repeat (first | with_reducible exact .here | apply Pick.there)); done) | ((repeat (first | exact .here | apply Pick.there)); done)) (Nth.s (Nth.s Nth.z))) ?_
                refine SJ_q rfl (want_yes (t := 77) rfl rfl rfl (decide_eq_true rfl)) rfl (fun _ _ => Op_move rfl) ?_
                refine SJ_p (rd' := []) [] rfl (want_yes (t := 77) rfl rfl rfl (decide_eq_true rfl)) rfl (Op_call (vs := [_, _, _, _]) Try.func6 rfl rfl (Send_nil _ _ _) rfl (Imp.refl _)) (by kernel_rfl) rfl ?_
                rintro _ _ ⟨_, ⟨rfl, rfl⟩, rfl⟩
                refine OS_app0 ?_
                refine ⟨trivial, ?_⟩
                refine SJ_q rfl (want_yes (t := 77) rfl rfl rfl (decide_eq_true rfl)) rfl (fun _ _ => Op_not rfl) ?_
                refine SJ_q rfl (want_none rfl) rfl (fun _ _ => Op_pick_t rfl (decide_eq_true rfl) rfl) ?_
                refine SJ_q rfl (want_none rfl) rfl (fun _ _ => Op_assign rfl) ?_
                refine SJ_done ?_
                refine NJ_then ?_
                refine CJ_env (E' := [(1, _), (5, _), (6, _), (7, _), (8, _), (9, _), (10, _), (11, _), (33, _), (34, _), (35, _), (36, _), (37, _), (38, _), (39, _), (40, _), (43, _), (44, _), (45, _), (46, _), (47, _), (48, _), (49, _), (50, _), (51, _), (52, _), (53, _), (54, _), (55, _), (56, _), (57, _), (58, _), (59, _), (60, _), (61, _), (62, _), (63, _), (64, _), (65, _), (66, _), (67, _), (68, _), (69, _), (70, _), (71, _), (72, _), (73, _), (74, _), (75, _), (76, _), (77, _), (78, _), (79, _), (80, _), (81, _), (82, _), (83, _), (84, _), (85, _), (86, _)]) (.cons rfl rfl (.cons rfl rfl (.cons rfl rfl (.cons rfl rfl (.cons rfl rfl (.cons rfl rfl (.cons rfl rfl (.cons rfl rfl (.cons rfl rfl (.cons rfl rfl (.cons rfl rfl (.cons rfl rfl (.cons rfl rfl (.cons rfl rfl (.cons rfl rfl (.cons rfl rfl (.cons rfl rfl (.cons rfl rfl (.cons rfl rfl (.cons rfl rfl (.cons rfl rfl (.cons rfl rfl (.cons rfl rfl (.cons rfl rfl (.cons rfl rfl (.cons rfl rfl (.cons rfl rfl (.cons rfl rfl (.cons rfl rfl (.cons rfl rfl (.cons rfl rfl (.cons rfl rfl (.cons rfl rfl (.cons rfl rfl (.cons rfl rfl (.cons rfl rfl (.cons rfl rfl (.cons rfl rfl (.cons rfl rfl (.cons rfl rfl (.cons rfl rfl (.cons rfl rfl (.cons rfl rfl (.cons rfl rfl (.cons rfl rfl (.cons rfl rfl (.cons rfl rfl (.cons rfl rfl (.cons rfl rfl (.cons rfl rfl (.cons rfl rfl (.cons rfl rfl (.cons rfl rfl (.cons rfl rfl (.cons rfl rfl (.cons rfl rfl (.cons rfl rfl (.cons rfl rfl (.cons rfl rfl (.cons rfl rfl .nil)))))))))))))))))))))))))))))))))))))))))))))))))))))))))))) ?_
                refine CJ_seq ?_
                refine CJ_region ?_
                refine RJ_q (Op_move rfl) rfl ?_
                refine RJ_q (Op_len_slice rfl Try.underlying30) rfl ?_
                refine RJ_q (Op_move rfl) rfl ?_
                refine RJ_nil ?_
                refine NJ_then ?_
                refine CJ_env (E' := [(1, _), (5, _), (6, _), (7, _), (8, _), (9, _), (10, _), (11, _), (33, _), (34, _), (35, _), (36, _), (37, _), (38, _), (39, _), (40, _), (43, _), (44, _), (45, _), (46, _), (47, _), (48, _), (49, _), (50, _), (51, _), (52, _), (53, _), (54, _), (55, _), (56, _), (57, _), (58, _), (59, _), (60, _), (61, _), (62, _), (63, _), (64, _), (65, _), (66, _), (67, _), (68, _), (69, _), (70, _), (71, _), (72, _), (73, _), (74, _), (75, _), (76, _), (77, _), (78, _), (79, _), (80, _), (81, _), (82, _), (83, _), (84, _), (85, _), (86, _), (87, _), (88, _), (89, _)]) (.cons rfl rfl (.cons rfl rfl (.cons rfl rfl (.cons rfl rfl (.cons rfl rfl (.cons rfl rfl (.cons rfl rfl (.cons rfl rfl (.cons rfl rfl (.cons rfl rfl (.cons rfl rfl (.cons rfl rfl (.cons rfl rfl (.cons rfl rfl (.cons rfl rfl (.cons rfl rfl (.cons rfl rfl (.cons rfl rfl (.cons rfl rfl (.cons rfl rfl (.cons rfl rfl (.cons rfl rfl (.cons rfl rfl (.cons rfl rfl (.cons rfl rfl (.cons rfl rfl (.cons rfl rfl (.cons rfl rfl (.cons rfl rfl (.cons rfl rfl (.cons rfl rfl (.cons rfl rfl (.cons rfl rfl (.cons rfl rfl (.cons rfl rfl (.cons rfl rfl (.cons rfl rfl (.cons rfl rfl (.cons rfl rfl (.cons rfl rfl (.cons rfl rfl (.cons rfl rfl (.cons rfl rfl (.cons rfl rfl (.cons rfl rfl (.cons rfl rfl (.cons rfl rfl (.cons rfl rfl (.cons rfl rfl (.cons rfl rfl (.cons rfl rfl (.cons rfl rfl (.cons rfl rfl (.cons rfl rfl (.cons rfl rfl (.cons rfl rfl (.cons rfl rfl (.cons rfl rfl (.cons rfl rfl (.cons rfl rfl (.cons rfl rfl (.cons rfl rfl (.cons rfl rfl .nil))))))))))))))))))))))))))))))))))))))))))))))))))))))))))))))) ?_
                refine CJ_block ?_
                refine CJ_loop (fun E H m => ∃ (q : Nat) (ys : List UInt8), (ys.length = obs.length ∧ q ≤ obs.length) ∧ E = [(1, .slice a ops.length cap), (5, .pointer (some ⟨gn, 0, none⟩)), (6, .pointer (some ⟨gw, 0, none⟩)), (7, .pointer none), (8, .int .i64 (i : Int)), (10, .bool true), (11, .slice (sl (some g58)) obs.length c58), (88, .int .i64 ((obs.length : Nat) : Int)), (89, .int .i64 (q : Int))] ∧ H = [Row U8 (some g58) c58 ys, NetP gn room (sendP room ps ⟨ofr, oto, obs, false⟩) (sendC room ps sent), RefP gw room (sendP room ps ⟨ofr, oto, obs, false⟩) (sendC room ps sent), old W] ++ R ∧ m = obs.length - q) (E' := [(1, .slice a ops.length cap), (5, .pointer (some ⟨gn, 0, none⟩)), (6, .pointer (some ⟨gw, 0, none⟩)), (7, .pointer none), (8, .int .i64 (i : Int)), (10, .bool true), (11, .slice (sl (some g58)) obs.length c58), (88, .int .i64 ((obs.length : Nat) : Int)), (89, .int .i64 0)]) (H' := [Row U8 (some g58) c58 (obs), NetP gn room (sendP room ps ⟨ofr, oto, obs, false⟩) (sendC room ps sent), RefP gw room (sendP room ps ⟨ofr, oto, obs, false⟩) (sendC room ps sent), old W] ++ R) (m := obs.length - 0) ⟨0, obs, ⟨rfl, Nat.zero_le _⟩, rfl, rfl, rfl⟩ (.cons rfl (by first | rfl | (simp; done)) (.cons rfl (by first | rfl | (simp; done)) (.cons rfl (by first | rfl | (simp; done)) (.cons rfl (by first | rfl | (simp; done)) (.cons rfl (by first | rfl | (simp; done)) (.cons rfl (by first | rfl | (simp; done)) (.cons rfl (by first | rfl | (simp; done)) (.cons rfl (by first | rfl | (simp; done)) (.cons rfl (by first | rfl | (simp; done)) .nil))))))))) (.cons (by first | ((repeat (first | with_reducible exact .here | apply Pick.there)); done) | ((repeat (first | exact .here | apply Pick.there)); done)) (.cons (by first | ((repeat (first | with_reducible exact .here | apply Pick.there)); done) | ((repeat (first | exact .here | apply Pick.there)); done)) (.cons (by first | ((repeat (first | with_reducible exact .here | apply Pick.there)); done) | ((repeat (first | exact .here | apply Pick.there)); done)) (.cons (by first | ((repeat (first | with_reducible exact .here | apply Pick.there)); done) | ((repeat (first | exact .here | apply Pick.there)); done)) (by repeat (first | exact Imp.refl _ | refine Imp.skip ?_)))))) ?_
                rintro _ _ _ ⟨q, ys, hokq, rfl, rfl, rfl⟩
                refine CJ_app4 ?_
                refine CJ_seq ?_
                refine CJ_region ?_
                refine RJ_q (Op_lss rfl rfl) rfl ?_
                refine RJ_nil ?_
                refine NJ_then ?_
                refine CJ_env (E' := [(1, _), (5, _), (6, _), (7, _), (8, _), (10, _), (11, _), (88, _), (89, _), (90, _)]) (.cons rfl rfl (.cons rfl rfl (.cons rfl rfl (.cons rfl rfl (.cons rfl rfl (.cons rfl rfl (.cons rfl rfl (.cons rfl rfl (.cons rfl rfl (.cons rfl rfl .nil)))))))))) ?_
                refine CJ_seq ?_
                refine CJ_cond rfl ?_ ?_
                · intro hcq
                  have hq : q < ys.length := by have := of_decide_eq_true hcq; omega
                  obtain ⟨y, hy⟩ : ∃ y, ys[q]? = some y := ⟨ys[q], List.getElem?_eq_getElem hq⟩
                  refine CJ_skip ?_
                  refine NJ_then ?_
                  refine CJ_env (E' := [(1, _), (5, _), (6, _), (7, _), (8, _), (10, _), (11, _), (88, _), (89, _), (90, _)]) (.cons rfl rfl (.cons rfl rfl (.cons rfl rfl (.cons rfl rfl (.cons rfl rfl (.cons rfl rfl (.cons rfl rfl (.cons rfl rfl (.cons rfl rfl (.cons rfl rfl .nil)))))))))) ?_
                  refine CJ_seq ?_
                  refine CJ_block ?_
                  refine CJ_seq ?_
                  refine CJ_region ?_
                  refine RJ_q (Op_move rfl) rfl ?_
                  refine RJ_q (Op_assign rfl) rfl ?_
                  refine RJ_nil ?_
                  refine NJ_then ?_
                  refine CJ_env (E' := [(1, _), (5, _), (6, _), (7, _), (8, _), (10, _), (11, _), (12, _), (88, _), (89, _), (90, _), (91, _)]) (.cons rfl rfl (.cons rfl rfl (.cons rfl rfl (.cons rfl rfl (.cons rfl rfl (.cons rfl rfl (.cons rfl rfl (.cons rfl rfl (.cons rfl rfl (.cons rfl rfl (.cons rfl rfl (.cons rfl rfl .nil)))))))))))) ?_
                  refine CJ_region ?_
                  refine RJ_q (Op_move rfl) rfl ?_
                  refine RJ_q (Op_move rfl) rfl ?_
                  refine RJ_q (Op_indexAddr (o' := q * U8.sz + 0) rfl rfl Try.underlying30 sz5 (by omega) (by omega) (by simp [U8])) rfl ?_
                  refine RJ_q (Op_load rfl (load_row_cell (o := 0) Try.underlying5 rfl (by first | ((repeat (first | with_reducible exact .here | apply Pick.there)); done) | ((repeat (first | exact .here | apply Pick.there)); done)) hy Nth.z)) rfl ?_
                  refine RJ_q (Op_inc8 rfl rfl) rfl ?_
                  refine RJ_q (Op_indexAddr (o' := q * U8.sz + 0) rfl rfl Try.underlying30 sz5 (by omega) (by omega) (by simp [U8])) rfl ?_
                  refine RJ_d0 (Op_store_row (i := q) (o := 0) (u' := (y + 1)) rfl rfl sz5 (by rfl) (by simp [Value.cells, Value.oneCell']) (by repeat (first | exact .here | apply Repl.there)) hy (by decide) (by rfl)) ?_
                  refine RJ_nil ?_
                  refine NJ_blk ?_
                  refine NJ_then ?_
                  refine CJ_env (E' := [(1, _), (5, _), (6, _), (7, _), (8, _), (10, _), (11, _), (12, _), (88, _), (89, _), (90, _), (91, _), (92, _), (93, _), (94, _), (95, _), (96, _), (97, _)]) (.cons rfl rfl (.cons rfl rfl (.cons rfl rfl (.cons rfl rfl (.cons rfl rfl (.cons rfl rfl (.cons rfl rfl (.cons rfl rfl (.cons rfl rfl (.cons rfl rfl (.cons rfl rfl (.cons rfl rfl (.cons rfl rfl (.cons rfl rfl (.cons rfl rfl (.cons rfl rfl (.cons rfl rfl (.cons rfl rfl .nil)))))))))))))))))) ?_
                  refine CJ_region ?_
                  refine RJ_q (Op_addN (q + 1) rfl rfl (by omega) (by omega)) rfl ?_
                  refine RJ_q (Op_move rfl) rfl ?_
                  refine RJ_nil ?_
                  refine NJ_back (E' := [(1, .slice a ops.length cap), (5, .pointer (some ⟨gn, 0, none⟩)), (6, .pointer (some ⟨gw, 0, none⟩)), (7, .pointer none), (8, .int .i64 (i : Int)), (10, .bool true), (11, .slice (sl (some g58)) obs.length c58), (88, .int .i64 ((obs.length : Nat) : Int)), (89, .int .i64 ((q + 1 : Nat) : Int))]) (m' := obs.length - (q + 1)) ⟨q + 1, ys.set q (y + 1), ⟨by rw [List.length_set]; exact hokq.1, by omega⟩, rfl, rfl, rfl⟩ (by omega) (.cons rfl (by first | rfl | (simp; done)) (.cons rfl (by first | rfl | (simp; done)) (.cons rfl (by first | rfl | (simp; done)) (.cons rfl (by first | rfl | (simp; done)) (.cons rfl (by first | rfl | (simp; done)) (.cons rfl (by first | rfl | (simp; done)) (.cons rfl (by first | rfl | (simp; done)) (.cons rfl (by first | rfl | (simp; done)) (.cons rfl (by first | rfl | (simp; done)) .nil))))))))) (.cons (by first | ((repeat (first | with_reducible exact .here | apply Pick.there)); done) | ((repeat (first | exact .here | apply Pick.there)); done)) (.cons (by first | ((repeat (first | with_reducible exact .here | apply Pick.there)); done) | ((repeat (first | exact .here | apply Pick.there)); done)) (.cons (by first | ((repeat (first | with_reducible exact .here | apply Pick.there)); done) | ((repeat (first | exact .here | apply Pick.there)); done)) (.cons (by first | ((repeat (first | with_reducible exact .here | apply Pick.there)); done) | ((repeat (first | exact .here | apply Pick.there)); done)) (by repeat (first | exact Imp.refl _ | refine Imp.skip ?_))))))
                · intro hcq
                  skip
                  refine CJ_exit ?_
                  refine NJ_then_x ?_
                  refine NJ_then_x ?_
                  refine NJ_blk_hit ?_
                  refine NJ_blk ?_
                  refine NJ_meet (E' := [(1, .slice a ops.length cap), (5, .pointer (some ⟨gn, 0, none⟩)), (6, .pointer (some ⟨gw, 0, none⟩)), (7, .pointer none), (8, .int .i64 (i : Int)), (10, .bool true)]) (H' := [NetP gn room (sendP room ps ⟨ofr, oto, obs, false⟩) (sendC room ps sent), RefP gw room (sendP room ps ⟨ofr, oto, obs, false⟩) (sendC room ps sent), old W] ++ R) ⟨(sendP room ps ⟨ofr, oto, obs, false⟩), (sendC room ps sent), ⟨by have := sendP_len room ps ⟨ofr, oto, obs, false⟩; omega, by have := sendC_le room ps sent; omega, by have := sendC_le room ps sent; omega, sendP_all hbs hob⟩, rfl, rfl⟩ (.cons rfl (by first | rfl | (simp; done)) (.cons rfl (by first | rfl | (simp; done)) (.cons rfl (by first | rfl | (simp; done)) (.cons rfl (by first | rfl | (simp; done)) (.cons rfl (by first | rfl | (simp; done)) (.cons rfl (by first | rfl | (simp; done)) .nil)))))) (.cons (by first | ((repeat (first | with_reducible exact .here | apply Pick.there)); done) | ((repeat (first | exact .here | apply Pick.there)); done)) (.cons (by first | ((repeat (first | with_reducible exact .here | apply Pick.there)); done) | ((repeat (first | exact .here | apply Pick.there)); done)) (.cons (by first | ((repeat (first | with_reducible exact .here | apply Pick.there)); done) | ((repeat (first | exact .here | apply Pick.there)); done)) (by repeat (first | exact Imp.refl _ | refine Imp.skip ?_)))))
            · skip
              refine RJ_q (Op_assign rfl) rfl ?_
              refine RJ_nil ?_
              refine NJ_then ?_
              refine CJ_env (E' := [(1, _), (5, _), (6, _), (7, _), (8, _), (9, _), (10, _), (33, _), (34, _), (35, _), (36, _), (37, _), (38, _), (39, _), (40, _), (43, _), (44, _), (45, _), (46, _), (47, _), (48, _), (49, _), (50, _), (51, _), (52, _), (53, _), (54, _)]) (.cons rfl rfl (.cons rfl rfl (.cons rfl rfl (.cons rfl rfl (.cons rfl rfl (.cons rfl rfl (.cons rfl rfl (.cons rfl rfl (.cons rfl rfl (.cons rfl rfl (.cons rfl rfl (.cons rfl rfl (.cons rfl rfl (.cons rfl rfl (.cons rfl rfl (.cons rfl rfl (.cons rfl rfl (.cons rfl rfl (.cons rfl rfl (.cons rfl rfl (.cons rfl rfl (.cons rfl rfl (.cons rfl rfl (.cons rfl rfl (.cons rfl rfl (.cons rfl rfl (.cons rfl rfl .nil))))))))))))))))))))))))))) ?_
              refine CJ_else rfl (decide_eq_false k0) ?_
              refine CJ_seq ?_
              refine CJ_region ?_
              refine RJ_q (Op_eql rfl rfl) rfl ?_
              by_cases k1 : ok = 1
              · skip
                refine RJ_q (Op_assign rfl) rfl ?_
                refine RJ_nil ?_
                refine NJ_then ?_
                refine CJ_env (E' := [(1, _), (5, _), (6, _), (7, _), (8, _), (9, _), (10, _), (33, _), (34, _), (35, _), (36, _), (37, _), (38, _), (39, _), (40, _), (43, _), (44, _), (45, _), (46, _), (47, _), (48, _), (49, _), (50, _), (51, _), (52, _), (53, _), (54, _), (99, _), (100, _)]) (.cons rfl rfl (.cons rfl rfl (.cons rfl rfl (.cons rfl rfl (.cons rfl rfl (.cons rfl rfl (.cons rfl rfl (.cons rfl rfl (.cons rfl rfl (.cons rfl rfl (.cons rfl rfl (.cons rfl rfl (.cons rfl rfl (.cons rfl rfl (.cons rfl rfl (.cons rfl rfl (.cons rfl rfl (.cons rfl rfl (.cons rfl rfl (.cons rfl rfl (.cons rfl rfl (.cons rfl rfl (.cons rfl rfl (.cons rfl rfl (.cons rfl rfl (.cons rfl rfl (.cons rfl rfl (.cons rfl rfl (.cons rfl rfl .nil))))))))))))))))))))))))))))) ?_
                refine CJ_then rfl (decide_eq_true k1) ?_
                refine CJ_seq ?_
                by_cases hin : 0 ≤ oi ∧ oi < (ps.length : Int)
                · skip
                  obtain ⟨k, rfl⟩ := Int.eq_ofNat_of_zero_le hin.1
                  have hlt : k < ps.length := by omega
                  obtain ⟨p, hk⟩ : ∃ p, ps[k]? = some p := ⟨ps[k], List.getElem?_eq_getElem hlt⟩
                  have hpb := hbs p (List.mem_of_getElem? hk)
                  refine CJ_region ?_
                  refine RJ_q (Op_move rfl) rfl ?_
                  refine RJ_q (Op_fieldAddr (o' := 3) rfl Try.underlying32 rfl sz3 rfl rfl) rfl ?_
                  refine RJ_q (Op_load rfl (load_cell Try.underlying3 rfl (by first | ((repeat (first | with_reducible exact .here | apply Pick.there)); done) | ((repeat (first | exact .here | apply Pick.there)); done)) (Nth.s (Nth.s (Nth.s Nth.z))))) rfl ?_
                  refine RJ_p rfl (Op_call (vs := [_, _]) Try.func8 rfl rfl (Look_yes _ _ _ _ _ _ hk (fun p hp => Nat.le_trans (hbs p hp) (by decide)) (by omega)) rfl (.cons (by first | ((repeat (first | with_reducible exact .here | apply Pick.there)); done) | ((repeat (first | exact .here | apply Pick.there)); done)) (Imp.refl _))) ?_
                  rintro _ _ ⟨_, ⟨g105, rfl, rfl⟩, rfl⟩
                  refine RJ_app2 ?_
                  refine RJ_q (Op_move rfl) rfl ?_
                  refine RJ_q (Op_extract rfl rfl) rfl ?_
                  refine RJ_q (Op_extract rfl rfl) rfl ?_
                  refine RJ_p rfl (Op_alloc zr38) ?_
                  rintro _ _ ⟨b13, rfl, rfl⟩
                  refine RJ_d0 (Op_store (cs' := #[_, _, _]) rfl rfl sz38 (by rfl) (by simp [Value.cells, Value.oneCell']) (by repeat (first | exact .here | apply Repl.there)) rfl (free_zero _ _) (by rfl)) ?_
                  refine RJ_q (Op_assign rfl) rfl ?_
                  refine RJ_nil ?_
                  refine NJ_then ?_
                  refine CJ_env (E' := [(1, _), (5, _), (6, _), (7, _), (8, _), (9, _), (10, _), (13, _), (14, _), (33, _), (34, _), (35, _), (36, _), (37, _), (38, _), (39, _), (40, _), (43, _), (44, _), (45, _), (46, _), (47, _), (48, _), (49, _), (50, _), (51, _), (52, _), (53, _), (54, _), (99, _), (100, _), (101, _), (102, _), (103, _), (104, _), (105, _), (106, _), (107, _)]) (.cons rfl rfl (.cons rfl rfl (.cons rfl rfl (.cons rfl rfl (.cons rfl rfl (.cons rfl rfl (.cons rfl rfl (.cons rfl rfl (.cons rfl rfl (.cons rfl rfl (.cons rfl rfl (.cons rfl rfl (.cons rfl rfl (.cons rfl rfl (.cons rfl rfl (.cons rfl rfl (.cons rfl rfl (.cons rfl rfl (.cons rfl rfl (.cons rfl rfl (.cons rfl rfl (.cons rfl rfl (.cons rfl rfl (.cons rfl rfl (.cons rfl rfl (.cons rfl rfl (.cons rfl rfl (.cons rfl rfl (.cons rfl rfl (.cons rfl rfl (.cons rfl rfl (.cons rfl rfl (.cons rfl rfl (.cons rfl rfl (.cons rfl rfl (.cons rfl rfl (.cons rfl rfl (.cons rfl rfl .nil)))))))))))))))))))))))))))))))))))))) ?_
                  refine CJ_seq ?_
                  refine CJ_region ?_
                  refine RJ_q (Op_build (vs := []) (cells := [_, _, _, _]) Try.underlying36 zr36 rfl pl36 (by rfl)) rfl ?_
                  refine RJ_p rfl (Op_alloc zr36) ?_
                  rintro _ _ ⟨b15, rfl, rfl⟩
                  refine RJ_d0 (Op_store (cs' := #[_, _, _, _]) rfl rfl sz36 (by rfl) (by simp [Value.cells, Value.oneCell']) (by repeat (first | exact .here | apply Repl.there)) rfl (free_zero _ _) (by rfl)) ?_
                  refine RJ_nil ?_
                  refine NJ_then ?_
                  refine CJ_env (E' := [(1, _), (5, _), (6, _), (7, _), (8, _), (9, _), (10, _), (13, _), (14, _), (15, _), (33, _), (34, _), (35, _), (36, _), (37, _), (38, _), (39, _), (40, _), (43, _), (44, _), (45, _), (46, _), (47, _), (48, _), (49, _), (50, _), (51, _), (52, _), (53, _), (54, _), (99, _), (100, _), (101, _), (102, _), (103, _), (104, _), (105, _), (106, _), (107, _), (108, _)]) (.cons rfl rfl (.cons rfl rfl (.cons rfl rfl (.cons rfl rfl (.cons rfl rfl (.cons rfl rfl (.cons rfl rfl (.cons rfl rfl (.cons rfl rfl (.cons rfl rfl (.cons rfl rfl (.cons rfl rfl (.cons rfl rfl (.cons rfl rfl (.cons rfl rfl (.cons rfl rfl (.cons rfl rfl (.cons rfl rfl (.cons rfl rfl (.cons rfl rfl (.cons rfl rfl (.cons rfl rfl (.cons rfl rfl (.cons rfl rfl (.cons rfl rfl (.cons rfl rfl (.cons rfl rfl (.cons rfl rfl (.cons rfl rfl (.cons rfl rfl (.cons rfl rfl (.cons rfl rfl (.cons rfl rfl (.cons rfl rfl (.cons rfl rfl (.cons rfl rfl (.cons rfl rfl (.cons rfl rfl (.cons rfl rfl (.cons rfl rfl .nil)))))))))))))))))))))))))))))))))))))))) ?_
                  refine CJ_seq ?_
                  refine CJ_seq ?_
                  refine CJ_region ?_
                  refine RJ_q (Op_move rfl) rfl ?_
                  refine RJ_q (Op_fieldAddr (o' := 3) rfl Try.underlying32 rfl sz3 rfl rfl) rfl ?_
                  refine RJ_q (Op_load rfl (load_cell Try.underlying3 rfl (by first | ((repeat (first | with_reducible exact .here | apply Pick.there)); done) | ((repeat (first | exact .here | apply Pick.there)); done)) (Nth.s (Nth.s (Nth.s Nth.z))))) rfl ?_
                  refine RJ_p rfl (Op_call (vs := [_, _]) Try.func9 rfl rfl (RHas_t _ _ _ _ _ hin) rfl (.cons (by first | ((repeat (first | with_reducible exact .here | apply Pick.there)); done) | ((repeat (first | exact .here | apply Pick.there)); done)) (Imp.refl _))) ?_
                  rintro _ _ ⟨_, ⟨rfl, rfl⟩, rfl⟩
                  refine RJ_app1 ?_
                  refine RJ_nil ?_
                  refine NJ_then ?_
                  refine CJ_env (E' := [(1, _), (5, _), (6, _), (7, _), (8, _), (9, _), (10, _), (13, _), (14, _), (15, _), (33, _), (34, _), (35, _), (36, _), (37, _), (38, _), (39, _), (40, _), (43, _), (44, _), (45, _), (46, _), (47, _), (48, _), (49, _), (50, _), (51, _), (52, _), (53, _), (54, _), (99, _), (100, _), (101, _), (102, _), (103, _), (104, _), (105, _), (106, _), (107, _), (108, _), (109, _), (110, _), (111, _), (112, _)]) (.cons rfl rfl (.cons rfl rfl (.cons rfl rfl (.cons rfl rfl (.cons rfl rfl (.cons rfl rfl (.cons rfl rfl (.cons rfl rfl (.cons rfl rfl (.cons rfl rfl (.cons rfl rfl (.cons rfl rfl (.cons rfl rfl (.cons rfl rfl (.cons rfl rfl (.cons rfl rfl (.cons rfl rfl (.cons rfl rfl (.cons rfl rfl (.cons rfl rfl (.cons rfl rfl (.cons rfl rfl (.cons rfl rfl (.cons rfl rfl (.cons rfl rfl (.cons rfl rfl (.cons rfl rfl (.cons rfl rfl (.cons rfl rfl (.cons rfl rfl (.cons rfl rfl (.cons rfl rfl (.cons rfl rfl (.cons rfl rfl (.cons rfl rfl (.cons rfl rfl (.cons rfl rfl (.cons rfl rfl (.cons rfl rfl (.cons rfl rfl (.cons rfl rfl (.cons rfl rfl (.cons rfl rfl (.cons rfl rfl .nil)))))))))))))))))))))))))))))))))))))))))))) ?_
                  refine CJ_then rfl rfl ?_
                  refine CJ_open (RefP_opens _ _ _ _) (by first | ((repeat (first | with_reducible exact .here | apply Pick.there)); done) | ((repeat (first | exact .here | apply Pick.there)); done)) ?_
                  rintro _ ⟨ra, rcap, rfl⟩
                  refine CJ_app2 ?_
                  refine CJ_know (Row_know (T := RefT) (by first | ((repeat (first | with_reducible exact .here | apply Pick.there)); done) | ((repeat (first | exact .here | apply Pick.there)); done))) ?_
                  intro hkn
                  obtain ⟨ga, rfl⟩ : ∃ ga, ra = some ga := by
                    cases ra with
                    | none => obtain ⟨_, rfl⟩ := hkn.2.2 rfl; simp at hk
                    | some ga => exact ⟨ga, rfl⟩
                  refine CJ_draw (.q 0 (.q 1 (.q 2 (.q 3 (.q 4 (.q 5 (.q 6 (.q 7 (.e 8 .done))))))))) (by kernel_rfl) (by kernel_rfl) (by kernel_rfl) ?_
                  refine SJ_q rfl (want_none rfl) rfl (fun _ _ => Op_move rfl) ?_
                  refine SJ_q rfl (want_none rfl) rfl (fun _ _ => Op_nilCheck rfl) ?_
                  refine SJ_q rfl (want_none rfl) rfl (fun _ _ => Op_fieldAddr (o' := 0) rfl Try.underlying29 rfl sz27 rfl rfl) ?_
                  refine SJ_load rfl (want_none rfl) rfl rfl (load_cell Try.underlying27 rfl (by first | ((repeat (first | with_reducible exact .here | apply Pick.there)); done) | ((repeat (first | exact .here | apply Pick.there)); done)) Nth.z) ?_
                  refine SJ_q rfl (want_none rfl) rfl (fun _ _ => Op_fieldAddr (o' := 3) rfl Try.underlying32 rfl sz3 rfl rfl) ?_
                  refine SJ_load rfl (want_none rfl) rfl rfl (load_cell Try.underlying3 rfl (by first | ((repeat (first | with_reducible exact .here | apply Pick.there)); done) | ((repeat (first | exact .here | apply Pick.there)); done)) (Nth.s (Nth.s (Nth.s Nth.z)))) ?_
                  refine SJ_q rfl (want_none rfl) rfl (fun _ _ => Op_indexAddr (o' := k * RefT.sz + 0) rfl rfl Try.underlying27 sz36 (by omega) (by omega) (by simp [RefT])) ?_
                  refine SJ_load rfl (want_none rfl) rfl rfl (load_row (o := 0) (vs := [_, _, _, _]) Try.underlying36 sz36 (by first | ((repeat (first | with_reducible exact .here | apply Pick.there)); done) | ((repeat (first | exact .here | apply Pick.there)); done)) hk rfl (by rfl)) ?_
                  refine SJ_d0 (rd' := []) [] rfl (want_none rfl) (Op_store (cs' := #[_, _, _, _]) rfl rfl sz36 (by rfl) (by simp [Value.cells, Value.oneCell']) (by repeat (first | exact .here | apply Repl.there)) rfl (free_zero _ _) (by rfl)) (by kernel_rfl) rfl trivial ?_
                  refine SJ_done ?_
                  refine NJ_imp (.swap (C := [pt gw (.cells #[.slice (sl (some ga)) (ps).length rcap, .int .i64 room, .int .i64 (sent)] 29 (0, 0)), Row RefT (some ga) rcap (ps)]) (.cons (by first | ((repeat (first | with_reducible exact .here | apply Pick.there)); done) | ((repeat (first | exact .here | apply Pick.there)); done)) (.cons (by first | ((repeat (first | with_reducible exact .here | apply Pick.there)); done) | ((repeat (first | exact .here | apply Pick.there)); done)) (Imp.refl _))) (RefP_close rfl) (.refl _)) (NJ_app1 ?_)
                  refine NJ_then ?_
                  refine CJ_env (E' := [(1, _), (5, _), (6, _), (7, _), (8, _), (9, _), (10, _), (13, _), (14, _), (15, _), (33, _), (34, _), (35, _), (36, _), (37, _), (38, _), (39, _), (40, _), (43, _), (44, _), (45, _), (46, _), (47, _), (48, _), (49, _), (50, _), (51, _), (52, _), (53, _), (54, _), (99, _), (100, _), (101, _), (102, _), (103, _), (104, _), (105, _), (106, _), (107, _), (108, _), (109, _), (110, _), (111, _), (112, _), (113, _), (114, _), (115, _), (116, _), (117, _), (118, _), (119, _), (120, _)]) (.cons rfl rfl (.cons rfl rfl (.cons rfl rfl (.cons rfl rfl (.cons rfl rfl (.cons rfl rfl (.cons rfl rfl (.cons rfl rfl (.cons rfl rfl (.cons rfl rfl (.cons rfl rfl (.cons rfl rfl (.cons rfl rfl (.cons rfl rfl (.cons rfl rfl (.cons rfl rfl (.cons rfl rfl (.cons rfl rfl (.cons rfl rfl (.cons rfl rfl (.cons rfl rfl (.cons rfl rfl (.cons rfl rfl (.cons rfl rfl (.cons rfl rfl (.cons rfl rfl (.cons rfl rfl (.cons rfl rfl (.cons rfl rfl (.cons rfl rfl (.cons rfl rfl (.cons rfl rfl (.cons rfl rfl (.cons rfl rfl (.cons rfl rfl (.cons rfl rfl (.cons rfl rfl (.cons rfl rfl (.cons rfl rfl (.cons rfl rfl (.cons rfl rfl (.cons rfl rfl (.cons rfl rfl (.cons rfl rfl (.cons rfl rfl (.cons rfl rfl (.cons rfl rfl (.cons rfl rfl (.cons rfl rfl (.cons rfl rfl (.cons rfl rfl (.cons rfl rfl .nil)))))))))))))))))))))))))))))))))))))))))))))))))))) ?_
                  refine CJ_seq ?_
                  refine CJ_draw (.q 0 (.q 1 (.q 2 (.q 3 (.q 4 (.q 5 (.e 6 (.e 7 (.q 8 .done))))))))) (by kernel_rfl) (by kernel_rfl) (by kernel_rfl) ?_
                  refine SJ_load rfl (want_none rfl) rfl rfl (load_struct (o := 0) (vs := [_, _, _]) Try.underlying38 sz38 (by first | ((repeat (first | with_reducible exact .here | apply Pick.there)); done) | ((repeat (first | exact .here | apply Pick.there)); done)) (by rfl) rfl) ?_
                  refine SJ_q rfl (want_none rfl) rfl (fun _ _ => Op_move rfl) ?_
                  refine SJ_load rfl (want_none rfl) rfl rfl (load_struct (o := 0) (vs := [_, _, _, _]) Try.underlying36 sz36 (by first | ((repeat (first | with_reducible exact .here | apply Pick.there)); done) | ((repeat (first | exact .here | apply Pick.there)); done)) (by rfl) rfl) ?_
                  refine SJ_q rfl (want_none rfl) rfl (fun _ _ => Op_move rfl) ?_
                  refine SJ_q rfl (want_none rfl) rfl (fun _ _ => Op_fieldAddr (o' := 3) rfl Try.underlying32 rfl sz3 rfl rfl) ?_
                  refine SJ_load rfl (want_none rfl) rfl rfl (load_cell Try.underlying3 rfl (by first | ((repeat (first | with_reducible exact .here | apply Pick.there)); done) | ((repeat (first | exact .here | apply Pick.there)); done)) (Nth.s (Nth.s (Nth.s Nth.z)))) ?_
                  refine SJ_p (rd' := [⟨2, _, _, _⟩, ⟨0, _, _, _⟩]) [2, 0] rfl (want_none rfl) rfl (Op_call (vs := [_, _]) Try.func9 rfl rfl (RHas_t _ _ _ _ _ hin) rfl (.cons (by first | ((repeat (first | with_reducible exact .here | apply Pick.there)); done) | ((repeat (first | exact .here | apply Pick.there)); done)) (Imp.refl _))) (by kernel_rfl) rfl ?_
                  rintro _ _ ⟨_, ⟨rfl, rfl⟩, rfl⟩
                  refine OS_app1 ?_
                  refine ⟨⟨(load_struct (o := 0) (vs := [_, _, _, _]) Try.underlying36 sz36 (by first | ((repeat (first | with_reducible exact .here | apply Pick.there)); done) | ((repeat (first | exact .here | apply Pick.there)); done)) (by rfl) rfl), ⟨(load_struct (o := 0) (vs := [_, _, _]) Try.underlying38 sz38 (by first | ((repeat (first | with_reducible exact .here | apply Pick.there)); done) | ((repeat (first | exact .here | apply Pick.there)); done)) (by rfl) rfl), trivial⟩⟩, ?_⟩
                  refine SJ_p (rd' := []) [] rfl (want_none rfl) rfl (Op_call (vs := [_, _, _, _]) Try.func10 rfl rfl (same_eq p.f p.t (some g105) p.bs.length p.bs true p.turned) rfl (.cons (by first | ((repeat (first | with_reducible exact .here | apply Pick.there)); done) | ((repeat (first | exact .here | apply Pick.there)); done)) (Imp.refl _))) (by kernel_rfl) rfl ?_
                  rintro _ _ ⟨_, ⟨rfl, rfl⟩, rfl⟩
                  refine OS_app1 ?_
                  refine ⟨trivial, ?_⟩
                  refine SJ_q rfl (want_none rfl) rfl (fun _ _ => Op_assign rfl) ?_
                  refine SJ_done ?_
                  refine NJ_then ?_
                  refine CJ_env (E' := [(1, _), (5, _), (6, _), (7, _), (8, _), (9, _), (10, _), (13, _), (14, _), (15, _), (33, _), (34, _), (35, _), (36, _), (37, _), (38, _), (39, _), (40, _), (43, _), (44, _), (45, _), (46, _), (47, _), (48, _), (49, _), (50, _), (51, _), (52, _), (53, _), (54, _), (99, _), (100, _), (101, _), (102, _), (103, _), (104, _), (105, _), (106, _), (107, _), (108, _), (109, _), (110, _), (111, _), (112, _), (113, _), (114, _), (115, _), (116, _), (117, _), (118, _), (119, _), (120, _), (121, _), (122, _), (123, _), (124, _), (125, _), (126, _), (127, _), (128, _)]) (.cons rfl rfl (.cons rfl rfl (.cons rfl rfl (.cons rfl rfl (.cons rfl rfl (.cons rfl rfl (.cons rfl rfl (.cons rfl rfl (.cons rfl rfl (.cons rfl rfl (.cons rfl rfl (.cons rfl rfl (.cons rfl rfl (.cons rfl rfl (.cons rfl rfl (.cons rfl rfl (.cons rfl rfl (.cons rfl rfl (.cons rfl rfl (.cons rfl rfl (.cons rfl rfl (.cons rfl rfl (.cons rfl rfl (.cons rfl rfl (.cons rfl rfl (.cons rfl rfl (.cons rfl rfl (.cons rfl rfl (.cons rfl rfl (.cons rfl rfl (.cons rfl rfl (.cons rfl rfl (.cons rfl rfl (.cons rfl rfl (.cons rfl rfl (.cons rfl rfl (.cons rfl rfl (.cons rfl rfl (.cons rfl rfl (.cons rfl rfl (.cons rfl rfl (.cons rfl rfl (.cons rfl rfl (.cons rfl rfl (.cons rfl rfl (.cons rfl rfl (.cons rfl rfl (.cons rfl rfl (.cons rfl rfl (.cons rfl rfl (.cons rfl rfl (.cons rfl rfl (.cons rfl rfl (.cons rfl rfl (.cons rfl rfl (.cons rfl rfl (.cons rfl rfl (.cons rfl rfl (.cons rfl rfl (.cons rfl rfl .nil)))))))))))))))))))))))))))))))))))))))))))))))))))))))))))) ?_
                  refine CJ_seq ?_
                  refine CJ_region ?_
                  refine RJ_q (Op_fieldAddr (o' := 2) rfl Try.underlying38 rfl sz30 rfl rfl) rfl ?_
                  refine RJ_q (Op_load rfl (load_cell Try.underlying30 rfl (by first | ((repeat (first | with_reducible exact .here | apply Pick.there)); done) | ((repeat (first | exact .here | apply Pick.there)); done)) (Nth.s (Nth.s Nth.z)))) rfl ?_
                  refine RJ_q (Op_len_slice rfl Try.underlying30) rfl ?_
                  refine RJ_q (Op_move rfl) rfl ?_
                  refine RJ_nil ?_
                  refine NJ_then ?_
                  refine CJ_env (E' := [(1, _), (5, _), (6, _), (7, _), (8, _), (9, _), (10, _), (13, _), (14, _), (15, _), (33, _), (34, _), (35, _), (36, _), (37, _), (38, _), (39, _), (40, _), (43, _), (44, _), (45, _), (46, _), (47, _), (48, _), (49, _), (50, _), (51, _), (52, _), (53, _), (54, _), (99, _), (100, _), (101, _), (102, _), (103, _), (104, _), (105, _), (106, _), (107, _), (108, _), (109, _), (110, _), (111, _), (112, _), (113, _), (114, _), (115, _), (116, _), (117, _), (118, _), (119, _), (120, _), (121, _), (122, _), (123, _), (124, _), (125, _), (126, _), (127, _), (128, _), (129, _), (130, _), (131, _), (132, _)]) (.cons rfl rfl (.cons rfl rfl (.cons rfl rfl (.cons rfl rfl (.cons rfl rfl (.cons rfl rfl (.cons rfl rfl (.cons rfl rfl (.cons rfl rfl (.cons rfl rfl (.cons rfl rfl (.cons rfl rfl (.cons rfl rfl (.cons rfl rfl (.cons rfl rfl (.cons rfl rfl (.cons rfl rfl (.cons rfl rfl (.cons rfl rfl (.cons rfl rfl (.cons rfl rfl (.cons rfl rfl (.cons rfl rfl (.cons rfl rfl (.cons rfl rfl (.cons rfl rfl (.cons rfl rfl (.cons rfl rfl (.cons rfl rfl (.cons rfl rfl (.cons rfl rfl (.cons rfl rfl (.cons rfl rfl (.cons rfl rfl (.cons rfl rfl (.cons rfl rfl (.cons rfl rfl (.cons rfl rfl (.cons rfl rfl (.cons rfl rfl (.cons rfl rfl (.cons rfl rfl (.cons rfl rfl (.cons rfl rfl (.cons rfl rfl (.cons rfl rfl (.cons rfl rfl (.cons rfl rfl (.cons rfl rfl (.cons rfl rfl (.cons rfl rfl (.cons rfl rfl (.cons rfl rfl (.cons rfl rfl (.cons rfl rfl (.cons rfl rfl (.cons rfl rfl (.cons rfl rfl (.cons rfl rfl (.cons rfl rfl (.cons rfl rfl (.cons rfl rfl (.cons rfl rfl (.cons rfl rfl .nil)))))))))))))))))))))))))))))))))))))))))))))))))))))))))))))))) ?_
                  refine CJ_block ?_
                  refine CJ_loop (fun E H m => ∃ (q : Nat) (ys : List UInt8), (ys.length = p.bs.length ∧ q ≤ p.bs.length) ∧ E = [(1, .slice a ops.length cap), (5, .pointer (some ⟨gn, 0, none⟩)), (6, .pointer (some ⟨gw, 0, none⟩)), (7, .pointer none), (8, .int .i64 (i : Int)), (10, .bool true), (13, .pointer (some ⟨b13, 0, none⟩)), (131, .int .i64 ((p.bs.length : Nat) : Int)), (132, .int .i64 (q : Int))] ∧ H = [Row U8 (some g105) p.bs.length ys, NetP gn room ps sent, RefP gw room ps sent, old W, pt b13 (.cells #[.int .i64 p.f, .int .i64 p.t, .slice (sl (some g105)) p.bs.length p.bs.length] 38 (0, 0))] ++ R ∧ m = p.bs.length - q) (E' := [(1, .slice a ops.length cap), (5, .pointer (some ⟨gn, 0, none⟩)), (6, .pointer (some ⟨gw, 0, none⟩)), (7, .pointer none), (8, .int .i64 (i : Int)), (10, .bool true), (13, .pointer (some ⟨b13, 0, none⟩)), (131, .int .i64 ((p.bs.length : Nat) : Int)), (132, .int .i64 0)]) (H' := [Row U8 (some g105) p.bs.length (p.bs), NetP gn room ps sent, RefP gw room ps sent, old W, pt b13 (.cells #[.int .i64 p.f, .int .i64 p.t, .slice (sl (some g105)) p.bs.length p.bs.length] 38 (0, 0))] ++ R) (m := p.bs.length - 0) ⟨0, p.bs, ⟨rfl, Nat.zero_le _⟩, rfl, rfl, rfl⟩ (.cons rfl (by first | rfl | (simp; done)) (.cons rfl (by first | rfl | (simp; done)) (.cons rfl (by first | rfl | (simp; done)) (.cons rfl (by first | rfl | (simp; done)) (.cons rfl (by first | rfl | (simp; done)) (.cons rfl (by first | rfl | (simp; done)) (.cons rfl (by first | rfl | (simp; done)) (.cons rfl (by first | rfl | (simp; done)) (.cons rfl (by first | rfl | (simp; done)) .nil))))))))) (.cons (by first | ((repeat (first | with_reducible exact .here | apply Pick.there)); done) | ((repeat (first | exact .here | apply Pick.there)); done)) (.cons (by first | ((repeat (first | with_reducible exact .here | apply Pick.there)); done) | ((repeat (first | exact .here | apply Pick.there)); done)) (.cons (by first | ((repeat (first | with_reducible exact .here | apply Pick.there)); done) | ((repeat (first | exact .here | apply Pick.there)); done)) (.cons (by first | ((repeat (first | with_reducible exact .here | apply Pick.there)); done) | ((repeat (first | exact .here | apply Pick.there)); done)) (.cons (by first | ((repeat (first | with_reducible exact .here | apply Pick.there)); done) | ((repeat (first | exact .here | apply Pick.there)); done)) (by repeat (first | exact Imp.refl _ | refine Imp.skip ?_))))))) ?_
                  rintro _ _ _ ⟨q, ys, hokq, rfl, rfl, rfl⟩
                  refine CJ_app5 ?_
                  refine CJ_seq ?_
                  refine CJ_region ?_
                  refine RJ_q (Op_lss rfl rfl) rfl ?_
                  refine RJ_nil ?_
                  refine NJ_then ?_
                  refine CJ_env (E' := [(1, _), (5, _), (6, _), (7, _), (8, _), (10, _), (13, _), (131, _), (132, _), (133, _)]) (.cons rfl rfl (.cons rfl rfl (.cons rfl rfl (.cons rfl rfl (.cons rfl rfl (.cons rfl rfl (.cons rfl rfl (.cons rfl rfl (.cons rfl rfl (.cons rfl rfl .nil)))))))))) ?_
                  refine CJ_seq ?_
                  refine CJ_cond rfl ?_ ?_
                  · intro hcq
                    have hq : q < ys.length := by have := of_decide_eq_true hcq; omega
                    obtain ⟨y, hy⟩ : ∃ y, ys[q]? = some y := ⟨ys[q], List.getElem?_eq_getElem hq⟩
                    refine CJ_skip ?_
                    refine NJ_then ?_
                    refine CJ_env (E' := [(1, _), (5, _), (6, _), (7, _), (8, _), (10, _), (13, _), (131, _), (132, _), (133, _)]) (.cons rfl rfl (.cons rfl rfl (.cons rfl rfl (.cons rfl rfl (.cons rfl rfl (.cons rfl rfl (.cons rfl rfl (.cons rfl rfl (.cons rfl rfl (.cons rfl rfl .nil)))))))))) ?_
                    refine CJ_seq ?_
                    refine CJ_block ?_
                    refine CJ_seq ?_
                    refine CJ_region ?_
                    refine RJ_q (Op_move rfl) rfl ?_
                    refine RJ_q (Op_assign rfl) rfl ?_
                    refine RJ_nil ?_
                    refine NJ_then ?_
                    refine CJ_env (E' := [(1, _), (5, _), (6, _), (7, _), (8, _), (10, _), (13, _), (16, _), (131, _), (132, _), (133, _), (134, _)]) (.cons rfl rfl (.cons rfl rfl (.cons rfl rfl (.cons rfl rfl (.cons rfl rfl (.cons rfl rfl (.cons rfl rfl (.cons rfl rfl (.cons rfl rfl (.cons rfl rfl (.cons rfl rfl (.cons rfl rfl .nil)))))))))))) ?_
                    refine CJ_region ?_
                    refine RJ_q (Op_fieldAddr (o' := 2) rfl Try.underlying38 rfl sz30 rfl rfl) rfl ?_
                    refine RJ_q (Op_load rfl (load_cell Try.underlying30 rfl (by first | ((repeat (first | with_reducible exact .here | apply Pick.there)); done) | ((repeat (first | exact .here | apply Pick.there)); done)) (Nth.s (Nth.s Nth.z)))) rfl ?_
                    refine RJ_q (Op_move rfl) rfl ?_
                    refine RJ_q (Op_indexAddr (o' := q * U8.sz + 0) rfl rfl Try.underlying30 sz5 (by omega) (by omega) (by simp [U8])) rfl ?_
                    refine RJ_q (Op_load rfl (load_row_cell (o := 0) Try.underlying5 rfl (by first | ((repeat (first | with_reducible exact .here | apply Pick.there)); done) | ((repeat (first | exact .here | apply Pick.there)); done)) hy Nth.z)) rfl ?_
                    refine RJ_q (Op_inc8 rfl rfl) rfl ?_
                    refine RJ_q (Op_indexAddr (o' := q * U8.sz + 0) rfl rfl Try.underlying30 sz5 (by omega) (by omega) (by simp [U8])) rfl ?_
                    refine RJ_d0 (Op_store_row (i := q) (o := 0) (u' := (y + 1)) rfl rfl sz5 (by rfl) (by simp [Value.cells, Value.oneCell']) (by repeat (first | exact .here | apply Repl.there)) hy (by decide) (by rfl)) ?_
                    refine RJ_nil ?_
                    refine NJ_blk ?_
                    refine NJ_then ?_
                    refine CJ_env (E' := [(1, _), (5, _), (6, _), (7, _), (8, _), (10, _), (13, _), (16, _), (131, _), (132, _), (133, _), (134, _), (135, _), (136, _), (137, _), (138, _), (139, _), (140, _), (141, _)]) (.cons rfl rfl (.cons rfl rfl (.cons rfl rfl (.cons rfl rfl (.cons rfl rfl (.cons rfl rfl (.cons rfl rfl (.cons rfl rfl (.cons rfl rfl (.cons rfl rfl (.cons rfl rfl (.cons rfl rfl (.cons rfl rfl (.cons rfl rfl (.cons rfl rfl (.cons rfl rfl (.cons rfl rfl (.cons rfl rfl (.cons rfl rfl .nil))))))))))))))))))) ?_
                    refine CJ_region ?_
                    refine RJ_q (Op_addN (q + 1) rfl rfl (by omega) (by omega)) rfl ?_
                    refine RJ_q (Op_move rfl) rfl ?_
                    refine RJ_nil ?_
                    refine NJ_back (E' := [(1, .slice a ops.length cap), (5, .pointer (some ⟨gn, 0, none⟩)), (6, .pointer (some ⟨gw, 0, none⟩)), (7, .pointer none), (8, .int .i64 (i : Int)), (10, .bool true), (13, .pointer (some ⟨b13, 0, none⟩)), (131, .int .i64 ((p.bs.length : Nat) : Int)), (132, .int .i64 ((q + 1 : Nat) : Int))]) (m' := p.bs.length - (q + 1)) ⟨q + 1, ys.set q (y + 1), ⟨by rw [List.length_set]; exact hokq.1, by omega⟩, rfl, rfl, rfl⟩ (by omega) (.cons rfl (by first | rfl | (simp; done)) (.cons rfl (by first | rfl | (simp; done)) (.cons rfl (by first | rfl | (simp; done)) (.cons rfl (by first | rfl | (simp; done)) (.cons rfl (by first | rfl | (simp; done)) (.cons rfl (by first | rfl | (simp; done)) (.cons rfl (by first | rfl | (simp; done)) (.cons rfl (by first | rfl | (simp; done)) (.cons rfl (by first | rfl | (simp; done)) .nil))))))))) (.cons (by first | ((repeat (first | with_reducible exact .here | apply Pick.there)); done) | ((repeat (first | exact .here | apply Pick.there)); done)) (.cons (by first | ((repeat (first | with_reducible exact .here | apply Pick.there)); done) | ((repeat (first | exact .here | apply Pick.there)); done)) (.cons (by first | ((repeat (first | with_reducible exact .here | apply Pick.there)); done) | ((repeat (first | exact .here | apply Pick.there)); done)) (.cons (by first | ((repeat (first | with_reducible exact .here | apply Pick.there)); done) | ((repeat (first | exact .here | apply Pick.there)); done)) (.cons (by first | ((repeat (first | with_reducible exact .here | apply Pick.there)); done) | ((repeat (first | exact .here | apply Pick.there)); done)) (by repeat (first | exact Imp.refl _ | refine Imp.skip ?_)))))))
                  · intro hcq
                    skip
                    refine CJ_exit ?_
                    refine NJ_then_x ?_
                    refine NJ_then_x ?_
                    refine NJ_blk_hit ?_
                    refine NJ_blk ?_
                    refine NJ_meet (E' := [(1, .slice a ops.length cap), (5, .pointer (some ⟨gn, 0, none⟩)), (6, .pointer (some ⟨gw, 0, none⟩)), (7, .pointer none), (8, .int .i64 (i : Int)), (10, .bool true)]) (H' := [NetP gn room ps sent, RefP gw room ps sent, old W] ++ R) ⟨ps, sent, ⟨by omega, by omega, by omega, hbs⟩, rfl, rfl⟩ (.cons rfl (by first | rfl | (simp; done)) (.cons rfl (by first | rfl | (simp; done)) (.cons rfl (by first | rfl | (simp; done)) (.cons rfl (by first | rfl | (simp; done)) (.cons rfl (by first | rfl | (simp; done)) (.cons rfl (by first | rfl | (simp; done)) .nil)))))) (.cons (by first | ((repeat (first | with_reducible exact .here | apply Pick.there)); done) | ((repeat (first | exact .here | apply Pick.there)); done)) (.cons (by first | ((repeat (first | with_reducible exact .here | apply Pick.there)); done) | ((repeat (first | exact .here | apply Pick.there)); done)) (.cons (by first | ((repeat (first | with_reducible exact .here | apply Pick.there)); done) | ((repeat (first | exact .here | apply Pick.there)); done)) (by repeat (first | exact Imp.refl _ | refine Imp.skip ?_)))))
                · skip
                  have hno : oi < 0 ∨ (ps.length : Int) ≤ oi := by omega
                  refine CJ_region ?_
                  refine RJ_q (Op_move rfl) rfl ?_
                  refine RJ_q (Op_fieldAddr (o' := 3) rfl Try.underlying32 rfl sz3 rfl rfl) rfl ?_
                  refine RJ_q (Op_load rfl (load_cell Try.underlying3 rfl (by first | ((repeat (first | with_reducible exact .here | apply Pick.there)); done) | ((repeat (first | exact .here | apply Pick.there)); done)) (Nth.s (Nth.s (Nth.s Nth.z))))) rfl ?_
                  refine RJ_p rfl (Op_call (vs := [_, _]) Try.func8 rfl rfl (Look_no _ _ _ _ _ hno) rfl (.cons (by first | ((repeat (first | with_reducible exact .here | apply Pick.there)); done) | ((repeat (first | exact .here | apply Pick.there)); done)) (Imp.refl _))) ?_
                  rintro _ _ ⟨_, ⟨rfl, rfl⟩, rfl⟩
                  refine RJ_app1 ?_
                  refine RJ_q (Op_move rfl) rfl ?_
                  refine RJ_q (Op_extract rfl rfl) rfl ?_
                  refine RJ_q (Op_extract rfl rfl) rfl ?_
                  refine RJ_p rfl (Op_alloc zr38) ?_
                  rintro _ _ ⟨b13, rfl, rfl⟩
                  refine RJ_d0 (Op_store (cs' := #[_, _, _]) rfl rfl sz38 (by rfl) (by simp [Value.cells, Value.oneCell']) (by repeat (first | exact .here | apply Repl.there)) rfl (free_zero _ _) (by rfl)) ?_
                  refine RJ_q (Op_assign rfl) rfl ?_
                  refine RJ_nil ?_
                  refine NJ_then ?_
                  refine CJ_env (E' := [(1, _), (5, _), (6, _), (7, _), (8, _), (9, _), (10, _), (13, _), (14, _), (33, _), (34, _), (35, _), (36, _), (37, _), (38, _), (39, _), (40, _), (43, _), (44, _), (45, _), (46, _), (47, _), (48, _), (49, _), (50, _), (51, _), (52, _), (53, _), (54, _), (99, _), (100, _), (101, _), (102, _), (103, _), (104, _), (105, _), (106, _), (107, _)]) (.cons rfl rfl (.cons rfl rfl (.cons rfl rfl (.cons rfl rfl (.cons rfl rfl (.cons rfl rfl (.cons rfl rfl (.cons rfl rfl (.cons rfl rfl (.cons rfl rfl (.cons rfl rfl (.cons rfl rfl (.cons rfl rfl (.cons rfl rfl (.cons rfl rfl (.cons rfl rfl (.cons rfl rfl (.cons rfl rfl (.cons rfl rfl (.cons rfl rfl (.cons rfl rfl (.cons rfl rfl (.cons rfl rfl (.cons rfl rfl (.cons rfl rfl (.cons rfl rfl (.cons rfl rfl (.cons rfl rfl (.cons rfl rfl (.cons rfl rfl (.cons rfl rfl (.cons rfl rfl (.cons rfl rfl (.cons rfl rfl (.cons rfl rfl (.cons rfl rfl (.cons rfl rfl (.cons rfl rfl .nil)))))))))))))))))))))))))))))))))))))) ?_
                  refine CJ_seq ?_
                  refine CJ_region ?_
                  refine RJ_q (Op_build (vs := []) (cells := [_, _, _, _]) Try.underlying36 zr36 rfl pl36 (by rfl)) rfl ?_
                  refine RJ_p rfl (Op_alloc zr36) ?_
                  rintro _ _ ⟨b15, rfl, rfl⟩
                  refine RJ_d0 (Op_store (cs' := #[_, _, _, _]) rfl rfl sz36 (by rfl) (by simp [Value.cells, Value.oneCell']) (by repeat (first | exact .here | apply Repl.there)) rfl (free_zero _ _) (by rfl)) ?_
                  refine RJ_nil ?_
                  refine NJ_then ?_
                  refine CJ_env (E' := [(1, _), (5, _), (6, _), (7, _), (8, _), (9, _), (10, _), (13, _), (14, _), (15, _), (33, _), (34, _), (35, _), (36, _), (37, _), (38, _), (39, _), (40, _), (43, _), (44, _), (45, _), (46, _), (47, _), (48, _), (49, _), (50, _), (51, _), (52, _), (53, _), (54, _), (99, _), (100, _), (101, _), (102, _), (103, _), (104, _), (105, _), (106, _), (107, _), (108, _)]) (.cons rfl rfl (.cons rfl rfl (.cons rfl rfl (.cons rfl rfl (.cons rfl rfl (.cons rfl rfl (.cons rfl rfl (.cons rfl rfl (.cons rfl rfl (.cons rfl rfl (.cons rfl rfl (.cons rfl rfl (.cons rfl rfl (.cons rfl rfl (.cons rfl rfl (.cons rfl rfl (.cons rfl rfl (.cons rfl rfl (.cons rfl rfl (.cons rfl rfl (.cons rfl rfl (.cons rfl rfl (.cons rfl rfl (.cons rfl rfl (.cons rfl rfl (.cons rfl rfl (.cons rfl rfl (.cons rfl rfl (.cons rfl rfl (.cons rfl rfl (.cons rfl rfl (.cons rfl rfl (.cons rfl rfl (.cons rfl rfl (.cons rfl rfl (.cons rfl rfl (.cons rfl rfl (.cons rfl rfl (.cons rfl rfl (.cons rfl rfl .nil)))))))))))))))))))))))))))))))))))))))) ?_
                  refine CJ_seq ?_
                  refine CJ_seq ?_
                  refine CJ_region ?_
                  refine RJ_q (Op_move rfl) rfl ?_
                  refine RJ_q (Op_fieldAddr (o' := 3) rfl Try.underlying32 rfl sz3 rfl rfl) rfl ?_
                  refine RJ_q (Op_load rfl (load_cell Try.underlying3 rfl (by first | ((repeat (first | with_reducible exact .here | apply Pick.there)); done) | ((repeat (first | exact .here | apply Pick.there)); done)) (Nth.s (Nth.s (Nth.s Nth.z))))) rfl ?_
                  refine RJ_p rfl (Op_call (vs := [_, _]) Try.func9 rfl rfl (RHas_f _ _ _ _ _ hin) rfl (.cons (by first | ((repeat (first | with_reducible exact .here | apply Pick.there)); done) | ((repeat (first | exact .here | apply Pick.there)); done)) (Imp.refl _))) ?_
                  rintro _ _ ⟨_, ⟨rfl, rfl⟩, rfl⟩
                  refine RJ_app1 ?_
                  refine RJ_nil ?_
                  refine NJ_then ?_
                  refine CJ_env (E' := [(1, _), (5, _), (6, _), (7, _), (8, _), (9, _), (10, _), (13, _), (14, _), (15, _), (33, _), (34, _), (35, _), (36, _), (37, _), (38, _), (39, _), (40, _), (43, _), (44, _), (45, _), (46, _), (47, _), (48, _), (49, _), (50, _), (51, _), (52, _), (53, _), (54, _), (99, _), (100, _), (101, _), (102, _), (103, _), (104, _), (105, _), (106, _), (107, _), (108, _), (109, _), (110, _), (111, _), (112, _)]) (.cons rfl rfl (.cons rfl rfl (.cons rfl rfl (.cons rfl rfl (.cons rfl rfl (.cons rfl rfl (.cons rfl rfl (.cons rfl rfl (.cons rfl rfl (.cons rfl rfl (.cons rfl rfl (.cons rfl rfl (.cons rfl rfl (.cons rfl rfl (.cons rfl rfl (.cons rfl rfl (.cons rfl rfl (.cons rfl rfl (.cons rfl rfl (.cons rfl rfl (.cons rfl rfl (.cons rfl rfl (.cons rfl rfl (.cons rfl rfl (.cons rfl rfl (.cons rfl rfl (.cons rfl rfl (.cons rfl rfl (.cons rfl rfl (.cons rfl rfl (.cons rfl rfl (.cons rfl rfl (.cons rfl rfl (.cons rfl rfl (.cons rfl rfl (.cons rfl rfl (.cons rfl rfl (.cons rfl rfl (.cons rfl rfl (.cons rfl rfl (.cons rfl rfl (.cons rfl rfl (.cons rfl rfl (.cons rfl rfl .nil)))))))))))))))))))))))))))))))))))))))))))) ?_
                  refine CJ_else rfl rfl ?_
                  refine CJ_skip ?_
                  refine NJ_then ?_
                  refine CJ_env (E' := [(1, _), (5, _), (6, _), (7, _), (8, _), (9, _), (10, _), (13, _), (14, _), (15, _), (33, _), (34, _), (35, _), (36, _), (37, _), (38, _), (39, _), (40, _), (43, _), (44, _), (45, _), (46, _), (47, _), (48, _), (49, _), (50, _), (51, _), (52, _), (53, _), (54, _), (99, _), (100, _), (101, _), (102, _), (103, _), (104, _), (105, _), (106, _), (107, _), (108, _), (109, _), (110, _), (111, _), (112, _)]) (.cons rfl rfl (.cons rfl rfl (.cons rfl rfl (.cons rfl rfl (.cons rfl rfl (.cons rfl rfl (.cons rfl rfl (.cons rfl rfl (.cons rfl rfl (.cons rfl rfl (.cons rfl rfl (.cons rfl rfl (.cons rfl rfl (.cons rfl rfl (.cons rfl rfl (.cons rfl rfl (.cons rfl rfl (.cons rfl rfl (.cons rfl rfl (.cons rfl rfl (.cons rfl rfl (.cons rfl rfl (.cons rfl rfl (.cons rfl rfl (.cons rfl rfl (.cons rfl rfl (.cons rfl rfl (.cons rfl rfl (.cons rfl rfl (.cons rfl rfl (.cons rfl rfl (.cons rfl rfl (.cons rfl rfl (.cons rfl rfl (.cons rfl rfl (.cons rfl rfl (.cons rfl rfl (.cons rfl rfl (.cons rfl rfl (.cons rfl rfl (.cons rfl rfl (.cons rfl rfl (.cons rfl rfl (.cons rfl rfl .nil)))))))))))))))))))))))))))))))))))))))))))) ?_
                  refine CJ_seq ?_
                  refine CJ_draw (.q 0 (.q 1 (.q 2 (.q 3 (.q 4 (.q 5 (.e 6 (.e 7 (.q 8 .done))))))))) (by kernel_rfl) (by kernel_rfl) (by kernel_rfl) ?_
                  refine SJ_load rfl (want_none rfl) rfl rfl (load_struct (o := 0) (vs := [_, _, _]) Try.underlying38 sz38 (by first | ((repeat (first | with_reducible exact .here | apply Pick.there)); done) | ((repeat (first | exact .here | apply Pick.there)); done)) (by rfl) rfl) ?_
                  refine SJ_q rfl (want_none rfl) rfl (fun _ _ => Op_move rfl) ?_
                  refine SJ_load rfl (want_none rfl) rfl rfl (load_struct (o := 0) (vs := [_, _, _, _]) Try.underlying36 sz36 (by first | ((repeat (first | with_reducible exact .here | apply Pick.there)); done) | ((repeat (first | exact .here | apply Pick.there)); done)) (by rfl) rfl) ?_
                  refine SJ_q rfl (want_none rfl) rfl (fun _ _ => Op_move rfl) ?_
                  refine SJ_q rfl (want_none rfl) rfl (fun _ _ => Op_fieldAddr (o' := 3) rfl Try.underlying32 rfl sz3 rfl rfl) ?_
                  refine SJ_load rfl (want_none rfl) rfl rfl (load_cell Try.underlying3 rfl (by first | ((repeat (first | with_reducible exact .here | apply Pick.there)); done) | ((repeat (first | exact .here | apply Pick.there)); done)) (Nth.s (Nth.s (Nth.s Nth.z)))) ?_
                  refine SJ_p (rd' := [⟨2, _, _, _⟩, ⟨0, _, _, _⟩]) [2, 0] rfl (want_none rfl) rfl (Op_call (vs := [_, _]) Try.func9 rfl rfl (RHas_f _ _ _ _ _ hin) rfl (.cons (by first | ((repeat (first | with_reducible exact .here | apply Pick.there)); done) | ((repeat (first | exact .here | apply Pick.there)); done)) (Imp.refl _))) (by kernel_rfl) rfl ?_
                  rintro _ _ ⟨_, ⟨rfl, rfl⟩, rfl⟩
                  refine OS_app1 ?_
                  refine ⟨⟨(load_struct (o := 0) (vs := [_, _, _, _]) Try.underlying36 sz36 (by first | ((repeat (first | with_reducible exact .here | apply Pick.there)); done) | ((repeat (first | exact .here | apply Pick.there)); done)) (by rfl) rfl), ⟨(load_struct (o := 0) (vs := [_, _, _]) Try.underlying38 sz38 (by first | ((repeat (first | with_reducible exact .here | apply Pick.there)); done) | ((repeat (first | exact .here | apply Pick.there)); done)) (by rfl) rfl), trivial⟩⟩, ?_⟩
                  refine SJ_imp (Row_none U8).imp_add (SJ_app1 ?_)
                  refine SJ_p (rd' := []) [] rfl (want_none rfl) rfl (Op_call (vs := [_, _, _, _]) Try.func10 rfl rfl (same_eq 0 0 none 0 [] false false) rfl (.cons (by first | ((repeat (first | with_reducible exact .here | apply Pick.there)); done) | ((repeat (first | exact .here | apply Pick.there)); done)) (Imp.refl _))) (by kernel_rfl) rfl ?_
                  rintro _ _ ⟨_, ⟨rfl, rfl⟩, rfl⟩
                  refine OS_app1 ?_
                  refine ⟨trivial, ?_⟩
                  refine SJ_q rfl (want_none rfl) rfl (fun _ _ => Op_assign rfl) ?_
                  refine SJ_done ?_
                  refine NJ_then ?_
                  refine CJ_env (E' := [(1, _), (5, _), (6, _), (7, _), (8, _), (9, _), (10, _), (13, _), (14, _), (15, _), (33, _), (34, _), (35, _), (36, _), (37, _), (38, _), (39, _), (40, _), (43, _), (44, _), (45, _), (46, _), (47, _), (48, _), (49, _), (50, _), (51, _), (52, _), (53, _), (54, _), (99, _), (100, _), (101, _), (102, _), (103, _), (104, _), (105, _), (106, _), (107, _), (108, _), (109, _), (110, _), (111, _), (112, _), (121, _), (122, _), (123, _), (124, _), (125, _), (126, _), (127, _), (128, _)]) (.cons rfl rfl (.cons rfl rfl (.cons rfl rfl (.cons rfl rfl (.cons rfl rfl (.cons rfl rfl (.cons rfl rfl (.cons rfl rfl (.cons rfl rfl (.cons rfl rfl (.cons rfl rfl (.cons rfl rfl (.cons rfl rfl (.cons rfl rfl (.cons rfl rfl (.cons rfl rfl (.cons rfl rfl (.cons rfl rfl (.cons rfl rfl (.cons rfl rfl (.cons rfl rfl (.cons rfl rfl (.cons rfl rfl (.cons rfl rfl (.cons rfl rfl (.cons rfl rfl (.cons rfl rfl (.cons rfl rfl (.cons rfl rfl (.cons rfl rfl (.cons rfl rfl (.cons rfl rfl (.cons rfl rfl (.cons rfl rfl (.cons rfl rfl (.cons rfl rfl (.cons rfl rfl (.cons rfl rfl (.cons rfl rfl (.cons rfl rfl (.cons rfl rfl (.cons rfl rfl (.cons rfl rfl (.cons rfl rfl (.cons rfl rfl (.cons rfl rfl (.cons rfl rfl (.cons rfl rfl (.cons rfl rfl (.cons rfl rfl (.cons rfl rfl (.cons rfl rfl .nil)))))))))))))))))))))))))))))))))))))))))))))))))))) ?_
                  refine CJ_seq ?_
                  refine CJ_region ?_
                  refine RJ_q (Op_fieldAddr (o' := 2) rfl Try.underlying38 rfl sz30 rfl rfl) rfl ?_
                  refine RJ_q (Op_load rfl (load_cell Try.underlying30 rfl (by first | ((repeat (first | with_reducible exact .here | apply Pick.there)); done) | ((repeat (first | exact .here | apply Pick.there)); done)) (Nth.s (Nth.s Nth.z)))) rfl ?_
                  refine RJ_q (Op_len_slice rfl Try.underlying30) rfl ?_
                  refine RJ_q (Op_move rfl) rfl ?_
                  refine RJ_nil ?_
                  refine NJ_then ?_
                  refine CJ_env (E' := [(1, _), (5, _), (6, _), (7, _), (8, _), (9, _), (10, _), (13, _), (14, _), (15, _), (33, _), (34, _), (35, _), (36, _), (37, _), (38, _), (39, _), (40, _), (43, _), (44, _), (45, _), (46, _), (47, _), (48, _), (49, _), (50, _), (51, _), (52, _), (53, _), (54, _), (99, _), (100, _), (101, _), (102, _), (103, _), (104, _), (105, _), (106, _), (107, _), (108, _), (109, _), (110, _), (111, _), (112, _), (121, _), (122, _), (123, _), (124, _), (125, _), (126, _), (127, _), (128, _), (129, _), (130, _), (131, _), (132, _)]) (.cons rfl rfl (.cons rfl rfl (.cons rfl rfl (.cons rfl rfl (.cons rfl rfl (.cons rfl rfl (.cons rfl rfl (.cons rfl rfl (.cons rfl rfl (.cons rfl rfl (.cons rfl rfl (.cons rfl rfl (.cons rfl rfl (.cons rfl rfl (.cons rfl rfl (.cons rfl rfl (.cons rfl rfl (.cons rfl rfl (.cons rfl rfl (.cons rfl rfl (.cons rfl rfl (.cons rfl rfl (.cons rfl rfl (.cons rfl rfl (.cons rfl rfl (.cons rfl rfl (.cons rfl rfl (.cons rfl rfl (.cons rfl rfl (.cons rfl rfl (.cons rfl rfl (.cons rfl rfl (.cons rfl rfl (.cons rfl rfl (.cons rfl rfl (.cons rfl rfl (.cons rfl rfl (.cons rfl rfl (.cons rfl rfl (.cons rfl rfl (.cons rfl rfl (.cons rfl rfl (.cons rfl rfl (.cons rfl rfl (.cons rfl rfl (.cons rfl rfl (.cons rfl rfl (.cons rfl rfl (.cons rfl rfl (.cons rfl rfl (.cons rfl rfl (.cons rfl rfl (.cons rfl rfl (.cons rfl rfl (.cons rfl rfl (.cons rfl rfl .nil)))))))))))))))))))))))))))))))))))))))))))))))))))))))) ?_
                  refine CJ_block ?_
                  refine CJ_loop (fun E H m => ∃ (q : Nat) (ys : List UInt8), (ys.length = 0 ∧ q ≤ 0) ∧ E = [(1, .slice a ops.length cap), (5, .pointer (some ⟨gn, 0, none⟩)), (6, .pointer (some ⟨gw, 0, none⟩)), (7, .pointer none), (8, .int .i64 (i : Int)), (10, .bool true), (13, .pointer (some ⟨b13, 0, none⟩)), (131, .int .i64 ((0 : Nat) : Int)), (132, .int .i64 (q : Int))] ∧ H = [Row U8 none 0 ys, NetP gn room ps sent, RefP gw room ps sent, old W, pt b13 (.cells #[.int .i64 0, .int .i64 0, .slice (sl none) ([] : List UInt8).length 0] 38 (0, 0))] ++ R ∧ m = 0 - q) (E' := [(1, .slice a ops.length cap), (5, .pointer (some ⟨gn, 0, none⟩)), (6, .pointer (some ⟨gw, 0, none⟩)), (7, .pointer none), (8, .int .i64 (i : Int)), (10, .bool true), (13, .pointer (some ⟨b13, 0, none⟩)), (131, .int .i64 ((0 : Nat) : Int)), (132, .int .i64 0)]) (H' := [Row U8 none 0 ([]), NetP gn room ps sent, RefP gw room ps sent, old W, pt b13 (.cells #[.int .i64 0, .int .i64 0, .slice (sl none) ([] : List UInt8).length 0] 38 (0, 0))] ++ R) (m := 0 - 0) ⟨0, [], ⟨rfl, Nat.zero_le _⟩, rfl, rfl, rfl⟩ (.cons rfl (by first | rfl | (simp; done)) (.cons rfl (by first | rfl | (simp; done)) (.cons rfl (by first | rfl | (simp; done)) (.cons rfl (by first | rfl | (simp; done)) (.cons rfl (by first | rfl | (simp; done)) (.cons rfl (by first | rfl | (simp; done)) (.cons rfl (by first | rfl | (simp; done)) (.cons rfl (by first | rfl | (simp; done)) (.cons rfl (by first | rfl | (simp; done)) .nil))))))))) (.cons (by first | ((repeat (first | with_reducible exact .here | apply Pick.there)); done) | ((repeat (first | exact .here | apply Pick.there)); done)) (.cons (by first | ((repeat (first | with_reducible exact .here | apply Pick.there)); done) | ((repeat (first | exact .here | apply Pick.there)); done)) (.cons (by first | ((repeat (first | with_reducible exact .here | apply Pick.there)); done) | ((repeat (first | exact .here | apply Pick.there)); done)) (.cons (by first | ((repeat (first | with_reducible exact .here | apply Pick.there)); done) | ((repeat (first | exact .here | apply Pick.there)); done)) (.cons (by first | ((repeat (first | with_reducible exact .here | apply Pick.there)); done) | ((repeat (first | exact .here | apply Pick.there)); done)) (by repeat (first | exact Imp.refl _ | refine Imp.skip ?_))))))) ?_
                  rintro _ _ _ ⟨q, ys, hokq, rfl, rfl, rfl⟩
                  refine CJ_app5 ?_
                  refine CJ_seq ?_
                  refine CJ_region ?_
                  refine RJ_q (Op_lss rfl rfl) rfl ?_
                  refine RJ_nil ?_
                  refine NJ_then ?_
                  refine CJ_env (E' := [(1, _), (5, _), (6, _), (7, _), (8, _), (10, _), (13, _), (131, _), (132, _), (133, _)]) (.cons rfl rfl (.cons rfl rfl (.cons rfl rfl (.cons rfl rfl (.cons rfl rfl (.cons rfl rfl (.cons rfl rfl (.cons rfl rfl (.cons rfl rfl (.cons rfl rfl .nil)))))))))) ?_
                  refine CJ_seq ?_
                  refine CJ_cond rfl ?_ ?_
                  · intro hcq
                    exfalso; have := of_decide_eq_true hcq; omega
                  · intro hcq
                    skip
                    refine CJ_exit ?_
                    refine NJ_then_x ?_
                    refine NJ_then_x ?_
                    refine NJ_blk_hit ?_
                    refine NJ_blk ?_
                    refine NJ_meet (E' := [(1, .slice a ops.length cap), (5, .pointer (some ⟨gn, 0, none⟩)), (6, .pointer (some ⟨gw, 0, none⟩)), (7, .pointer none), (8, .int .i64 (i : Int)), (10, .bool true)]) (H' := [NetP gn room ps sent, RefP gw room ps sent, old W] ++ R) ⟨ps, sent, ⟨by omega, by omega, by omega, hbs⟩, rfl, rfl⟩ (.cons rfl (by first | rfl | (simp; done)) (.cons rfl (by first | rfl | (simp; done)) (.cons rfl (by first | rfl | (simp; done)) (.cons rfl (by first | rfl | (simp; done)) (.cons rfl (by first | rfl | (simp; done)) (.cons rfl (by first | rfl | (simp; done)) .nil)))))) (.cons (by first | ((repeat (first | with_reducible exact .here | apply Pick.there)); done) | ((repeat (first | exact .here | apply Pick.there)); done)) (.cons (by first | ((repeat (first | with_reducible exact .here | apply Pick.there)); done) | ((repeat (first | exact .here | apply Pick.there)); done)) (.cons (by first | ((repeat (first | with_reducible exact .here | apply Pick.there)); done) | ((repeat (first | exact .here | apply Pick.there)); done)) (by repeat (first | exact Imp.refl _ | refine Imp.skip ?_)))))
              · skip
                refine RJ_q (Op_assign rfl) rfl ?_
                refine RJ_nil ?_
                refine NJ_then ?_
                refine CJ_env (E' := [(1, _), (5, _), (6, _), (7, _), (8, _), (9, _), (10, _), (33, _), (34, _), (35, _), (36, _), (37, _), (38, _), (39, _), (40, _), (43, _), (44, _), (45, _), (46, _), (47, _), (48, _), (49, _), (50, _), (51, _), (52, _), (53, _), (54, _), (99, _), (100, _)]) (.cons rfl rfl (.cons rfl rfl (.cons rfl rfl (.cons rfl rfl (.cons rfl rfl (.cons rfl rfl (.cons rfl rfl (.cons rfl rfl (.cons rfl rfl (.cons rfl rfl (.cons rfl rfl (.cons rfl rfl (.cons rfl rfl (.cons rfl rfl (.cons rfl rfl (.cons rfl rfl (.cons rfl rfl (.cons rfl rfl (.cons rfl rfl (.cons rfl rfl (.cons rfl rfl (.cons rfl rfl (.cons rfl rfl (.cons rfl rfl (.cons rfl rfl (.cons rfl rfl (.cons rfl rfl (.cons rfl rfl (.cons rfl rfl .nil))))))))))))))))))))))))))))) ?_
                refine CJ_else rfl (decide_eq_false k1) ?_
                refine CJ_seq ?_
                refine CJ_region ?_
                refine RJ_q (Op_eql rfl rfl) rfl ?_
                by_cases k2 : ok = 2
                · skip
                  refine RJ_q (Op_assign rfl) rfl ?_
                  refine RJ_nil ?_
                  refine NJ_then ?_
                  refine CJ_env (E' := [(1, _), (5, _), (6, _), (7, _), (8, _), (9, _), (10, _), (33, _), (34, _), (35, _), (36, _), (37, _), (38, _), (39, _), (40, _), (43, _), (44, _), (45, _), (46, _), (47, _), (48, _), (49, _), (50, _), (51, _), (52, _), (53, _), (54, _), (99, _), (100, _), (143, _), (144, _)]) (.cons rfl rfl (.cons rfl rfl (.cons rfl rfl (.cons rfl rfl (.cons rfl rfl (.cons rfl rfl (.cons rfl rfl (.cons rfl rfl (.cons rfl rfl (.cons rfl rfl (.cons rfl rfl (.cons rfl rfl (.cons rfl rfl (.cons rfl rfl (.cons rfl rfl (.cons rfl rfl (.cons rfl rfl (.cons rfl rfl (.cons rfl rfl (.cons rfl rfl (.cons rfl rfl (.cons rfl rfl (.cons rfl rfl (.cons rfl rfl (.cons rfl rfl (.cons rfl rfl (.cons rfl rfl (.cons rfl rfl (.cons rfl rfl (.cons rfl rfl (.cons rfl rfl .nil))))))))))))))))))))))))))))))) ?_
                  refine CJ_then rfl (decide_eq_true k2) ?_
                  refine CJ_seq ?_
                  by_cases hin : 0 ≤ oi ∧ oi < (ps.length : Int)
                  · skip
                    obtain ⟨k, rfl⟩ := Int.eq_ofNat_of_zero_le hin.1
                    have hlt : k < ps.length := by omega
                    obtain ⟨p, hk⟩ : ∃ p, ps[k]? = some p := ⟨ps[k], List.getElem?_eq_getElem hlt⟩
                    have hpb := hbs p (List.mem_of_getElem? hk)
                    refine CJ_region ?_
                    refine RJ_q (Op_move rfl) rfl ?_
                    refine RJ_q (Op_fieldAddr (o' := 3) rfl Try.underlying32 rfl sz3 rfl rfl) rfl ?_
                    refine RJ_q (Op_load rfl (load_cell Try.underlying3 rfl (by first | ((repeat (first | with_reducible exact .here | apply Pick.there)); done) | ((repeat (first | exact .here | apply Pick.there)); done)) (Nth.s (Nth.s (Nth.s Nth.z))))) rfl ?_
                    refine RJ_p rfl (Op_call (vs := [_, _]) Try.func11 rfl rfl (Take_yes _ _ _ _ _ _ hk (fun p hp => Nat.le_trans (hbs p hp) (by decide)) (by omega)) rfl (.cons (by first | ((repeat (first | with_reducible exact .here | apply Pick.there)); done) | ((repeat (first | exact .here | apply Pick.there)); done)) (Imp.refl _))) ?_
                    rintro _ _ ⟨_, ⟨g149, rfl, rfl⟩, rfl⟩
                    refine RJ_app2 ?_
                    refine RJ_q (Op_move rfl) rfl ?_
                    refine RJ_q (Op_extract rfl rfl) rfl ?_
                    refine RJ_q (Op_extract rfl rfl) rfl ?_
                    refine RJ_p rfl (Op_alloc zr38) ?_
                    rintro _ _ ⟨b17, rfl, rfl⟩
                    refine RJ_d0 (Op_store (cs' := #[_, _, _]) rfl rfl sz38 (by rfl) (by simp [Value.cells, Value.oneCell']) (by repeat (first | exact .here | apply Repl.there)) rfl (free_zero _ _) (by rfl)) ?_
                    refine RJ_q (Op_assign rfl) rfl ?_
                    refine RJ_nil ?_
                    refine NJ_then ?_
                    refine CJ_env (E' := [(1, _), (5, _), (6, _), (7, _), (8, _), (9, _), (10, _), (17, _), (18, _), (33, _), (34, _), (35, _), (36, _), (37, _), (38, _), (39, _), (40, _), (43, _), (44, _), (45, _), (46, _), (47, _), (48, _), (49, _), (50, _), (51, _), (52, _), (53, _), (54, _), (99, _), (100, _), (143, _), (144, _), (145, _), (146, _), (147, _), (148, _), (149, _), (150, _), (151, _)]) (.cons rfl rfl (.cons rfl rfl (.cons rfl rfl (.cons rfl rfl (.cons rfl rfl (.cons rfl rfl (.cons rfl rfl (.cons rfl rfl (.cons rfl rfl (.cons rfl rfl (.cons rfl rfl (.cons rfl rfl (.cons rfl rfl (.cons rfl rfl (.cons rfl rfl (.cons rfl rfl (.cons rfl rfl (.cons rfl rfl (.cons rfl rfl (.cons rfl rfl (.cons rfl rfl (.cons rfl rfl (.cons rfl rfl (.cons rfl rfl (.cons rfl rfl (.cons rfl rfl (.cons rfl rfl (.cons rfl rfl (.cons rfl rfl (.cons rfl rfl (.cons rfl rfl (.cons rfl rfl (.cons rfl rfl (.cons rfl rfl (.cons rfl rfl (.cons rfl rfl (.cons rfl rfl (.cons rfl rfl (.cons rfl rfl (.cons rfl rfl .nil)))))))))))))))))))))))))))))))))))))))) ?_
                    refine CJ_seq ?_
                    refine CJ_region ?_
                    refine RJ_q (Op_move rfl) rfl ?_
                    refine RJ_q (Op_fieldAddr (o' := 3) rfl Try.underlying32 rfl sz3 rfl rfl) rfl ?_
                    refine RJ_q (Op_load rfl (load_cell Try.underlying3 rfl (by first | ((repeat (first | with_reducible exact .here | apply Pick.there)); done) | ((repeat (first | exact .here | apply Pick.there)); done)) (Nth.s (Nth.s (Nth.s Nth.z))))) rfl ?_
                    refine RJ_p rfl (Op_call (vs := [_, _]) Try.func12 rfl rfl (RTake_yes _ _ _ _ _ _ hk (by omega)) rfl (.cons (by first | ((repeat (first | with_reducible exact .here | apply Pick.there)); done) | ((repeat (first | exact .here | apply Pick.there)); done)) (Imp.refl _))) ?_
                    rintro _ _ ⟨_, ⟨rfl, rfl⟩, rfl⟩
                    refine RJ_app1 ?_
                    refine RJ_q (Op_move rfl) rfl ?_
                    refine RJ_q (Op_extract rfl rfl) rfl ?_
                    refine RJ_q (Op_extract rfl rfl) rfl ?_
                    refine RJ_p rfl (Op_alloc zr36) ?_
                    rintro _ _ ⟨b19, rfl, rfl⟩
                    refine RJ_d0 (Op_store (cs' := #[_, _, _, _]) rfl rfl sz36 (by rfl) (by simp [Value.cells, Value.oneCell']) (by repeat (first | exact .here | apply Repl.there)) rfl (free_zero _ _) (by rfl)) ?_
                    refine RJ_q (Op_assign rfl) rfl ?_
                    refine RJ_nil ?_
                    refine NJ_then ?_
                    refine CJ_env (E' := [(1, _), (5, _), (6, _), (7, _), (8, _), (9, _), (10, _), (17, _), (18, _), (19, _), (20, _), (33, _), (34, _), (35, _), (36, _), (37, _), (38, _), (39, _), (40, _), (43, _), (44, _), (45, _), (46, _), (47, _), (48, _), (49, _), (50, _), (51, _), (52, _), (53, _), (54, _), (99, _), (100, _), (143, _), (144, _), (145, _), (146, _), (147, _), (148, _), (149, _), (150, _), (151, _), (152, _), (153, _), (154, _), (155, _), (156, _), (157, _), (158, _)]) (.cons rfl rfl (.cons rfl rfl (.cons rfl rfl (.cons rfl rfl (.cons rfl rfl (.cons rfl rfl (.cons rfl rfl (.cons rfl rfl (.cons rfl rfl (.cons rfl rfl (.cons rfl rfl (.cons rfl rfl (.cons rfl rfl (.cons rfl rfl (.cons rfl rfl (.cons rfl rfl (.cons rfl rfl (.cons rfl rfl (.cons rfl rfl (.cons rfl rfl (.cons rfl rfl (.cons rfl rfl (.cons rfl rfl (.cons rfl rfl (.cons rfl rfl (.cons rfl rfl (.cons rfl rfl (.cons rfl rfl (.cons rfl rfl (.cons rfl rfl (.cons rfl rfl (.cons rfl rfl (.cons rfl rfl (.cons rfl rfl (.cons rfl rfl (.cons rfl rfl (.cons rfl rfl (.cons rfl rfl (.cons rfl rfl (.cons rfl rfl (.cons rfl rfl (.cons rfl rfl (.cons rfl rfl (.cons rfl rfl (.cons rfl rfl (.cons rfl rfl (.cons rfl rfl (.cons rfl rfl (.cons rfl rfl .nil))))))))))))))))))))))))))))))))))))))))))))))))) ?_
                    refine CJ_seq ?_
                    refine CJ_region ?_
                    refine RJ_q (Op_move rfl) rfl ?_
                    refine RJ_q (Op_fieldAddr (o' := 3) rfl Try.underlying32 rfl sz3 rfl rfl) rfl ?_
                    refine RJ_q (Op_load rfl (load_cell Try.underlying3 rfl (by first | ((repeat (first | with_reducible exact .here | apply Pick.there)); done) | ((repeat (first | exact .here | apply Pick.there)); done)) (Nth.s (Nth.s (Nth.s Nth.z))))) rfl ?_
                    refine RJ_p rfl (Op_call (vs := [_, _]) Try.func11 rfl rfl (Take_nil _) rfl (Imp.refl _)) ?_
                    rintro _ _ ⟨_, ⟨rfl, rfl⟩, rfl⟩
                    refine RJ_app0 ?_
                    refine RJ_q (Op_move rfl) rfl ?_
                    refine RJ_q (Op_extract rfl rfl) rfl ?_
                    refine RJ_q (Op_extract rfl rfl) rfl ?_
                    refine RJ_p rfl (Op_alloc zr38) ?_
                    rintro _ _ ⟨b21, rfl, rfl⟩
                    refine RJ_d0 (Op_store (cs' := #[_, _, _]) rfl rfl sz38 (by rfl) (by simp [Value.cells, Value.oneCell']) (by repeat (first | exact .here | apply Repl.there)) rfl (free_zero _ _) (by rfl)) ?_
                    refine RJ_q (Op_assign rfl) rfl ?_
                    refine RJ_nil ?_
                    refine NJ_then ?_
                    refine CJ_env (E' := [(1, _), (5, _), (6, _), (7, _), (8, _), (9, _), (10, _), (17, _), (18, _), (19, _), (20, _), (21, _), (22, _), (33, _), (34, _), (35, _), (36, _), (37, _), (38, _), (39, _), (40, _), (43, _), (44, _), (45, _), (46, _), (47, _), (48, _), (49, _), (50, _), (51, _), (52, _), (53, _), (54, _), (99, _), (100, _), (143, _), (144, _), (145, _), (146, _), (147, _), (148, _), (149, _), (150, _), (151, _), (152, _), (153, _), (154, _), (155, _), (156, _), (157, _), (158, _), (159, _), (160, _), (161, _), (162, _), (163, _), (164, _), (165, _)]) (.cons rfl rfl (.cons rfl rfl (.cons rfl rfl (.cons rfl rfl (.cons rfl rfl (.cons rfl rfl (.cons rfl rfl (.cons rfl rfl (.cons rfl rfl (.cons rfl rfl (.cons rfl rfl (.cons rfl rfl (.cons rfl rfl (.cons rfl rfl (.cons rfl rfl (.cons rfl rfl (.cons rfl rfl (.cons rfl rfl (.cons rfl rfl (.cons rfl rfl (.cons rfl rfl (.cons rfl rfl (.cons rfl rfl (.cons rfl rfl (.cons rfl rfl (.cons rfl rfl (.cons rfl rfl (.cons rfl rfl (.cons rfl rfl (.cons rfl rfl (.cons rfl rfl (.cons rfl rfl (.cons rfl rfl (.cons rfl rfl (.cons rfl rfl (.cons rfl rfl (.cons rfl rfl (.cons rfl rfl (.cons rfl rfl (.cons rfl rfl (.cons rfl rfl (.cons rfl rfl (.cons rfl rfl (.cons rfl rfl (.cons rfl rfl (.cons rfl rfl (.cons rfl rfl (.cons rfl rfl (.cons rfl rfl (.cons rfl rfl (.cons rfl rfl (.cons rfl rfl (.cons rfl rfl (.cons rfl rfl (.cons rfl rfl (.cons rfl rfl (.cons rfl rfl (.cons rfl rfl .nil)))))))))))))))))))))))))))))))))))))))))))))))))))))))))) ?_
                    refine CJ_region ?_
                    refine RJ_q (Op_load rfl (load_struct (o := 0) (vs := [_, _, _]) Try.underlying38 sz38 (by first | ((repeat (first | with_reducible exact .here | apply Pick.there)); done) | ((repeat (first | exact .here | apply Pick.there)); done)) (by rfl) rfl)) rfl ?_
                    refine RJ_q (Op_move rfl) rfl ?_
                    refine RJ_q (Op_load rfl (load_struct (o := 0) (vs := [_, _, _, _]) Try.underlying36 sz36 (by first | ((repeat (first | with_reducible exact .here | apply Pick.there)); done) | ((repeat (first | exact .here | apply Pick.there)); done)) (by rfl) rfl)) rfl ?_
                    refine RJ_q (Op_move rfl) rfl ?_
                    refine RJ_p rfl (Op_call (vs := [_, _, _, _]) Try.func10 rfl rfl (same_eq p.f p.t (some g149) p.bs.length p.bs true p.turned) rfl (.cons (by first | ((repeat (first | with_reducible exact .here | apply Pick.there)); done) | ((repeat (first | exact .here | apply Pick.there)); done)) (Imp.refl _))) ?_
                    rintro _ _ ⟨_, ⟨rfl, rfl⟩, rfl⟩
                    refine RJ_app1 ?_
                    refine RJ_q (Op_move rfl) rfl ?_
                    refine RJ_yes (t := 171) rfl rfl rfl ?_
                    refine RJ_q (Op_move rfl) rfl ?_
                    refine RJ_yes (t := 171) rfl rfl rfl ?_
                    refine RJ_q (Op_not rfl) rfl ?_
                    refine RJ_q (Op_pick_t rfl rfl rfl) rfl ?_
                    refine RJ_q (Op_assign rfl) rfl ?_
                    refine RJ_nil ?_
                    refine NJ_blk ?_
                    refine NJ_meet (E' := [(1, .slice a ops.length cap), (5, .pointer (some ⟨gn, 0, none⟩)), (6, .pointer (some ⟨gw, 0, none⟩)), (7, .pointer none), (8, .int .i64 (i : Int)), (10, .bool true)]) (H' := [NetP gn room (ps.eraseIdx k) sent, RefP gw room (ps.eraseIdx k) sent, old W] ++ R) ⟨(ps.eraseIdx k), sent, ⟨by have := List.length_eraseIdx_le ps k; omega, by omega, by omega, fun p hp => hbs p (List.mem_of_mem_eraseIdx hp)⟩, rfl, rfl⟩ (.cons rfl (by first | rfl | (simp; done)) (.cons rfl (by first | rfl | (simp; done)) (.cons rfl (by first | rfl | (simp; done)) (.cons rfl (by first | rfl | (simp; done)) (.cons rfl (by first | rfl | (simp; done)) (.cons rfl (by first | rfl | (simp; done)) .nil)))))) (.cons (by first | ((repeat (first | with_reducible exact .here | apply Pick.there)); done) | ((repeat (first | exact .here | apply Pick.there)); done)) (.cons (by first | ((repeat (first | with_reducible exact .here | apply Pick.there)); done) | ((repeat (first | exact .here | apply Pick.there)); done)) (.cons (by first | ((repeat (first | with_reducible exact .here | apply Pick.there)); done) | ((repeat (first | exact .here | apply Pick.there)); done)) (by repeat (first | exact Imp.refl _ | refine Imp.skip ?_)))))
                  · skip
                    have hno : oi < 0 ∨ (ps.length : Int) ≤ oi := by omega
                    refine CJ_region ?_
                    refine RJ_q (Op_move rfl) rfl ?_
                    refine RJ_q (Op_fieldAddr (o' := 3) rfl Try.underlying32 rfl sz3 rfl rfl) rfl ?_
                    refine RJ_q (Op_load rfl (load_cell Try.underlying3 rfl (by first | ((repeat (first | with_reducible exact .here | apply Pick.there)); done) | ((repeat (first | exact .here | apply Pick.there)); done)) (Nth.s (Nth.s (Nth.s Nth.z))))) rfl ?_
                    refine RJ_p rfl (Op_call (vs := [_, _]) Try.func11 rfl rfl (Take_no _ _ _ _ _ hno) rfl (.cons (by first | ((repeat (first | with_reducible exact .here | apply Pick.there)); done) | ((repeat (first | exact .here | apply Pick.there)); done)) (Imp.refl _))) ?_
                    rintro _ _ ⟨_, ⟨rfl, rfl⟩, rfl⟩
                    refine RJ_app1 ?_
                    refine RJ_q (Op_move rfl) rfl ?_
                    refine RJ_q (Op_extract rfl rfl) rfl ?_
                    refine RJ_q (Op_extract rfl rfl) rfl ?_
                    refine RJ_p rfl (Op_alloc zr38) ?_
                    rintro _ _ ⟨b17, rfl, rfl⟩
                    refine RJ_d0 (Op_store (cs' := #[_, _, _]) rfl rfl sz38 (by rfl) (by simp [Value.cells, Value.oneCell']) (by repeat (first | exact .here | apply Repl.there)) rfl (free_zero _ _) (by rfl)) ?_
                    refine RJ_q (Op_assign rfl) rfl ?_
                    refine RJ_nil ?_
                    refine NJ_then ?_
                    refine CJ_env (E' := [(1, _), (5, _), (6, _), (7, _), (8, _), (9, _), (10, _), (17, _), (18, _), (33, _), (34, _), (35, _), (36, _), (37, _), (38, _), (39, _), (40, _), (43, _), (44, _), (45, _), (46, _), (47, _), (48, _), (49, _), (50, _), (51, _), (52, _), (53, _), (54, _), (99, _), (100, _), (143, _), (144, _), (145, _), (146, _), (147, _), (148, _), (149, _), (150, _), (151, _)]) (.cons rfl rfl (.cons rfl rfl (.cons rfl rfl (.cons rfl rfl (.cons rfl rfl (.cons rfl rfl (.cons rfl rfl (.cons rfl rfl (.cons rfl rfl (.cons rfl rfl (.cons rfl rfl (.cons rfl rfl (.cons rfl rfl (.cons rfl rfl (.cons rfl rfl (.cons rfl rfl (.cons rfl rfl (.cons rfl rfl (.cons rfl rfl (.cons rfl rfl (.cons rfl rfl (.cons rfl rfl (.cons rfl rfl (.cons rfl rfl (.cons rfl rfl (.cons rfl rfl (.cons rfl rfl (.cons rfl rfl (.cons rfl rfl (.cons rfl rfl (.cons rfl rfl (.cons rfl rfl (.cons rfl rfl (.cons rfl rfl (.cons rfl rfl (.cons rfl rfl (.cons rfl rfl (.cons rfl rfl (.cons rfl rfl (.cons rfl rfl .nil)))))))))))))))))))))))))))))))))))))))) ?_
                    refine CJ_seq ?_
                    refine CJ_region ?_
                    refine RJ_q (Op_move rfl) rfl ?_
                    refine RJ_q (Op_fieldAddr (o' := 3) rfl Try.underlying32 rfl sz3 rfl rfl) rfl ?_
                    refine RJ_q (Op_load rfl (load_cell Try.underlying3 rfl (by first | ((repeat (first | with_reducible exact .here | apply Pick.there)); done) | ((repeat (first | exact .here | apply Pick.there)); done)) (Nth.s (Nth.s (Nth.s Nth.z))))) rfl ?_
                    refine RJ_p rfl (Op_call (vs := [_, _]) Try.func12 rfl rfl (RTake_no _ _ _ _ _ hno) rfl (.cons (by first | ((repeat (first | with_reducible exact .here | apply Pick.there)); done) | ((repeat (first | exact .here | apply Pick.there)); done)) (Imp.refl _))) ?_
                    rintro _ _ ⟨_, ⟨rfl, rfl⟩, rfl⟩
                    refine RJ_app1 ?_
                    refine RJ_q (Op_move rfl) rfl ?_
                    refine RJ_q (Op_extract rfl rfl) rfl ?_
                    refine RJ_q (Op_extract rfl rfl) rfl ?_
                    refine RJ_p rfl (Op_alloc zr36) ?_
                    rintro _ _ ⟨b19, rfl, rfl⟩
                    refine RJ_d0 (Op_store (cs' := #[_, _, _, _]) rfl rfl sz36 (by rfl) (by simp [Value.cells, Value.oneCell']) (by repeat (first | exact .here | apply Repl.there)) rfl (free_zero _ _) (by rfl)) ?_
                    refine RJ_q (Op_assign rfl) rfl ?_
                    refine RJ_nil ?_
                    refine NJ_then ?_
                    refine CJ_env (E' := [(1, _), (5, _), (6, _), (7, _), (8, _), (9, _), (10, _), (17, _), (18, _), (19, _), (20, _), (33, _), (34, _), (35, _), (36, _), (37, _), (38, _), (39, _), (40, _), (43, _), (44, _), (45, _), (46, _), (47, _), (48, _), (49, _), (50, _), (51, _), (52, _), (53, _), (54, _), (99, _), (100, _), (143, _), (144, _), (145, _), (146, _), (147, _), (148, _), (149, _), (150, _), (151, _), (152, _), (153, _), (154, _), (155, _), (156, _), (157, _), (158, _)]) (.cons rfl rfl (.cons rfl rfl (.cons rfl rfl (.cons rfl rfl (.cons rfl rfl (.cons rfl rfl (.cons rfl rfl (.cons rfl rfl (.cons rfl rfl (.cons rfl rfl (.cons rfl rfl (.cons rfl rfl (.cons rfl rfl (.cons rfl rfl (.cons rfl rfl (.cons rfl rfl (.cons rfl rfl (.cons rfl rfl (.cons rfl rfl (.cons rfl rfl (.cons rfl rfl (.cons rfl rfl (.cons rfl rfl (.cons rfl rfl (.cons rfl rfl (.cons rfl rfl (.cons rfl rfl (.cons rfl rfl (.cons rfl rfl (.cons rfl rfl (.cons rfl rfl (.cons rfl rfl (.cons rfl rfl (.cons rfl rfl (.cons rfl rfl (.cons rfl rfl (.cons rfl rfl (.cons rfl rfl (.cons rfl rfl (.cons rfl rfl (.cons rfl rfl (.cons rfl rfl (.cons rfl rfl (.cons rfl rfl (.cons rfl rfl (.cons rfl rfl (.cons rfl rfl (.cons rfl rfl (.cons rfl rfl .nil))))))))))))))))))))))))))))))))))))))))))))))))) ?_
                    refine CJ_seq ?_
                    refine CJ_region ?_
                    refine RJ_q (Op_move rfl) rfl ?_
                    refine RJ_q (Op_fieldAddr (o' := 3) rfl Try.underlying32 rfl sz3 rfl rfl) rfl ?_
                    refine RJ_q (Op_load rfl (load_cell Try.underlying3 rfl (by first | ((repeat (first | with_reducible exact .here | apply Pick.there)); done) | ((repeat (first | exact .here | apply Pick.there)); done)) (Nth.s (Nth.s (Nth.s Nth.z))))) rfl ?_
                    refine RJ_p rfl (Op_call (vs := [_, _]) Try.func11 rfl rfl (Take_nil _) rfl (Imp.refl _)) ?_
                    rintro _ _ ⟨_, ⟨rfl, rfl⟩, rfl⟩
                    refine RJ_app0 ?_
                    refine RJ_q (Op_move rfl) rfl ?_
                    refine RJ_q (Op_extract rfl rfl) rfl ?_
                    refine RJ_q (Op_extract rfl rfl) rfl ?_
                    refine RJ_p rfl (Op_alloc zr38) ?_
                    rintro _ _ ⟨b21, rfl, rfl⟩
                    refine RJ_d0 (Op_store (cs' := #[_, _, _]) rfl rfl sz38 (by rfl) (by simp [Value.cells, Value.oneCell']) (by repeat (first | exact .here | apply Repl.there)) rfl (free_zero _ _) (by rfl)) ?_
                    refine RJ_q (Op_assign rfl) rfl ?_
                    refine RJ_nil ?_
                    refine NJ_then ?_
                    refine CJ_env (E' := [(1, _), (5, _), (6, _), (7, _), (8, _), (9, _), (10, _), (17, _), (18, _), (19, _), (20, _), (21, _), (22, _), (33, _), (34, _), (35, _), (36, _), (37, _), (38, _), (39, _), (40, _), (43, _), (44, _), (45, _), (46, _), (47, _), (48, _), (49, _), (50, _), (51, _), (52, _), (53, _), (54, _), (99, _), (100, _), (143, _), (144, _), (145, _), (146, _), (147, _), (148, _), (149, _), (150, _), (151, _), (152, _), (153, _), (154, _), (155, _), (156, _), (157, _), (158, _), (159, _), (160, _), (161, _), (162, _), (163, _), (164, _), (165, _)]) (.cons rfl rfl (.cons rfl rfl (.cons rfl rfl (.cons rfl rfl (.cons rfl rfl (.cons rfl rfl (.cons rfl rfl (.cons rfl rfl (.cons rfl rfl (.cons rfl rfl (.cons rfl rfl (.cons rfl rfl (.cons rfl rfl (.cons rfl rfl (.cons rfl rfl (.cons rfl rfl (.cons rfl rfl (.cons rfl rfl (.cons rfl rfl (.cons rfl rfl (.cons rfl rfl (.cons rfl rfl (.cons rfl rfl (.cons rfl rfl (.cons rfl rfl (.cons rfl rfl (.cons rfl rfl (.cons rfl rfl (.cons rfl rfl (.cons rfl rfl (.cons rfl rfl (.cons rfl rfl (.cons rfl rfl (.cons rfl rfl (.cons rfl rfl (.cons rfl rfl (.cons rfl rfl (.cons rfl rfl (.cons rfl rfl (.cons rfl rfl (.cons rfl rfl (.cons rfl rfl (.cons rfl rfl (.cons rfl rfl (.cons rfl rfl (.cons rfl rfl (.cons rfl rfl (.cons rfl rfl (.cons rfl rfl (.cons rfl rfl (.cons rfl rfl (.cons rfl rfl (.cons rfl rfl (.cons rfl rfl (.cons rfl rfl (.cons rfl rfl (.cons rfl rfl (.cons rfl rfl .nil)))))))))))))))))))))))))))))))))))))))))))))))))))))))))) ?_
                    refine CJ_region ?_
                    refine RJ_q (Op_load rfl (load_struct (o := 0) (vs := [_, _, _]) Try.underlying38 sz38 (by first | ((repeat (first | with_reducible exact .here | apply Pick.there)); done) | ((repeat (first | exact .here | apply Pick.there)); done)) (by rfl) rfl)) rfl ?_
                    refine RJ_q (Op_move rfl) rfl ?_
                    refine RJ_q (Op_load rfl (load_struct (o := 0) (vs := [_, _, _, _]) Try.underlying36 sz36 (by first | ((repeat (first | with_reducible exact .here | apply Pick.there)); done) | ((repeat (first | exact .here | apply Pick.there)); done)) (by rfl) rfl)) rfl ?_
                    refine RJ_q (Op_move rfl) rfl ?_
                    refine RJ_imp (Row_none U8).imp_add (RJ_app1 ?_)
                    refine RJ_p rfl (Op_call (vs := [_, _, _, _]) Try.func10 rfl rfl (same_eq 0 0 none 0 [] false false) rfl (.cons (by first | ((repeat (first | with_reducible exact .here | apply Pick.there)); done) | ((repeat (first | exact .here | apply Pick.there)); done)) (Imp.refl _))) ?_
                    rintro _ _ ⟨_, ⟨rfl, rfl⟩, rfl⟩
                    refine RJ_app1 ?_
                    refine RJ_q (Op_move rfl) rfl ?_
                    refine RJ_yes (t := 171) rfl rfl rfl ?_
                    refine RJ_q (Op_move rfl) rfl ?_
                    refine RJ_yes (t := 171) rfl rfl rfl ?_
                    refine RJ_q (Op_not rfl) rfl ?_
                    refine RJ_q (Op_pick_t rfl rfl rfl) rfl ?_
                    refine RJ_q (Op_assign rfl) rfl ?_
                    refine RJ_nil ?_
                    refine NJ_blk ?_
                    refine NJ_meet (E' := [(1, .slice a ops.length cap), (5, .pointer (some ⟨gn, 0, none⟩)), (6, .pointer (some ⟨gw, 0, none⟩)), (7, .pointer none), (8, .int .i64 (i : Int)), (10, .bool true)]) (H' := [NetP gn room ps sent, RefP gw room ps sent, old W] ++ R) ⟨ps, sent, ⟨by omega, by omega, by omega, hbs⟩, rfl, rfl⟩ (.cons rfl (by first | rfl | (simp; done)) (.cons rfl (by first | rfl | (simp; done)) (.cons rfl (by first | rfl | (simp; done)) (.cons rfl (by first | rfl | (simp; done)) (.cons rfl (by first | rfl | (simp; done)) (.cons rfl (by first | rfl | (simp; done)) .nil)))))) (.cons (by first | ((repeat (first | with_reducible exact .here | apply Pick.there)); done) | ((repeat (first | exact .here | apply Pick.there)); done)) (.cons (by first | ((repeat (first | with_reducible exact .here | apply Pick.there)); done) | ((repeat (first | exact .here | apply Pick.there)); done)) (.cons (by first | ((repeat (first | with_reducible exact .here | apply Pick.there)); done) | ((repeat (first | exact .here | apply Pick.there)); done)) (by repeat (first | exact Imp.refl _ | refine Imp.skip ?_)))))
                · skip
                  refine RJ_q (Op_assign rfl) rfl ?_
                  refine RJ_nil ?_
                  refine NJ_then ?_
                  refine CJ_env (E' := [(1, _), (5, _), (6, _), (7, _), (8, _), (9, _), (10, _), (33, _), (34, _), (35, _), (36, _), (37, _), (38, _), (39, _), (40, _), (43, _), (44, _), (45, _), (46, _), (47, _), (48, _), (49, _), (50, _), (51, _), (52, _), (53, _), (54, _), (99, _), (100, _), (143, _), (144, _)]) (.cons rfl rfl (.cons rfl rfl (.cons rfl rfl (.cons rfl rfl (.cons rfl rfl (.cons rfl rfl (.cons rfl rfl (.cons rfl rfl (.cons rfl rfl (.cons rfl rfl (.cons rfl rfl (.cons rfl rfl (.cons rfl rfl (.cons rfl rfl (.cons rfl rfl (.cons rfl rfl (.cons rfl rfl (.cons rfl rfl (.cons rfl rfl (.cons rfl rfl (.cons rfl rfl (.cons rfl rfl (.cons rfl rfl (.cons rfl rfl (.cons rfl rfl (.cons rfl rfl (.cons rfl rfl (.cons rfl rfl (.cons rfl rfl (.cons rfl rfl (.cons rfl rfl .nil))))))))))))))))))))))))))))))) ?_
                  refine CJ_else rfl (decide_eq_false k2) ?_
                  refine CJ_seq ?_
                  refine CJ_region ?_
                  refine RJ_q (Op_eql rfl rfl) rfl ?_
                  by_cases k3 : ok = 3
                  · skip
                    refine RJ_q (Op_assign rfl) rfl ?_
                    refine RJ_nil ?_
                    refine NJ_then ?_
                    refine CJ_env (E' := [(1, _), (5, _), (6, _), (7, _), (8, _), (9, _), (10, _), (33, _), (34, _), (35, _), (36, _), (37, _), (38, _), (39, _), (40, _), (43, _), (44, _), (45, _), (46, _), (47, _), (48, _), (49, _), (50, _), (51, _), (52, _), (53, _), (54, _), (99, _), (100, _), (143, _), (144, _), (175, _), (176, _)]) (.cons rfl rfl (.cons rfl rfl (.cons rfl rfl (.cons rfl rfl (.cons rfl rfl (.cons rfl rfl (.cons rfl rfl (.cons rfl rfl (.cons rfl rfl (.cons rfl rfl (.cons rfl rfl (.cons rfl rfl (.cons rfl rfl (.cons rfl rfl (.cons rfl rfl (.cons rfl rfl (.cons rfl rfl (.cons rfl rfl (.cons rfl rfl (.cons rfl rfl (.cons rfl rfl (.cons rfl rfl (.cons rfl rfl (.cons rfl rfl (.cons rfl rfl (.cons rfl rfl (.cons rfl rfl (.cons rfl rfl (.cons rfl rfl (.cons rfl rfl (.cons rfl rfl (.cons rfl rfl (.cons rfl rfl .nil))))))))))))))))))))))))))))))))) ?_
                    refine CJ_then rfl (decide_eq_true k3) ?_
                    by_cases hin : 0 ≤ oi ∧ oi < (ps.length : Int)
                    · skip
                      obtain ⟨k, rfl⟩ := Int.eq_ofNat_of_zero_le hin.1
                      have hlt : k < ps.length := by omega
                      obtain ⟨p, hk⟩ : ∃ p, ps[k]? = some p := ⟨ps[k], List.getElem?_eq_getElem hlt⟩
                      have hpb := hbs p (List.mem_of_getElem? hk)
                      refine CJ_draw (.q 0 (.q 1 (.q 2 (.q 4 (.q 5 (.q 6 (.e 3 (.e 7 (.q 8 (.q 9 (.q 10 (.q 11 (.q 12 (.e 13 (.q 14 (.q 15 (.q 16 .done))))))))))))))))) (by kernel_rfl) (by kernel_rfl) (by kernel_rfl) ?_
                      refine SJ_q rfl (want_none rfl) rfl (fun _ _ => Op_move rfl) ?_
                      refine SJ_q rfl (want_none rfl) rfl (fun _ _ => Op_fieldAddr (o' := 3) rfl Try.underlying32 rfl sz3 rfl rfl) ?_
                      refine SJ_load rfl (want_none rfl) rfl rfl (load_cell Try.underlying3 rfl (by first | ((repeat (first | with_reducible exact .here | apply Pick.there)); done) | ((repeat (first | exact .here | apply Pick.there)); done)) (Nth.s (Nth.s (Nth.s Nth.z)))) ?_
                      refine SJ_q rfl (want_none rfl) rfl (fun _ _ => Op_move rfl) ?_
                      refine SJ_q rfl (want_none rfl) rfl (fun _ _ => Op_fieldAddr (o' := 3) rfl Try.underlying32 rfl sz3 rfl rfl) ?_
                      refine SJ_load rfl (want_none rfl) rfl rfl (load_cell Try.underlying3 rfl (by first | ((repeat (first | with_reducible exact .here | apply Pick.there)); done) | ((repeat (first | exact .here | apply Pick.there)); done)) (Nth.s (Nth.s (Nth.s Nth.z)))) ?_
                      refine SJ_p (rd' := [⟨6, _, _, _⟩]) [6] rfl (want_none rfl) rfl (Op_call (vs := [_, _]) Try.func13 rfl rfl (Double_two _ _ _ _ _ _ hk (fun p hp => Nat.le_trans (hbs p hp) (by decide)) (by omega)) rfl (.cons (by first | ((repeat (first | with_reducible exact .here | apply Pick.there)); done) | ((repeat (first | exact .here | apply Pick.there)); done)) (Imp.refl _))) (by kernel_rfl) rfl ?_
                      rintro _ _ ⟨_, ⟨rfl, rfl⟩, rfl⟩
                      refine OS_app1 ?_
                      refine ⟨⟨(load_cell Try.underlying3 rfl (by first | ((repeat (first | with_reducible exact .here | apply Pick.there)); done) | ((repeat (first | exact .here | apply Pick.there)); done)) (Nth.s (Nth.s (Nth.s Nth.z)))), trivial⟩, ?_⟩
                      refine SJ_p (rd' := []) [] rfl (want_none rfl) rfl (Op_call (vs := [_, _]) Try.func14 rfl rfl (RDouble_two _ _ _ _ _ _ hk (by omega)) rfl (.cons (by first | ((repeat (first | with_reducible exact .here | apply Pick.there)); done) | ((repeat (first | exact .here | apply Pick.there)); done)) (Imp.refl _))) (by kernel_rfl) rfl ?_
                      rintro _ _ ⟨_, ⟨rfl, rfl⟩, rfl⟩
                      refine OS_app1 ?_
                      refine ⟨trivial, ?_⟩
                      refine SJ_q rfl (want_none rfl) rfl (fun _ _ => Op_eqb rfl rfl Try.underlying4) ?_
                      refine SJ_q rfl (want_none rfl) rfl (fun _ _ => Op_move rfl) ?_
                      refine SJ_q rfl (want_yes (t := 186) rfl rfl rfl (decide_eq_true rfl)) rfl (fun _ _ => Op_move rfl) ?_
                      refine SJ_q rfl (want_yes (t := 186) rfl rfl rfl (decide_eq_true rfl)) rfl (fun _ _ => Op_fieldAddr (o' := 3) rfl Try.underlying32 rfl sz3 rfl rfl) ?_
                      refine SJ_load rfl (want_yes (t := 186) rfl rfl rfl (decide_eq_true rfl)) rfl rfl (load_cell Try.underlying3 rfl (by first | ((repeat (first | with_reducible exact .here | apply Pick.there)); done) | ((repeat (first | exact .here | apply Pick.there)); done)) (Nth.s (Nth.s (Nth.s Nth.z)))) ?_
                      refine SJ_p (rd' := []) [] rfl (want_yes (t := 186) rfl rfl rfl (decide_eq_true rfl)) rfl (Op_call (vs := [_, _]) Try.func13 rfl rfl (Double_nil _) rfl (Imp.refl _)) (by kernel_rfl) rfl ?_
                      rintro _ _ ⟨_, ⟨rfl, rfl⟩, rfl⟩
                      refine OS_app0 ?_
                      refine ⟨trivial, ?_⟩
                      refine SJ_q rfl (want_yes (t := 186) rfl rfl rfl (decide_eq_true rfl)) rfl (fun _ _ => Op_not rfl) ?_
                      refine SJ_q rfl (want_none rfl) rfl (fun _ _ => Op_pick_t rfl (decide_eq_true rfl) rfl) ?_
                      refine SJ_q rfl (want_none rfl) rfl (fun _ _ => Op_assign rfl) ?_
                      refine SJ_done ?_
                      refine NJ_blk ?_
                      refine NJ_meet (E' := [(1, .slice a ops.length cap), (5, .pointer (some ⟨gn, 0, none⟩)), (6, .pointer (some ⟨gw, 0, none⟩)), (7, .pointer none), (8, .int .i64 (i : Int)), (10, .bool true)]) (H' := [NetP gn room (sendP room ps p) sent, RefP gw room (sendP room ps p) sent, old W] ++ R) ⟨(sendP room ps p), sent, ⟨by have := sendP_len room ps p; omega, by omega, by omega, sendP_all hbs (hbs p (List.mem_of_getElem? hk))⟩, rfl, rfl⟩ (.cons rfl (by first | rfl | (simp; done)) (.cons rfl (by first | rfl | (simp; done)) (.cons rfl (by first | rfl | (simp; done)) (.cons rfl (by first | rfl | (simp; done)) (.cons rfl (by first | rfl | (simp; done)) (.cons rfl (by first | rfl | (simp; done)) .nil)))))) (.cons (by first | ((repeat (first | with_reducible exact .here | apply Pick.there)); done) | ((repeat (first | exact .here | apply Pick.there)); done)) (.cons (by first | ((repeat (first | with_reducible exact .here | apply Pick.there)); done) | ((repeat (first | exact .here | apply Pick.there)); done)) (.cons (by first | ((repeat (first | with_reducible exact .here | apply Pick.there)); done) | ((repeat (first | exact .here | apply Pick.there)); done)) (by repeat (first | exact Imp.refl _ | refine Imp.skip ?_)))))
                    · skip
                      have hno : oi < 0 ∨ (ps.length : Int) ≤ oi := by omega
                      refine CJ_draw (.q 0 (.q 1 (.q 2 (.q 4 (.q 5 (.q 6 (.e 3 (.e 7 (.q 8 (.q 9 (.q 10 (.q 11 (.q 12 (.e 13 (.q 14 (.q 15 (.q 16 .done))))))))))))))))) (by kernel_rfl) (by kernel_rfl) (by kernel_rfl) ?_
                      refine SJ_q rfl (want_none rfl) rfl (fun _ _ => Op_move rfl) ?_
                      refine SJ_q rfl (want_none rfl) rfl (fun _ _ => Op_fieldAddr (o' := 3) rfl Try.underlying32 rfl sz3 rfl rfl) ?_
                      refine SJ_load rfl (want_none rfl) rfl rfl (load_cell Try.underlying3 rfl (by first | ((repeat (first | with_reducible exact .here | apply Pick.there)); done) | ((repeat (first | exact .here | apply Pick.there)); done)) (Nth.s (Nth.s (Nth.s Nth.z)))) ?_
                      refine SJ_q rfl (want_none rfl) rfl (fun _ _ => Op_move rfl) ?_
                      refine SJ_q rfl (want_none rfl) rfl (fun _ _ => Op_fieldAddr (o' := 3) rfl Try.underlying32 rfl sz3 rfl rfl) ?_
                      refine SJ_load rfl (want_none rfl) rfl rfl (load_cell Try.underlying3 rfl (by first | ((repeat (first | with_reducible exact .here | apply Pick.there)); done) | ((repeat (first | exact .here | apply Pick.there)); done)) (Nth.s (Nth.s (Nth.s Nth.z)))) ?_
                      refine SJ_p (rd' := [⟨6, _, _, _⟩]) [6] rfl (want_none rfl) rfl (Op_call (vs := [_, _]) Try.func13 rfl rfl (Double_no _ _ _ _ _ hno) rfl (.cons (by first | ((repeat (first | with_reducible exact .here | apply Pick.there)); done) | ((repeat (first | exact .here | apply Pick.there)); done)) (Imp.refl _))) (by kernel_rfl) rfl ?_
                      rintro _ _ ⟨_, ⟨rfl, rfl⟩, rfl⟩
                      refine OS_app1 ?_
                      refine ⟨⟨(load_cell Try.underlying3 rfl (by first | ((repeat (first | with_reducible exact .here | apply Pick.there)); done) | ((repeat (first | exact .here | apply Pick.there)); done)) (Nth.s (Nth.s (Nth.s Nth.z)))), trivial⟩, ?_⟩
                      refine SJ_p (rd' := []) [] rfl (want_none rfl) rfl (Op_call (vs := [_, _]) Try.func14 rfl rfl (RDouble_no _ _ _ _ _ hno) rfl (.cons (by first | ((repeat (first | with_reducible exact .here | apply Pick.there)); done) | ((repeat (first | exact .here | apply Pick.there)); done)) (Imp.refl _))) (by kernel_rfl) rfl ?_
                      rintro _ _ ⟨_, ⟨rfl, rfl⟩, rfl⟩
                      refine OS_app1 ?_
                      refine ⟨trivial, ?_⟩
                      refine SJ_q rfl (want_none rfl) rfl (fun _ _ => Op_eqb rfl rfl Try.underlying4) ?_
                      refine SJ_q rfl (want_none rfl) rfl (fun _ _ => Op_move rfl) ?_
                      refine SJ_q rfl (want_yes (t := 186) rfl rfl rfl (decide_eq_true rfl)) rfl (fun _ _ => Op_move rfl) ?_
                      refine SJ_q rfl (want_yes (t := 186) rfl rfl rfl (decide_eq_true rfl)) rfl (fun _ _ => Op_fieldAddr (o' := 3) rfl Try.underlying32 rfl sz3 rfl rfl) ?_
                      refine SJ_load rfl (want_yes (t := 186) rfl rfl rfl (decide_eq_true rfl)) rfl rfl (load_cell Try.underlying3 rfl (by first | ((repeat (first | with_reducible exact .here | apply Pick.there)); done) | ((repeat (first | exact .here | apply Pick.there)); done)) (Nth.s (Nth.s (Nth.s Nth.z)))) ?_
                      refine SJ_p (rd' := []) [] rfl (want_yes (t := 186) rfl rfl rfl (decide_eq_true rfl)) rfl (Op_call (vs := [_, _]) Try.func13 rfl rfl (Double_nil _) rfl (Imp.refl _)) (by kernel_rfl) rfl ?_
                      rintro _ _ ⟨_, ⟨rfl, rfl⟩, rfl⟩
                      refine OS_app0 ?_
                      refine ⟨trivial, ?_⟩
                      refine SJ_q rfl (want_yes (t := 186) rfl rfl rfl (decide_eq_true rfl)) rfl (fun _ _ => Op_not rfl) ?_
                      refine SJ_q rfl (want_none rfl) rfl (fun _ _ => Op_pick_t rfl (decide_eq_true rfl) rfl) ?_
                      refine SJ_q rfl (want_none rfl) rfl (fun _ _ => Op_assign rfl) ?_
                      refine SJ_done ?_
                      refine NJ_blk ?_
                      refine NJ_meet (E' := [(1, .slice a ops.length cap), (5, .pointer (some ⟨gn, 0, none⟩)), (6, .pointer (some ⟨gw, 0, none⟩)), (7, .pointer none), (8, .int .i64 (i : Int)), (10, .bool true)]) (H' := [NetP gn room ps sent, RefP gw room ps sent, old W] ++ R) ⟨ps, sent, ⟨by omega, by omega, by omega, hbs⟩, rfl, rfl⟩ (.cons rfl (by first | rfl | (simp; done)) (.cons rfl (by first | rfl | (simp; done)) (.cons rfl (by first | rfl | (simp; done)) (.cons rfl (by first | rfl | (simp; done)) (.cons rfl (by first | rfl | (simp; done)) (.cons rfl (by first | rfl | (simp; done)) .nil)))))) (.cons (by first | ((repeat (first | with_reducible exact .here | apply Pick.there)); done) | ((repeat (first | exact .here | apply Pick.there)); done)) (.cons (by first | ((repeat (first | with_reducible exact .here | apply Pick.there)); done) | ((repeat (first | exact .here | apply Pick.there)); done)) (.cons (by first | ((repeat (first | with_reducible exact .here | apply Pick.there)); done) | ((repeat (first | exact .here | apply Pick.there)); done)) (by repeat (first | exact Imp.refl _ | refine Imp.skip ?_)))))
                  · skip
                    refine RJ_q (Op_assign rfl) rfl ?_
                    refine RJ_nil ?_
                    refine NJ_then ?_
                    refine CJ_env (E' := [(1, _), (5, _), (6, _), (7, _), (8, _), (9, _), (10, _), (33, _), (34, _), (35, _), (36, _), (37, _), (38, _), (39, _), (40, _), (43, _), (44, _), (45, _), (46, _), (47, _), (48, _), (49, _), (50, _), (51, _), (52, _), (53, _), (54, _), (99, _), (100, _), (143, _), (144, _), (175, _), (176, _)]) (.cons rfl rfl (.cons rfl rfl (.cons rfl rfl (.cons rfl rfl (.cons rfl rfl (.cons rfl rfl (.cons rfl rfl (.cons rfl rfl (.cons rfl rfl (.cons rfl rfl (.cons rfl rfl (.cons rfl rfl (.cons rfl rfl (.cons rfl rfl (.cons rfl rfl (.cons rfl rfl (.cons rfl rfl (.cons rfl rfl (.cons rfl rfl (.cons rfl rfl (.cons rfl rfl (.cons rfl rfl (.cons rfl rfl (.cons rfl rfl (.cons rfl rfl (.cons rfl rfl (.cons rfl rfl (.cons rfl rfl (.cons rfl rfl (.cons rfl rfl (.cons rfl rfl (.cons rfl rfl (.cons rfl rfl .nil))))))))))))))))))))))))))))))))) ?_
                    refine CJ_else rfl (decide_eq_false k3) ?_
                    refine CJ_seq ?_
                    refine CJ_region ?_
                    refine RJ_q (Op_eql rfl rfl) rfl ?_
                    by_cases k4 : ok = 4
                    · skip
                      refine RJ_q (Op_assign rfl) rfl ?_
                      refine RJ_nil ?_
                      refine NJ_then ?_
                      refine CJ_env (E' := [(1, _), (5, _), (6, _), (7, _), (8, _), (9, _), (10, _), (33, _), (34, _), (35, _), (36, _), (37, _), (38, _), (39, _), (40, _), (43, _), (44, _), (45, _), (46, _), (47, _), (48, _), (49, _), (50, _), (51, _), (52, _), (53, _), (54, _), (99, _), (100, _), (143, _), (144, _), (175, _), (176, _), (193, _), (194, _)]) (.cons rfl rfl (.cons rfl rfl (.cons rfl rfl (.cons rfl rfl (.cons rfl rfl (.cons rfl rfl (.cons rfl rfl (.cons rfl rfl (.cons rfl rfl (.cons rfl rfl (.cons rfl rfl (.cons rfl rfl (.cons rfl rfl (.cons rfl rfl (.cons rfl rfl (.cons rfl rfl (.cons rfl rfl (.cons rfl rfl (.cons rfl rfl (.cons rfl rfl (.cons rfl rfl (.cons rfl rfl (.cons rfl rfl (.cons rfl rfl (.cons rfl rfl (.cons rfl rfl (.cons rfl rfl (.cons rfl rfl (.cons rfl rfl (.cons rfl rfl (.cons rfl rfl (.cons rfl rfl (.cons rfl rfl (.cons rfl rfl (.cons rfl rfl .nil))))))))))))))))))))))))))))))))))) ?_
                      refine CJ_then rfl (decide_eq_true k4) ?_
                      refine CJ_draw (.q 0 (.q 1 (.q 2 (.q 3 (.q 4 (.q 5 (.q 6 (.q 8 (.q 9 (.q 10 (.q 11 (.q 12 (.q 13 (.q 14 (.e 7 (.e 15 (.q 16 (.q 17 (.q 18 (.q 19 (.q 20 (.q 21 (.q 22 (.q 23 (.q 24 (.e 25 (.q 26 (.q 27 (.q 28 .done))))))))))))))))))))))))))))) (by kernel_rfl) (by kernel_rfl) (by kernel_rfl) ?_
                      refine SJ_q rfl (want_none rfl) rfl (fun _ _ => Op_move rfl) ?_
                      refine SJ_q rfl (want_none rfl) rfl (fun _ _ => Op_fieldAddr (o' := 3) rfl Try.underlying32 rfl sz3 rfl rfl) ?_
                      refine SJ_load rfl (want_none rfl) rfl rfl (load_cell Try.underlying3 rfl (by first | ((repeat (first | with_reducible exact .here | apply Pick.there)); done) | ((repeat (first | exact .here | apply Pick.there)); done)) (Nth.s (Nth.s (Nth.s Nth.z)))) ?_
                      refine SJ_q rfl (want_none rfl) rfl (fun _ _ => Op_fieldAddr (o' := 4) rfl Try.underlying32 rfl sz3 rfl rfl) ?_
                      refine SJ_load rfl (want_none rfl) rfl rfl (load_cell Try.underlying3 rfl (by first | ((repeat (first | with_reducible exact .here | apply Pick.there)); done) | ((repeat (first | exact .here | apply Pick.there)); done)) (Nth.s (Nth.s (Nth.s (Nth.s Nth.z))))) ?_
                      refine SJ_q rfl (want_none rfl) rfl (fun _ _ => Op_fieldAddr (o' := 5) rfl Try.underlying32 rfl sz5 rfl rfl) ?_
                      refine SJ_load rfl (want_none rfl) rfl rfl (load_cell Try.underlying5 rfl (by first | ((repeat (first | with_reducible exact .here | apply Pick.there)); done) | ((repeat (first | exact .here | apply Pick.there)); done)) (Nth.s (Nth.s (Nth.s (Nth.s (Nth.s Nth.z)))))) ?_
                      refine SJ_q rfl (want_none rfl) rfl (fun _ _ => Op_move rfl) ?_
                      refine SJ_q rfl (want_none rfl) rfl (fun _ _ => Op_fieldAddr (o' := 3) rfl Try.underlying32 rfl sz3 rfl rfl) ?_
                      refine SJ_load rfl (want_none rfl) rfl rfl (load_cell Try.underlying3 rfl (by first | ((repeat (first | with_reducible exact .here | apply Pick.there)); done) | ((repeat (first | exact .here | apply Pick.there)); done)) (Nth.s (Nth.s (Nth.s Nth.z)))) ?_
                      refine SJ_q rfl (want_none rfl) rfl (fun _ _ => Op_fieldAddr (o' := 4) rfl Try.underlying32 rfl sz3 rfl rfl) ?_
                      refine SJ_load rfl (want_none rfl) rfl rfl (load_cell Try.underlying3 rfl (by first | ((repeat (first | with_reducible exact .here | apply Pick.there)); done) | ((repeat (first | exact .here | apply Pick.there)); done)) (Nth.s (Nth.s (Nth.s (Nth.s Nth.z))))) ?_
                      refine SJ_q rfl (want_none rfl) rfl (fun _ _ => Op_fieldAddr (o' := 5) rfl Try.underlying32 rfl sz5 rfl rfl) ?_
                      refine SJ_load rfl (want_none rfl) rfl rfl (load_cell Try.underlying5 rfl (by first | ((repeat (first | with_reducible exact .here | apply Pick.there)); done) | ((repeat (first | exact .here | apply Pick.there)); done)) (Nth.s (Nth.s (Nth.s (Nth.s (Nth.s Nth.z)))))) ?_
                      refine SJ_p (rd' := [⟨14, _, _, _⟩, ⟨12, _, _, _⟩, ⟨10, _, _, _⟩]) [14, 12, 10] rfl (want_none rfl) rfl (Op_call (vs := [_, _, _, _]) Try.func15 rfl rfl (Turn_any gn room ps sent oi oj oc (by omega)) rfl (.cons (by first | ((repeat (first | with_reducible exact .here | apply Pick.there)); done) | ((repeat (first | exact .here | apply Pick.there)); done)) (Imp.refl _))) (by kernel_rfl) rfl ?_
                      rintro _ _ ⟨_, ⟨rfl, rfl⟩, rfl⟩
                      refine OS_app1 ?_
                      refine ⟨⟨(load_cell Try.underlying5 rfl (by first | ((repeat (first | with_reducible exact .here | apply Pick.there)); done) | ((repeat (first | exact .here | apply Pick.there)); done)) (Nth.s (Nth.s (Nth.s (Nth.s (Nth.s Nth.z)))))), ⟨(load_cell Try.underlying3 rfl (by first | ((repeat (first | with_reducible exact .here | apply Pick.there)); done) | ((repeat (first | exact .here | apply Pick.there)); done)) (Nth.s (Nth.s (Nth.s (Nth.s Nth.z))))), ⟨(load_cell Try.underlying3 rfl (by first | ((repeat (first | with_reducible exact .here | apply Pick.there)); done) | ((repeat (first | exact .here | apply Pick.there)); done)) (Nth.s (Nth.s (Nth.s Nth.z)))), trivial⟩⟩⟩, ?_⟩
                      refine SJ_p (rd' := []) [] rfl (want_none rfl) rfl (Op_call (vs := [_, _, _, _]) Try.func16 rfl rfl (RTurn_any gw room ps sent oi oj oc (by omega) (fun p hp => Nat.le_trans (hbs p hp) (by decide))) rfl (.cons (by first | ((repeat (first | with_reducible exact .here | apply Pick.there)); done) | ((repeat (first | exact .here | apply Pick.there)); done)) (Imp.refl _))) (by kernel_rfl) rfl ?_
                      rintro _ _ ⟨_, ⟨rfl, rfl⟩, rfl⟩
                      refine OS_app1 ?_
                      refine ⟨trivial, ?_⟩
                      refine SJ_q rfl (want_none rfl) rfl (fun _ _ => Op_eqb rfl rfl Try.underlying4) ?_
                      refine SJ_q rfl (want_none rfl) rfl (fun _ _ => Op_move rfl) ?_
                      refine SJ_q rfl (want_yes (t := 212) rfl rfl rfl (decide_eq_true rfl)) rfl (fun _ _ => Op_move rfl) ?_
                      refine SJ_q rfl (want_yes (t := 212) rfl rfl rfl (decide_eq_true rfl)) rfl (fun _ _ => Op_fieldAddr (o' := 3) rfl Try.underlying32 rfl sz3 rfl rfl) ?_
                      refine SJ_load rfl (want_yes (t := 212) rfl rfl rfl (decide_eq_true rfl)) rfl rfl (load_cell Try.underlying3 rfl (by first | ((repeat (first | with_reducible exact .here | apply Pick.there)); done) | ((repeat (first | exact .here | apply Pick.there)); done)) (Nth.s (Nth.s (Nth.s Nth.z)))) ?_
                      refine SJ_q rfl (want_yes (t := 212) rfl rfl rfl (decide_eq_true rfl)) rfl (fun _ _ => Op_fieldAddr (o' := 4) rfl Try.underlying32 rfl sz3 rfl rfl) ?_
                      refine SJ_load rfl (want_yes (t := 212) rfl rfl rfl (decide_eq_true rfl)) rfl rfl (load_cell Try.underlying3 rfl (by first | ((repeat (first | with_reducible exact .here | apply Pick.there)); done) | ((repeat (first | exact .here | apply Pick.there)); done)) (Nth.s (Nth.s (Nth.s (Nth.s Nth.z))))) ?_
                      refine SJ_q rfl (want_yes (t := 212) rfl rfl rfl (decide_eq_true rfl)) rfl (fun _ _ => Op_fieldAddr (o' := 5) rfl Try.underlying32 rfl sz5 rfl rfl) ?_
                      refine SJ_load rfl (want_yes (t := 212) rfl rfl rfl (decide_eq_true rfl)) rfl rfl (load_cell Try.underlying5 rfl (by first | ((repeat (first | with_reducible exact .here | apply Pick.there)); done) | ((repeat (first | exact .here | apply Pick.there)); done)) (Nth.s (Nth.s (Nth.s (Nth.s (Nth.s Nth.z)))))) ?_
                      refine SJ_p (rd' := []) [] rfl (want_yes (t := 212) rfl rfl rfl (decide_eq_true rfl)) rfl (Op_call (vs := [_, _, _, _]) Try.func15 rfl rfl (Turn_nil _ _ _) rfl (Imp.refl _)) (by kernel_rfl) rfl ?_
                      rintro _ _ ⟨_, ⟨rfl, rfl⟩, rfl⟩
                      refine OS_app0 ?_
                      refine ⟨trivial, ?_⟩
                      refine SJ_q rfl (want_yes (t := 212) rfl rfl rfl (decide_eq_true rfl)) rfl (fun _ _ => Op_not rfl) ?_
                      refine SJ_q rfl (want_none rfl) rfl (fun _ _ => Op_pick_t rfl (decide_eq_true rfl) rfl) ?_
                      refine SJ_q rfl (want_none rfl) rfl (fun _ _ => Op_assign rfl) ?_
                      refine SJ_done ?_
                      refine NJ_blk ?_
                      refine NJ_meet (E' := [(1, .slice a ops.length cap), (5, .pointer (some ⟨gn, 0, none⟩)), (6, .pointer (some ⟨gw, 0, none⟩)), (7, .pointer none), (8, .int .i64 (i : Int)), (10, .bool true)]) (H' := [NetP gn room ((turnAt ps oi oj oc).getD ps) sent, RefP gw room ((turnAt ps oi oj oc).getD ps) sent, old W] ++ R) ⟨((turnAt ps oi oj oc).getD ps), sent, ⟨by rw [turnAt_len]; omega, by omega, by omega, turnAt_all hbs⟩, rfl, rfl⟩ (.cons rfl (by first | rfl | (simp; done)) (.cons rfl (by first | rfl | (simp; done)) (.cons rfl (by first | rfl | (simp; done)) (.cons rfl (by first | rfl | (simp; done)) (.cons rfl (by first | rfl | (simp; done)) (.cons rfl (by first | rfl | (simp; done)) .nil)))))) (.cons (by first | ((repeat (first | with_reducible exact .here | apply Pick.there)); done) | ((repeat (first | exact .here | apply Pick.there)); done)) (.cons (by first | ((repeat (first | with_reducible exact .here | apply Pick.there)); done) | ((repeat (first | exact .here | apply Pick.there)); done)) (.cons (by first | ((repeat (first | with_reducible exact .here | apply Pick.there)); done) | ((repeat (first | exact .here | apply Pick.there)); done)) (by repeat (first | exact Imp.refl _ | refine Imp.skip ?_)))))
                    · skip
                      refine RJ_q (Op_assign rfl) rfl ?_
                      refine RJ_nil ?_
                      refine NJ_then ?_
                      refine CJ_env (E' := [(1, _), (5, _), (6, _), (7, _), (8, _), (9, _), (10, _), (33, _), (34, _), (35, _), (36, _), (37, _), (38, _), (39, _), (40, _), (43, _), (44, _), (45, _), (46, _), (47, _), (48, _), (49, _), (50, _), (51, _), (52, _), (53, _), (54, _), (99, _), (100, _), (143, _), (144, _), (175, _), (176, _), (193, _), (194, _)]) (.cons rfl rfl (.cons rfl rfl (.cons rfl rfl (.cons rfl rfl (.cons rfl rfl (.cons rfl rfl (.cons rfl rfl (.cons rfl rfl (.cons rfl rfl (.cons rfl rfl (.cons rfl rfl (.cons rfl rfl (.cons rfl rfl (.cons rfl rfl (.cons rfl rfl (.cons rfl rfl (.cons rfl rfl (.cons rfl rfl (.cons rfl rfl (.cons rfl rfl (.cons rfl rfl (.cons rfl rfl (.cons rfl rfl (.cons rfl rfl (.cons rfl rfl (.cons rfl rfl (.cons rfl rfl (.cons rfl rfl (.cons rfl rfl (.cons rfl rfl (.cons rfl rfl (.cons rfl rfl (.cons rfl rfl (.cons rfl rfl (.cons rfl rfl .nil))))))))))))))))))))))))))))))))))) ?_
                      refine CJ_else rfl (decide_eq_false k4) ?_
                      refine CJ_seq ?_
                      refine CJ_region ?_
                      refine RJ_q (Op_eql rfl rfl) rfl ?_
                      by_cases k5 : ok = 5
                      · skip
                        refine RJ_q (Op_assign rfl) rfl ?_
                        refine RJ_nil ?_
                        refine NJ_then ?_
                        refine CJ_env (E' := [(1, _), (5, _), (6, _), (7, _), (8, _), (9, _), (10, _), (33, _), (34, _), (35, _), (36, _), (37, _), (38, _), (39, _), (40, _), (43, _), (44, _), (45, _), (46, _), (47, _), (48, _), (49, _), (50, _), (51, _), (52, _), (53, _), (54, _), (99, _), (100, _), (143, _), (144, _), (175, _), (176, _), (193, _), (194, _), (223, _), (224, _)]) (.cons rfl rfl (.cons rfl rfl (.cons rfl rfl (.cons rfl rfl (.cons rfl rfl (.cons rfl rfl (.cons rfl rfl (.cons rfl rfl (.cons rfl rfl (.cons rfl rfl (.cons rfl rfl (.cons rfl rfl (.cons rfl rfl (.cons rfl rfl (.cons rfl rfl (.cons rfl rfl (.cons rfl rfl (.cons rfl rfl (.cons rfl rfl (.cons rfl rfl (.cons rfl rfl (.cons rfl rfl (.cons rfl rfl (.cons rfl rfl (.cons rfl rfl (.cons rfl rfl (.cons rfl rfl (.cons rfl rfl (.cons rfl rfl (.cons rfl rfl (.cons rfl rfl (.cons rfl rfl (.cons rfl rfl (.cons rfl rfl (.cons rfl rfl (.cons rfl rfl (.cons rfl rfl .nil))))))))))))))))))))))))))))))))))))) ?_
                        refine CJ_then rfl (decide_eq_true k5) ?_
                        refine CJ_draw (.q 0 (.q 1 (.q 2 (.q 4 (.q 5 (.q 6 (.e 3 (.e 7 (.q 8 (.q 9 (.q 10 (.q 11 (.q 12 (.e 13 (.q 14 (.q 15 (.q 16 .done))))))))))))))))) (by kernel_rfl) (by kernel_rfl) (by kernel_rfl) ?_
                        refine SJ_q rfl (want_none rfl) rfl (fun _ _ => Op_move rfl) ?_
                        refine SJ_q rfl (want_none rfl) rfl (fun _ _ => Op_fieldAddr (o' := 3) rfl Try.underlying32 rfl sz3 rfl rfl) ?_
                        refine SJ_load rfl (want_none rfl) rfl rfl (load_cell Try.underlying3 rfl (by first | ((repeat (first | with_reducible exact .here | apply Pick.there)); done) | ((repeat (first | exact .here | apply Pick.there)); done)) (Nth.s (Nth.s (Nth.s Nth.z)))) ?_
                        refine SJ_q rfl (want_none rfl) rfl (fun _ _ => Op_move rfl) ?_
                        refine SJ_q rfl (want_none rfl) rfl (fun _ _ => Op_fieldAddr (o' := 3) rfl Try.underlying32 rfl sz3 rfl rfl) ?_
                        refine SJ_load rfl (want_none rfl) rfl rfl (load_cell Try.underlying3 rfl (by first | ((repeat (first | with_reducible exact .here | apply Pick.there)); done) | ((repeat (first | exact .here | apply Pick.there)); done)) (Nth.s (Nth.s (Nth.s Nth.z)))) ?_
                        refine SJ_p (rd' := [⟨6, _, _, _⟩]) [6] rfl (want_none rfl) rfl (Op_call (vs := [_, _]) Try.func17 rfl rfl (Drop_any gn room ps sent oi (by omega)) rfl (.cons (by first | ((repeat (first | with_reducible exact .here | apply Pick.there)); done) | ((repeat (first | exact .here | apply Pick.there)); done)) (Imp.refl _))) (by kernel_rfl) rfl ?_
                        rintro _ _ ⟨_, ⟨rfl, rfl⟩, rfl⟩
                        refine OS_app1 ?_
                        refine ⟨⟨(load_cell Try.underlying3 rfl (by first | ((repeat (first | with_reducible exact .here | apply Pick.there)); done) | ((repeat (first | exact .here | apply Pick.there)); done)) (Nth.s (Nth.s (Nth.s Nth.z)))), trivial⟩, ?_⟩
                        refine SJ_p (rd' := []) [] rfl (want_none rfl) rfl (Op_call (vs := [_, _]) Try.func18 rfl rfl (RDrop_any gw room ps sent oi (by omega)) rfl (.cons (by first | ((repeat (first | with_reducible exact .here | apply Pick.there)); done) | ((repeat (first | exact .here | apply Pick.there)); done)) (Imp.refl _))) (by kernel_rfl) rfl ?_
                        rintro _ _ ⟨_, ⟨rfl, rfl⟩, rfl⟩
                        refine OS_app1 ?_
                        refine ⟨trivial, ?_⟩
                        refine SJ_q rfl (want_none rfl) rfl (fun _ _ => Op_eql rfl rfl) ?_
                        refine SJ_q rfl (want_none rfl) rfl (fun _ _ => Op_move rfl) ?_
                        refine SJ_q rfl (want_yes (t := 234) rfl rfl rfl (decide_eq_true rfl)) rfl (fun _ _ => Op_move rfl) ?_
                        refine SJ_q rfl (want_yes (t := 234) rfl rfl rfl (decide_eq_true rfl)) rfl (fun _ _ => Op_fieldAddr (o' := 3) rfl Try.underlying32 rfl sz3 rfl rfl) ?_
                        refine SJ_load rfl (want_yes (t := 234) rfl rfl rfl (decide_eq_true rfl)) rfl rfl (load_cell Try.underlying3 rfl (by first | ((repeat (first | with_reducible exact .here | apply Pick.there)); done) | ((repeat (first | exact .here | apply Pick.there)); done)) (Nth.s (Nth.s (Nth.s Nth.z)))) ?_
                        refine SJ_p (rd' := []) [] rfl (want_yes (t := 234) rfl rfl rfl (decide_eq_true rfl)) rfl (Op_call (vs := [_, _]) Try.func17 rfl rfl (Drop_nil _) rfl (Imp.refl _)) (by kernel_rfl) rfl ?_
                        rintro _ _ ⟨_, ⟨rfl, rfl⟩, rfl⟩
                        refine OS_app0 ?_
                        refine ⟨trivial, ?_⟩
                        refine SJ_q rfl (want_yes (t := 234) rfl rfl rfl (decide_eq_true rfl)) rfl (fun _ _ => Op_eql rfl rfl) ?_
                        refine SJ_q rfl (want_none rfl) rfl (fun _ _ => Op_pick_t rfl (decide_eq_true rfl) rfl) ?_
                        refine SJ_q rfl (want_none rfl) rfl (fun _ _ => Op_assign rfl) ?_
                        refine SJ_done ?_
                        refine NJ_blk ?_
                        refine NJ_meet (E' := [(1, .slice a ops.length cap), (5, .pointer (some ⟨gn, 0, none⟩)), (6, .pointer (some ⟨gw, 0, none⟩)), (7, .pointer none), (8, .int .i64 (i : Int)), (10, .bool true)]) (H' := [NetP gn room (ps.filter (fun p => decide (p.t ≠ oi))) sent, RefP gw room (ps.filter (fun p => decide (p.t ≠ oi))) sent, old W] ++ R) ⟨(ps.filter (fun p => decide (p.t ≠ oi))), sent, ⟨by have := List.length_filter_le (fun p : Pkt => decide (p.t ≠ oi)) ps; omega, by omega, by omega, fun p hp => hbs p (List.mem_filter.1 hp).1⟩, rfl, rfl⟩ (.cons rfl (by first | rfl | (simp; done)) (.cons rfl (by first | rfl | (simp; done)) (.cons rfl (by first | rfl | (simp; done)) (.cons rfl (by first | rfl | (simp; done)) (.cons rfl (by first | rfl | (simp; done)) (.cons rfl (by first | rfl | (simp; done)) .nil)))))) (.cons (by first | ((repeat (first | with_reducible exact .here | apply Pick.there)); done) | ((repeat (first | exact .here | apply Pick.there)); done)) (.cons (by first | ((repeat (first | with_reducible exact .here | apply Pick.there)); done) | ((repeat (first | exact .here | apply Pick.there)); done)) (.cons (by first | ((repeat (first | with_reducible exact .here | apply Pick.there)); done) | ((repeat (first | exact .here | apply Pick.there)); done)) (by repeat (first | exact Imp.refl _ | refine Imp.skip ?_)))))
                      · skip
                        refine RJ_q (Op_assign rfl) rfl ?_
                        refine RJ_nil ?_
                        refine NJ_then ?_
                        refine CJ_env (E' := [(1, _), (5, _), (6, _), (7, _), (8, _), (9, _), (10, _), (33, _), (34, _), (35, _), (36, _), (37, _), (38, _), (39, _), (40, _), (43, _), (44, _), (45, _), (46, _), (47, _), (48, _), (49, _), (50, _), (51, _), (52, _), (53, _), (54, _), (99, _), (100, _), (143, _), (144, _), (175, _), (176, _), (193, _), (194, _), (223, _), (224, _)]) (.cons rfl rfl (.cons rfl rfl (.cons rfl rfl (.cons rfl rfl (.cons rfl rfl (.cons rfl rfl (.cons rfl rfl (.cons rfl rfl (.cons rfl rfl (.cons rfl rfl (.cons rfl rfl (.cons rfl rfl (.cons rfl rfl (.cons rfl rfl (.cons rfl rfl (.cons rfl rfl (.cons rfl rfl (.cons rfl rfl (.cons rfl rfl (.cons rfl rfl (.cons rfl rfl (.cons rfl rfl (.cons rfl rfl (.cons rfl rfl (.cons rfl rfl (.cons rfl rfl (.cons rfl rfl (.cons rfl rfl (.cons rfl rfl (.cons rfl rfl (.cons rfl rfl (.cons rfl rfl (.cons rfl rfl (.cons rfl rfl (.cons rfl rfl (.cons rfl rfl (.cons rfl rfl .nil))))))))))))))))))))))))))))))))))))) ?_
                        refine CJ_else rfl (decide_eq_false k5) ?_
                        refine CJ_skip ?_
                        refine NJ_blk ?_
                        refine NJ_meet (E' := [(1, .slice a ops.length cap), (5, .pointer (some ⟨gn, 0, none⟩)), (6, .pointer (some ⟨gw, 0, none⟩)), (7, .pointer none), (8, .int .i64 (i : Int)), (10, .bool true)]) (H' := [NetP gn room ps sent, RefP gw room ps sent, old W] ++ R) ⟨ps, sent, ⟨by omega, by omega, by omega, hbs⟩, rfl, rfl⟩ (.cons rfl (by first | rfl | (simp; done)) (.cons rfl (by first | rfl | (simp; done)) (.cons rfl (by first | rfl | (simp; done)) (.cons rfl (by first | rfl | (simp; done)) (.cons rfl (by first | rfl | (simp; done)) (.cons rfl (by first | rfl | (simp; done)) .nil)))))) (.cons (by first | ((repeat (first | with_reducible exact .here | apply Pick.there)); done) | ((repeat (first | exact .here | apply Pick.there)); done)) (.cons (by first | ((repeat (first | with_reducible exact .here | apply Pick.there)); done) | ((repeat (first | exact .here | apply Pick.there)); done)) (.cons (by first | ((repeat (first | with_reducible exact .here | apply Pick.there)); done) | ((repeat (first | exact .here | apply Pick.there)); done)) (by repeat (first | exact Imp.refl _ | refine Imp.skip ?_)))))
          · skip
            rintro _ _ ⟨ps, sent, ⟨hq1, hq2, hq3, hbs⟩, rfl, rfl⟩
            refine CJ_app3 ?_
            refine CJ_seq ?_
            refine CJ_open (RefP_opens _ _ _ _) (by first | ((repeat (first | with_reducible exact .here | apply Pick.there)); done) | ((repeat (first | exact .here | apply Pick.there)); done)) ?_
            rintro _ ⟨ra, rcap, rfl⟩
            refine CJ_app2 ?_
            refine CJ_know (Row_know (T := RefT) (by first | ((repeat (first | with_reducible exact .here | apply Pick.there)); done) | ((repeat (first | exact .here | apply Pick.there)); done))) ?_
            intro _
            refine CJ_draw (.q 0 (.q 1 (.q 2 (.q 3 (.q 5 (.q 6 (.q 7 (.q 8 (.q 9 (.e 4 (.q 10 (.q 11 (.q 12 (.q 13 (.q 15 (.q 16 (.q 17 (.q 18 (.e 14 (.q 19 (.q 20 .done))))))))))))))))))))) (by kernel_rfl) (by kernel_rfl) (by kernel_rfl) ?_
            refine SJ_q rfl (want_none rfl) rfl (fun _ _ => Op_move rfl) ?_
            refine SJ_q rfl (want_none rfl) rfl (fun _ _ => Op_not rfl) ?_
            refine SJ_q rfl (want_none rfl) rfl (fun _ _ => Op_move rfl) ?_
            refine SJ_q rfl (want_yes (t := 243) rfl rfl rfl rfl) rfl (fun _ _ => Op_move rfl) ?_
            refine SJ_q rfl (want_yes (t := 243) rfl rfl rfl rfl) rfl (fun _ _ => Op_move rfl) ?_
            refine SJ_q rfl (want_yes (t := 243) rfl rfl rfl rfl) rfl (fun _ _ => Op_nilCheck rfl) ?_
            refine SJ_q rfl (want_yes (t := 243) rfl rfl rfl rfl) rfl (fun _ _ => Op_fieldAddr (o' := 0) rfl Try.underlying29 rfl sz27 rfl rfl) ?_
            refine SJ_load rfl (want_yes (t := 243) rfl rfl rfl rfl) rfl rfl (load_cell Try.underlying27 rfl (by first | ((repeat (first | with_reducible exact .here | apply Pick.there)); done) | ((repeat (first | exact .here | apply Pick.there)); done)) Nth.z) ?_
            refine SJ_q rfl (want_yes (t := 243) rfl rfl rfl rfl) rfl (fun _ _ => Op_len_slice rfl Try.underlying27) ?_
            refine SJ_p (rd' := [⟨8, _, _, _⟩]) [8] rfl (want_yes (t := 243) rfl rfl rfl rfl) rfl (Op_call (vs := [_]) Try.func19 rfl rfl (Len_any _ _ _ _) rfl (.cons (by first | ((repeat (first | with_reducible exact .here | apply Pick.there)); done) | ((repeat (first | exact .here | apply Pick.there)); done)) (Imp.refl _))) (by kernel_rfl) rfl ?_
            rintro _ _ ⟨_, ⟨rfl, rfl⟩, rfl⟩
            refine OS_app1 ?_
            refine ⟨⟨(load_cell Try.underlying27 rfl (by first | ((repeat (first | with_reducible exact .here | apply Pick.there)); done) | ((repeat (first | exact .here | apply Pick.there)); done)) Nth.z), trivial⟩, ?_⟩
            refine SJ_q rfl (want_yes (t := 243) rfl rfl rfl rfl) rfl (fun _ _ => Op_neq rfl rfl) ?_
            refine SJ_q rfl (want_none rfl) rfl (fun _ _ => Op_pick_f rfl rfl rfl) ?_
            refine SJ_q rfl (want_none rfl) rfl (fun _ _ => Op_move rfl) ?_
            refine SJ_q rfl (want_yes (t := 253) rfl rfl rfl (by simp)) rfl (fun _ _ => Op_move rfl) ?_
            refine SJ_q rfl (want_yes (t := 253) rfl rfl rfl (by simp)) rfl (fun _ _ => Op_move rfl) ?_
            refine SJ_q rfl (want_yes (t := 253) rfl rfl rfl (by simp)) rfl (fun _ _ => Op_nilCheck rfl) ?_
            refine SJ_q rfl (want_yes (t := 253) rfl rfl rfl (by simp)) rfl (fun _ _ => Op_fieldAddr (o' := 2) rfl Try.underlying29 rfl sz2 rfl rfl) ?_
            refine SJ_load rfl (want_yes (t := 253) rfl rfl rfl (by simp)) rfl rfl (load_cell Try.underlying2 rfl (by first | ((repeat (first | with_reducible exact .here | apply Pick.there)); done) | ((repeat (first | exact .here | apply Pick.there)); done)) (Nth.s (Nth.s Nth.z))) ?_
            refine SJ_p (rd' := [⟨18, _, _, _⟩]) [18] rfl (want_yes (t := 253) rfl rfl rfl (by simp)) rfl (Op_call (vs := [_]) Try.func20 rfl rfl (Sent_any _ _ _ _) rfl (.cons (by first | ((repeat (first | with_reducible exact .here | apply Pick.there)); done) | ((repeat (first | exact .here | apply Pick.there)); done)) (Imp.refl _))) (by kernel_rfl) rfl ?_
            rintro _ _ ⟨_, ⟨rfl, rfl⟩, rfl⟩
            refine OS_app1 ?_
            refine ⟨⟨(load_cell Try.underlying2 rfl (by first | ((repeat (first | with_reducible exact .here | apply Pick.there)); done) | ((repeat (first | exact .here | apply Pick.there)); done)) (Nth.s (Nth.s Nth.z))), trivial⟩, ?_⟩
            refine SJ_q rfl (want_yes (t := 253) rfl rfl rfl (by simp)) rfl (fun _ _ => Op_neq rfl rfl) ?_
            refine SJ_q rfl (want_none rfl) rfl (fun _ _ => Op_pick_f rfl (by simp) rfl) ?_
            refine SJ_done ?_
            refine NJ_imp (.swap (C := [pt gw (.cells #[.slice (sl ra) (ps).length rcap, .int .i64 room, .int .i64 (sent)] 29 (0, 0)), Row RefT ra rcap (ps)]) (.cons (by first | ((repeat (first | with_reducible exact .here | apply Pick.there)); done) | ((repeat (first | exact .here | apply Pick.there)); done)) (.cons (by first | ((repeat (first | with_reducible exact .here | apply Pick.there)); done) | ((repeat (first | exact .here | apply Pick.there)); done)) (Imp.refl _))) (RefP_close rfl) (.refl _)) (NJ_app1 ?_)
            refine NJ_then ?_
            refine CJ_env (E' := [(1, _), (5, _), (6, _), (7, _), (8, _), (10, _), (241, _), (242, _), (243, _), (244, _), (245, _), (246, _), (247, _), (248, _), (249, _), (250, _), (251, _), (252, _), (253, _), (254, _), (255, _), (256, _), (257, _), (258, _), (259, _), (260, _), (261, _)]) (.cons rfl rfl (.cons rfl rfl (.cons rfl rfl (.cons rfl rfl (.cons rfl rfl (.cons rfl rfl (.cons rfl rfl (.cons rfl rfl (.cons rfl rfl (.cons rfl rfl (.cons rfl rfl (.cons rfl rfl (.cons rfl rfl (.cons rfl rfl (.cons rfl rfl (.cons rfl rfl (.cons rfl rfl (.cons rfl rfl (.cons rfl rfl (.cons rfl rfl (.cons rfl rfl (.cons rfl rfl (.cons rfl rfl (.cons rfl rfl (.cons rfl rfl (.cons rfl rfl (.cons rfl rfl .nil))))))))))))))))))))))))))) ?_
            refine CJ_else rfl (by simp) ?_
            refine CJ_skip ?_
            refine NJ_blk ?_
            refine NJ_then ?_
            refine CJ_env (E' := [(1, _), (5, _), (6, _), (7, _), (8, _), (10, _), (241, _), (242, _), (243, _), (244, _), (245, _), (246, _), (247, _), (248, _), (249, _), (250, _), (251, _), (252, _), (253, _), (254, _), (255, _), (256, _), (257, _), (258, _), (259, _), (260, _), (261, _)]) (.cons rfl rfl (.cons rfl rfl (.cons rfl rfl (.cons rfl rfl (.cons rfl rfl (.cons rfl rfl (.cons rfl rfl (.cons rfl rfl (.cons rfl rfl (.cons rfl rfl (.cons rfl rfl (.cons rfl rfl (.cons rfl rfl (.cons rfl rfl (.cons rfl rfl (.cons rfl rfl (.cons rfl rfl (.cons rfl rfl (.cons rfl rfl (.cons rfl rfl (.cons rfl rfl (.cons rfl rfl (.cons rfl rfl (.cons rfl rfl (.cons rfl rfl (.cons rfl rfl (.cons rfl rfl .nil))))))))))))))))))))))))))) ?_
            refine CJ_region ?_
            refine RJ_q (Op_move rfl) rfl ?_
            refine RJ_q (Op_addN (i + 1) rfl rfl (by omega) (by omega)) rfl ?_
            refine RJ_q (Op_assign rfl) rfl ?_
            refine RJ_nil ?_
            refine NJ_back (E' := [(1, .slice a ops.length cap), (5, .pointer (some ⟨gn, 0, none⟩)), (6, .pointer (some ⟨gw, 0, none⟩)), (7, .pointer none), (8, .int .i64 ((i + 1 : Nat) : Int))]) (m' := ops.length - (i + 1)) ⟨i + 1, ps, sent, ⟨by omega, by omega, hq1, hq2, by omega, hbs⟩, rfl, rfl, rfl⟩ (by omega) (.cons rfl (by first | rfl | (simp; done)) (.cons rfl (by first | rfl | (simp; done)) (.cons rfl (by first | rfl | (simp; done)) (.cons rfl (by first | rfl | (simp; done)) (.cons rfl (by first | rfl | (simp; done)) .nil))))) (.cons (by first | ((repeat (first | with_reducible exact .here | apply Pick.there)); done) | ((repeat (first | exact .here | apply Pick.there)); done)) (.cons (by first | ((repeat (first | with_reducible exact .here | apply Pick.there)); done) | ((repeat (first | exact .here | apply Pick.there)); done)) (.cons (by first | ((repeat (first | with_reducible exact .here | apply Pick.there)); done) | ((repeat (first | exact .here | apply Pick.there)); done)) (by repeat (first | exact Imp.refl _ | refine Imp.skip ?_)))))
      · skip
        refine RJ_q (Op_pick_t rfl (decide_eq_true h0) rfl) rfl ?_
        refine RJ_nil ?_
        refine NJ_then ?_
        refine CJ_env (E' := [(1, _), (5, _), (6, _), (7, _), (8, _), (33, _), (34, _), (35, _), (36, _), (37, _), (38, _), (39, _), (40, _)]) (.cons rfl rfl (.cons rfl rfl (.cons rfl rfl (.cons rfl rfl (.cons rfl rfl (.cons rfl rfl (.cons rfl rfl (.cons rfl rfl (.cons rfl rfl (.cons rfl rfl (.cons rfl rfl (.cons rfl rfl (.cons rfl rfl .nil))))))))))))) ?_
        refine CJ_else rfl (decide_eq_false h1) ?_
        refine CJ_exit ?_
        refine NJ_then_x ?_
        refine NJ_then_x ?_
        refine NJ_blk_hit ?_
        refine NJ_meet (E' := [(5, .pointer (some ⟨gn, 0, none⟩)), (6, .pointer (some ⟨gw, 0, none⟩)), (7, .pointer none)]) (H' := [NetP gn room ps sent, RefP gw room ps sent, old W] ++ R) ⟨ps, sent, ⟨by omega, hbs⟩, rfl, rfl⟩ (.cons rfl (by first | rfl | (simp; done)) (.cons rfl (by first | rfl | (simp; done)) (.cons rfl (by first | rfl | (simp; done)) .nil))) (.cons (by first | ((repeat (first | with_reducible exact .here | apply Pick.there)); done) | ((repeat (first | exact .here | apply Pick.there)); done)) (.cons (by first | ((repeat (first | with_reducible exact .here | apply Pick.there)); done) | ((repeat (first | exact .here | apply Pick.there)); done)) (.cons (by first | ((repeat (first | with_reducible exact .here | apply Pick.there)); done) | ((repeat (first | exact .here | apply Pick.there)); done)) (by repeat (first | exact Imp.refl _ | refine Imp.skip ?_)))))
    · skip
      refine RJ_q (Op_move rfl) rfl ?_
      refine RJ_no (t := 37) false rfl rfl (decide_eq_false h0) (by decide) rfl ?_
      refine RJ_no (t := 37) false rfl rfl (decide_eq_false h0) (by decide) rfl ?_
      refine RJ_q (Op_pick_f rfl (decide_eq_false h0) rfl) rfl ?_
      refine RJ_nil ?_
      refine NJ_then ?_
      refine CJ_env (E' := [(1, _), (5, _), (6, _), (7, _), (8, _), (33, _), (34, _), (35, _), (36, _), (37, _), (38, _), (39, _), (40, _)]) (.cons rfl rfl (.cons rfl rfl (.cons rfl rfl (.cons rfl rfl (.cons rfl rfl (.cons rfl rfl (.cons rfl rfl (.cons rfl rfl (.cons rfl rfl (.cons rfl rfl (.cons rfl rfl (.cons rfl rfl (.cons rfl rfl .nil))))))))))))) ?_
      refine CJ_else rfl rfl ?_
      refine CJ_exit ?_
      refine NJ_then_x ?_
      refine NJ_then_x ?_
      refine NJ_blk_hit ?_
      refine NJ_meet (E' := [(5, .pointer (some ⟨gn, 0, none⟩)), (6, .pointer (some ⟨gw, 0, none⟩)), (7, .pointer none)]) (H' := [NetP gn room ps sent, RefP gw room ps sent, old W] ++ R) ⟨ps, sent, ⟨by omega, hbs⟩, rfl, rfl⟩ (.cons rfl (by first | rfl | (simp; done)) (.cons rfl (by first | rfl | (simp; done)) (.cons rfl (by first | rfl | (simp; done)) .nil))) (.cons (by first | ((repeat (first | with_reducible exact .here | apply Pick.there)); done) | ((repeat (first | exact .here | apply Pick.there)); done)) (.cons (by first | ((repeat (first | with_reducible exact .here | apply Pick.there)); done) | ((repeat (first | exact .here | apply Pick.there)); done)) (.cons (by first | ((repeat (first | with_reducible exact .here | apply Pick.there)); done) | ((repeat (first | exact .here | apply Pick.there)); done)) (by repeat (first | exact Imp.refl _ | refine Imp.skip ?_)))))
  · skip
    rintro _ _ ⟨ps, sent, ⟨hq1, hbs⟩, rfl, rfl⟩
    refine CJ_app3 ?_
    refine CJ_seq ?_
    refine CJ_seq ?_
    refine CJ_open (RefP_opens _ _ _ _) (by first | ((repeat (first | with_reducible exact .here | apply Pick.there)); done) | ((repeat (first | exact .here | apply Pick.there)); done)) ?_
    rintro _ ⟨ra, rcap, rfl⟩
    refine CJ_app2 ?_
    refine CJ_know (Row_know (T := RefT) (by first | ((repeat (first | with_reducible exact .here | apply Pick.there)); done) | ((repeat (first | exact .here | apply Pick.there)); done))) ?_
    intro _
    refine CJ_region ?_
    refine RJ_q (Op_move rfl) rfl ?_
    refine RJ_q (Op_nilCheck rfl) rfl ?_
    refine RJ_q (Op_fieldAddr (o' := 0) rfl Try.underlying29 rfl sz27 rfl rfl) rfl ?_
    refine RJ_q (Op_load rfl (load_cell Try.underlying27 rfl (by first | ((repeat (first | with_reducible exact .here | apply Pick.there)); done) | ((repeat (first | exact .here | apply Pick.there)); done)) Nth.z)) rfl ?_
    refine RJ_q (Op_len_slice rfl Try.underlying27) rfl ?_
    refine RJ_q (Op_move rfl) rfl ?_
    refine RJ_nil ?_
    refine NJ_imp (.swap (C := [pt gw (.cells #[.slice (sl ra) (ps).length rcap, .int .i64 room, .int .i64 (sent)] 29 (0, 0)), Row RefT ra rcap (ps)]) (.cons (by first | ((repeat (first | with_reducible exact .here | apply Pick.there)); done) | ((repeat (first | exact .here | apply Pick.there)); done)) (.cons (by first | ((repeat (first | with_reducible exact .here | apply Pick.there)); done) | ((repeat (first | exact .here | apply Pick.there)); done)) (Imp.refl _))) (RefP_close rfl) (.refl _)) (NJ_app1 ?_)
    refine NJ_then ?_
    refine CJ_env (E' := [(5, _), (6, _), (7, _), (266, _), (267, _)]) (.cons rfl rfl (.cons rfl rfl (.cons rfl rfl (.cons rfl rfl (.cons rfl rfl .nil))))) ?_
    refine CJ_block ?_
    refine CJ_loop (fun E H m => ∃ (q : Nat), (q ≤ ps.length) ∧ E = [(5, .pointer (some ⟨gn, 0, none⟩)), (6, .pointer (some ⟨gw, 0, none⟩)), (7, .pointer none), (266, .int .i64 (ps.length : Nat)), (267, .int .i64 (q : Int))] ∧ H = [NetP gn room ps sent, RefP gw room ps sent, old W] ++ R ∧ m = ps.length - q) (E' := [(5, .pointer (some ⟨gn, 0, none⟩)), (6, .pointer (some ⟨gw, 0, none⟩)), (7, .pointer none), (266, .int .i64 (ps.length : Nat)), (267, .int .i64 0)]) (H' := [NetP gn room ps sent, RefP gw room ps sent, old W] ++ R) (m := ps.length - 0) ⟨0, Nat.zero_le _, rfl, rfl, rfl⟩ (.cons rfl rfl (.cons rfl rfl (.cons rfl rfl (.cons rfl rfl (.cons rfl rfl .nil))))) (.cons (by first | ((repeat (first | with_reducible exact .here | apply Pick.there)); done) | ((repeat (first | exact .here | apply Pick.there)); done)) (.cons (by first | ((repeat (first | with_reducible exact .here | apply Pick.there)); done) | ((repeat (first | exact .here | apply Pick.there)); done)) (.cons (by first | ((repeat (first | with_reducible exact .here | apply Pick.there)); done) | ((repeat (first | exact .here | apply Pick.there)); done)) (by repeat (first | exact Imp.refl _ | refine Imp.skip ?_))))) ?_
    rintro _ _ _ ⟨q, hokq, rfl, rfl, rfl⟩
    refine CJ_app3 ?_
    refine CJ_seq ?_
    refine CJ_region ?_
    refine RJ_q (Op_lss rfl rfl) rfl ?_
    refine RJ_nil ?_
    refine NJ_then ?_
    refine CJ_env (E' := [(5, _), (6, _), (7, _), (266, _), (267, _), (268, _)]) (.cons rfl rfl (.cons rfl rfl (.cons rfl rfl (.cons rfl rfl (.cons rfl rfl (.cons rfl rfl .nil)))))) ?_
    refine CJ_seq ?_
    refine CJ_cond rfl ?_ ?_
    · intro hcq
      have hq : q < ps.length := by have := of_decide_eq_true hcq; omega
      obtain ⟨p, hk⟩ : ∃ p, ps[q]? = some p := ⟨ps[q], List.getElem?_eq_getElem hq⟩
      refine CJ_skip ?_
      refine NJ_then ?_
      refine CJ_env (E' := [(5, _), (6, _), (7, _), (266, _), (267, _), (268, _)]) (.cons rfl rfl (.cons rfl rfl (.cons rfl rfl (.cons rfl rfl (.cons rfl rfl (.cons rfl rfl .nil)))))) ?_
      refine CJ_seq ?_
      refine CJ_block ?_
      refine CJ_seq ?_
      refine CJ_region ?_
      refine RJ_q (Op_move rfl) rfl ?_
      refine RJ_q (Op_assign rfl) rfl ?_
      refine RJ_nil ?_
      refine NJ_then ?_
      refine CJ_env (E' := [(5, _), (6, _), (7, _), (23, _), (266, _), (267, _), (268, _), (269, _)]) (.cons rfl rfl (.cons rfl rfl (.cons rfl rfl (.cons rfl rfl (.cons rfl rfl (.cons rfl rfl (.cons rfl rfl (.cons rfl rfl .nil)))))))) ?_
      refine CJ_seq ?_
      refine CJ_region ?_
      refine RJ_q (Op_move rfl) rfl ?_
      refine RJ_q (Op_move rfl) rfl ?_
      refine RJ_p rfl (Op_call (vs := [_, _]) Try.func8 rfl rfl (Look_yes _ _ _ _ _ _ hk (fun p hp => Nat.le_trans (hbs p hp) (by decide)) (by omega)) rfl (.cons (by first | ((repeat (first | with_reducible exact .here | apply Pick.there)); done) | ((repeat (first | exact .here | apply Pick.there)); done)) (Imp.refl _))) ?_
      rintro _ _ ⟨_, ⟨g273, rfl, rfl⟩, rfl⟩
      refine RJ_app2 ?_
      refine RJ_q (Op_move rfl) rfl ?_
      refine RJ_q (Op_extract rfl rfl) rfl ?_
      refine RJ_q (Op_extract rfl rfl) rfl ?_
      refine RJ_p rfl (Op_alloc zr38) ?_
      rintro _ _ ⟨b24, rfl, rfl⟩
      refine RJ_d0 (Op_store (cs' := #[_, _, _]) rfl rfl sz38 (by rfl) (by simp [Value.cells, Value.oneCell']) (by repeat (first | exact .here | apply Repl.there)) rfl (free_zero _ _) (by rfl)) ?_
      refine RJ_q (Op_assign rfl) rfl ?_
      refine RJ_nil ?_
      refine NJ_then ?_
      refine CJ_env (E' := [(5, _), (6, _), (7, _), (23, _), (24, _), (25, _), (266, _), (267, _), (268, _), (269, _), (270, _), (271, _), (272, _), (273, _), (274, _), (275, _)]) (.cons rfl rfl (.cons rfl rfl (.cons rfl rfl (.cons rfl rfl (.cons rfl rfl (.cons rfl rfl (.cons rfl rfl (.cons rfl rfl (.cons rfl rfl (.cons rfl rfl (.cons rfl rfl (.cons rfl rfl (.cons rfl rfl (.cons rfl rfl (.cons rfl rfl (.cons rfl rfl .nil)))))))))))))))) ?_
      refine CJ_seq ?_
      refine CJ_open (RefP_opens _ _ _ _) (by first | ((repeat (first | with_reducible exact .here | apply Pick.there)); done) | ((repeat (first | exact .here | apply Pick.there)); done)) ?_
      rintro _ ⟨ra, rcap, rfl⟩
      refine CJ_app2 ?_
      refine CJ_know (Row_know (T := RefT) (by first | ((repeat (first | with_reducible exact .here | apply Pick.there)); done) | ((repeat (first | exact .here | apply Pick.there)); done))) ?_
      intro hkn
      obtain ⟨ga, rfl⟩ : ∃ ga, ra = some ga := by
        cases ra with
        | none => obtain ⟨_, rfl⟩ := hkn.2.2 rfl; simp at hk
        | some ga => exact ⟨ga, rfl⟩
      refine CJ_draw (.q 0 (.q 1 (.q 2 (.q 3 (.q 4 (.q 5 (.q 6 (.q 7 (.q 8 (.e 9 (.q 10 .done))))))))))) (by kernel_rfl) (by kernel_rfl) (by kernel_rfl) ?_
      refine SJ_load rfl (want_none rfl) rfl rfl (load_struct (o := 0) (vs := [_, _, _]) Try.underlying38 sz38 (by first | ((repeat (first | with_reducible exact .here | apply Pick.there)); done) | ((repeat (first | exact .here | apply Pick.there)); done)) (by rfl) rfl) ?_
      refine SJ_q rfl (want_none rfl) rfl (fun _ _ => Op_move rfl) ?_
      refine SJ_q rfl (want_none rfl) rfl (fun _ _ => Op_move rfl) ?_
      refine SJ_q rfl (want_none rfl) rfl (fun _ _ => Op_nilCheck rfl) ?_
      refine SJ_q rfl (want_none rfl) rfl (fun _ _ => Op_fieldAddr (o' := 0) rfl Try.underlying29 rfl sz27 rfl rfl) ?_
      refine SJ_load rfl (want_none rfl) rfl rfl (load_cell Try.underlying27 rfl (by first | ((repeat (first | with_reducible exact .here | apply Pick.there)); done) | ((repeat (first | exact .here | apply Pick.there)); done)) Nth.z) ?_
      refine SJ_q rfl (want_none rfl) rfl (fun _ _ => Op_move rfl) ?_
      refine SJ_q rfl (want_none rfl) rfl (fun _ _ => Op_indexAddr (o' := q * RefT.sz + 0) rfl rfl Try.underlying27 sz36 (by omega) (by omega) (by simp [RefT])) ?_
      refine SJ_load rfl (want_none rfl) rfl rfl (load_row (o := 0) (vs := [_, _, _, _]) Try.underlying36 sz36 (by first | ((repeat (first | with_reducible exact .here | apply Pick.there)); done) | ((repeat (first | exact .here | apply Pick.there)); done)) hk rfl (by rfl)) ?_
      refine SJ_p (rd' := []) [] rfl (want_none rfl) rfl (Op_call (vs := [_, _, _, _]) Try.func10 rfl rfl (same_eq p.f p.t (some g273) p.bs.length p.bs true p.turned) rfl (.cons (by first | ((repeat (first | with_reducible exact .here | apply Pick.there)); done) | ((repeat (first | exact .here | apply Pick.there)); done)) (Imp.refl _))) (by kernel_rfl) rfl ?_
      rintro _ _ ⟨_, ⟨rfl, rfl⟩, rfl⟩
      refine OS_app1 ?_
      refine ⟨trivial, ?_⟩
      refine SJ_q rfl (want_none rfl) rfl (fun _ _ => Op_not rfl) ?_
      refine SJ_done ?_
      refine NJ_imp (.swap (C := [pt gw (.cells #[.slice (sl (some ga)) (ps).length rcap, .int .i64 room, .int .i64 (sent)] 29 (0, 0)), Row RefT (some ga) rcap (ps)]) (.cons (by first | ((repeat (first | with_reducible exact .here | apply Pick.there)); done) | ((repeat (first | exact .here | apply Pick.there)); done)) (.cons (by first | ((repeat (first | with_reducible exact .here | apply Pick.there)); done) | ((repeat (first | exact .here | apply Pick.there)); done)) (Imp.refl _))) (RefP_close rfl) (.refl _)) (NJ_app1 ?_)
      refine NJ_then ?_
      refine CJ_env (E' := [(5, _), (6, _), (7, _), (23, _), (24, _), (25, _), (266, _), (267, _), (268, _), (269, _), (270, _), (271, _), (272, _), (273, _), (274, _), (275, _), (276, _), (277, _), (278, _), (279, _), (280, _), (281, _), (282, _), (283, _), (284, _), (285, _), (286, _)]) (.cons rfl rfl (.cons rfl rfl (.cons rfl rfl (.cons rfl rfl (.cons rfl rfl (.cons rfl rfl (.cons rfl rfl (.cons rfl rfl (.cons rfl rfl (.cons rfl rfl (.cons rfl rfl (.cons rfl rfl (.cons rfl rfl (.cons rfl rfl (.cons rfl rfl (.cons rfl rfl (.cons rfl rfl (.cons rfl rfl (.cons rfl rfl (.cons rfl rfl (.cons rfl rfl (.cons rfl rfl (.cons rfl rfl (.cons rfl rfl (.cons rfl rfl (.cons rfl rfl (.cons rfl rfl .nil))))))))))))))))))))))))))) ?_
      refine CJ_else rfl rfl ?_
      refine CJ_skip ?_
      refine NJ_blk ?_
      refine NJ_then ?_
      refine CJ_env (E' := [(5, _), (6, _), (7, _), (23, _), (24, _), (25, _), (266, _), (267, _), (268, _), (269, _), (270, _), (271, _), (272, _), (273, _), (274, _), (275, _), (276, _), (277, _), (278, _), (279, _), (280, _), (281, _), (282, _), (283, _), (284, _), (285, _), (286, _)]) (.cons rfl rfl (.cons rfl rfl (.cons rfl rfl (.cons rfl rfl (.cons rfl rfl (.cons rfl rfl (.cons rfl rfl (.cons rfl rfl (.cons rfl rfl (.cons rfl rfl (.cons rfl rfl (.cons rfl rfl (.cons rfl rfl (.cons rfl rfl (.cons rfl rfl (.cons rfl rfl (.cons rfl rfl (.cons rfl rfl (.cons rfl rfl (.cons rfl rfl (.cons rfl rfl (.cons rfl rfl (.cons rfl rfl (.cons rfl rfl (.cons rfl rfl (.cons rfl rfl (.cons rfl rfl .nil))))))))))))))))))))))))))) ?_
      refine CJ_region ?_
      refine RJ_q (Op_addN (q + 1) rfl rfl (by omega) (by omega)) rfl ?_
      refine RJ_q (Op_move rfl) rfl ?_
      refine RJ_nil ?_
      refine NJ_back (E' := [(5, .pointer (some ⟨gn, 0, none⟩)), (6, .pointer (some ⟨gw, 0, none⟩)), (7, .pointer none), (266, .int .i64 (ps.length : Nat)), (267, .int .i64 ((q + 1 : Nat) : Int))]) (m' := ps.length - (q + 1)) ⟨q + 1, by omega, rfl, rfl, rfl⟩ (by omega) (.cons rfl (by first | rfl | (simp; done)) (.cons rfl (by first | rfl | (simp; done)) (.cons rfl (by first | rfl | (simp; done)) (.cons rfl (by first | rfl | (simp; done)) (.cons rfl (by first | rfl | (simp; done)) .nil))))) (.cons (by first | ((repeat (first | with_reducible exact .here | apply Pick.there)); done) | ((repeat (first | exact .here | apply Pick.there)); done)) (.cons (by first | ((repeat (first | with_reducible exact .here | apply Pick.there)); done) | ((repeat (first | exact .here | apply Pick.there)); done)) (.cons (by first | ((repeat (first | with_reducible exact .here | apply Pick.there)); done) | ((repeat (first | exact .here | apply Pick.there)); done)) (by repeat (first | exact Imp.refl _ | refine Imp.skip ?_)))))
    · intro hcq
      skip
      refine CJ_exit ?_
      refine NJ_then_x ?_
      refine NJ_then_x ?_
      refine NJ_blk_hit ?_
      refine NJ_then ?_
      refine CJ_env (E' := [(7, _)]) (.cons rfl rfl .nil) ?_
      refine CJ_seq ?_
      refine CJ_region ?_
      refine RJ_q (Op_move rfl) rfl ?_
      refine RJ_p rfl (Op_call (vs := [_]) Try.func19 rfl rfl (Len_nil) rfl (Imp.refl _)) ?_
      rintro _ _ ⟨_, ⟨rfl, rfl⟩, rfl⟩
      refine RJ_app0 ?_
      refine RJ_q (Op_eql rfl rfl) rfl ?_
      refine RJ_q (Op_move rfl) rfl ?_
      refine RJ_yes (t := 291) rfl rfl (decide_eq_true rfl) ?_
      refine RJ_q (Op_move rfl) rfl ?_
      refine RJ_yes (t := 291) rfl rfl (decide_eq_true rfl) ?_
      refine RJ_p rfl (Op_call (vs := [_]) Try.func20 rfl rfl (Sent_nil) rfl (Imp.refl _)) ?_
      rintro _ _ ⟨_, ⟨rfl, rfl⟩, rfl⟩
      refine RJ_app0 ?_
      refine RJ_yes (t := 291) rfl rfl (decide_eq_true rfl) ?_
      refine RJ_q (Op_eql rfl rfl) rfl ?_
      refine RJ_q (Op_pick_t rfl (decide_eq_true rfl) rfl) rfl ?_
      refine RJ_q (Op_assign rfl) rfl ?_
      refine RJ_nil ?_
      refine NJ_then ?_
      refine CJ_env (E' := [(4, _)]) (.cons rfl rfl .nil) ?_
      refine CJ_ret ?_
      refine NJ_ret (.inl rfl) Try.results3 (ResJ_tmp rfl ResJ_nil) ⟨by first | rfl | simp [packRes], rfl⟩ (.cons (by first | ((repeat (first | with_reducible exact .here | apply Pick.there)); done) | ((repeat (first | exact .here | apply Pick.there)); done)) (by repeat (first | exact Imp.refl _ | refine Imp.skip ?_)))
end Go.Proofs.Ytblcdhcjamedgaa.SL
