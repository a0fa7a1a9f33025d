/- Contracts of the law of two nodes. -/
import Derived.Test.Ytgakbdofjlhoeaas21NsV
import Derived.Test.Ytgakbdofjlhoeaas21Fb
namespace Go.Proofs.Ytgakbdofjlhoeaa.SL
open Go Go.RowKit
set_option maxRecDepth 20000 in
set_option maxHeartbeats 16000000 in
theorem NodeServes_any (W : World) (room st : Int) (a : Option Addr) (cap : Nat) (ops : List WayV) (hroom : room ≤ 9223372036854775807) (hst : 0 ≤ st ∧ st < 256) (hS : WaysAt W a ops) (hl : ops.length ≤ 9223372036854775807) : Spec Try.prog 5 #[.int .i64 room, .int .u8 st, .slice a ops.length cap] [old W] (fun v C => v = .bool true ∧ C = [old W]) := by
 refine Spec_intro (n := 344) (args := [.int .i64 room, .int .u8 st, .slice a ops.length cap]) Try.func5 rfl rfl rfl fun s R => ?_
 refine CJ_app1 ?_
 refine CJ_env (E' := [(0, _), (1, _), (2, _)]) (.cons rfl rfl (.cons rfl rfl (.cons rfl rfl .nil))) ?_
 refine CJ_seq ?_
 refine CJ_region ?_
 refine RJ_q (Op_assign rfl) rfl ?_
 refine RJ_nil ?_
 refine NJ_then ?_
 refine CJ_env (E' := [(0, _), (1, _), (2, _), (6, _)]) (.cons rfl rfl (.cons rfl rfl (.cons rfl rfl (.cons rfl rfl .nil)))) ?_
 refine CJ_seq ?_
 refine CJ_seq ?_
 refine CJ_region ?_
 refine RJ_p rfl (Op_call (vs := []) Try.func6 rfl rfl (awake_any) rfl (Imp.refl _)) ?_
 rintro _ _ ⟨_, ⟨rfl, rfl⟩, rfl⟩
 refine RJ_app0 ?_
 refine RJ_q (Op_not rfl) rfl ?_
 refine RJ_nil ?_
 refine NJ_then ?_
 refine CJ_env (E' := [(0, _), (1, _), (2, _), (6, _), (27, _)]) (.cons rfl rfl (.cons rfl rfl (.cons rfl rfl (.cons rfl rfl (.cons rfl rfl .nil))))) ?_
 refine CJ_else rfl rfl ?_
 refine CJ_skip ?_
 refine NJ_then ?_
 refine CJ_env (E' := [(0, _), (1, _), (2, _), (6, _)]) (.cons rfl rfl (.cons rfl rfl (.cons rfl rfl (.cons rfl rfl .nil)))) ?_
 refine CJ_seq ?_
 refine CJ_region ?_
 refine RJ_q (Op_move rfl) rfl ?_
 refine RJ_p rfl (Op_call (vs := [_]) Try.func7 rfl rfl (NdNew_any room) rfl (Imp.refl _)) ?_
 rintro _ _ ⟨_, ⟨g0, rfl, rfl⟩, rfl⟩
 refine RJ_app1 ?_
 refine RJ_q (Op_move rfl) rfl ?_
 refine RJ_p rfl (Op_call (vs := [_]) Try.func7 rfl rfl (NdNew_any room) rfl (Imp.refl _)) ?_
 rintro _ _ ⟨_, ⟨g1, rfl, rfl⟩, rfl⟩
 refine RJ_app1 ?_
 refine RJ_q (Op_buildArr (vs := [_, _]) (cells := [_, _]) Try.underlying46 zr46 sz24 rfl (by rfl)) rfl ?_
 refine RJ_p rfl (Op_alloc zr46) ?_
 rintro _ _ ⟨b7, rfl, rfl⟩
 refine RJ_d0 (Op_store (cs' := #[_, _]) rfl rfl sz46 (by rfl) (by simp [Value.cells, Value.oneCell']) rpp rfl (free_zero _ _) (by rfl)) ?_
 refine RJ_nil ?_
 refine NJ_then ?_
 refine CJ_env (E' := [(1, _), (2, _), (6, _), (7, _)]) (.cons rfl rfl (.cons rfl rfl (.cons rfl rfl (.cons rfl rfl .nil)))) ?_
 refine CJ_seq ?_
 refine CJ_region ?_
 refine RJ_q (Op_build (vs := []) (cells := [_]) Try.underlying50 zr50 rfl pl50 (by rfl)) rfl ?_
 refine RJ_p rfl (Op_box rfl) ?_
 rintro _ _ ⟨b34, rfl, rfl⟩
 refine RJ_q (Op_assign rfl) rfl ?_
 refine RJ_nil ?_
 refine NJ_then ?_
 refine CJ_env (E' := [(1, _), (2, _), (6, _), (7, _), (8, _)]) (.cons rfl rfl (.cons rfl rfl (.cons rfl rfl (.cons rfl rfl (.cons rfl rfl .nil))))) ?_
 refine CJ_seq ?_
 refine CJ_region ?_
 refine RJ_p rfl (Op_alloc zr51) ?_
 rintro _ _ ⟨b9, rfl, rfl⟩
 refine RJ_nil ?_
 refine NJ_then ?_
 refine CJ_env (E' := [(1, _), (2, _), (6, _), (7, _), (8, _), (9, _)]) (.cons rfl rfl (.cons rfl rfl (.cons rfl rfl (.cons rfl rfl (.cons rfl rfl (.cons rfl rfl .nil)))))) ?_
 refine CJ_seq ?_
 refine CJ_region ?_
 refine RJ_q (Op_assign rfl) rfl ?_
 refine RJ_nil ?_
 refine NJ_then ?_
 refine CJ_env (E' := [(1, _), (2, _), (6, _), (7, _), (8, _), (9, _), (10, _)]) (.cons rfl rfl (.cons rfl rfl (.cons rfl rfl (.cons rfl rfl (.cons rfl rfl (.cons rfl rfl (.cons rfl rfl .nil))))))) ?_
 refine CJ_seq ?_
 refine CJ_seq ?_
 refine CJ_region ?_
 refine RJ_q (Op_assign rfl) rfl ?_
 refine RJ_nil ?_
 refine NJ_then ?_
 refine CJ_env (E' := [(1, _), (2, _), (6, _), (7, _), (8, _), (9, _), (10, _), (11, _)]) (.cons rfl rfl (.cons rfl rfl (.cons rfl rfl (.cons rfl rfl (.cons rfl rfl (.cons rfl rfl (.cons rfl rfl (.cons rfl rfl .nil)))))))) ?_
 refine CJ_block ?_
 refine CJ_loop (fun E H m => ∃ (i : Nat) (la : Option Nat) (lc : Nat), ((i : Int) ≤ st % 8) ∧ E = [(1, .int .u8 st), (2, .slice a ops.length cap), (7, .pointer (some ⟨b7, 0, none⟩)), (8, .pointer (some ⟨b34, 0, none⟩)), (9, .pointer (some ⟨b9, 0, none⟩)), (10, .slice none 0 0), (11, .int .i64 (i : Nat))] ∧ H = [pt b7 (.cells #[.pointer (some ⟨g0, 0, none⟩), .pointer (some ⟨g1, 0, none⟩)] 46 (0, 0)), NodeP g0 (newN room 0), NodeP g1 (newN room 0), LogC b34 la (startG i).length lc, Row EntT la lc (entsOf (startG i)), pt b9 (.cells #[.int .i64 0, .int .i64 (i : Nat)] 51 (0, 0)), old W] ++ R ∧ m = 8 - i) (E' := [(1, .int .u8 st), (2, .slice a ops.length cap), (7, .pointer (some ⟨b7, 0, none⟩)), (8, .pointer (some ⟨b34, 0, none⟩)), (9, .pointer (some ⟨b9, 0, none⟩)), (10, .slice none 0 0), (11, .int .i64 (0 : Nat))]) (H' := [pt b7 (.cells #[.pointer (some ⟨g0, 0, none⟩), .pointer (some ⟨g1, 0, none⟩)] 46 (0, 0)), NodeP g0 (newN room 0), NodeP g1 (newN room 0), LogC b34 none (startG 0).length 0, Row EntT none 0 (entsOf (startG 0)), pt b9 (.cells #[.int .i64 0, .int .i64 (0 : Nat)] 51 (0, 0)), old W] ++ R) (m := 8 - 0) ⟨0, none, 0, by omega, rfl, rfl, rfl⟩ (.cons rfl rfl (.cons rfl rfl (.cons rfl rfl (.cons rfl rfl (.cons rfl rfl (.cons rfl rfl (.cons rfl rfl .nil))))))) (.trans (Row_none EntT).imp_add (.k (e := (.k (e := (.k (e := (.k (e := (.k (e := (.k (e := (.k (e := skk))))))))))))))) ?_
 rintro _ _ _ ⟨i, la, lc, hi0, rfl, rfl, rfl⟩
 refine CJ_app7 ?_
 refine CJ_seq ?_
 refine CJ_seq ?_
 refine CJ_region ?_
 refine RJ_q (Op_move rfl) rfl ?_
 refine RJ_q (Op_move rfl) rfl ?_
 refine RJ_q (Op_convInt64 rfl (by rw [Try.underlying5]; rfl) Try.underlying3 (by omega)) rfl ?_
 refine RJ_q (Op_rem rfl rfl (by decide)) rfl ?_
 rw [tmod8 hst.1]
 refine RJ_q (Op_lss rfl rfl) rfl ?_
 by_cases hi : (i : Int) < st % 8
 ·skip
  refine RJ_nil ?_
  refine NJ_then ?_
  refine CJ_env (E' := [(1, _), (2, _), (7, _), (8, _), (9, _), (10, _), (11, _), (39, _)]) (.cons rfl rfl (.cons rfl rfl (.cons rfl rfl (.cons rfl rfl (.cons rfl rfl (.cons rfl rfl (.cons rfl rfl (.cons rfl rfl .nil)))))))) ?_
  refine CJ_then rfl (decide_eq_true hi) ?_
  refine CJ_skip ?_
  refine NJ_then ?_
  refine CJ_env (E' := [(1, _), (2, _), (7, _), (8, _), (9, _), (10, _), (11, _)]) (.cons rfl rfl (.cons rfl rfl (.cons rfl rfl (.cons rfl rfl (.cons rfl rfl (.cons rfl rfl (.cons rfl rfl .nil))))))) ?_
  refine CJ_seq ?_
  refine CJ_block ?_
  refine CJ_seq ?_
  refine CJ_draw (.q 0 (.q 1 (.q 2 (.q 3 (.q 4 (.q 5 (.q 6 (.q 7 (.q 8 (.q 9 (.q 10 (.e 11 (.e 12 (.e 13 (.q 14 (.e 15 (.e 16 (.q 17 (.q 18 (.e 19 .done)))))))))))))))))))) (by kernel_rfl) (by kernel_rfl) (by kernel_rfl) ?_
  refine SJ_q rfl (want_none rfl) rfl (fun _ _ => Op_move rfl) ?_
  refine SJ_q rfl (want_none rfl) rfl (fun _ _ => Op_move rfl) ?_
  refine SJ_q rfl (want_none rfl) rfl (fun _ _ => Op_nilCheck rfl) ?_
  refine SJ_q rfl (want_none rfl) rfl (fun _ _ => Op_fieldAddr (o' := 0) rfl Try.underlying50 rfl sz48 rfl rfl) ?_
  refine SJ_load rfl (want_none rfl) rfl rfl (load_cell Try.underlying48 rfl pkk Nth.z) ?_
  refine SJ_q rfl (want_none rfl) rfl (fun _ _ => Op_move rfl) ?_
  refine SJ_q rfl (want_none rfl) rfl (fun _ _ => Op_addN (i + 1) rfl rfl (by omega) (by omega)) ?_
  refine SJ_q rfl (want_none rfl) rfl (fun _ _ => Op_build (vs := [_, _]) (cells := [_, _]) Try.underlying27 zr27 rfl pl27 (by rfl)) ?_
  refine SJ_q rfl (want_none rfl) rfl (fun _ _ => Op_move rfl) ?_
  refine SJ_q rfl (want_none rfl) rfl (fun _ _ => Op_rem rfl rfl (by decide)) ?_
  refine SJ_q rfl (want_none rfl) rfl (fun _ _ => Op_add64 rfl rfl (by rw [Int.tmod_eq_emod_of_nonneg (by omega)]; omega)) ?_
  refine SJ_d (rd' := [⟨4, _, _, _⟩]) [4] rfl (want_none rfl) rfl ((Op_convInt rfl (by rw [Try.underlying3]; rfl) Try.underlying5).opD) (by kernel_rfl) rfl ⟨(load_cell Try.underlying48 rfl pkk Nth.z), trivial⟩ ?_
  rw [keyC_val]
  refine SJ_p (rd' := [⟨4, _, _, _⟩]) [4] rfl (want_none rfl) rfl (Op_buildSlice (vs := [_]) (cells := [.int .u8 ((keyC i).toNat : Nat)]) Try.underlying53 sz5 zr5 rfl rfl rfl rfl (by rfl)) (by kernel_rfl) rfl ?_
  rintro _ _ ⟨g54, rfl, rfl⟩
  refine ⟨⟨(load_cell Try.underlying48 rfl pkk Nth.z), trivial⟩, ?_⟩
  refine SJ_d (rd' := [⟨4, _, _, _⟩]) [4] rfl (want_none rfl) rfl ((Op_string_of_bytes (bs := [keyC i]) rfl Try.underlying53 Try.underlying9 Try.underlying5 rfl (Reads_pt pkk (fun j u h => by simpa using h))).opD) (by kernel_rfl) rfl ⟨(load_cell Try.underlying48 rfl pkk Nth.z), trivial⟩ ?_
  refine SJ_q rfl (want_none rfl) rfl (fun _ _ => Op_build (vs := [_, _, _]) (cells := [_, _, _, _, _, _, _]) Try.underlying55 zr55 rfl pl55 (by rfl)) ?_
  refine SJ_p (rd' := [⟨4, _, _, _⟩]) [4] rfl (want_none rfl) rfl (Op_buildRow (T := EntT) (vs := [_]) [⟨i + 1, ⟨#[keyC i]⟩, oldT⟩] rfl Try.underlying48 sz55 zr55 rfl rfl rfl rfl rfl (by rfl)) (by kernel_rfl) rfl ?_
  rintro _ _ ⟨g57, rfl, rfl⟩
  refine ⟨⟨(load_cell Try.underlying48 rfl pkk Nth.z), trivial⟩, ?_⟩
  refine SJ_p (rd' := []) [] rfl (want_none rfl) rfl (Op_append (T := EntT) (news := [⟨i + 1, ⟨#[keyC i]⟩, oldT⟩]) rfl rfl pkk (entsOf_len _) (by simp) (Reads_row pkk) Try.underlying48 sz55 zr55 (by rfl) by55 (by simp [EntT, entsOf_len, startG_len]; omega) (by simp [maxLen, entsOf_len, startG_len]; omega)) (by kernel_rfl) rfl ?_
  rintro _ _ ⟨a58, c58, rfl, rfl⟩
  refine ⟨trivial, ?_⟩
  have hE : entsOf (startG i) ++ [⟨i + 1, ⟨#[keyC i]⟩, oldT⟩] = entsOf (startG (i + 1)) := by rw [startG, entsOf_app, startG_len]
  rw [hE, entsOf_len]
  refine SJ_q rfl (want_none rfl) rfl (fun _ _ => Op_nilCheck rfl) ?_
  refine SJ_q rfl (want_none rfl) rfl (fun _ _ => Op_fieldAddr (o' := 0) rfl Try.underlying50 rfl sz48 rfl rfl) ?_
  refine SJ_d0 (rd' := []) [] rfl (want_none rfl) (Op_store (cs' := #[_]) rfl rfl sz48 (by rfl) (by simp [Value.cells, Value.oneCell']) rpp rfl (free_zero _ _) (by rfl)) (by kernel_rfl) rfl trivial ?_
  refine SJ_done ?_
  refine NJ_then ?_
  refine CJ_env (E' := [(1, _), (2, _), (7, _), (8, _), (9, _), (10, _), (11, _)]) (.cons rfl rfl (.cons rfl rfl (.cons rfl rfl (.cons rfl rfl (.cons rfl rfl (.cons rfl rfl (.cons rfl rfl .nil))))))) ?_
  refine CJ_region ?_
  refine RJ_q (Op_indexArr (o' := 1) rfl rfl Try.underlying51 sz3 (by decide) (by decide) (by rfl)) rfl ?_
  refine RJ_q (Op_load rfl (load_cell Try.underlying3 rfl pkk (Nth.s Nth.z))) rfl ?_
  refine RJ_q (Op_addN (i + 1) rfl rfl (by omega) (by omega)) rfl ?_
  refine RJ_q (Op_indexArr (o' := 1) rfl rfl Try.underlying51 sz3 (by decide) (by decide) (by rfl)) rfl ?_
  refine RJ_d0 (Op_store (cs' := #[_, _]) rfl rfl sz3 (by rfl) (by simp [Value.cells, Value.oneCell']) rpp rfl (free_zero _ _) (by rfl)) ?_
  refine RJ_nil ?_
  refine NJ_blk ?_
  refine NJ_then ?_
  refine CJ_env (E' := [(1, _), (2, _), (7, _), (8, _), (9, _), (10, _), (11, _)]) (.cons rfl rfl (.cons rfl rfl (.cons rfl rfl (.cons rfl rfl (.cons rfl rfl (.cons rfl rfl (.cons rfl rfl .nil))))))) ?_
  refine CJ_region ?_
  refine RJ_q (Op_move rfl) rfl ?_
  refine RJ_q (Op_addN (i + 1) rfl rfl (by omega) (by omega)) rfl ?_
  refine RJ_q (Op_assign rfl) rfl ?_
  refine RJ_nil ?_
  refine NJ_back ⟨i + 1, a58, c58, by omega, rfl, rfl, rfl⟩ (by omega) (.cons rfl (by first | rfl | (simp; done)) (.cons rfl (by first | rfl | (simp; done)) (.cons rfl (by first | rfl | (simp; done)) (.cons rfl (by first | rfl | (simp; done)) (.cons rfl (by first | rfl | (simp; done)) (.cons rfl (by first | rfl | (simp; done)) (.cons rfl (by first | rfl | (simp; done)) .nil))))))) (.k (e := (.k (e := (.k (e := (.k (e := (.k (e := (.k (e := (.k (e := skk))))))))))))))
 ·skip
  refine RJ_nil ?_
  refine NJ_then ?_
  refine CJ_env (E' := [(1, _), (2, _), (7, _), (8, _), (9, _), (10, _), (11, _), (39, _)]) (.cons rfl rfl (.cons rfl rfl (.cons rfl rfl (.cons rfl rfl (.cons rfl rfl (.cons rfl rfl (.cons rfl rfl (.cons rfl rfl .nil)))))))) ?_
  refine CJ_else rfl (decide_eq_false hi) ?_
  refine CJ_exit ?_
  refine NJ_then_x ?_
  refine NJ_then_x ?_
  refine NJ_blk_hit ?_
  refine NJ_then ?_
  refine CJ_env (E' := [(2, _), (7, _), (8, _), (9, _), (10, _)]) (.cons rfl rfl (.cons rfl rfl (.cons rfl rfl (.cons rfl rfl (.cons rfl rfl .nil))))) ?_
  refine CJ_seq ?_
  refine CJ_region ?_
  refine RJ_q (Op_indexArr (o' := 1) rfl rfl Try.underlying46 sz24 (by decide) (by decide) (by rfl)) rfl ?_
  refine RJ_q (Op_load rfl (load_cell Try.underlying24 rfl pkk (Nth.s Nth.z))) rfl ?_
  refine RJ_q (Op_indexArr (o' := 1) rfl rfl Try.underlying51 sz3 (by decide) (by decide) (by rfl)) rfl ?_
  refine RJ_q (Op_load rfl (load_cell Try.underlying3 rfl pkk (Nth.s Nth.z))) rfl ?_
  refine RJ_p rfl (Op_call (vs := [_, _]) Try.func16 rfl rfl (NdCold_any g1 (newN room 0) (i : Nat)) rfl (.k (e := (Imp.refl _)))) ?_
  rintro _ _ ⟨_, ⟨rfl, rfl⟩, rfl⟩
  refine RJ_app1 ?_
  refine RJ_nil ?_
  refine NJ_then ?_
  refine CJ_env (E' := [(2, _), (7, _), (8, _), (9, _), (10, _)]) (.cons rfl rfl (.cons rfl rfl (.cons rfl rfl (.cons rfl rfl (.cons rfl rfl .nil))))) ?_
  refine CJ_seq ?_
  refine CJ_seq ?_
  refine CJ_region ?_
  refine RJ_q (Op_assign rfl) rfl ?_
  refine RJ_nil ?_
  refine NJ_then ?_
  refine CJ_env (E' := [(2, _), (7, _), (8, _), (9, _), (10, _), (12, _)]) (.cons rfl rfl (.cons rfl rfl (.cons rfl rfl (.cons rfl rfl (.cons rfl rfl (.cons rfl rfl .nil)))))) ?_
  refine CJ_block ?_
  refine CJ_loop (fun E H m => ∃ (j w0 w1 s : Nat) (G : GLog) (N0 N1 : NodeS) (rs : List RdV) (ra : Option Nat) (rc : Nat) (la : Option Nat) (lc : Nat), (j ≤ 150 ∧ j ≤ ops.length ∧ SAll G w0 w1 s N0 N1 rs j) ∧ E = [(2, .slice a ops.length cap), (7, .pointer (some ⟨b7, 0, none⟩)), (8, .pointer (some ⟨b34, 0, none⟩)), (9, .pointer (some ⟨b9, 0, none⟩)), (10, .slice (sl ra) rs.length rc), (12, .int .i64 (j : Nat))] ∧ H = [pt b7 (.cells #[.pointer (some ⟨g0, 0, none⟩), .pointer (some ⟨g1, 0, none⟩)] 46 (0, 0)), NodeP g0 N0, NodeP g1 N1, LogC b34 la (G).length lc, Row EntT la lc (entsOf (G)), pt b9 (.cells #[.int .i64 w0, .int .i64 w1] 51 (0, 0)), Row RdT ra rc rs, old W] ++ R ∧ m = 150 - j) (E' := [(2, .slice a ops.length cap), (7, .pointer (some ⟨b7, 0, none⟩)), (8, .pointer (some ⟨b34, 0, none⟩)), (9, .pointer (some ⟨b9, 0, none⟩)), (10, .slice (sl none) ([] : List RdV).length 0), (12, .int .i64 (0 : Nat))]) (H' := [pt b7 (.cells #[.pointer (some ⟨g0, 0, none⟩), .pointer (some ⟨g1, 0, none⟩)] 46 (0, 0)), NodeP g0 (newN room 0), NodeP g1 (coldN i (newN room 0)), LogC b34 la (startG i).length lc, Row EntT la lc (entsOf (startG i)), pt b9 (.cells #[.int .i64 (0 : Nat), .int .i64 (i : Nat)] 51 (0, 0)), Row RdT none 0 [], old W] ++ R) (m := 150 - 0) ⟨0, 0, i, i, startG i, _, _, [], none, 0, la, lc, ⟨by omega, by omega, sStart room hroom i (by omega)⟩, rfl, rfl, rfl⟩ (.cons rfl rfl (.cons rfl rfl (.cons rfl rfl (.cons rfl rfl (.cons rfl rfl (.cons rfl rfl .nil)))))) (.trans (Row_none RdT).imp_add (.k (e := (.k (e := (.k (e := (.k (e := (.k (e := (.k (e := (.k (e := (.k (e := skk))))))))))))))))) ?_
  rintro _ _ _ ⟨j, w0, w1, s, G, N0, N1, rs, ra, rc, la, lc, ⟨hj1, hj2o, hA⟩, rfl, rfl, rfl⟩
  refine CJ_app8 ?_
  have hgl := hA.gl
  have hN0 := hA.n0.ok
  have hN1 := hA.n1.ok
  refine CJ_seq ?_
  refine CJ_seq ?_
  refine CJ_region ?_
  refine RJ_q (Op_move rfl) rfl ?_
  refine RJ_q (Op_move rfl) rfl ?_
  refine RJ_q (Op_len_slice rfl Try.underlying45) rfl ?_
  refine RJ_q (Op_lss rfl rfl) rfl ?_
  by_cases hj : (j : Int) < ops.length
  ·skip
   refine RJ_q (Op_move rfl) rfl ?_
   refine RJ_yes (t := 74) rfl rfl (decide_eq_true hj) ?_
   refine RJ_q (Op_move rfl) rfl ?_
   refine RJ_yes (t := 74) rfl rfl (decide_eq_true hj) ?_
   refine RJ_q (Op_lss rfl rfl) rfl ?_
   by_cases hj2 : (j : Int) < 150
   ·skip
    refine RJ_q (Op_pick_t rfl (decide_eq_true hj) rfl) rfl ?_
    refine RJ_nil ?_
    refine NJ_then ?_
    refine CJ_env (E' := [(2, _), (7, _), (8, _), (9, _), (10, _), (12, _), (77, _)]) (.cons rfl rfl (.cons rfl rfl (.cons rfl rfl (.cons rfl rfl (.cons rfl rfl (.cons rfl rfl (.cons rfl rfl .nil))))))) ?_
    refine CJ_then rfl (decide_eq_true hj2) ?_
    refine CJ_skip ?_
    refine NJ_then ?_
    refine CJ_env (E' := [(2, _), (7, _), (8, _), (9, _), (10, _), (12, _)]) (.cons rfl rfl (.cons rfl rfl (.cons rfl rfl (.cons rfl rfl (.cons rfl rfl (.cons rfl rfl .nil)))))) ?_
    refine CJ_seq ?_
    refine CJ_block ?_
    refine CJ_seq ?_
    refine CJ_region ?_
    refine RJ_q (Op_move rfl) rfl ?_
    refine RJ_q (Op_move rfl) rfl ?_
    have hltj : j < ops.length := by omega
    obtain ⟨o, ho⟩ : ∃ o, ops[j]? = some o := ⟨ops[j], List.getElem?_eq_getElem hltj⟩
    obtain ⟨pa, hpa, hcells⟩ := hS j o ho
    obtain ⟨ok, ow, oi, okey, otx⟩ := o
    refine RJ_q (Op_indexOld rfl hpa rfl Try.underlying45 sz58 hltj) rfl ?_
    refine RJ_q (Op_load rfl (load_old_struct (vs := [.int .i64 ok, .int .i64 ow, .int .i64 oi, .string okey, .string otx]) Try.underlying58 sz58 pkk rfl hcells)) rfl ?_
    refine RJ_p rfl (Op_alloc zr58) ?_
    rintro _ _ ⟨b13, rfl, rfl⟩
    refine RJ_d0 (Op_store (cs' := #[_, _, _, _, _]) rfl rfl sz58 (by rfl) (by simp [Value.cells, Value.oneCell']) rpp rfl (free_zero _ _) (by rfl)) ?_
    refine RJ_nil ?_
    refine NJ_then ?_
    refine CJ_env (E' := [(2, _), (7, _), (8, _), (9, _), (10, _), (12, _), (13, _)]) (.cons rfl rfl (.cons rfl rfl (.cons rfl rfl (.cons rfl rfl (.cons rfl rfl (.cons rfl rfl (.cons rfl rfl .nil))))))) ?_
    refine CJ_seq ?_
    refine CJ_seq ?_
    refine CJ_region ?_
    refine RJ_q (Op_fieldAddr (o' := 3) rfl Try.underlying58 rfl sz9 rfl rfl) rfl ?_
    refine RJ_q (Op_load rfl (load_cell Try.underlying9 rfl pkk (Nth.s (Nth.s (Nth.s Nth.z))))) rfl ?_
    refine RJ_q (Op_len_str rfl Try.underlying9) rfl ?_
    refine RJ_q (Op_gtr rfl rfl) rfl ?_
    by_cases hk1 : 1000 < (okey.size : Int)
    ·skip
     refine RJ_q (Op_move rfl) rfl ?_
     refine RJ_no (t := 88) true rfl rfl (decide_eq_true hk1) (by decide) rfl ?_
     refine RJ_no (t := 88) true rfl rfl (decide_eq_true hk1) (by decide) rfl ?_
     refine RJ_no (t := 88) true rfl rfl (decide_eq_true hk1) (by decide) rfl ?_
     refine RJ_no (t := 88) true rfl rfl (decide_eq_true hk1) (by decide) rfl ?_
     refine RJ_q (Op_pick_t rfl (decide_eq_true hk1) rfl) rfl ?_
     refine RJ_nil ?_
     refine NJ_then ?_
     refine CJ_env (E' := [(2, _), (7, _), (8, _), (9, _), (10, _), (12, _), (13, _), (93, _)]) (.cons rfl rfl (.cons rfl rfl (.cons rfl rfl (.cons rfl rfl (.cons rfl rfl (.cons rfl rfl (.cons rfl rfl (.cons rfl rfl .nil)))))))) ?_
     refine CJ_then rfl rfl ?_
     refine CJ_seq ?_
     refine CJ_region ?_
     refine RJ_q (Op_assign rfl) rfl ?_
     refine RJ_nil ?_
     refine NJ_then ?_
     refine CJ_env (E' := [(6, _)]) (.cons rfl rfl .nil) ?_
     refine CJ_ret ?_
     refine NJ_then_r ?_
     refine NJ_blk_r ?_
     refine NJ_then_r ?_
     refine NJ_then_r ?_
     refine NJ_blk_r ?_
     refine NJ_then_r ?_
     refine NJ_ret (.inl rfl) Try.results5 (ResJ_tmp rfl ResJ_nil) ⟨rfl, rfl⟩ (.k (e := skk))
    ·skip
     refine RJ_q (Op_move rfl) rfl ?_
     refine RJ_yes (t := 88) rfl rfl (decide_eq_false hk1) ?_
     refine RJ_q (Op_fieldAddr (o' := 4) rfl Try.underlying58 rfl sz9 rfl rfl) rfl ?_
     refine RJ_yes (t := 88) rfl rfl (decide_eq_false hk1) ?_
     refine RJ_q (Op_load rfl (load_cell Try.underlying9 rfl pkk (Nth.s (Nth.s (Nth.s (Nth.s Nth.z)))))) rfl ?_
     refine RJ_yes (t := 88) rfl rfl (decide_eq_false hk1) ?_
     refine RJ_q (Op_len_str rfl Try.underlying9) rfl ?_
     refine RJ_yes (t := 88) rfl rfl (decide_eq_false hk1) ?_
     refine RJ_q (Op_gtr rfl rfl) rfl ?_
     by_cases ht1 : 1000 < (otx.size : Int)
     ·skip
      refine RJ_q (Op_pick_f rfl (decide_eq_false hk1) rfl) rfl ?_
      refine RJ_nil ?_
      refine NJ_then ?_
      refine CJ_env (E' := [(2, _), (7, _), (8, _), (9, _), (10, _), (12, _), (13, _), (93, _)]) (.cons rfl rfl (.cons rfl rfl (.cons rfl rfl (.cons rfl rfl (.cons rfl rfl (.cons rfl rfl (.cons rfl rfl (.cons rfl rfl .nil)))))))) ?_
      refine CJ_then rfl (decide_eq_true ht1) ?_
      refine CJ_seq ?_
      refine CJ_region ?_
      refine RJ_q (Op_assign rfl) rfl ?_
      refine RJ_nil ?_
      refine NJ_then ?_
      refine CJ_env (E' := [(6, _)]) (.cons rfl rfl .nil) ?_
      refine CJ_ret ?_
      refine NJ_then_r ?_
      refine NJ_blk_r ?_
      refine NJ_then_r ?_
      refine NJ_then_r ?_
      refine NJ_blk_r ?_
      refine NJ_then_r ?_
      refine NJ_ret (.inl rfl) Try.results5 (ResJ_tmp rfl ResJ_nil) ⟨rfl, rfl⟩ (.k (e := skk))
     ·skip
      refine RJ_q (Op_pick_f rfl (decide_eq_false hk1) rfl) rfl ?_
      refine RJ_nil ?_
      refine NJ_then ?_
      refine CJ_env (E' := [(2, _), (7, _), (8, _), (9, _), (10, _), (12, _), (13, _), (93, _)]) (.cons rfl rfl (.cons rfl rfl (.cons rfl rfl (.cons rfl rfl (.cons rfl rfl (.cons rfl rfl (.cons rfl rfl (.cons rfl rfl .nil)))))))) ?_
      refine CJ_else rfl (decide_eq_false ht1) ?_
      refine CJ_skip ?_
      refine NJ_then ?_
      refine CJ_env (E' := [(2, _), (7, _), (8, _), (9, _), (10, _), (12, _), (13, _)]) (.cons rfl rfl (.cons rfl rfl (.cons rfl rfl (.cons rfl rfl (.cons rfl rfl (.cons rfl rfl (.cons rfl rfl .nil))))))) ?_
      refine CJ_seq ?_
      by_cases hw : ow % 2 = 1
      ·skip
       refine CJ_region ?_
       refine RJ_q (Op_fieldAddr (o' := 1) rfl Try.underlying58 rfl sz3 rfl rfl) rfl ?_
       refine RJ_q (Op_load rfl (load_cell Try.underlying3 rfl pkk (Nth.s Nth.z))) rfl ?_
       refine RJ_q (Op_and1 rfl rfl) rfl ?_
       rw [hw]
       refine RJ_q (Op_assign rfl) rfl ?_
       refine RJ_nil ?_
       refine NJ_then ?_
       refine CJ_env (E' := [(2, _), (7, _), (8, _), (9, _), (10, _), (12, _), (13, _), (14, _)]) (.cons rfl rfl (.cons rfl rfl (.cons rfl rfl (.cons rfl rfl (.cons rfl rfl (.cons rfl rfl (.cons rfl rfl (.cons rfl rfl .nil)))))))) ?_
       refine CJ_seq ?_
       refine CJ_region ?_
       refine RJ_q (Op_fieldAddr (o' := 0) rfl Try.underlying58 rfl sz3 rfl rfl) rfl ?_
       refine RJ_q (Op_load rfl (load_cell Try.underlying3 rfl pkk Nth.z)) rfl ?_
       refine RJ_nil ?_
       refine NJ_then ?_
       refine CJ_env (E' := [(2, _), (7, _), (8, _), (9, _), (10, _), (12, _), (13, _), (14, _), (98, _)]) (.cons rfl rfl (.cons rfl rfl (.cons rfl rfl (.cons rfl rfl (.cons rfl rfl (.cons rfl rfl (.cons rfl rfl (.cons rfl rfl (.cons rfl rfl .nil))))))))) ?_
       refine CJ_block ?_
       refine CJ_seq ?_
       refine CJ_region ?_
       refine RJ_q (Op_eql rfl rfl) rfl ?_
       by_cases k0 : ok = 0
       ·skip
        refine RJ_q (Op_assign rfl) rfl ?_
        refine RJ_nil ?_
        refine NJ_then ?_
        refine CJ_env (E' := [(2, _), (7, _), (8, _), (9, _), (10, _), (12, _), (13, _), (14, _), (98, _), (99, _)]) (.cons rfl rfl (.cons rfl rfl (.cons rfl rfl (.cons rfl rfl (.cons rfl rfl (.cons rfl rfl (.cons rfl rfl (.cons rfl rfl (.cons rfl rfl (.cons rfl rfl .nil)))))))))) ?_
        refine CJ_then rfl (decide_eq_true k0) ?_
        refine CJ_draw (.q 0 (.q 1 (.q 2 (.q 3 (.q 4 (.q 5 (.q 6 (.q 7 (.q 8 (.q 9 (.q 10 (.q 11 (.q 12 (.q 13 (.q 14 (.q 15 (.q 16 (.e 17 (.e 18 (.q 19 (.q 20 (.e 21 .done)))))))))))))))))))))) (by kernel_rfl) (by kernel_rfl) (by kernel_rfl) ?_
        refine SJ_q rfl (want_none rfl) rfl (fun _ _ => Op_move rfl) ?_
        refine SJ_q rfl (want_none rfl) rfl (fun _ _ => Op_move rfl) ?_
        refine SJ_q rfl (want_none rfl) rfl (fun _ _ => Op_nilCheck rfl) ?_
        refine SJ_q rfl (want_none rfl) rfl (fun _ _ => Op_fieldAddr (o' := 0) rfl Try.underlying50 rfl sz48 rfl rfl) ?_
        refine SJ_load rfl (want_none rfl) rfl rfl (load_cell Try.underlying48 rfl pkk Nth.z) ?_
        refine SJ_q rfl (want_none rfl) rfl (fun _ _ => Op_move rfl) ?_
        refine SJ_q rfl (want_none rfl) rfl (fun _ _ => Op_nilCheck rfl) ?_
        refine SJ_q rfl (want_none rfl) rfl (fun _ _ => Op_fieldAddr (o' := 0) rfl Try.underlying50 rfl sz48 rfl rfl) ?_
        refine SJ_load rfl (want_none rfl) rfl rfl (load_cell Try.underlying48 rfl pkk Nth.z) ?_
        refine SJ_q rfl (want_none rfl) rfl (fun _ _ => Op_len_slice rfl Try.underlying48) ?_
        refine SJ_q rfl (want_none rfl) rfl (fun _ _ => Op_addN (G.length + 1) rfl rfl (by omega) (by omega)) ?_
        refine SJ_q rfl (want_none rfl) rfl (fun _ _ => Op_build (vs := [_, _]) (cells := [_, _]) Try.underlying27 zr27 rfl pl27 (by rfl)) ?_
        refine SJ_q rfl (want_none rfl) rfl (fun _ _ => Op_fieldAddr (o' := 3) rfl Try.underlying58 rfl sz9 rfl rfl) ?_
        refine SJ_load rfl (want_none rfl) rfl rfl (load_cell Try.underlying9 rfl pkk (Nth.s (Nth.s (Nth.s Nth.z)))) ?_
        refine SJ_q rfl (want_none rfl) rfl (fun _ _ => Op_fieldAddr (o' := 4) rfl Try.underlying58 rfl sz9 rfl rfl) ?_
        refine SJ_load rfl (want_none rfl) rfl rfl (load_cell Try.underlying9 rfl pkk (Nth.s (Nth.s (Nth.s (Nth.s Nth.z))))) ?_
        refine SJ_q rfl (want_none rfl) rfl (fun _ _ => Op_build (vs := [_, _, _]) (cells := [_, _, _, _, _, _, _]) Try.underlying55 zr55 rfl pl55 (by rfl)) ?_
        refine SJ_p (rd' := [⟨4, _, _, _⟩]) [4] rfl (want_none rfl) rfl (Op_buildRow (T := EntT) (vs := [_]) [⟨G.length + 1, okey, otx⟩] rfl Try.underlying48 sz55 zr55 rfl rfl rfl rfl rfl (by rfl)) (by kernel_rfl) rfl ?_
        rintro _ _ ⟨g118, rfl, rfl⟩
        refine ⟨⟨(load_cell Try.underlying48 rfl pkk Nth.z), trivial⟩, ?_⟩
        refine SJ_p (rd' := []) [] rfl (want_none rfl) rfl (Op_append (T := EntT) (news := [⟨G.length + 1, okey, otx⟩]) rfl rfl pkk (entsOf_len _) (by simp) (Reads_row pkk) Try.underlying48 sz55 zr55 (by rfl) by55 (by simp [EntT, entsOf_len]; omega) (by simp [maxLen, entsOf_len]; omega)) (by kernel_rfl) rfl ?_
        rintro _ _ ⟨a119, c119, rfl, rfl⟩
        refine ⟨trivial, ?_⟩
        have hE : entsOf G ++ [⟨G.length + 1, okey, otx⟩] = entsOf (G ++ [(okey, otx)]) := (entsOf_app G (okey, otx)).symm
        rw [hE, entsOf_len]
        refine SJ_q rfl (want_none rfl) rfl (fun _ _ => Op_nilCheck rfl) ?_
        refine SJ_q rfl (want_none rfl) rfl (fun _ _ => Op_fieldAddr (o' := 0) rfl Try.underlying50 rfl sz48 rfl rfl) ?_
        refine SJ_d0 (rd' := []) [] rfl (want_none rfl) (Op_store (cs' := #[_]) rfl rfl sz48 (by rfl) (by simp [Value.cells, Value.oneCell']) rpp rfl (free_zero _ _) (by rfl)) (by kernel_rfl) rfl trivial ?_
        refine SJ_done ?_
        refine NJ_blk ?_
        refine NJ_blk ?_
        refine NJ_then ?_
        refine CJ_env (E' := [(2, _), (7, _), (8, _), (9, _), (10, _), (12, _)]) (.cons rfl rfl (.cons rfl rfl (.cons rfl rfl (.cons rfl rfl (.cons rfl rfl (.cons rfl rfl .nil)))))) ?_
        refine CJ_region ?_
        refine RJ_q (Op_move rfl) rfl ?_
        refine RJ_q (Op_addN (j + 1) rfl rfl (by omega) (by omega)) rfl ?_
        refine RJ_q (Op_assign rfl) rfl ?_
        refine RJ_nil ?_
        have hB : SAll (G ++ [(okey, otx)]) (w0) (w1) (s) (N0) (N1) (rs) (j + 1) := hA.app (by omega) (by omega)
        refine NJ_back ⟨j + 1, w0, w1, s, G ++ [(okey, otx)], N0, N1, rs, ra, rc, a119, c119, ⟨by omega, by omega, hB⟩, rfl, rfl, rfl⟩ (by omega) (.cons rfl (by first | rfl | (simp; done)) (.cons rfl (by first | rfl | (simp; done)) (.cons rfl (by first | rfl | (simp; done)) (.cons rfl (by first | rfl | (simp; done)) (.cons rfl (by first | rfl | (simp; done)) (.cons rfl (by first | rfl | (simp; done)) .nil)))))) (.k (e := (.k (e := (.k (e := (.k (e := (.k (e := (.k (e := (.k (e := (.k (e := skk))))))))))))))))
       ·skip
        refine RJ_q (Op_assign rfl) rfl ?_
        refine RJ_nil ?_
        refine NJ_then ?_
        refine CJ_env (E' := [(2, _), (7, _), (8, _), (9, _), (10, _), (12, _), (13, _), (14, _), (98, _), (99, _)]) (.cons rfl rfl (.cons rfl rfl (.cons rfl rfl (.cons rfl rfl (.cons rfl rfl (.cons rfl rfl (.cons rfl rfl (.cons rfl rfl (.cons rfl rfl (.cons rfl rfl .nil)))))))))) ?_
        refine CJ_else rfl (decide_eq_false k0) ?_
        refine CJ_seq ?_
        refine CJ_region ?_
        refine RJ_q (Op_eql rfl rfl) rfl ?_
        by_cases k1 : ok = 1
        ·skip
         refine RJ_q (Op_assign rfl) rfl ?_
         refine RJ_nil ?_
         refine NJ_then ?_
         refine CJ_env (E' := [(2, _), (7, _), (8, _), (9, _), (10, _), (12, _), (13, _), (14, _), (98, _), (122, _)]) (.cons rfl rfl (.cons rfl rfl (.cons rfl rfl (.cons rfl rfl (.cons rfl rfl (.cons rfl rfl (.cons rfl rfl (.cons rfl rfl (.cons rfl rfl (.cons rfl rfl .nil)))))))))) ?_
         refine CJ_then rfl (decide_eq_true k1) ?_
         refine CJ_seq ?_
         refine CJ_draw (.q 0 (.q 1 (.q 2 (.q 3 (.q 4 (.q 5 (.q 6 (.q 7 (.q 8 .done))))))))) (by kernel_rfl) (by kernel_rfl) (by kernel_rfl) ?_
         refine SJ_q rfl (want_none rfl) rfl (fun _ _ => Op_move rfl) ?_
         refine SJ_q rfl (want_none rfl) rfl (fun _ _ => Op_indexArr (o' := 1) rfl rfl Try.underlying51 sz3 (by decide) (by decide) (by rfl)) ?_
         refine SJ_load rfl (want_none rfl) rfl rfl (load_cell Try.underlying3 rfl pkk (Nth.s Nth.z)) ?_
         refine SJ_q rfl (want_none rfl) rfl (fun _ _ => Op_move rfl) ?_
         refine SJ_q rfl (want_none rfl) rfl (fun _ _ => Op_nilCheck rfl) ?_
         refine SJ_q rfl (want_none rfl) rfl (fun _ _ => Op_fieldAddr (o' := 0) rfl Try.underlying50 rfl sz48 rfl rfl) ?_
         refine SJ_load rfl (want_none rfl) rfl rfl (load_cell Try.underlying48 rfl pkk Nth.z) ?_
         refine SJ_q rfl (want_none rfl) rfl (fun _ _ => Op_len_slice rfl Try.underlying48) ?_
         refine SJ_q rfl (want_none rfl) rfl (fun _ _ => Op_lss rfl rfl) ?_
         by_cases hlt : (w1 : Int) < G.length
         ·skip
          refine SJ_done ?_
          refine NJ_then ?_
          refine CJ_env (E' := [(2, _), (7, _), (8, _), (9, _), (10, _), (12, _), (14, _), (132, _)]) (.cons rfl rfl (.cons rfl rfl (.cons rfl rfl (.cons rfl rfl (.cons rfl rfl (.cons rfl rfl (.cons rfl rfl (.cons rfl rfl .nil)))))))) ?_
          refine CJ_then rfl (decide_eq_true hlt) ?_
          refine CJ_seq ?_
          refine CJ_region ?_
          refine RJ_q (Op_move rfl) rfl ?_
          refine RJ_q (Op_indexArr (o' := 1) rfl rfl Try.underlying51 sz3 (by decide) (by decide) (by rfl)) rfl ?_
          refine RJ_q (Op_load rfl (load_cell Try.underlying3 rfl pkk (Nth.s Nth.z))) rfl ?_
          refine RJ_q (Op_addN (w1 + 1) rfl rfl (by omega) (by omega)) rfl ?_
          refine RJ_q (Op_indexArr (o' := 1) rfl rfl Try.underlying51 sz3 (by decide) (by decide) (by rfl)) rfl ?_
          refine RJ_d0 (Op_store (cs' := #[_, _]) rfl rfl sz3 (by rfl) (by simp [Value.cells, Value.oneCell']) rpp rfl (free_zero _ _) (by rfl)) ?_
          refine RJ_nil ?_
          refine NJ_then ?_
          refine CJ_env (E' := [(2, _), (7, _), (8, _), (9, _), (10, _), (12, _), (14, _)]) (.cons rfl rfl (.cons rfl rfl (.cons rfl rfl (.cons rfl rfl (.cons rfl rfl (.cons rfl rfl (.cons rfl rfl .nil))))))) ?_
          obtain ⟨e, he⟩ : ∃ e, G[w1]? = some e := ⟨G[w1], List.getElem?_eq_getElem (by omega)⟩
          have hent := entsOf_at he
          refine CJ_know (Row_know (T := EntT) pkk) ?_
          intro hkn
          obtain ⟨lg, rfl⟩ := row_some hkn.2.2 (by intro e; rw [e] at hent; cases hent)
          refine CJ_draw (.q 0 (.q 1 (.q 2 (.q 3 (.q 4 (.q 5 (.q 6 (.q 7 (.q 8 (.q 9 (.q 10 (.q 11 (.q 12 (.q 13 (.q 14 (.q 15 (.q 16 (.e 17 .done)))))))))))))))))) (by kernel_rfl) (by kernel_rfl) (by kernel_rfl) ?_
          refine SJ_q rfl (want_none rfl) rfl (fun _ _ => Op_move rfl) ?_
          refine SJ_q rfl (want_none rfl) rfl (fun _ _ => Op_indexArr (o' := 1) rfl rfl Try.underlying46 sz24 (by decide) (by decide) (by rfl)) ?_
          refine SJ_load rfl (want_none rfl) rfl rfl (load_cell Try.underlying24 rfl pkk (Nth.s Nth.z)) ?_
          refine SJ_q rfl (want_none rfl) rfl (fun _ _ => Op_move rfl) ?_
          refine SJ_q rfl (want_none rfl) rfl (fun _ _ => Op_nilCheck rfl) ?_
          refine SJ_q rfl (want_none rfl) rfl (fun _ _ => Op_fieldAddr (o' := 0) rfl Try.underlying50 rfl sz48 rfl rfl) ?_
          refine SJ_load rfl (want_none rfl) rfl rfl (load_cell Try.underlying48 rfl pkk Nth.z) ?_
          refine SJ_q rfl (want_none rfl) rfl (fun _ _ => Op_move rfl) ?_
          refine SJ_q rfl (want_none rfl) rfl (fun _ _ => Op_indexArr (o' := 1) rfl rfl Try.underlying51 sz3 (by decide) (by decide) (by rfl)) ?_
          refine SJ_load rfl (want_none rfl) rfl rfl (load_cell Try.underlying3 rfl pkk (Nth.s Nth.z)) ?_
          refine SJ_q rfl (want_none rfl) rfl (fun _ _ => Op_subN (w1) rfl rfl (by omega) (by omega)) ?_
          refine SJ_q rfl (want_none rfl) rfl (fun _ _ => Op_indexAddr (o' := w1 * EntT.sz + 0) rfl rfl Try.underlying48 sz55 (by omega) (by omega) (by simp [EntT])) ?_
          refine SJ_q rfl (want_none rfl) rfl (fun _ _ => Op_fieldAddr (o' := w1 * EntT.sz + 4) rfl Try.underlying55 rfl sz9 rfl rfl) ?_
          refine SJ_load rfl (want_none rfl) rfl rfl (load_row_cell (o := 4) Try.underlying9 rfl pkk hent (Nth.s (Nth.s (Nth.s (Nth.s Nth.z))))) ?_
          refine SJ_q rfl (want_none rfl) rfl (fun _ _ => Op_move rfl) ?_
          refine SJ_q rfl (want_none rfl) rfl (fun _ _ => Op_indexArr (o' := 1) rfl rfl Try.underlying51 sz3 (by decide) (by decide) (by rfl)) ?_
          refine SJ_load rfl (want_none rfl) rfl rfl (load_cell Try.underlying3 rfl pkk (Nth.s Nth.z)) ?_
          refine SJ_p (rd' := []) [] rfl (want_none rfl) rfl (Op_call (vs := [_, _, _]) Try.func17 rfl rfl (NdInv_any g1 N1 j hN1 (by omega) e.1 ((w1 : Int) + 1)) rfl (.k (e := (Imp.refl _)))) (by kernel_rfl) rfl ?_
          rintro _ _ ⟨_, ⟨rfl, rfl⟩, rfl⟩
          refine OS_app1 ?_
          refine ⟨trivial, ?_⟩
          refine SJ_done ?_
          refine NJ_blk ?_
          refine NJ_blk ?_
          refine NJ_then ?_
          refine CJ_env (E' := [(2, _), (7, _), (8, _), (9, _), (10, _), (12, _)]) (.cons rfl rfl (.cons rfl rfl (.cons rfl rfl (.cons rfl rfl (.cons rfl rfl (.cons rfl rfl .nil)))))) ?_
          refine CJ_region ?_
          refine RJ_q (Op_move rfl) rfl ?_
          refine RJ_q (Op_addN (j + 1) rfl rfl (by omega) (by omega)) rfl ?_
          refine RJ_q (Op_assign rfl) rfl ?_
          refine RJ_nil ?_
          have hB : SAll (G) (w0) (w1 + 1) (s) (N0) (invN e.1 ((w1 : Int) + 1) N1) (rs) (j + 1) := hA.inv1 he
          refine NJ_back ⟨j + 1, w0, w1 + 1, s, G, N0, invN e.1 ((w1 : Int) + 1) N1, rs, ra, rc, (some lg), lc, ⟨by omega, by omega, hB⟩, rfl, rfl, rfl⟩ (by omega) (.cons rfl (by first | rfl | (simp; done)) (.cons rfl (by first | rfl | (simp; done)) (.cons rfl (by first | rfl | (simp; done)) (.cons rfl (by first | rfl | (simp; done)) (.cons rfl (by first | rfl | (simp; done)) (.cons rfl (by first | rfl | (simp; done)) .nil)))))) (.k (e := (.k (e := (.k (e := (.k (e := (.k (e := (.k (e := (.k (e := (.k (e := skk))))))))))))))))
         ·skip
          refine SJ_done ?_
          refine NJ_then ?_
          refine CJ_env (E' := [(2, _), (7, _), (8, _), (9, _), (10, _), (12, _), (14, _), (132, _)]) (.cons rfl rfl (.cons rfl rfl (.cons rfl rfl (.cons rfl rfl (.cons rfl rfl (.cons rfl rfl (.cons rfl rfl (.cons rfl rfl .nil)))))))) ?_
          refine CJ_else rfl (decide_eq_false hlt) ?_
          refine CJ_skip ?_
          refine NJ_blk ?_
          refine NJ_blk ?_
          refine NJ_then ?_
          refine CJ_env (E' := [(2, _), (7, _), (8, _), (9, _), (10, _), (12, _)]) (.cons rfl rfl (.cons rfl rfl (.cons rfl rfl (.cons rfl rfl (.cons rfl rfl (.cons rfl rfl .nil)))))) ?_
          refine CJ_region ?_
          refine RJ_q (Op_move rfl) rfl ?_
          refine RJ_q (Op_addN (j + 1) rfl rfl (by omega) (by omega)) rfl ?_
          refine RJ_q (Op_assign rfl) rfl ?_
          refine RJ_nil ?_
          have hB : SAll (G) (w0) (w1) (s) (N0) (N1) (rs) (j + 1) := hA.more
          refine NJ_back ⟨j + 1, w0, w1, s, G, N0, N1, rs, ra, rc, la, lc, ⟨by omega, by omega, hB⟩, rfl, rfl, rfl⟩ (by omega) (.cons rfl (by first | rfl | (simp; done)) (.cons rfl (by first | rfl | (simp; done)) (.cons rfl (by first | rfl | (simp; done)) (.cons rfl (by first | rfl | (simp; done)) (.cons rfl (by first | rfl | (simp; done)) (.cons rfl (by first | rfl | (simp; done)) .nil)))))) (.k (e := (.k (e := (.k (e := (.k (e := (.k (e := (.k (e := (.k (e := (.k (e := skk))))))))))))))))
        ·skip
         refine RJ_q (Op_assign rfl) rfl ?_
         refine RJ_nil ?_
         refine NJ_then ?_
         refine CJ_env (E' := [(2, _), (7, _), (8, _), (9, _), (10, _), (12, _), (13, _), (14, _), (98, _), (122, _)]) (.cons rfl rfl (.cons rfl rfl (.cons rfl rfl (.cons rfl rfl (.cons rfl rfl (.cons rfl rfl (.cons rfl rfl (.cons rfl rfl (.cons rfl rfl (.cons rfl rfl .nil)))))))))) ?_
         refine CJ_else rfl (decide_eq_false k1) ?_
         refine CJ_seq ?_
         refine CJ_region ?_
         refine RJ_q (Op_eql rfl rfl) rfl ?_
         by_cases k2 : ok = 2
         ·skip
          refine RJ_q (Op_assign rfl) rfl ?_
          refine RJ_nil ?_
          refine NJ_then ?_
          refine CJ_env (E' := [(2, _), (7, _), (8, _), (9, _), (10, _), (12, _), (13, _), (14, _), (98, _), (156, _)]) (.cons rfl rfl (.cons rfl rfl (.cons rfl rfl (.cons rfl rfl (.cons rfl rfl (.cons rfl rfl (.cons rfl rfl (.cons rfl rfl (.cons rfl rfl (.cons rfl rfl .nil)))))))))) ?_
          refine CJ_then rfl (decide_eq_true k2) ?_
          refine CJ_seq ?_
          refine CJ_draw (.q 0 (.q 1 (.q 2 (.q 3 (.q 4 (.br 5 (.e 6 (.e 7 .done)) (.e 6 (.e 5 (.e 7 .done))))))))) (by kernel_rfl) (by kernel_rfl) (by kernel_rfl) ?_
          refine SJ_q rfl (want_none rfl) rfl (fun _ _ => Op_move rfl) ?_
          refine SJ_q rfl (want_none rfl) rfl (fun _ _ => Op_indexArr (o' := 1) rfl rfl Try.underlying46 sz24 (by decide) (by decide) (by rfl)) ?_
          refine SJ_load rfl (want_none rfl) rfl rfl (load_cell Try.underlying24 rfl pkk (Nth.s Nth.z)) ?_
          refine SJ_q rfl (want_none rfl) rfl (fun _ _ => Op_fieldAddr (o' := 3) rfl Try.underlying58 rfl sz9 rfl rfl) ?_
          refine SJ_load rfl (want_none rfl) rfl rfl (load_cell Try.underlying9 rfl pkk (Nth.s (Nth.s (Nth.s Nth.z)))) ?_
          refine SJ_br ?_ ?_
          ·skip
           refine SJ_p (rd' := []) [] rfl (want_none rfl) rfl (Op_call (vs := [_, _]) Try.func8 rfl rfl (NdGet_any g1 N1 j hN1 (by omega) okey) rfl (.k (e := (Imp.refl _)))) (by kernel_rfl) rfl ?_
           rintro _ _ ⟨_, ⟨rfl, rfl⟩, rfl⟩
           refine OS_app1 ?_
           refine ⟨trivial, ?_⟩
           refine SJ_p (rd' := []) [] rfl (want_none rfl) rfl (Op_alloc zr31) (by kernel_rfl) rfl ?_
           rintro _ _ ⟨b15, rfl, rfl⟩
           refine ⟨trivial, ?_⟩
           refine SJ_d0 (rd' := []) [] rfl (want_none rfl) (Op_store (cs' := #[_, _, _, _, _, _, _]) rfl rfl sz31 (by rfl) (by simp [Value.cells, Value.oneCell']) rpp rfl (free_zero _ _) (by rfl)) (by kernel_rfl) rfl trivial ?_
           refine SJ_done ?_
           refine NJ_then ?_
           refine CJ_env (E' := [(2, _), (7, _), (8, _), (9, _), (10, _), (12, _), (13, _), (14, _), (15, _)]) (.cons rfl rfl (.cons rfl rfl (.cons rfl rfl (.cons rfl rfl (.cons rfl rfl (.cons rfl rfl (.cons rfl rfl (.cons rfl rfl (.cons rfl rfl .nil))))))))) ?_
           refine CJ_seq ?_
           refine CJ_seq ?_
           refine CJ_draw (.q 0 (.q 1 (.q 2 (.q 3 (.q 4 (.q 5 (.q 6 (.q 7 (.q 8 (.q 9 (.q 10 (.q 11 (.q 12 (.q 13 (.e 14 (.e 15 (.q 16 (.q 17 .done)))))))))))))))))) (by kernel_rfl) (by kernel_rfl) (by kernel_rfl) ?_
           refine SJ_q rfl (want_none rfl) rfl (fun _ _ => Op_fieldAddr (o' := 0) rfl Try.underlying31 rfl sz3 rfl rfl) ?_
           refine SJ_load rfl (want_none rfl) rfl rfl (load_cell Try.underlying3 rfl pkk Nth.z) ?_
           refine SJ_q rfl (want_none rfl) rfl (fun _ _ => Op_eql rfl rfl) ?_
           by_cases hh : (getN okey N1).1.kind = 1
           ·skip
            obtain ⟨q, ha1, ha2, ha3⟩ := hA.n1.hit hh
            have hmx : (max (getN okey N1).1.val.asOf (w1 : Int)).toNat = max q w1 := by rw [ha1]; omega
            refine SJ_q rfl (want_none rfl) rfl (fun _ _ => Op_move rfl) ?_
            refine SJ_q rfl (want_yes (t := 167) rfl rfl rfl (decide_eq_true hh)) rfl (fun _ _ => Op_fieldAddr (o' := 1) rfl Try.underlying31 rfl sz29 rfl rfl) ?_
            refine SJ_load rfl (want_yes (t := 167) rfl rfl rfl (decide_eq_true hh)) rfl rfl (load_struct (o := 1) (vs := [_, _, _, _]) Try.underlying29 sz29 pkk (by rfl) rfl) ?_
            refine SJ_q rfl (want_yes (t := 167) rfl rfl rfl (decide_eq_true hh)) rfl (fun _ _ => Op_move rfl) ?_
            refine SJ_q rfl (want_yes (t := 167) rfl rfl rfl (decide_eq_true hh)) rfl (fun _ _ => Op_fieldAddr (o' := 3) rfl Try.underlying58 rfl sz9 rfl rfl) ?_
            refine SJ_load rfl (want_yes (t := 167) rfl rfl rfl (decide_eq_true hh)) rfl rfl (load_cell Try.underlying9 rfl pkk (Nth.s (Nth.s (Nth.s Nth.z)))) ?_
            refine SJ_q rfl (want_yes (t := 167) rfl rfl rfl (decide_eq_true hh)) rfl (fun _ _ => Op_fieldAddr (o' := 5) rfl Try.underlying31 rfl sz3 rfl rfl) ?_
            refine SJ_load rfl (want_yes (t := 167) rfl rfl rfl (decide_eq_true hh)) rfl rfl (load_cell Try.underlying3 rfl pkk (Nth.s (Nth.s (Nth.s (Nth.s (Nth.s Nth.z)))))) ?_
            refine SJ_q rfl (want_yes (t := 167) rfl rfl rfl (decide_eq_true hh)) rfl (fun _ _ => Op_move rfl) ?_
            refine SJ_q rfl (want_yes (t := 167) rfl rfl rfl (decide_eq_true hh)) rfl (fun _ _ => Op_indexArr (o' := 1) rfl rfl Try.underlying51 sz3 (by decide) (by decide) (by rfl)) ?_
            refine SJ_load rfl (want_yes (t := 167) rfl rfl rfl (decide_eq_true hh)) rfl rfl (load_cell Try.underlying3 rfl pkk (Nth.s Nth.z)) ?_
            refine SJ_d (rd' := [⟨8, _, _, _⟩, ⟨5, _, _, _⟩]) [8, 5] rfl (want_yes (t := 167) rfl rfl rfl (decide_eq_true hh)) rfl ((Op_max rfl rfl).opD) (by kernel_rfl) rfl ⟨(load_cell Try.underlying9 rfl pkk (Nth.s (Nth.s (Nth.s Nth.z)))), ⟨(load_struct (o := 1) (vs := [_, _, _, _]) Try.underlying29 sz29 pkk (by rfl) rfl), trivial⟩⟩ ?_
            refine SJ_p (rd' := [⟨5, _, _, _⟩]) [5] rfl (want_yes (t := 167) rfl rfl rfl (decide_eq_true hh)) rfl (Op_call (vs := [_, _, _]) Try.func18 rfl rfl (At_any b34 la lc G (by omega) okey (max (getN okey N1).1.val.asOf w1)) rfl (.k (e := (.k (e := (Imp.refl _)))))) (by kernel_rfl) rfl ?_
            rintro _ _ ⟨_, ⟨rfl, rfl⟩, rfl⟩
            refine OS_app2 ?_
            refine ⟨⟨(load_struct (o := 1) (vs := [_, _, _, _]) Try.underlying29 sz29 pkk (by rfl) rfl), trivial⟩, ?_⟩
            refine SJ_q rfl (want_yes (t := 167) rfl rfl rfl (decide_eq_true hh)) rfl (fun _ _ => Op_struct_neq rfl rfl (by kernel_rfl) (EqJ_val 9997 (getN okey N1).1.val (atN G okey (max (getN okey N1).1.val.asOf w1).toNat))) ?_
            refine SJ_q rfl (want_none rfl) rfl (fun _ _ => Op_pick_t rfl (decide_eq_true hh) rfl) ?_
            refine SJ_done ?_
            refine NJ_then ?_
            refine CJ_env (E' := [(2, _), (7, _), (8, _), (9, _), (10, _), (12, _), (13, _), (14, _), (15, _), (181, _)]) (.cons rfl rfl (.cons rfl rfl (.cons rfl rfl (.cons rfl rfl (.cons rfl rfl (.cons rfl rfl (.cons rfl rfl (.cons rfl rfl (.cons rfl rfl (.cons rfl rfl .nil)))))))))) ?_
            refine CJ_else rfl (by rw [hmx, ha3]; rfl) ?_
            refine CJ_skip ?_
            refine NJ_then ?_
            refine CJ_env (E' := [(2, _), (7, _), (8, _), (9, _), (10, _), (12, _), (13, _), (14, _), (15, _)]) (.cons rfl rfl (.cons rfl rfl (.cons rfl rfl (.cons rfl rfl (.cons rfl rfl (.cons rfl rfl (.cons rfl rfl (.cons rfl rfl (.cons rfl rfl .nil))))))))) ?_
            refine CJ_seq ?_
            refine CJ_region ?_
            refine RJ_q (Op_fieldAddr (o' := 6) rfl Try.underlying31 rfl sz2 rfl rfl) rfl ?_
            refine RJ_q (Op_load rfl (load_cell Try.underlying2 rfl pkk (Nth.s (Nth.s (Nth.s (Nth.s (Nth.s (Nth.s Nth.z)))))))) rfl ?_
            refine RJ_q (Op_gtr rfl rfl) rfl ?_
            by_cases htk : 0 < (getN okey N1).1.token
            ·skip
             refine RJ_nil ?_
             refine NJ_then ?_
             refine CJ_env (E' := [(2, _), (7, _), (8, _), (9, _), (10, _), (12, _), (13, _), (14, _), (15, _), (184, _)]) (.cons rfl rfl (.cons rfl rfl (.cons rfl rfl (.cons rfl rfl (.cons rfl rfl (.cons rfl rfl (.cons rfl rfl (.cons rfl rfl (.cons rfl rfl (.cons rfl rfl .nil)))))))))) ?_
             refine CJ_then rfl (decide_eq_true htk) ?_
             refine CJ_draw (.q 0 (.q 1 (.q 2 (.q 3 (.q 4 (.q 5 (.q 6 (.q 7 (.q 8 (.q 9 (.q 10 (.q 11 (.q 12 (.q 13 (.q 14 (.q 15 (.q 16 (.q 17 (.q 18 (.e 19 (.q 20 (.e 21 (.e 22 (.q 23 .done)))))))))))))))))))))))) (by kernel_rfl) (by kernel_rfl) (by kernel_rfl) ?_
             refine SJ_q rfl (want_none rfl) rfl (fun _ _ => Op_move rfl) ?_
             refine SJ_q rfl (want_none rfl) rfl (fun _ _ => Op_move rfl) ?_
             refine SJ_q rfl (want_none rfl) rfl (fun _ _ => Op_move rfl) ?_
             refine SJ_q rfl (want_none rfl) rfl (fun _ _ => Op_nilCheck rfl) ?_
             refine SJ_q rfl (want_none rfl) rfl (fun _ _ => Op_fieldAddr (o' := 0) rfl Try.underlying50 rfl sz48 rfl rfl) ?_
             refine SJ_load rfl (want_none rfl) rfl rfl (load_cell Try.underlying48 rfl pkk Nth.z) ?_
             refine SJ_q rfl (want_none rfl) rfl (fun _ _ => Op_len_slice rfl Try.underlying48) ?_
             refine SJ_q rfl (want_none rfl) rfl (fun _ _ => Op_fieldAddr (o' := 3) rfl Try.underlying58 rfl sz9 rfl rfl) ?_
             refine SJ_load rfl (want_none rfl) rfl rfl (load_cell Try.underlying9 rfl pkk (Nth.s (Nth.s (Nth.s Nth.z)))) ?_
             refine SJ_q rfl (want_none rfl) rfl (fun _ _ => Op_fieldAddr (o' := 6) rfl Try.underlying31 rfl sz2 rfl rfl) ?_
             refine SJ_load rfl (want_none rfl) rfl rfl (load_cell Try.underlying2 rfl pkk (Nth.s (Nth.s (Nth.s (Nth.s (Nth.s (Nth.s Nth.z))))))) ?_
             refine SJ_q rfl (want_none rfl) rfl (fun _ _ => Op_move rfl) ?_
             refine SJ_q rfl (want_none rfl) rfl (fun _ _ => Op_fieldAddr (o' := 3) rfl Try.underlying58 rfl sz9 rfl rfl) ?_
             refine SJ_load rfl (want_none rfl) rfl rfl (load_cell Try.underlying9 rfl pkk (Nth.s (Nth.s (Nth.s Nth.z)))) ?_
             refine SJ_q rfl (want_none rfl) rfl (fun _ _ => Op_move rfl) ?_
             refine SJ_q rfl (want_none rfl) rfl (fun _ _ => Op_nilCheck rfl) ?_
             refine SJ_q rfl (want_none rfl) rfl (fun _ _ => Op_fieldAddr (o' := 0) rfl Try.underlying50 rfl sz48 rfl rfl) ?_
             refine SJ_load rfl (want_none rfl) rfl rfl (load_cell Try.underlying48 rfl pkk Nth.z) ?_
             refine SJ_q rfl (want_none rfl) rfl (fun _ _ => Op_len_slice rfl Try.underlying48) ?_
             refine SJ_p (rd' := [⟨10, _, _, _⟩, ⟨8, _, _, _⟩, ⟨5, _, _, _⟩]) [10, 8, 5] rfl (want_none rfl) rfl (Op_call (vs := [_, _, _]) Try.func18 rfl rfl (At_any b34 la lc G (by omega) okey (G.length : Nat)) rfl (.k (e := (.k (e := (Imp.refl _)))))) (by kernel_rfl) rfl ?_
             rintro _ _ ⟨_, ⟨rfl, rfl⟩, rfl⟩
             refine OS_app2 ?_
             refine ⟨⟨(load_cell Try.underlying2 rfl pkk (Nth.s (Nth.s (Nth.s (Nth.s (Nth.s (Nth.s Nth.z))))))), ⟨(load_cell Try.underlying9 rfl pkk (Nth.s (Nth.s (Nth.s Nth.z)))), ⟨(load_cell Try.underlying48 rfl pkk Nth.z), trivial⟩⟩⟩, ?_⟩
             rw [Int.toNat_natCast]
             refine SJ_q rfl (want_none rfl) rfl (fun _ _ => Op_build (vs := [_, _, _, _, _]) (cells := [_, _, _, _, _, _, _, _]) Try.underlying62 zr62 rfl pl62 (by rfl)) ?_
             refine SJ_p (rd' := []) [] rfl (want_none rfl) rfl (Op_buildRow (T := RdT) (vs := [_]) [⟨1, G.length, okey, (getN okey N1).1.token, atN G okey G.length⟩] rfl Try.underlying52 sz62 zr62 rfl rfl rfl rfl rfl (by rfl)) (by kernel_rfl) rfl ?_
             rintro _ _ ⟨g206, rfl, rfl⟩
             refine ⟨trivial, ?_⟩
             refine SJ_p (rd' := []) [] rfl (want_none rfl) rfl (Op_append (T := RdT) (news := [⟨1, G.length, okey, (getN okey N1).1.token, atN G okey G.length⟩]) rfl rfl pkk rfl (by simp) (Reads_row pkk) Try.underlying52 sz62 zr62 (by rfl) by62 (by have := hA.rl; simp [RdT]; omega) (by have := hA.rl; simp [maxLen]; omega)) (by kernel_rfl) rfl ?_
             rintro _ _ ⟨a207, c207, rfl, rfl⟩
             refine ⟨trivial, ?_⟩
             refine SJ_q rfl (want_none rfl) rfl (fun _ _ => Op_assign rfl) ?_
             refine SJ_done ?_
             refine NJ_blk ?_
             refine NJ_blk ?_
             refine NJ_then ?_
             refine CJ_env (E' := [(2, _), (7, _), (8, _), (9, _), (10, _), (12, _)]) (.cons rfl rfl (.cons rfl rfl (.cons rfl rfl (.cons rfl rfl (.cons rfl rfl (.cons rfl rfl .nil)))))) ?_
             refine CJ_region ?_
             refine RJ_q (Op_move rfl) rfl ?_
             refine RJ_q (Op_addN (j + 1) rfl rfl (by omega) (by omega)) rfl ?_
             refine RJ_q (Op_assign rfl) rfl ?_
             refine RJ_nil ?_
             have hB : SAll (G) (w0) (w1) (s) (N0) ((getN okey N1).2) (rs ++ [⟨1, G.length, okey, (getN okey N1).1.token, atN G okey G.length⟩]) (j + 1) := (hA.set1 (hA.n1.get okey) (get4 okey N1)).read hA.rl rfl rfl (by show okey.size ≤ 1000; omega) (.inr ⟨rfl, get_token hA.n1.ok okey⟩)
             refine NJ_back ⟨j + 1, w0, w1, s, G, N0, (getN okey N1).2, rs ++ [⟨1, G.length, okey, (getN okey N1).1.token, atN G okey G.length⟩], a207, c207, la, lc, ⟨by omega, by omega, hB⟩, rfl, rfl, rfl⟩ (by omega) (.cons rfl (by first | rfl | (simp; done)) (.cons rfl (by first | rfl | (simp; done)) (.cons rfl (by first | rfl | (simp; done)) (.cons rfl (by first | rfl | (simp; done)) (.cons rfl (by first | rfl | (simp; done)) (.cons rfl (by first | rfl | (simp; done)) .nil)))))) (.k (e := (.k (e := (.k (e := (.k (e := (.k (e := (.k (e := (.k (e := (.k (e := skk))))))))))))))))
            ·skip
             refine RJ_nil ?_
             refine NJ_then ?_
             refine CJ_env (E' := [(2, _), (7, _), (8, _), (9, _), (10, _), (12, _), (13, _), (14, _), (15, _), (184, _)]) (.cons rfl rfl (.cons rfl rfl (.cons rfl rfl (.cons rfl rfl (.cons rfl rfl (.cons rfl rfl (.cons rfl rfl (.cons rfl rfl (.cons rfl rfl (.cons rfl rfl .nil)))))))))) ?_
             refine CJ_else rfl (decide_eq_false htk) ?_
             refine CJ_skip ?_
             refine NJ_blk ?_
             refine NJ_blk ?_
             refine NJ_then ?_
             refine CJ_env (E' := [(2, _), (7, _), (8, _), (9, _), (10, _), (12, _)]) (.cons rfl rfl (.cons rfl rfl (.cons rfl rfl (.cons rfl rfl (.cons rfl rfl (.cons rfl rfl .nil)))))) ?_
             refine CJ_region ?_
             refine RJ_q (Op_move rfl) rfl ?_
             refine RJ_q (Op_addN (j + 1) rfl rfl (by omega) (by omega)) rfl ?_
             refine RJ_q (Op_assign rfl) rfl ?_
             refine RJ_nil ?_
             have hB : SAll (G) (w0) (w1) (s) (N0) ((getN okey N1).2) (rs) (j + 1) := hA.set1 (hA.n1.get okey) (get4 okey N1)
             refine NJ_back ⟨j + 1, w0, w1, s, G, N0, (getN okey N1).2, rs, ra, rc, la, lc, ⟨by omega, by omega, hB⟩, rfl, rfl, rfl⟩ (by omega) (.cons rfl (by first | rfl | (simp; done)) (.cons rfl (by first | rfl | (simp; done)) (.cons rfl (by first | rfl | (simp; done)) (.cons rfl (by first | rfl | (simp; done)) (.cons rfl (by first | rfl | (simp; done)) (.cons rfl (by first | rfl | (simp; done)) .nil)))))) (.k (e := (.k (e := (.k (e := (.k (e := (.k (e := (.k (e := (.k (e := (.k (e := skk))))))))))))))))
           ·skip
            refine SJ_q rfl (want_none rfl) rfl (fun _ _ => Op_move rfl) ?_
            refine SJ_no (t := 167) false rfl rfl rfl (decide_eq_false hh) (by decide) rfl ?_
            refine SJ_no (t := 167) false rfl rfl rfl (decide_eq_false hh) (by decide) rfl ?_
            refine SJ_no (t := 167) false rfl rfl rfl (decide_eq_false hh) (by decide) rfl ?_
            refine SJ_no (t := 167) false rfl rfl rfl (decide_eq_false hh) (by decide) rfl ?_
            refine SJ_no (t := 167) false rfl rfl rfl (decide_eq_false hh) (by decide) rfl ?_
            refine SJ_no (t := 167) false rfl rfl rfl (decide_eq_false hh) (by decide) rfl ?_
            refine SJ_no (t := 167) false rfl rfl rfl (decide_eq_false hh) (by decide) rfl ?_
            refine SJ_no (t := 167) false rfl rfl rfl (decide_eq_false hh) (by decide) rfl ?_
            refine SJ_no (t := 167) false rfl rfl rfl (decide_eq_false hh) (by decide) rfl ?_
            refine SJ_no (t := 167) false rfl rfl rfl (decide_eq_false hh) (by decide) rfl ?_
            refine SJ_no_e (t := 167) false (rd' := []) [] rfl rfl rfl (decide_eq_false hh) (by decide) rfl (by kernel_rfl) rfl trivial ?_
            refine SJ_no_e (t := 167) false (rd' := []) [] rfl rfl rfl (decide_eq_false hh) (by decide) rfl (by kernel_rfl) rfl trivial ?_
            refine SJ_no (t := 167) false rfl rfl rfl (decide_eq_false hh) (by decide) rfl ?_
            refine SJ_q rfl (want_none rfl) rfl (fun _ _ => Op_pick_f rfl (decide_eq_false hh) rfl) ?_
            refine SJ_done ?_
            refine NJ_then ?_
            refine CJ_env (E' := [(2, _), (7, _), (8, _), (9, _), (10, _), (12, _), (13, _), (14, _), (15, _), (181, _)]) (.cons rfl rfl (.cons rfl rfl (.cons rfl rfl (.cons rfl rfl (.cons rfl rfl (.cons rfl rfl (.cons rfl rfl (.cons rfl rfl (.cons rfl rfl (.cons rfl rfl .nil)))))))))) ?_
            refine CJ_else rfl rfl ?_
            refine CJ_skip ?_
            refine NJ_then ?_
            refine CJ_env (E' := [(2, _), (7, _), (8, _), (9, _), (10, _), (12, _), (13, _), (14, _), (15, _)]) (.cons rfl rfl (.cons rfl rfl (.cons rfl rfl (.cons rfl rfl (.cons rfl rfl (.cons rfl rfl (.cons rfl rfl (.cons rfl rfl (.cons rfl rfl .nil))))))))) ?_
            refine CJ_seq ?_
            refine CJ_region ?_
            refine RJ_q (Op_fieldAddr (o' := 6) rfl Try.underlying31 rfl sz2 rfl rfl) rfl ?_
            refine RJ_q (Op_load rfl (load_cell Try.underlying2 rfl pkk (Nth.s (Nth.s (Nth.s (Nth.s (Nth.s (Nth.s Nth.z)))))))) rfl ?_
            refine RJ_q (Op_gtr rfl rfl) rfl ?_
            by_cases htk : 0 < (getN okey N1).1.token
            ·skip
             refine RJ_nil ?_
             refine NJ_then ?_
             refine CJ_env (E' := [(2, _), (7, _), (8, _), (9, _), (10, _), (12, _), (13, _), (14, _), (15, _), (184, _)]) (.cons rfl rfl (.cons rfl rfl (.cons rfl rfl (.cons rfl rfl (.cons rfl rfl (.cons rfl rfl (.cons rfl rfl (.cons rfl rfl (.cons rfl rfl (.cons rfl rfl .nil)))))))))) ?_
             refine CJ_then rfl (decide_eq_true htk) ?_
             refine CJ_draw (.q 0 (.q 1 (.q 2 (.q 3 (.q 4 (.q 5 (.q 6 (.q 7 (.q 8 (.q 9 (.q 10 (.q 11 (.q 12 (.q 13 (.q 14 (.q 15 (.q 16 (.q 17 (.q 18 (.e 19 (.q 20 (.e 21 (.e 22 (.q 23 .done)))))))))))))))))))))))) (by kernel_rfl) (by kernel_rfl) (by kernel_rfl) ?_
             refine SJ_q rfl (want_none rfl) rfl (fun _ _ => Op_move rfl) ?_
             refine SJ_q rfl (want_none rfl) rfl (fun _ _ => Op_move rfl) ?_
             refine SJ_q rfl (want_none rfl) rfl (fun _ _ => Op_move rfl) ?_
             refine SJ_q rfl (want_none rfl) rfl (fun _ _ => Op_nilCheck rfl) ?_
             refine SJ_q rfl (want_none rfl) rfl (fun _ _ => Op_fieldAddr (o' := 0) rfl Try.underlying50 rfl sz48 rfl rfl) ?_
             refine SJ_load rfl (want_none rfl) rfl rfl (load_cell Try.underlying48 rfl pkk Nth.z) ?_
             refine SJ_q rfl (want_none rfl) rfl (fun _ _ => Op_len_slice rfl Try.underlying48) ?_
             refine SJ_q rfl (want_none rfl) rfl (fun _ _ => Op_fieldAddr (o' := 3) rfl Try.underlying58 rfl sz9 rfl rfl) ?_
             refine SJ_load rfl (want_none rfl) rfl rfl (load_cell Try.underlying9 rfl pkk (Nth.s (Nth.s (Nth.s Nth.z)))) ?_
             refine SJ_q rfl (want_none rfl) rfl (fun _ _ => Op_fieldAddr (o' := 6) rfl Try.underlying31 rfl sz2 rfl rfl) ?_
             refine SJ_load rfl (want_none rfl) rfl rfl (load_cell Try.underlying2 rfl pkk (Nth.s (Nth.s (Nth.s (Nth.s (Nth.s (Nth.s Nth.z))))))) ?_
             refine SJ_q rfl (want_none rfl) rfl (fun _ _ => Op_move rfl) ?_
             refine SJ_q rfl (want_none rfl) rfl (fun _ _ => Op_fieldAddr (o' := 3) rfl Try.underlying58 rfl sz9 rfl rfl) ?_
             refine SJ_load rfl (want_none rfl) rfl rfl (load_cell Try.underlying9 rfl pkk (Nth.s (Nth.s (Nth.s Nth.z)))) ?_
             refine SJ_q rfl (want_none rfl) rfl (fun _ _ => Op_move rfl) ?_
             refine SJ_q rfl (want_none rfl) rfl (fun _ _ => Op_nilCheck rfl) ?_
             refine SJ_q rfl (want_none rfl) rfl (fun _ _ => Op_fieldAddr (o' := 0) rfl Try.underlying50 rfl sz48 rfl rfl) ?_
             refine SJ_load rfl (want_none rfl) rfl rfl (load_cell Try.underlying48 rfl pkk Nth.z) ?_
             refine SJ_q rfl (want_none rfl) rfl (fun _ _ => Op_len_slice rfl Try.underlying48) ?_
             refine SJ_p (rd' := [⟨10, _, _, _⟩, ⟨8, _, _, _⟩, ⟨5, _, _, _⟩]) [10, 8, 5] rfl (want_none rfl) rfl (Op_call (vs := [_, _, _]) Try.func18 rfl rfl (At_any b34 la lc G (by omega) okey (G.length : Nat)) rfl (.k (e := (.k (e := (Imp.refl _)))))) (by kernel_rfl) rfl ?_
             rintro _ _ ⟨_, ⟨rfl, rfl⟩, rfl⟩
             refine OS_app2 ?_
             refine ⟨⟨(load_cell Try.underlying2 rfl pkk (Nth.s (Nth.s (Nth.s (Nth.s (Nth.s (Nth.s Nth.z))))))), ⟨(load_cell Try.underlying9 rfl pkk (Nth.s (Nth.s (Nth.s Nth.z)))), ⟨(load_cell Try.underlying48 rfl pkk Nth.z), trivial⟩⟩⟩, ?_⟩
             rw [Int.toNat_natCast]
             refine SJ_q rfl (want_none rfl) rfl (fun _ _ => Op_build (vs := [_, _, _, _, _]) (cells := [_, _, _, _, _, _, _, _]) Try.underlying62 zr62 rfl pl62 (by rfl)) ?_
             refine SJ_p (rd' := []) [] rfl (want_none rfl) rfl (Op_buildRow (T := RdT) (vs := [_]) [⟨1, G.length, okey, (getN okey N1).1.token, atN G okey G.length⟩] rfl Try.underlying52 sz62 zr62 rfl rfl rfl rfl rfl (by rfl)) (by kernel_rfl) rfl ?_
             rintro _ _ ⟨g206, rfl, rfl⟩
             refine ⟨trivial, ?_⟩
             refine SJ_p (rd' := []) [] rfl (want_none rfl) rfl (Op_append (T := RdT) (news := [⟨1, G.length, okey, (getN okey N1).1.token, atN G okey G.length⟩]) rfl rfl pkk rfl (by simp) (Reads_row pkk) Try.underlying52 sz62 zr62 (by rfl) by62 (by have := hA.rl; simp [RdT]; omega) (by have := hA.rl; simp [maxLen]; omega)) (by kernel_rfl) rfl ?_
             rintro _ _ ⟨a207, c207, rfl, rfl⟩
             refine ⟨trivial, ?_⟩
             refine SJ_q rfl (want_none rfl) rfl (fun _ _ => Op_assign rfl) ?_
             refine SJ_done ?_
             refine NJ_blk ?_
             refine NJ_blk ?_
             refine NJ_then ?_
             refine CJ_env (E' := [(2, _), (7, _), (8, _), (9, _), (10, _), (12, _)]) (.cons rfl rfl (.cons rfl rfl (.cons rfl rfl (.cons rfl rfl (.cons rfl rfl (.cons rfl rfl .nil)))))) ?_
             refine CJ_region ?_
             refine RJ_q (Op_move rfl) rfl ?_
             refine RJ_q (Op_addN (j + 1) rfl rfl (by omega) (by omega)) rfl ?_
             refine RJ_q (Op_assign rfl) rfl ?_
             refine RJ_nil ?_
             have hB : SAll (G) (w0) (w1) (s) (N0) ((getN okey N1).2) (rs ++ [⟨1, G.length, okey, (getN okey N1).1.token, atN G okey G.length⟩]) (j + 1) := (hA.set1 (hA.n1.get okey) (get4 okey N1)).read hA.rl rfl rfl (by show okey.size ≤ 1000; omega) (.inr ⟨rfl, get_token hA.n1.ok okey⟩)
             refine NJ_back ⟨j + 1, w0, w1, s, G, N0, (getN okey N1).2, rs ++ [⟨1, G.length, okey, (getN okey N1).1.token, atN G okey G.length⟩], a207, c207, la, lc, ⟨by omega, by omega, hB⟩, rfl, rfl, rfl⟩ (by omega) (.cons rfl (by first | rfl | (simp; done)) (.cons rfl (by first | rfl | (simp; done)) (.cons rfl (by first | rfl | (simp; done)) (.cons rfl (by first | rfl | (simp; done)) (.cons rfl (by first | rfl | (simp; done)) (.cons rfl (by first | rfl | (simp; done)) .nil)))))) (.k (e := (.k (e := (.k (e := (.k (e := (.k (e := (.k (e := (.k (e := (.k (e := skk))))))))))))))))
            ·skip
             refine RJ_nil ?_
             refine NJ_then ?_
             refine CJ_env (E' := [(2, _), (7, _), (8, _), (9, _), (10, _), (12, _), (13, _), (14, _), (15, _), (184, _)]) (.cons rfl rfl (.cons rfl rfl (.cons rfl rfl (.cons rfl rfl (.cons rfl rfl (.cons rfl rfl (.cons rfl rfl (.cons rfl rfl (.cons rfl rfl (.cons rfl rfl .nil)))))))))) ?_
             refine CJ_else rfl (decide_eq_false htk) ?_
             refine CJ_skip ?_
             refine NJ_blk ?_
             refine NJ_blk ?_
             refine NJ_then ?_
             refine CJ_env (E' := [(2, _), (7, _), (8, _), (9, _), (10, _), (12, _)]) (.cons rfl rfl (.cons rfl rfl (.cons rfl rfl (.cons rfl rfl (.cons rfl rfl (.cons rfl rfl .nil)))))) ?_
             refine CJ_region ?_
             refine RJ_q (Op_move rfl) rfl ?_
             refine RJ_q (Op_addN (j + 1) rfl rfl (by omega) (by omega)) rfl ?_
             refine RJ_q (Op_assign rfl) rfl ?_
             refine RJ_nil ?_
             have hB : SAll (G) (w0) (w1) (s) (N0) ((getN okey N1).2) (rs) (j + 1) := hA.set1 (hA.n1.get okey) (get4 okey N1)
             refine NJ_back ⟨j + 1, w0, w1, s, G, N0, (getN okey N1).2, rs, ra, rc, la, lc, ⟨by omega, by omega, hB⟩, rfl, rfl, rfl⟩ (by omega) (.cons rfl (by first | rfl | (simp; done)) (.cons rfl (by first | rfl | (simp; done)) (.cons rfl (by first | rfl | (simp; done)) (.cons rfl (by first | rfl | (simp; done)) (.cons rfl (by first | rfl | (simp; done)) (.cons rfl (by first | rfl | (simp; done)) .nil)))))) (.k (e := (.k (e := (.k (e := (.k (e := (.k (e := (.k (e := (.k (e := (.k (e := skk))))))))))))))))
          ·skip
           refine SJ_p (rd' := [⟨4, _, _, _⟩, ⟨2, _, _, _⟩]) [4, 2] rfl (want_none rfl) rfl (Op_alloc zr31) (by kernel_rfl) rfl ?_
           rintro _ _ ⟨b15, rfl, rfl⟩
           refine ⟨⟨(load_cell Try.underlying9 rfl pkk (Nth.s (Nth.s (Nth.s Nth.z)))), ⟨(load_cell Try.underlying24 rfl pkk (Nth.s Nth.z)), trivial⟩⟩, ?_⟩
           refine SJ_p (rd' := []) [] rfl (want_none rfl) rfl (Op_call (vs := [_, _]) Try.func8 rfl rfl (NdGet_any g1 N1 j hN1 (by omega) okey) rfl (.k (e := (Imp.refl _)))) (by kernel_rfl) rfl ?_
           rintro _ _ ⟨_, ⟨rfl, rfl⟩, rfl⟩
           refine OS_app1 ?_
           refine ⟨trivial, ?_⟩
           refine SJ_d0 (rd' := []) [] rfl (want_none rfl) (Op_store (cs' := #[_, _, _, _, _, _, _]) rfl rfl sz31 (by rfl) (by simp [Value.cells, Value.oneCell']) rpp rfl (free_zero _ _) (by rfl)) (by kernel_rfl) rfl trivial ?_
           refine SJ_done ?_
           refine NJ_then ?_
           refine CJ_env (E' := [(2, _), (7, _), (8, _), (9, _), (10, _), (12, _), (13, _), (14, _), (15, _)]) (.cons rfl rfl (.cons rfl rfl (.cons rfl rfl (.cons rfl rfl (.cons rfl rfl (.cons rfl rfl (.cons rfl rfl (.cons rfl rfl (.cons rfl rfl .nil))))))))) ?_
           refine CJ_seq ?_
           refine CJ_seq ?_
           refine CJ_draw (.q 0 (.q 1 (.q 2 (.q 3 (.q 4 (.q 5 (.q 6 (.q 7 (.q 8 (.q 9 (.q 10 (.q 11 (.q 12 (.q 13 (.e 14 (.e 15 (.q 16 (.q 17 .done)))))))))))))))))) (by kernel_rfl) (by kernel_rfl) (by kernel_rfl) ?_
           refine SJ_q rfl (want_none rfl) rfl (fun _ _ => Op_fieldAddr (o' := 0) rfl Try.underlying31 rfl sz3 rfl rfl) ?_
           refine SJ_load rfl (want_none rfl) rfl rfl (load_cell Try.underlying3 rfl pkk Nth.z) ?_
           refine SJ_q rfl (want_none rfl) rfl (fun _ _ => Op_eql rfl rfl) ?_
           by_cases hh : (getN okey N1).1.kind = 1
           ·skip
            obtain ⟨q, ha1, ha2, ha3⟩ := hA.n1.hit hh
            have hmx : (max (getN okey N1).1.val.asOf (w1 : Int)).toNat = max q w1 := by rw [ha1]; omega
            refine SJ_q rfl (want_none rfl) rfl (fun _ _ => Op_move rfl) ?_
            refine SJ_q rfl (want_yes (t := 167) rfl rfl rfl (decide_eq_true hh)) rfl (fun _ _ => Op_fieldAddr (o' := 1) rfl Try.underlying31 rfl sz29 rfl rfl) ?_
            refine SJ_load rfl (want_yes (t := 167) rfl rfl rfl (decide_eq_true hh)) rfl rfl (load_struct (o := 1) (vs := [_, _, _, _]) Try.underlying29 sz29 pkk (by rfl) rfl) ?_
            refine SJ_q rfl (want_yes (t := 167) rfl rfl rfl (decide_eq_true hh)) rfl (fun _ _ => Op_move rfl) ?_
            refine SJ_q rfl (want_yes (t := 167) rfl rfl rfl (decide_eq_true hh)) rfl (fun _ _ => Op_fieldAddr (o' := 3) rfl Try.underlying58 rfl sz9 rfl rfl) ?_
            refine SJ_load rfl (want_yes (t := 167) rfl rfl rfl (decide_eq_true hh)) rfl rfl (load_cell Try.underlying9 rfl pkk (Nth.s (Nth.s (Nth.s Nth.z)))) ?_
            refine SJ_q rfl (want_yes (t := 167) rfl rfl rfl (decide_eq_true hh)) rfl (fun _ _ => Op_fieldAddr (o' := 5) rfl Try.underlying31 rfl sz3 rfl rfl) ?_
            refine SJ_load rfl (want_yes (t := 167) rfl rfl rfl (decide_eq_true hh)) rfl rfl (load_cell Try.underlying3 rfl pkk (Nth.s (Nth.s (Nth.s (Nth.s (Nth.s Nth.z)))))) ?_
            refine SJ_q rfl (want_yes (t := 167) rfl rfl rfl (decide_eq_true hh)) rfl (fun _ _ => Op_move rfl) ?_
            refine SJ_q rfl (want_yes (t := 167) rfl rfl rfl (decide_eq_true hh)) rfl (fun _ _ => Op_indexArr (o' := 1) rfl rfl Try.underlying51 sz3 (by decide) (by decide) (by rfl)) ?_
            refine SJ_load rfl (want_yes (t := 167) rfl rfl rfl (decide_eq_true hh)) rfl rfl (load_cell Try.underlying3 rfl pkk (Nth.s Nth.z)) ?_
            refine SJ_d (rd' := [⟨8, _, _, _⟩, ⟨5, _, _, _⟩]) [8, 5] rfl (want_yes (t := 167) rfl rfl rfl (decide_eq_true hh)) rfl ((Op_max rfl rfl).opD) (by kernel_rfl) rfl ⟨(load_cell Try.underlying9 rfl pkk (Nth.s (Nth.s (Nth.s Nth.z)))), ⟨(load_struct (o := 1) (vs := [_, _, _, _]) Try.underlying29 sz29 pkk (by rfl) rfl), trivial⟩⟩ ?_
            refine SJ_p (rd' := [⟨5, _, _, _⟩]) [5] rfl (want_yes (t := 167) rfl rfl rfl (decide_eq_true hh)) rfl (Op_call (vs := [_, _, _]) Try.func18 rfl rfl (At_any b34 la lc G (by omega) okey (max (getN okey N1).1.val.asOf w1)) rfl (.k (e := (.k (e := (Imp.refl _)))))) (by kernel_rfl) rfl ?_
            rintro _ _ ⟨_, ⟨rfl, rfl⟩, rfl⟩
            refine OS_app2 ?_
            refine ⟨⟨(load_struct (o := 1) (vs := [_, _, _, _]) Try.underlying29 sz29 pkk (by rfl) rfl), trivial⟩, ?_⟩
            refine SJ_q rfl (want_yes (t := 167) rfl rfl rfl (decide_eq_true hh)) rfl (fun _ _ => Op_struct_neq rfl rfl (by kernel_rfl) (EqJ_val 9997 (getN okey N1).1.val (atN G okey (max (getN okey N1).1.val.asOf w1).toNat))) ?_
            refine SJ_q rfl (want_none rfl) rfl (fun _ _ => Op_pick_t rfl (decide_eq_true hh) rfl) ?_
            refine SJ_done ?_
            refine NJ_then ?_
            refine CJ_env (E' := [(2, _), (7, _), (8, _), (9, _), (10, _), (12, _), (13, _), (14, _), (15, _), (181, _)]) (.cons rfl rfl (.cons rfl rfl (.cons rfl rfl (.cons rfl rfl (.cons rfl rfl (.cons rfl rfl (.cons rfl rfl (.cons rfl rfl (.cons rfl rfl (.cons rfl rfl .nil)))))))))) ?_
            refine CJ_else rfl (by rw [hmx, ha3]; rfl) ?_
            refine CJ_skip ?_
            refine NJ_then ?_
            refine CJ_env (E' := [(2, _), (7, _), (8, _), (9, _), (10, _), (12, _), (13, _), (14, _), (15, _)]) (.cons rfl rfl (.cons rfl rfl (.cons rfl rfl (.cons rfl rfl (.cons rfl rfl (.cons rfl rfl (.cons rfl rfl (.cons rfl rfl (.cons rfl rfl .nil))))))))) ?_
            refine CJ_seq ?_
            refine CJ_region ?_
            refine RJ_q (Op_fieldAddr (o' := 6) rfl Try.underlying31 rfl sz2 rfl rfl) rfl ?_
            refine RJ_q (Op_load rfl (load_cell Try.underlying2 rfl pkk (Nth.s (Nth.s (Nth.s (Nth.s (Nth.s (Nth.s Nth.z)))))))) rfl ?_
            refine RJ_q (Op_gtr rfl rfl) rfl ?_
            by_cases htk : 0 < (getN okey N1).1.token
            ·skip
             refine RJ_nil ?_
             refine NJ_then ?_
             refine CJ_env (E' := [(2, _), (7, _), (8, _), (9, _), (10, _), (12, _), (13, _), (14, _), (15, _), (184, _)]) (.cons rfl rfl (.cons rfl rfl (.cons rfl rfl (.cons rfl rfl (.cons rfl rfl (.cons rfl rfl (.cons rfl rfl (.cons rfl rfl (.cons rfl rfl (.cons rfl rfl .nil)))))))))) ?_
             refine CJ_then rfl (decide_eq_true htk) ?_
             refine CJ_draw (.q 0 (.q 1 (.q 2 (.q 3 (.q 4 (.q 5 (.q 6 (.q 7 (.q 8 (.q 9 (.q 10 (.q 11 (.q 12 (.q 13 (.q 14 (.q 15 (.q 16 (.q 17 (.q 18 (.e 19 (.q 20 (.e 21 (.e 22 (.q 23 .done)))))))))))))))))))))))) (by kernel_rfl) (by kernel_rfl) (by kernel_rfl) ?_
             refine SJ_q rfl (want_none rfl) rfl (fun _ _ => Op_move rfl) ?_
             refine SJ_q rfl (want_none rfl) rfl (fun _ _ => Op_move rfl) ?_
             refine SJ_q rfl (want_none rfl) rfl (fun _ _ => Op_move rfl) ?_
             refine SJ_q rfl (want_none rfl) rfl (fun _ _ => Op_nilCheck rfl) ?_
             refine SJ_q rfl (want_none rfl) rfl (fun _ _ => Op_fieldAddr (o' := 0) rfl Try.underlying50 rfl sz48 rfl rfl) ?_
             refine SJ_load rfl (want_none rfl) rfl rfl (load_cell Try.underlying48 rfl pkk Nth.z) ?_
             refine SJ_q rfl (want_none rfl) rfl (fun _ _ => Op_len_slice rfl Try.underlying48) ?_
             refine SJ_q rfl (want_none rfl) rfl (fun _ _ => Op_fieldAddr (o' := 3) rfl Try.underlying58 rfl sz9 rfl rfl) ?_
             refine SJ_load rfl (want_none rfl) rfl rfl (load_cell Try.underlying9 rfl pkk (Nth.s (Nth.s (Nth.s Nth.z)))) ?_
             refine SJ_q rfl (want_none rfl) rfl (fun _ _ => Op_fieldAddr (o' := 6) rfl Try.underlying31 rfl sz2 rfl rfl) ?_
             refine SJ_load rfl (want_none rfl) rfl rfl (load_cell Try.underlying2 rfl pkk (Nth.s (Nth.s (Nth.s (Nth.s (Nth.s (Nth.s Nth.z))))))) ?_
             refine SJ_q rfl (want_none rfl) rfl (fun _ _ => Op_move rfl) ?_
             refine SJ_q rfl (want_none rfl) rfl (fun _ _ => Op_fieldAddr (o' := 3) rfl Try.underlying58 rfl sz9 rfl rfl) ?_
             refine SJ_load rfl (want_none rfl) rfl rfl (load_cell Try.underlying9 rfl pkk (Nth.s (Nth.s (Nth.s Nth.z)))) ?_
             refine SJ_q rfl (want_none rfl) rfl (fun _ _ => Op_move rfl) ?_
             refine SJ_q rfl (want_none rfl) rfl (fun _ _ => Op_nilCheck rfl) ?_
             refine SJ_q rfl (want_none rfl) rfl (fun _ _ => Op_fieldAddr (o' := 0) rfl Try.underlying50 rfl sz48 rfl rfl) ?_
             refine SJ_load rfl (want_none rfl) rfl rfl (load_cell Try.underlying48 rfl pkk Nth.z) ?_
             refine SJ_q rfl (want_none rfl) rfl (fun _ _ => Op_len_slice rfl Try.underlying48) ?_
             refine SJ_p (rd' := [⟨10, _, _, _⟩, ⟨8, _, _, _⟩, ⟨5, _, _, _⟩]) [10, 8, 5] rfl (want_none rfl) rfl (Op_call (vs := [_, _, _]) Try.func18 rfl rfl (At_any b34 la lc G (by omega) okey (G.length : Nat)) rfl (.k (e := (.k (e := (Imp.refl _)))))) (by kernel_rfl) rfl ?_
             rintro _ _ ⟨_, ⟨rfl, rfl⟩, rfl⟩
             refine OS_app2 ?_
             refine ⟨⟨(load_cell Try.underlying2 rfl pkk (Nth.s (Nth.s (Nth.s (Nth.s (Nth.s (Nth.s Nth.z))))))), ⟨(load_cell Try.underlying9 rfl pkk (Nth.s (Nth.s (Nth.s Nth.z)))), ⟨(load_cell Try.underlying48 rfl pkk Nth.z), trivial⟩⟩⟩, ?_⟩
             rw [Int.toNat_natCast]
             refine SJ_q rfl (want_none rfl) rfl (fun _ _ => Op_build (vs := [_, _, _, _, _]) (cells := [_, _, _, _, _, _, _, _]) Try.underlying62 zr62 rfl pl62 (by rfl)) ?_
             refine SJ_p (rd' := []) [] rfl (want_none rfl) rfl (Op_buildRow (T := RdT) (vs := [_]) [⟨1, G.length, okey, (getN okey N1).1.token, atN G okey G.length⟩] rfl Try.underlying52 sz62 zr62 rfl rfl rfl rfl rfl (by rfl)) (by kernel_rfl) rfl ?_
             rintro _ _ ⟨g206, rfl, rfl⟩
             refine ⟨trivial, ?_⟩
             refine SJ_p (rd' := []) [] rfl (want_none rfl) rfl (Op_append (T := RdT) (news := [⟨1, G.length, okey, (getN okey N1).1.token, atN G okey G.length⟩]) rfl rfl pkk rfl (by simp) (Reads_row pkk) Try.underlying52 sz62 zr62 (by rfl) by62 (by have := hA.rl; simp [RdT]; omega) (by have := hA.rl; simp [maxLen]; omega)) (by kernel_rfl) rfl ?_
             rintro _ _ ⟨a207, c207, rfl, rfl⟩
             refine ⟨trivial, ?_⟩
             refine SJ_q rfl (want_none rfl) rfl (fun _ _ => Op_assign rfl) ?_
             refine SJ_done ?_
             refine NJ_blk ?_
             refine NJ_blk ?_
             refine NJ_then ?_
             refine CJ_env (E' := [(2, _), (7, _), (8, _), (9, _), (10, _), (12, _)]) (.cons rfl rfl (.cons rfl rfl (.cons rfl rfl (.cons rfl rfl (.cons rfl rfl (.cons rfl rfl .nil)))))) ?_
             refine CJ_region ?_
             refine RJ_q (Op_move rfl) rfl ?_
             refine RJ_q (Op_addN (j + 1) rfl rfl (by omega) (by omega)) rfl ?_
             refine RJ_q (Op_assign rfl) rfl ?_
             refine RJ_nil ?_
             have hB : SAll (G) (w0) (w1) (s) (N0) ((getN okey N1).2) (rs ++ [⟨1, G.length, okey, (getN okey N1).1.token, atN G okey G.length⟩]) (j + 1) := (hA.set1 (hA.n1.get okey) (get4 okey N1)).read hA.rl rfl rfl (by show okey.size ≤ 1000; omega) (.inr ⟨rfl, get_token hA.n1.ok okey⟩)
             refine NJ_back ⟨j + 1, w0, w1, s, G, N0, (getN okey N1).2, rs ++ [⟨1, G.length, okey, (getN okey N1).1.token, atN G okey G.length⟩], a207, c207, la, lc, ⟨by omega, by omega, hB⟩, rfl, rfl, rfl⟩ (by omega) (.cons rfl (by first | rfl | (simp; done)) (.cons rfl (by first | rfl | (simp; done)) (.cons rfl (by first | rfl | (simp; done)) (.cons rfl (by first | rfl | (simp; done)) (.cons rfl (by first | rfl | (simp; done)) (.cons rfl (by first | rfl | (simp; done)) .nil)))))) (.k (e := (.k (e := (.k (e := (.k (e := (.k (e := (.k (e := (.k (e := (.k (e := skk))))))))))))))))
            ·skip
             refine RJ_nil ?_
             refine NJ_then ?_
             refine CJ_env (E' := [(2, _), (7, _), (8, _), (9, _), (10, _), (12, _), (13, _), (14, _), (15, _), (184, _)]) (.cons rfl rfl (.cons rfl rfl (.cons rfl rfl (.cons rfl rfl (.cons rfl rfl (.cons rfl rfl (.cons rfl rfl (.cons rfl rfl (.cons rfl rfl (.cons rfl rfl .nil)))))))))) ?_
             refine CJ_else rfl (decide_eq_false htk) ?_
             refine CJ_skip ?_
             refine NJ_blk ?_
             refine NJ_blk ?_
             refine NJ_then ?_
             refine CJ_env (E' := [(2, _), (7, _), (8, _), (9, _), (10, _), (12, _)]) (.cons rfl rfl (.cons rfl rfl (.cons rfl rfl (.cons rfl rfl (.cons rfl rfl (.cons rfl rfl .nil)))))) ?_
             refine CJ_region ?_
             refine RJ_q (Op_move rfl) rfl ?_
             refine RJ_q (Op_addN (j + 1) rfl rfl (by omega) (by omega)) rfl ?_
             refine RJ_q (Op_assign rfl) rfl ?_
             refine RJ_nil ?_
             have hB : SAll (G) (w0) (w1) (s) (N0) ((getN okey N1).2) (rs) (j + 1) := hA.set1 (hA.n1.get okey) (get4 okey N1)
             refine NJ_back ⟨j + 1, w0, w1, s, G, N0, (getN okey N1).2, rs, ra, rc, la, lc, ⟨by omega, by omega, hB⟩, rfl, rfl, rfl⟩ (by omega) (.cons rfl (by first | rfl | (simp; done)) (.cons rfl (by first | rfl | (simp; done)) (.cons rfl (by first | rfl | (simp; done)) (.cons rfl (by first | rfl | (simp; done)) (.cons rfl (by first | rfl | (simp; done)) (.cons rfl (by first | rfl | (simp; done)) .nil)))))) (.k (e := (.k (e := (.k (e := (.k (e := (.k (e := (.k (e := (.k (e := (.k (e := skk))))))))))))))))
           ·skip
            refine SJ_q rfl (want_none rfl) rfl (fun _ _ => Op_move rfl) ?_
            refine SJ_no (t := 167) false rfl rfl rfl (decide_eq_false hh) (by decide) rfl ?_
            refine SJ_no (t := 167) false rfl rfl rfl (decide_eq_false hh) (by decide) rfl ?_
            refine SJ_no (t := 167) false rfl rfl rfl (decide_eq_false hh) (by decide) rfl ?_
            refine SJ_no (t := 167) false rfl rfl rfl (decide_eq_false hh) (by decide) rfl ?_
            refine SJ_no (t := 167) false rfl rfl rfl (decide_eq_false hh) (by decide) rfl ?_
            refine SJ_no (t := 167) false rfl rfl rfl (decide_eq_false hh) (by decide) rfl ?_
            refine SJ_no (t := 167) false rfl rfl rfl (decide_eq_false hh) (by decide) rfl ?_
            refine SJ_no (t := 167) false rfl rfl rfl (decide_eq_false hh) (by decide) rfl ?_
            refine SJ_no (t := 167) false rfl rfl rfl (decide_eq_false hh) (by decide) rfl ?_
            refine SJ_no (t := 167) false rfl rfl rfl (decide_eq_false hh) (by decide) rfl ?_
            refine SJ_no_e (t := 167) false (rd' := []) [] rfl rfl rfl (decide_eq_false hh) (by decide) rfl (by kernel_rfl) rfl trivial ?_
            refine SJ_no_e (t := 167) false (rd' := []) [] rfl rfl rfl (decide_eq_false hh) (by decide) rfl (by kernel_rfl) rfl trivial ?_
            refine SJ_no (t := 167) false rfl rfl rfl (decide_eq_false hh) (by decide) rfl ?_
            refine SJ_q rfl (want_none rfl) rfl (fun _ _ => Op_pick_f rfl (decide_eq_false hh) rfl) ?_
            refine SJ_done ?_
            refine NJ_then ?_
            refine CJ_env (E' := [(2, _), (7, _), (8, _), (9, _), (10, _), (12, _), (13, _), (14, _), (15, _), (181, _)]) (.cons rfl rfl (.cons rfl rfl (.cons rfl rfl (.cons rfl rfl (.cons rfl rfl (.cons rfl rfl (.cons rfl rfl (.cons rfl rfl (.cons rfl rfl (.cons rfl rfl .nil)))))))))) ?_
            refine CJ_else rfl rfl ?_
            refine CJ_skip ?_
            refine NJ_then ?_
            refine CJ_env (E' := [(2, _), (7, _), (8, _), (9, _), (10, _), (12, _), (13, _), (14, _), (15, _)]) (.cons rfl rfl (.cons rfl rfl (.cons rfl rfl (.cons rfl rfl (.cons rfl rfl (.cons rfl rfl (.cons rfl rfl (.cons rfl rfl (.cons rfl rfl .nil))))))))) ?_
            refine CJ_seq ?_
            refine CJ_region ?_
            refine RJ_q (Op_fieldAddr (o' := 6) rfl Try.underlying31 rfl sz2 rfl rfl) rfl ?_
            refine RJ_q (Op_load rfl (load_cell Try.underlying2 rfl pkk (Nth.s (Nth.s (Nth.s (Nth.s (Nth.s (Nth.s Nth.z)))))))) rfl ?_
            refine RJ_q (Op_gtr rfl rfl) rfl ?_
            by_cases htk : 0 < (getN okey N1).1.token
            ·skip
             refine RJ_nil ?_
             refine NJ_then ?_
             refine CJ_env (E' := [(2, _), (7, _), (8, _), (9, _), (10, _), (12, _), (13, _), (14, _), (15, _), (184, _)]) (.cons rfl rfl (.cons rfl rfl (.cons rfl rfl (.cons rfl rfl (.cons rfl rfl (.cons rfl rfl (.cons rfl rfl (.cons rfl rfl (.cons rfl rfl (.cons rfl rfl .nil)))))))))) ?_
             refine CJ_then rfl (decide_eq_true htk) ?_
             refine CJ_draw (.q 0 (.q 1 (.q 2 (.q 3 (.q 4 (.q 5 (.q 6 (.q 7 (.q 8 (.q 9 (.q 10 (.q 11 (.q 12 (.q 13 (.q 14 (.q 15 (.q 16 (.q 17 (.q 18 (.e 19 (.q 20 (.e 21 (.e 22 (.q 23 .done)))))))))))))))))))))))) (by kernel_rfl) (by kernel_rfl) (by kernel_rfl) ?_
             refine SJ_q rfl (want_none rfl) rfl (fun _ _ => Op_move rfl) ?_
             refine SJ_q rfl (want_none rfl) rfl (fun _ _ => Op_move rfl) ?_
             refine SJ_q rfl (want_none rfl) rfl (fun _ _ => Op_move rfl) ?_
             refine SJ_q rfl (want_none rfl) rfl (fun _ _ => Op_nilCheck rfl) ?_
             refine SJ_q rfl (want_none rfl) rfl (fun _ _ => Op_fieldAddr (o' := 0) rfl Try.underlying50 rfl sz48 rfl rfl) ?_
             refine SJ_load rfl (want_none rfl) rfl rfl (load_cell Try.underlying48 rfl pkk Nth.z) ?_
             refine SJ_q rfl (want_none rfl) rfl (fun _ _ => Op_len_slice rfl Try.underlying48) ?_
             refine SJ_q rfl (want_none rfl) rfl (fun _ _ => Op_fieldAddr (o' := 3) rfl Try.underlying58 rfl sz9 rfl rfl) ?_
             refine SJ_load rfl (want_none rfl) rfl rfl (load_cell Try.underlying9 rfl pkk (Nth.s (Nth.s (Nth.s Nth.z)))) ?_
             refine SJ_q rfl (want_none rfl) rfl (fun _ _ => Op_fieldAddr (o' := 6) rfl Try.underlying31 rfl sz2 rfl rfl) ?_
             refine SJ_load rfl (want_none rfl) rfl rfl (load_cell Try.underlying2 rfl pkk (Nth.s (Nth.s (Nth.s (Nth.s (Nth.s (Nth.s Nth.z))))))) ?_
             refine SJ_q rfl (want_none rfl) rfl (fun _ _ => Op_move rfl) ?_
             refine SJ_q rfl (want_none rfl) rfl (fun _ _ => Op_fieldAddr (o' := 3) rfl Try.underlying58 rfl sz9 rfl rfl) ?_
             refine SJ_load rfl (want_none rfl) rfl rfl (load_cell Try.underlying9 rfl pkk (Nth.s (Nth.s (Nth.s Nth.z)))) ?_
             refine SJ_q rfl (want_none rfl) rfl (fun _ _ => Op_move rfl) ?_
             refine SJ_q rfl (want_none rfl) rfl (fun _ _ => Op_nilCheck rfl) ?_
             refine SJ_q rfl (want_none rfl) rfl (fun _ _ => Op_fieldAddr (o' := 0) rfl Try.underlying50 rfl sz48 rfl rfl) ?_
             refine SJ_load rfl (want_none rfl) rfl rfl (load_cell Try.underlying48 rfl pkk Nth.z) ?_
             refine SJ_q rfl (want_none rfl) rfl (fun _ _ => Op_len_slice rfl Try.underlying48) ?_
             refine SJ_p (rd' := [⟨10, _, _, _⟩, ⟨8, _, _, _⟩, ⟨5, _, _, _⟩]) [10, 8, 5] rfl (want_none rfl) rfl (Op_call (vs := [_, _, _]) Try.func18 rfl rfl (At_any b34 la lc G (by omega) okey (G.length : Nat)) rfl (.k (e := (.k (e := (Imp.refl _)))))) (by kernel_rfl) rfl ?_
             rintro _ _ ⟨_, ⟨rfl, rfl⟩, rfl⟩
             refine OS_app2 ?_
             refine ⟨⟨(load_cell Try.underlying2 rfl pkk (Nth.s (Nth.s (Nth.s (Nth.s (Nth.s (Nth.s Nth.z))))))), ⟨(load_cell Try.underlying9 rfl pkk (Nth.s (Nth.s (Nth.s Nth.z)))), ⟨(load_cell Try.underlying48 rfl pkk Nth.z), trivial⟩⟩⟩, ?_⟩
             rw [Int.toNat_natCast]
             refine SJ_q rfl (want_none rfl) rfl (fun _ _ => Op_build (vs := [_, _, _, _, _]) (cells := [_, _, _, _, _, _, _, _]) Try.underlying62 zr62 rfl pl62 (by rfl)) ?_
             refine SJ_p (rd' := []) [] rfl (want_none rfl) rfl (Op_buildRow (T := RdT) (vs := [_]) [⟨1, G.length, okey, (getN okey N1).1.token, atN G okey G.length⟩] rfl Try.underlying52 sz62 zr62 rfl rfl rfl rfl rfl (by rfl)) (by kernel_rfl) rfl ?_
             rintro _ _ ⟨g206, rfl, rfl⟩
             refine ⟨trivial, ?_⟩
             refine SJ_p (rd' := []) [] rfl (want_none rfl) rfl (Op_append (T := RdT) (news := [⟨1, G.length, okey, (getN okey N1).1.token, atN G okey G.length⟩]) rfl rfl pkk rfl (by simp) (Reads_row pkk) Try.underlying52 sz62 zr62 (by rfl) by62 (by have := hA.rl; simp [RdT]; omega) (by have := hA.rl; simp [maxLen]; omega)) (by kernel_rfl) rfl ?_
             rintro _ _ ⟨a207, c207, rfl, rfl⟩
             refine ⟨trivial, ?_⟩
             refine SJ_q rfl (want_none rfl) rfl (fun _ _ => Op_assign rfl) ?_
             refine SJ_done ?_
             refine NJ_blk ?_
             refine NJ_blk ?_
             refine NJ_then ?_
             refine CJ_env (E' := [(2, _), (7, _), (8, _), (9, _), (10, _), (12, _)]) (.cons rfl rfl (.cons rfl rfl (.cons rfl rfl (.cons rfl rfl (.cons rfl rfl (.cons rfl rfl .nil)))))) ?_
             refine CJ_region ?_
             refine RJ_q (Op_move rfl) rfl ?_
             refine RJ_q (Op_addN (j + 1) rfl rfl (by omega) (by omega)) rfl ?_
             refine RJ_q (Op_assign rfl) rfl ?_
             refine RJ_nil ?_
             have hB : SAll (G) (w0) (w1) (s) (N0) ((getN okey N1).2) (rs ++ [⟨1, G.length, okey, (getN okey N1).1.token, atN G okey G.length⟩]) (j + 1) := (hA.set1 (hA.n1.get okey) (get4 okey N1)).read hA.rl rfl rfl (by show okey.size ≤ 1000; omega) (.inr ⟨rfl, get_token hA.n1.ok okey⟩)
             refine NJ_back ⟨j + 1, w0, w1, s, G, N0, (getN okey N1).2, rs ++ [⟨1, G.length, okey, (getN okey N1).1.token, atN G okey G.length⟩], a207, c207, la, lc, ⟨by omega, by omega, hB⟩, rfl, rfl, rfl⟩ (by omega) (.cons rfl (by first | rfl | (simp; done)) (.cons rfl (by first | rfl | (simp; done)) (.cons rfl (by first | rfl | (simp; done)) (.cons rfl (by first | rfl | (simp; done)) (.cons rfl (by first | rfl | (simp; done)) (.cons rfl (by first | rfl | (simp; done)) .nil)))))) (.k (e := (.k (e := (.k (e := (.k (e := (.k (e := (.k (e := (.k (e := (.k (e := skk))))))))))))))))
            ·skip
             refine RJ_nil ?_
             refine NJ_then ?_
             refine CJ_env (E' := [(2, _), (7, _), (8, _), (9, _), (10, _), (12, _), (13, _), (14, _), (15, _), (184, _)]) (.cons rfl rfl (.cons rfl rfl (.cons rfl rfl (.cons rfl rfl (.cons rfl rfl (.cons rfl rfl (.cons rfl rfl (.cons rfl rfl (.cons rfl rfl (.cons rfl rfl .nil)))))))))) ?_
             refine CJ_else rfl (decide_eq_false htk) ?_
             refine CJ_skip ?_
             refine NJ_blk ?_
             refine NJ_blk ?_
             refine NJ_then ?_
             refine CJ_env (E' := [(2, _), (7, _), (8, _), (9, _), (10, _), (12, _)]) (.cons rfl rfl (.cons rfl rfl (.cons rfl rfl (.cons rfl rfl (.cons rfl rfl (.cons rfl rfl .nil)))))) ?_
             refine CJ_region ?_
             refine RJ_q (Op_move rfl) rfl ?_
             refine RJ_q (Op_addN (j + 1) rfl rfl (by omega) (by omega)) rfl ?_
             refine RJ_q (Op_assign rfl) rfl ?_
             refine RJ_nil ?_
             have hB : SAll (G) (w0) (w1) (s) (N0) ((getN okey N1).2) (rs) (j + 1) := hA.set1 (hA.n1.get okey) (get4 okey N1)
             refine NJ_back ⟨j + 1, w0, w1, s, G, N0, (getN okey N1).2, rs, ra, rc, la, lc, ⟨by omega, by omega, hB⟩, rfl, rfl, rfl⟩ (by omega) (.cons rfl (by first | rfl | (simp; done)) (.cons rfl (by first | rfl | (simp; done)) (.cons rfl (by first | rfl | (simp; done)) (.cons rfl (by first | rfl | (simp; done)) (.cons rfl (by first | rfl | (simp; done)) (.cons rfl (by first | rfl | (simp; done)) .nil)))))) (.k (e := (.k (e := (.k (e := (.k (e := (.k (e := (.k (e := (.k (e := (.k (e := skk))))))))))))))))
         ·skip
          refine RJ_q (Op_assign rfl) rfl ?_
          refine RJ_nil ?_
          refine NJ_then ?_
          refine CJ_env (E' := [(2, _), (7, _), (8, _), (9, _), (10, _), (12, _), (13, _), (14, _), (98, _), (156, _)]) (.cons rfl rfl (.cons rfl rfl (.cons rfl rfl (.cons rfl rfl (.cons rfl rfl (.cons rfl rfl (.cons rfl rfl (.cons rfl rfl (.cons rfl rfl (.cons rfl rfl .nil)))))))))) ?_
          refine CJ_else rfl (decide_eq_false k2) ?_
          refine CJ_seq ?_
          refine CJ_region ?_
          refine RJ_q (Op_eql rfl rfl) rfl ?_
          by_cases k3 : ok = 3
          ·skip
           refine RJ_q (Op_assign rfl) rfl ?_
           refine RJ_nil ?_
           refine NJ_then ?_
           refine CJ_env (E' := [(2, _), (7, _), (8, _), (9, _), (10, _), (12, _), (13, _), (14, _), (98, _), (208, _)]) (.cons rfl rfl (.cons rfl rfl (.cons rfl rfl (.cons rfl rfl (.cons rfl rfl (.cons rfl rfl (.cons rfl rfl (.cons rfl rfl (.cons rfl rfl (.cons rfl rfl .nil)))))))))) ?_
           refine CJ_then rfl (decide_eq_true k3) ?_
           refine CJ_seq ?_
           refine CJ_region ?_
           refine RJ_q (Op_move rfl) rfl ?_
           refine RJ_q (Op_len_slice rfl Try.underlying52) rfl ?_
           refine RJ_q (Op_gtr rfl rfl) rfl ?_
           by_cases hr : 0 < (rs.length : Int)
           ·skip
            refine RJ_nil ?_
            refine NJ_then ?_
            refine CJ_env (E' := [(2, _), (7, _), (8, _), (9, _), (10, _), (12, _), (13, _), (212, _)]) (.cons rfl rfl (.cons rfl rfl (.cons rfl rfl (.cons rfl rfl (.cons rfl rfl (.cons rfl rfl (.cons rfl rfl (.cons rfl rfl .nil)))))))) ?_
            refine CJ_then rfl (decide_eq_true hr) ?_
            refine CJ_seq ?_
            refine CJ_know (Row_know (T := RdT) pkk) ?_
            intro hkn
            obtain ⟨rg, rfl⟩ := row_some hkn.2.2 (by intro e; rw [e] at hr; simp at hr)
            refine CJ_region ?_
            refine RJ_q (Op_move rfl) rfl ?_
            refine RJ_q (Op_fieldAddr (o' := 2) rfl Try.underlying58 rfl sz3 rfl rfl) rfl ?_
            refine RJ_q (Op_load rfl (load_cell Try.underlying3 rfl pkk (Nth.s (Nth.s Nth.z)))) rfl ?_
            refine RJ_q (Op_convInt rfl (by rw [Try.underlying3]; rfl) Try.underlying63) rfl ?_
            refine RJ_q (Op_move rfl) rfl ?_
            refine RJ_q (Op_len_slice rfl Try.underlying52) rfl ?_
            refine RJ_q (Op_convInt rfl (by rw [Try.underlying3]; rfl) Try.underlying63) rfl ?_
            refine RJ_q (Op_rem rfl rfl (wrap_len (by omega) (by have := hA.rl; omega))) rfl ?_
            obtain ⟨q, hq, hqe⟩ := pick_idx oi (n := rs.length) (by omega) (by have := hA.rl; omega)
            rw [hqe]
            obtain ⟨r, hrq⟩ : ∃ r, rs[q]? = some r := ⟨rs[q], List.getElem?_eq_getElem hq⟩
            have hg := hA.rg r (List.mem_of_getElem? hrq)
            have hrt : r.val.tx.size ≤ 1000 := by rw [hg.vl]; exact atN_tx hA.ts _ _
            refine RJ_q (Op_convInt64 rfl (by rw [Try.underlying63]; rfl) Try.underlying3 (by have := hA.rl; omega)) rfl ?_
            refine RJ_q (Op_indexAddr (o' := q * RdT.sz + 0) rfl rfl Try.underlying52 sz62 (by omega) (by omega) (by simp [RdT])) rfl ?_
            refine RJ_q (Op_load rfl (load_row (o := 0) (vs := [_, _, _, _, _, _, _, _]) Try.underlying62 sz62 pkk hrq rfl (by rfl))) rfl ?_
            refine RJ_p rfl (Op_alloc zr62) ?_
            rintro _ _ ⟨b16, rfl, rfl⟩
            refine RJ_d0 (Op_store (cs' := #[_, _, _, _, _, _, _, _]) rfl rfl sz62 (by rfl) (by simp [Value.cells, Value.oneCell']) rpp rfl (free_zero _ _) (by rfl)) ?_
            refine RJ_nil ?_
            refine NJ_then ?_
            refine CJ_env (E' := [(2, _), (7, _), (8, _), (9, _), (10, _), (12, _), (16, _)]) (.cons rfl rfl (.cons rfl rfl (.cons rfl rfl (.cons rfl rfl (.cons rfl rfl (.cons rfl rfl (.cons rfl rfl .nil))))))) ?_
            by_cases hrw : r.who = 1
            ·skip
             rw [hrw]
             refine CJ_draw (.q 0 (.q 1 (.q 2 (.q 3 (.q 4 (.q 5 (.q 6 (.q 7 (.q 8 (.q 9 (.q 10 (.q 11 (.e 12 .done))))))))))))) (by kernel_rfl) (by kernel_rfl) (by kernel_rfl) ?_
             refine SJ_q rfl (want_none rfl) rfl (fun _ _ => Op_fieldAddr (o' := 0) rfl Try.underlying62 rfl sz3 rfl rfl) ?_
             refine SJ_load rfl (want_none rfl) rfl rfl (load_cell Try.underlying3 rfl pkk Nth.z) ?_
             refine SJ_q rfl (want_none rfl) rfl (fun _ _ => Op_indexArr (o' := 1) rfl rfl Try.underlying46 sz24 (by decide) (by decide) (by rfl)) ?_
             refine SJ_load rfl (want_none rfl) rfl rfl (load_cell Try.underlying24 rfl pkk (Nth.s Nth.z)) ?_
             refine SJ_q rfl (want_none rfl) rfl (fun _ _ => Op_fieldAddr (o' := 2) rfl Try.underlying62 rfl sz9 rfl rfl) ?_
             refine SJ_load rfl (want_none rfl) rfl rfl (load_cell Try.underlying9 rfl pkk (Nth.s (Nth.s Nth.z))) ?_
             refine SJ_q rfl (want_none rfl) rfl (fun _ _ => Op_fieldAddr (o' := 3) rfl Try.underlying62 rfl sz2 rfl rfl) ?_
             refine SJ_load rfl (want_none rfl) rfl rfl (load_cell Try.underlying2 rfl pkk (Nth.s (Nth.s (Nth.s Nth.z)))) ?_
             refine SJ_q rfl (want_none rfl) rfl (fun _ _ => Op_fieldAddr (o' := 4) rfl Try.underlying62 rfl sz29 rfl rfl) ?_
             refine SJ_load rfl (want_none rfl) rfl rfl (load_struct (o := 4) (vs := [_, _, _, _]) Try.underlying29 sz29 pkk (by rfl) rfl) ?_
             refine SJ_q rfl (want_none rfl) rfl (fun _ _ => Op_fieldAddr (o' := 1) rfl Try.underlying62 rfl sz3 rfl rfl) ?_
             refine SJ_load rfl (want_none rfl) rfl rfl (load_cell Try.underlying3 rfl pkk (Nth.s Nth.z)) ?_
             refine SJ_p (rd' := []) [] rfl (want_none rfl) rfl (Op_call (vs := [_, _, _, _, _]) Try.func9 rfl rfl (NdFill_any g1 N1 j hN1 (by omega) r.key r.token (valAt r.val r.asOf) (by have := hg.ks; omega) (by show r.val.tx.size ≤ 10000; omega)) rfl (.k (e := (Imp.refl _)))) (by kernel_rfl) rfl ?_
             rintro _ _ ⟨_, ⟨rfl, rfl⟩, rfl⟩
             refine OS_app1 ?_
             refine ⟨trivial, ?_⟩
             refine SJ_done ?_
             refine NJ_blk ?_
             refine NJ_blk ?_
             refine NJ_then ?_
             refine CJ_env (E' := [(2, _), (7, _), (8, _), (9, _), (10, _), (12, _)]) (.cons rfl rfl (.cons rfl rfl (.cons rfl rfl (.cons rfl rfl (.cons rfl rfl (.cons rfl rfl .nil)))))) ?_
             refine CJ_region ?_
             refine RJ_q (Op_move rfl) rfl ?_
             refine RJ_q (Op_addN (j + 1) rfl rfl (by omega) (by omega)) rfl ?_
             refine RJ_q (Op_assign rfl) rfl ?_
             refine RJ_nil ?_
             have hB : SAll (G) (w0) (w1) (s) (N0) ((fillN r.key r.token (valAt r.val r.asOf) N1).2) (rs) (j + 1) := hA.set1 (hA.n1.fill (List.mem_of_getElem? hrq) hrw hg) (fill4 _ _ _ N1)
             refine NJ_back ⟨j + 1, w0, w1, s, G, N0, (fillN r.key r.token (valAt r.val r.asOf) N1).2, rs, (some rg), rc, la, lc, ⟨by omega, by omega, hB⟩, rfl, rfl, rfl⟩ (by omega) (.cons rfl (by first | rfl | (simp; done)) (.cons rfl (by first | rfl | (simp; done)) (.cons rfl (by first | rfl | (simp; done)) (.cons rfl (by first | rfl | (simp; done)) (.cons rfl (by first | rfl | (simp; done)) (.cons rfl (by first | rfl | (simp; done)) .nil)))))) (.k (e := (.k (e := (.k (e := (.k (e := (.k (e := (.k (e := (.k (e := (.k (e := skk))))))))))))))))
            ·skip
             have hrw0 : r.who = 0 := by rcases hg.wh with x | x; exact x; exact absurd x hrw
             rw [hrw0]
             refine CJ_draw (.q 0 (.q 1 (.q 2 (.q 3 (.q 4 (.q 5 (.q 6 (.q 7 (.q 8 (.q 9 (.q 10 (.q 11 (.e 12 .done))))))))))))) (by kernel_rfl) (by kernel_rfl) (by kernel_rfl) ?_
             refine SJ_q rfl (want_none rfl) rfl (fun _ _ => Op_fieldAddr (o' := 0) rfl Try.underlying62 rfl sz3 rfl rfl) ?_
             refine SJ_load rfl (want_none rfl) rfl rfl (load_cell Try.underlying3 rfl pkk Nth.z) ?_
             refine SJ_q rfl (want_none rfl) rfl (fun _ _ => Op_indexArr (o' := 0) rfl rfl Try.underlying46 sz24 (by decide) (by decide) (by rfl)) ?_
             refine SJ_load rfl (want_none rfl) rfl rfl (load_cell Try.underlying24 rfl pkk Nth.z) ?_
             refine SJ_q rfl (want_none rfl) rfl (fun _ _ => Op_fieldAddr (o' := 2) rfl Try.underlying62 rfl sz9 rfl rfl) ?_
             refine SJ_load rfl (want_none rfl) rfl rfl (load_cell Try.underlying9 rfl pkk (Nth.s (Nth.s Nth.z))) ?_
             refine SJ_q rfl (want_none rfl) rfl (fun _ _ => Op_fieldAddr (o' := 3) rfl Try.underlying62 rfl sz2 rfl rfl) ?_
             refine SJ_load rfl (want_none rfl) rfl rfl (load_cell Try.underlying2 rfl pkk (Nth.s (Nth.s (Nth.s Nth.z)))) ?_
             refine SJ_q rfl (want_none rfl) rfl (fun _ _ => Op_fieldAddr (o' := 4) rfl Try.underlying62 rfl sz29 rfl rfl) ?_
             refine SJ_load rfl (want_none rfl) rfl rfl (load_struct (o := 4) (vs := [_, _, _, _]) Try.underlying29 sz29 pkk (by rfl) rfl) ?_
             refine SJ_q rfl (want_none rfl) rfl (fun _ _ => Op_fieldAddr (o' := 1) rfl Try.underlying62 rfl sz3 rfl rfl) ?_
             refine SJ_load rfl (want_none rfl) rfl rfl (load_cell Try.underlying3 rfl pkk (Nth.s Nth.z)) ?_
             refine SJ_p (rd' := []) [] rfl (want_none rfl) rfl (Op_call (vs := [_, _, _, _, _]) Try.func9 rfl rfl (NdFill_any g0 N0 j hN0 (by omega) r.key r.token (valAt r.val r.asOf) (by have := hg.ks; omega) (by show r.val.tx.size ≤ 10000; omega)) rfl (.k (e := (Imp.refl _)))) (by kernel_rfl) rfl ?_
             rintro _ _ ⟨_, ⟨rfl, rfl⟩, rfl⟩
             refine OS_app1 ?_
             refine ⟨trivial, ?_⟩
             refine SJ_done ?_
             refine NJ_blk ?_
             refine NJ_blk ?_
             refine NJ_then ?_
             refine CJ_env (E' := [(2, _), (7, _), (8, _), (9, _), (10, _), (12, _)]) (.cons rfl rfl (.cons rfl rfl (.cons rfl rfl (.cons rfl rfl (.cons rfl rfl (.cons rfl rfl .nil)))))) ?_
             refine CJ_region ?_
             refine RJ_q (Op_move rfl) rfl ?_
             refine RJ_q (Op_addN (j + 1) rfl rfl (by omega) (by omega)) rfl ?_
             refine RJ_q (Op_assign rfl) rfl ?_
             refine RJ_nil ?_
             have hB : SAll (G) (w0) (w1) (s) ((fillN r.key r.token (valAt r.val r.asOf) N0).2) (N1) (rs) (j + 1) := hA.set0 (hA.n0.fill (List.mem_of_getElem? hrq) hrw0 hg)
             refine NJ_back ⟨j + 1, w0, w1, s, G, (fillN r.key r.token (valAt r.val r.asOf) N0).2, N1, rs, (some rg), rc, la, lc, ⟨by omega, by omega, hB⟩, rfl, rfl, rfl⟩ (by omega) (.cons rfl (by first | rfl | (simp; done)) (.cons rfl (by first | rfl | (simp; done)) (.cons rfl (by first | rfl | (simp; done)) (.cons rfl (by first | rfl | (simp; done)) (.cons rfl (by first | rfl | (simp; done)) (.cons rfl (by first | rfl | (simp; done)) .nil)))))) (.k (e := (.k (e := (.k (e := (.k (e := (.k (e := (.k (e := (.k (e := (.k (e := skk))))))))))))))))
           ·skip
            refine RJ_nil ?_
            refine NJ_then ?_
            refine CJ_env (E' := [(2, _), (7, _), (8, _), (9, _), (10, _), (12, _), (13, _), (212, _)]) (.cons rfl rfl (.cons rfl rfl (.cons rfl rfl (.cons rfl rfl (.cons rfl rfl (.cons rfl rfl (.cons rfl rfl (.cons rfl rfl .nil)))))))) ?_
            refine CJ_else rfl (decide_eq_false hr) ?_
            refine CJ_skip ?_
            refine NJ_blk ?_
            refine NJ_blk ?_
            refine NJ_then ?_
            refine CJ_env (E' := [(2, _), (7, _), (8, _), (9, _), (10, _), (12, _)]) (.cons rfl rfl (.cons rfl rfl (.cons rfl rfl (.cons rfl rfl (.cons rfl rfl (.cons rfl rfl .nil)))))) ?_
            refine CJ_region ?_
            refine RJ_q (Op_move rfl) rfl ?_
            refine RJ_q (Op_addN (j + 1) rfl rfl (by omega) (by omega)) rfl ?_
            refine RJ_q (Op_assign rfl) rfl ?_
            refine RJ_nil ?_
            have hB : SAll (G) (w0) (w1) (s) (N0) (N1) (rs) (j + 1) := hA.more
            refine NJ_back ⟨j + 1, w0, w1, s, G, N0, N1, rs, ra, rc, la, lc, ⟨by omega, by omega, hB⟩, rfl, rfl, rfl⟩ (by omega) (.cons rfl (by first | rfl | (simp; done)) (.cons rfl (by first | rfl | (simp; done)) (.cons rfl (by first | rfl | (simp; done)) (.cons rfl (by first | rfl | (simp; done)) (.cons rfl (by first | rfl | (simp; done)) (.cons rfl (by first | rfl | (simp; done)) .nil)))))) (.k (e := (.k (e := (.k (e := (.k (e := (.k (e := (.k (e := (.k (e := (.k (e := skk))))))))))))))))
          ·skip
           refine RJ_q (Op_assign rfl) rfl ?_
           refine RJ_nil ?_
           refine NJ_then ?_
           refine CJ_env (E' := [(2, _), (7, _), (8, _), (9, _), (10, _), (12, _), (13, _), (14, _), (98, _), (208, _)]) (.cons rfl rfl (.cons rfl rfl (.cons rfl rfl (.cons rfl rfl (.cons rfl rfl (.cons rfl rfl (.cons rfl rfl (.cons rfl rfl (.cons rfl rfl (.cons rfl rfl .nil)))))))))) ?_
           refine CJ_else rfl (decide_eq_false k3) ?_
           refine CJ_seq ?_
           refine CJ_region ?_
           refine RJ_q (Op_eql rfl rfl) rfl ?_
           by_cases k4 : ok = 4
           ·skip
            refine RJ_q (Op_assign rfl) rfl ?_
            refine RJ_nil ?_
            refine NJ_then ?_
            refine CJ_env (E' := [(2, _), (7, _), (8, _), (9, _), (10, _), (12, _), (13, _), (14, _), (98, _), (237, _)]) (.cons rfl rfl (.cons rfl rfl (.cons rfl rfl (.cons rfl rfl (.cons rfl rfl (.cons rfl rfl (.cons rfl rfl (.cons rfl rfl (.cons rfl rfl (.cons rfl rfl .nil)))))))))) ?_
            refine CJ_then rfl (decide_eq_true k4) ?_
            refine CJ_seq ?_
            refine CJ_region ?_
            refine RJ_q (Op_indexArr (o' := 0) rfl rfl Try.underlying46 sz24 (by decide) (by decide) (by rfl)) rfl ?_
            refine RJ_q (Op_load rfl (load_cell Try.underlying24 rfl pkk Nth.z)) rfl ?_
            refine RJ_q (Op_fieldAddr (o' := 3) rfl Try.underlying58 rfl sz9 rfl rfl) rfl ?_
            refine RJ_q (Op_load rfl (load_cell Try.underlying9 rfl pkk (Nth.s (Nth.s (Nth.s Nth.z))))) rfl ?_
            refine RJ_p rfl (Op_call (vs := [_, _]) Try.func12 rfl rfl (NdPeek_any g0 N0 okey) rfl (.k (e := (Imp.refl _)))) ?_
            rintro _ _ ⟨_, ⟨rfl, rfl⟩, rfl⟩
            refine RJ_app1 ?_
            refine RJ_q (Op_move rfl) rfl ?_
            refine RJ_q (Op_extract rfl rfl) rfl ?_
            refine RJ_q (Op_extract rfl rfl) rfl ?_
            refine RJ_q (Op_extract rfl rfl) rfl ?_
            by_cases hp : (peekN okey N0).2 = true
            ·skip
             obtain ⟨q, hq1, hq2, hq3⟩ := hA.n0.peek hp
             have hw0l := hA.n0.wl
             have hpt : (peekN okey N0).1.tx.size ≤ 1000 := by rw [hq3]; exact atN_tx hA.ts _ _
             have hwarm := hA.n1.warm hA.cd (key := okey) (a := max q w0) (v := valAt (peekN okey N0).1 (max (peekN okey N0).1.asOf w0)) (by omega) (by omega) (by rw [hq1, hq3, show max (q : Int) (w0 : Int) = ((max q w0 : Nat) : Int) by omega]; rfl)
             refine RJ_p rfl (Op_alloc zr29) ?_
             rintro _ _ ⟨b17, rfl, rfl⟩
             refine RJ_d0 (Op_store (cs' := #[_, _, _, _]) rfl rfl sz29 (by rfl) (by simp [Value.cells, Value.oneCell']) rpp rfl (free_zero _ _) (by rfl)) ?_
             refine RJ_q (Op_assign rfl) rfl ?_
             refine RJ_q (Op_assign rfl) rfl ?_
             refine RJ_nil ?_
             refine NJ_then ?_
             refine CJ_env (E' := [(2, _), (7, _), (8, _), (9, _), (10, _), (12, _), (13, _), (17, _), (18, _), (19, _)]) (.cons rfl rfl (.cons rfl rfl (.cons rfl rfl (.cons rfl rfl (.cons rfl rfl (.cons rfl rfl (.cons rfl rfl (.cons rfl rfl (.cons rfl rfl (.cons rfl rfl .nil)))))))))) ?_
             refine CJ_seq ?_
             refine CJ_region ?_
             refine RJ_q (Op_move rfl) rfl ?_
             refine RJ_nil ?_
             refine NJ_then ?_
             refine CJ_env (E' := [(2, _), (7, _), (8, _), (9, _), (10, _), (12, _), (13, _), (17, _), (18, _), (248, _)]) (.cons rfl rfl (.cons rfl rfl (.cons rfl rfl (.cons rfl rfl (.cons rfl rfl (.cons rfl rfl (.cons rfl rfl (.cons rfl rfl (.cons rfl rfl (.cons rfl rfl .nil)))))))))) ?_
             refine CJ_then rfl hp ?_
             refine CJ_region ?_
             refine RJ_q (Op_indexArr (o' := 1) rfl rfl Try.underlying46 sz24 (by decide) (by decide) (by rfl)) rfl ?_
             refine RJ_q (Op_load rfl (load_cell Try.underlying24 rfl pkk (Nth.s Nth.z))) rfl ?_
             refine RJ_q (Op_fieldAddr (o' := 3) rfl Try.underlying58 rfl sz9 rfl rfl) rfl ?_
             refine RJ_q (Op_load rfl (load_cell Try.underlying9 rfl pkk (Nth.s (Nth.s (Nth.s Nth.z))))) rfl ?_
             refine RJ_q (Op_load rfl (load_struct (o := 0) (vs := [_, _, _, _]) Try.underlying29 sz29 pkk (by rfl) rfl)) rfl ?_
             refine RJ_q (Op_move rfl) rfl ?_
             refine RJ_q (Op_indexArr (o' := 0) rfl rfl Try.underlying51 sz3 (by decide) (by decide) (by rfl)) rfl ?_
             refine RJ_q (Op_load rfl (load_cell Try.underlying3 rfl pkk Nth.z)) rfl ?_
             refine RJ_q (Op_max rfl rfl) rfl ?_
             refine RJ_p rfl (Op_call (vs := [_, _, _, _]) Try.func19 rfl rfl (NdWarm_any g1 N1 j hN1 (by omega) okey (valAt (peekN okey N0).1 (max (peekN okey N0).1.asOf w0)) (by omega) (by show (peekN okey N0).1.tx.size ≤ 10000; omega)) rfl (.k (e := (Imp.refl _)))) ?_
             rintro _ _ ⟨_, ⟨rfl, rfl⟩, rfl⟩
             refine RJ_app1 ?_
             refine RJ_nil ?_
             refine NJ_blk ?_
             refine NJ_blk ?_
             refine NJ_then ?_
             refine CJ_env (E' := [(2, _), (7, _), (8, _), (9, _), (10, _), (12, _)]) (.cons rfl rfl (.cons rfl rfl (.cons rfl rfl (.cons rfl rfl (.cons rfl rfl (.cons rfl rfl .nil)))))) ?_
             refine CJ_region ?_
             refine RJ_q (Op_move rfl) rfl ?_
             refine RJ_q (Op_addN (j + 1) rfl rfl (by omega) (by omega)) rfl ?_
             refine RJ_q (Op_assign rfl) rfl ?_
             refine RJ_nil ?_
             have hB : SAll (G) (w0) (w1) (s) (N0) ((warmN okey (valAt (peekN okey N0).1 (max (peekN okey N0).1.asOf w0)) N1).2) (rs) (j + 1) := hA.set1 hwarm (warm4 _ _ N1)
             refine NJ_back ⟨j + 1, w0, w1, s, G, N0, (warmN okey (valAt (peekN okey N0).1 (max (peekN okey N0).1.asOf w0)) N1).2, rs, ra, rc, la, lc, ⟨by omega, by omega, hB⟩, rfl, rfl, rfl⟩ (by omega) (.cons rfl (by first | rfl | (simp; done)) (.cons rfl (by first | rfl | (simp; done)) (.cons rfl (by first | rfl | (simp; done)) (.cons rfl (by first | rfl | (simp; done)) (.cons rfl (by first | rfl | (simp; done)) (.cons rfl (by first | rfl | (simp; done)) .nil)))))) (.k (e := (.k (e := (.k (e := (.k (e := (.k (e := (.k (e := (.k (e := (.k (e := skk))))))))))))))))
            ·skip
             refine RJ_p rfl (Op_alloc zr29) ?_
             rintro _ _ ⟨b17, rfl, rfl⟩
             refine RJ_d0 (Op_store (cs' := #[_, _, _, _]) rfl rfl sz29 (by rfl) (by simp [Value.cells, Value.oneCell']) rpp rfl (free_zero _ _) (by rfl)) ?_
             refine RJ_q (Op_assign rfl) rfl ?_
             refine RJ_q (Op_assign rfl) rfl ?_
             refine RJ_nil ?_
             refine NJ_then ?_
             refine CJ_env (E' := [(2, _), (7, _), (8, _), (9, _), (10, _), (12, _), (13, _), (17, _), (18, _), (19, _)]) (.cons rfl rfl (.cons rfl rfl (.cons rfl rfl (.cons rfl rfl (.cons rfl rfl (.cons rfl rfl (.cons rfl rfl (.cons rfl rfl (.cons rfl rfl (.cons rfl rfl .nil)))))))))) ?_
             refine CJ_seq ?_
             refine CJ_region ?_
             refine RJ_q (Op_move rfl) rfl ?_
             refine RJ_nil ?_
             refine NJ_then ?_
             refine CJ_env (E' := [(2, _), (7, _), (8, _), (9, _), (10, _), (12, _), (13, _), (17, _), (18, _), (248, _)]) (.cons rfl rfl (.cons rfl rfl (.cons rfl rfl (.cons rfl rfl (.cons rfl rfl (.cons rfl rfl (.cons rfl rfl (.cons rfl rfl (.cons rfl rfl (.cons rfl rfl .nil)))))))))) ?_
             refine CJ_else rfl (by simpa using hp) ?_
             refine CJ_skip ?_
             refine NJ_blk ?_
             refine NJ_blk ?_
             refine NJ_then ?_
             refine CJ_env (E' := [(2, _), (7, _), (8, _), (9, _), (10, _), (12, _)]) (.cons rfl rfl (.cons rfl rfl (.cons rfl rfl (.cons rfl rfl (.cons rfl rfl (.cons rfl rfl .nil)))))) ?_
             refine CJ_region ?_
             refine RJ_q (Op_move rfl) rfl ?_
             refine RJ_q (Op_addN (j + 1) rfl rfl (by omega) (by omega)) rfl ?_
             refine RJ_q (Op_assign rfl) rfl ?_
             refine RJ_nil ?_
             have hB : SAll (G) (w0) (w1) (s) (N0) (N1) (rs) (j + 1) := hA.more
             refine NJ_back ⟨j + 1, w0, w1, s, G, N0, N1, rs, ra, rc, la, lc, ⟨by omega, by omega, hB⟩, rfl, rfl, rfl⟩ (by omega) (.cons rfl (by first | rfl | (simp; done)) (.cons rfl (by first | rfl | (simp; done)) (.cons rfl (by first | rfl | (simp; done)) (.cons rfl (by first | rfl | (simp; done)) (.cons rfl (by first | rfl | (simp; done)) (.cons rfl (by first | rfl | (simp; done)) .nil)))))) (.k (e := (.k (e := (.k (e := (.k (e := (.k (e := (.k (e := (.k (e := (.k (e := skk))))))))))))))))
           ·skip
            refine RJ_q (Op_assign rfl) rfl ?_
            refine RJ_nil ?_
            refine NJ_then ?_
            refine CJ_env (E' := [(2, _), (7, _), (8, _), (9, _), (10, _), (12, _), (13, _), (14, _), (98, _), (237, _)]) (.cons rfl rfl (.cons rfl rfl (.cons rfl rfl (.cons rfl rfl (.cons rfl rfl (.cons rfl rfl (.cons rfl rfl (.cons rfl rfl (.cons rfl rfl (.cons rfl rfl .nil)))))))))) ?_
            refine CJ_else rfl (decide_eq_false k4) ?_
            refine CJ_seq ?_
            refine CJ_region ?_
            refine RJ_q (Op_eql rfl rfl) rfl ?_
            by_cases k5 : ok = 5
            ·skip
             refine RJ_q (Op_assign rfl) rfl ?_
             refine RJ_nil ?_
             refine NJ_then ?_
             refine CJ_env (E' := [(2, _), (7, _), (8, _), (9, _), (10, _), (12, _), (13, _), (14, _), (98, _), (259, _)]) (.cons rfl rfl (.cons rfl rfl (.cons rfl rfl (.cons rfl rfl (.cons rfl rfl (.cons rfl rfl (.cons rfl rfl (.cons rfl rfl (.cons rfl rfl (.cons rfl rfl .nil)))))))))) ?_
             refine CJ_then rfl (decide_eq_true k5) ?_
             refine CJ_region ?_
             refine RJ_q (Op_indexArr (o' := 1) rfl rfl Try.underlying46 sz24 (by decide) (by decide) (by rfl)) rfl ?_
             refine RJ_q (Op_load rfl (load_cell Try.underlying24 rfl pkk (Nth.s Nth.z))) rfl ?_
             refine RJ_q (Op_indexArr (o' := 0) rfl rfl Try.underlying51 sz3 (by decide) (by decide) (by rfl)) rfl ?_
             refine RJ_q (Op_load rfl (load_cell Try.underlying3 rfl pkk Nth.z)) rfl ?_
             refine RJ_p rfl (Op_call (vs := [_, _]) Try.func20 rfl rfl (NdPass_any g1 N1 j hN1 (by omega) w0) rfl (.k (e := (Imp.refl _)))) ?_
             rintro _ _ ⟨_, ⟨rfl, rfl⟩, rfl⟩
             refine RJ_app1 ?_
             refine RJ_nil ?_
             refine NJ_blk ?_
             refine NJ_blk ?_
             refine NJ_then ?_
             refine CJ_env (E' := [(2, _), (7, _), (8, _), (9, _), (10, _), (12, _)]) (.cons rfl rfl (.cons rfl rfl (.cons rfl rfl (.cons rfl rfl (.cons rfl rfl (.cons rfl rfl .nil)))))) ?_
             refine CJ_region ?_
             refine RJ_q (Op_move rfl) rfl ?_
             refine RJ_q (Op_addN (j + 1) rfl rfl (by omega) (by omega)) rfl ?_
             refine RJ_q (Op_assign rfl) rfl ?_
             refine RJ_nil ?_
             have hB : SAll (G) (w0) (w1) (s) (N0) (passN w0 N1) (rs) (j + 1) := hA.pass1
             refine NJ_back ⟨j + 1, w0, w1, s, G, N0, passN w0 N1, rs, ra, rc, la, lc, ⟨by omega, by omega, hB⟩, rfl, rfl, rfl⟩ (by omega) (.cons rfl (by first | rfl | (simp; done)) (.cons rfl (by first | rfl | (simp; done)) (.cons rfl (by first | rfl | (simp; done)) (.cons rfl (by first | rfl | (simp; done)) (.cons rfl (by first | rfl | (simp; done)) (.cons rfl (by first | rfl | (simp; done)) .nil)))))) (.k (e := (.k (e := (.k (e := (.k (e := (.k (e := (.k (e := (.k (e := (.k (e := skk))))))))))))))))
            ·skip
             refine RJ_q (Op_assign rfl) rfl ?_
             refine RJ_nil ?_
             refine NJ_then ?_
             refine CJ_env (E' := [(2, _), (7, _), (8, _), (9, _), (10, _), (12, _), (13, _), (14, _), (98, _), (259, _)]) (.cons rfl rfl (.cons rfl rfl (.cons rfl rfl (.cons rfl rfl (.cons rfl rfl (.cons rfl rfl (.cons rfl rfl (.cons rfl rfl (.cons rfl rfl (.cons rfl rfl .nil)))))))))) ?_
             refine CJ_else rfl (decide_eq_false k5) ?_
             refine CJ_seq ?_
             refine CJ_region ?_
             refine RJ_q (Op_eql rfl rfl) rfl ?_
             by_cases k6 : ok = 6
             ·skip
              refine RJ_q (Op_assign rfl) rfl ?_
              refine RJ_nil ?_
              refine NJ_then ?_
              refine CJ_env (E' := [(2, _), (7, _), (8, _), (9, _), (10, _), (12, _), (13, _), (14, _), (98, _), (266, _)]) (.cons rfl rfl (.cons rfl rfl (.cons rfl rfl (.cons rfl rfl (.cons rfl rfl (.cons rfl rfl (.cons rfl rfl (.cons rfl rfl (.cons rfl rfl (.cons rfl rfl .nil)))))))))) ?_
              refine CJ_then rfl (decide_eq_true k6) ?_
              refine CJ_region ?_
              refine RJ_q (Op_move rfl) rfl ?_
              refine RJ_q (Op_indexArr (o' := 1) rfl rfl Try.underlying46 sz24 (by decide) (by decide) (by rfl)) rfl ?_
              refine RJ_q (Op_load rfl (load_cell Try.underlying24 rfl pkk (Nth.s Nth.z))) rfl ?_
              refine RJ_p rfl (Op_call (vs := [_]) Try.func21 rfl rfl (NdTick_any g1 N1 j hN1 (by omega)) rfl (.k (e := (Imp.refl _)))) ?_
              rintro _ _ ⟨_, ⟨rfl, rfl⟩, rfl⟩
              refine RJ_app1 ?_
              refine RJ_nil ?_
              refine NJ_blk ?_
              refine NJ_blk ?_
              refine NJ_then ?_
              refine CJ_env (E' := [(2, _), (7, _), (8, _), (9, _), (10, _), (12, _)]) (.cons rfl rfl (.cons rfl rfl (.cons rfl rfl (.cons rfl rfl (.cons rfl rfl (.cons rfl rfl .nil)))))) ?_
              refine CJ_region ?_
              refine RJ_q (Op_move rfl) rfl ?_
              refine RJ_q (Op_addN (j + 1) rfl rfl (by omega) (by omega)) rfl ?_
              refine RJ_q (Op_assign rfl) rfl ?_
              refine RJ_nil ?_
              have hB : SAll (G) (w0) (w1) (s) (N0) (tickN N1) (rs) (j + 1) := hA.set1 ((hA.n1.tick).more (Nat.le_succ _)) (⟨rfl, rfl, rfl, rfl⟩)
              refine NJ_back ⟨j + 1, w0, w1, s, G, N0, tickN N1, rs, ra, rc, la, lc, ⟨by omega, by omega, hB⟩, rfl, rfl, rfl⟩ (by omega) (.cons rfl (by first | rfl | (simp; done)) (.cons rfl (by first | rfl | (simp; done)) (.cons rfl (by first | rfl | (simp; done)) (.cons rfl (by first | rfl | (simp; done)) (.cons rfl (by first | rfl | (simp; done)) (.cons rfl (by first | rfl | (simp; done)) .nil)))))) (.k (e := (.k (e := (.k (e := (.k (e := (.k (e := (.k (e := (.k (e := (.k (e := skk))))))))))))))))
             ·skip
              refine RJ_q (Op_assign rfl) rfl ?_
              refine RJ_nil ?_
              refine NJ_then ?_
              refine CJ_env (E' := [(2, _), (7, _), (8, _), (9, _), (10, _), (12, _), (13, _), (14, _), (98, _), (266, _)]) (.cons rfl rfl (.cons rfl rfl (.cons rfl rfl (.cons rfl rfl (.cons rfl rfl (.cons rfl rfl (.cons rfl rfl (.cons rfl rfl (.cons rfl rfl (.cons rfl rfl .nil)))))))))) ?_
              refine CJ_else rfl (decide_eq_false k6) ?_
              refine CJ_seq ?_
              refine CJ_region ?_
              refine RJ_q (Op_eql rfl rfl) rfl ?_
              by_cases k7 : ok = 7
              ·skip
               refine RJ_q (Op_assign rfl) rfl ?_
               refine RJ_nil ?_
               refine NJ_then ?_
               refine CJ_env (E' := [(2, _), (7, _), (8, _), (9, _), (10, _), (12, _), (13, _), (14, _), (98, _), (272, _)]) (.cons rfl rfl (.cons rfl rfl (.cons rfl rfl (.cons rfl rfl (.cons rfl rfl (.cons rfl rfl (.cons rfl rfl (.cons rfl rfl (.cons rfl rfl (.cons rfl rfl .nil)))))))))) ?_
               refine CJ_then rfl (decide_eq_true k7) ?_
               refine CJ_seq ?_
               refine CJ_region ?_
               refine RJ_q (Op_move rfl) rfl ?_
               refine RJ_q (Op_indexArr (o' := 1) rfl rfl Try.underlying46 sz24 (by decide) (by decide) (by rfl)) rfl ?_
               refine RJ_q (Op_load rfl (load_cell Try.underlying24 rfl pkk (Nth.s Nth.z))) rfl ?_
               refine RJ_p rfl (Op_call (vs := [_]) Try.func13 rfl rfl (NdFlush_any g1 N1 j hN1 (by omega)) rfl (.k (e := (Imp.refl _)))) ?_
               rintro _ _ ⟨_, ⟨rfl, rfl⟩, rfl⟩
               refine RJ_app1 ?_
               refine RJ_nil ?_
               refine NJ_then ?_
               refine CJ_env (E' := [(2, _), (7, _), (8, _), (9, _), (10, _), (12, _), (14, _)]) (.cons rfl rfl (.cons rfl rfl (.cons rfl rfl (.cons rfl rfl (.cons rfl rfl (.cons rfl rfl (.cons rfl rfl .nil))))))) ?_
               refine CJ_seq ?_
               refine CJ_region ?_
               refine RJ_q (Op_move rfl) rfl ?_
               refine RJ_q (Op_eql rfl rfl) rfl ?_
               refine RJ_nil ?_
               refine NJ_then ?_
               refine CJ_env (E' := [(2, _), (7, _), (8, _), (9, _), (10, _), (12, _), (279, _)]) (.cons rfl rfl (.cons rfl rfl (.cons rfl rfl (.cons rfl rfl (.cons rfl rfl (.cons rfl rfl (.cons rfl rfl .nil))))))) ?_
               refine CJ_then rfl (by rfl) ?_
               refine CJ_region ?_
               refine RJ_q (Op_indexArr (o' := 1) rfl rfl Try.underlying46 sz24 (by decide) (by decide) (by rfl)) rfl ?_
               refine RJ_q (Op_load rfl (load_cell Try.underlying24 rfl pkk (Nth.s Nth.z))) rfl ?_
               refine RJ_q (Op_indexArr (o' := 1) rfl rfl Try.underlying51 sz3 (by decide) (by decide) (by rfl)) rfl ?_
               refine RJ_q (Op_load rfl (load_cell Try.underlying3 rfl pkk (Nth.s Nth.z))) rfl ?_
               refine RJ_p rfl (Op_call (vs := [_, _]) Try.func16 rfl rfl (NdCold_any g1 (flushN N1) w1) rfl (.k (e := (Imp.refl _)))) ?_
               rintro _ _ ⟨_, ⟨rfl, rfl⟩, rfl⟩
               refine RJ_app1 ?_
               refine RJ_nil ?_
               refine NJ_blk ?_
               refine NJ_blk ?_
               refine NJ_then ?_
               refine CJ_env (E' := [(2, _), (7, _), (8, _), (9, _), (10, _), (12, _)]) (.cons rfl rfl (.cons rfl rfl (.cons rfl rfl (.cons rfl rfl (.cons rfl rfl (.cons rfl rfl .nil)))))) ?_
               refine CJ_region ?_
               refine RJ_q (Op_move rfl) rfl ?_
               refine RJ_q (Op_addN (j + 1) rfl rfl (by omega) (by omega)) rfl ?_
               refine RJ_q (Op_assign rfl) rfl ?_
               refine RJ_nil ?_
               have hB : SAll (G) (w0) (w1) (w1) (N0) (coldN w1 (flushN N1)) (rs) (j + 1) := hA.flush1
               refine NJ_back ⟨j + 1, w0, w1, w1, G, N0, coldN w1 (flushN N1), rs, ra, rc, la, lc, ⟨by omega, by omega, hB⟩, rfl, rfl, rfl⟩ (by omega) (.cons rfl (by first | rfl | (simp; done)) (.cons rfl (by first | rfl | (simp; done)) (.cons rfl (by first | rfl | (simp; done)) (.cons rfl (by first | rfl | (simp; done)) (.cons rfl (by first | rfl | (simp; done)) (.cons rfl (by first | rfl | (simp; done)) .nil)))))) (.k (e := (.k (e := (.k (e := (.k (e := (.k (e := (.k (e := (.k (e := (.k (e := skk))))))))))))))))
              ·skip
               refine RJ_q (Op_assign rfl) rfl ?_
               refine RJ_nil ?_
               refine NJ_then ?_
               refine CJ_env (E' := [(2, _), (7, _), (8, _), (9, _), (10, _), (12, _), (13, _), (14, _), (98, _), (272, _)]) (.cons rfl rfl (.cons rfl rfl (.cons rfl rfl (.cons rfl rfl (.cons rfl rfl (.cons rfl rfl (.cons rfl rfl (.cons rfl rfl (.cons rfl rfl (.cons rfl rfl .nil)))))))))) ?_
               refine CJ_else rfl (decide_eq_false k7) ?_
               refine CJ_seq ?_
               refine CJ_region ?_
               refine RJ_q (Op_eql rfl rfl) rfl ?_
               by_cases k8 : ok = 8
               ·skip
                refine RJ_q (Op_assign rfl) rfl ?_
                refine RJ_nil ?_
                refine NJ_then ?_
                refine CJ_env (E' := [(2, _), (7, _), (8, _), (9, _), (10, _), (12, _), (13, _), (14, _), (98, _), (285, _)]) (.cons rfl rfl (.cons rfl rfl (.cons rfl rfl (.cons rfl rfl (.cons rfl rfl (.cons rfl rfl (.cons rfl rfl (.cons rfl rfl (.cons rfl rfl (.cons rfl rfl .nil)))))))))) ?_
                refine CJ_then rfl (decide_eq_true k8) ?_
                refine CJ_draw (.q 0 (.q 1 (.q 2 (.q 3 (.q 4 (.e 5 .done)))))) (by kernel_rfl) (by kernel_rfl) (by kernel_rfl) ?_
                refine SJ_q rfl (want_none rfl) rfl (fun _ _ => Op_move rfl) ?_
                refine SJ_q rfl (want_none rfl) rfl (fun _ _ => Op_indexArr (o' := 1) rfl rfl Try.underlying46 sz24 (by decide) (by decide) (by rfl)) ?_
                refine SJ_load rfl (want_none rfl) rfl rfl (load_cell Try.underlying24 rfl pkk (Nth.s Nth.z)) ?_
                refine SJ_q rfl (want_none rfl) rfl (fun _ _ => Op_fieldAddr (o' := 3) rfl Try.underlying58 rfl sz9 rfl rfl) ?_
                refine SJ_load rfl (want_none rfl) rfl rfl (load_cell Try.underlying9 rfl pkk (Nth.s (Nth.s (Nth.s Nth.z)))) ?_
                refine SJ_p (rd' := []) [] rfl (want_none rfl) rfl (Op_call (vs := [_, _, _, _]) Try.func10 rfl rfl (NdMark_any g1 N1 j hN1 (by omega) okey 1 1 (by omega)) rfl (.k (e := (Imp.refl _)))) (by kernel_rfl) rfl ?_
                rintro _ _ ⟨_, ⟨rfl, rfl⟩, rfl⟩
                refine OS_app1 ?_
                refine ⟨trivial, ?_⟩
                refine SJ_done ?_
                refine NJ_blk ?_
                refine NJ_blk ?_
                refine NJ_then ?_
                refine CJ_env (E' := [(2, _), (7, _), (8, _), (9, _), (10, _), (12, _)]) (.cons rfl rfl (.cons rfl rfl (.cons rfl rfl (.cons rfl rfl (.cons rfl rfl (.cons rfl rfl .nil)))))) ?_
                refine CJ_region ?_
                refine RJ_q (Op_move rfl) rfl ?_
                refine RJ_q (Op_addN (j + 1) rfl rfl (by omega) (by omega)) rfl ?_
                refine RJ_q (Op_assign rfl) rfl ?_
                refine RJ_nil ?_
                have hB : SAll (G) (w0) (w1) (s) (N0) ((markN ⟨okey, 1, 1⟩ N1).2) (rs) (j + 1) := hA.set1 ((hA.n1.mark ⟨okey, 1, 1⟩).more (Nat.le_succ _)) (mark4 _ N1)
                refine NJ_back ⟨j + 1, w0, w1, s, G, N0, (markN ⟨okey, 1, 1⟩ N1).2, rs, ra, rc, la, lc, ⟨by omega, by omega, hB⟩, rfl, rfl, rfl⟩ (by omega) (.cons rfl (by first | rfl | (simp; done)) (.cons rfl (by first | rfl | (simp; done)) (.cons rfl (by first | rfl | (simp; done)) (.cons rfl (by first | rfl | (simp; done)) (.cons rfl (by first | rfl | (simp; done)) (.cons rfl (by first | rfl | (simp; done)) .nil)))))) (.k (e := (.k (e := (.k (e := (.k (e := (.k (e := (.k (e := (.k (e := (.k (e := skk))))))))))))))))
               ·skip
                refine RJ_q (Op_assign rfl) rfl ?_
                refine RJ_nil ?_
                refine NJ_then ?_
                refine CJ_env (E' := [(2, _), (7, _), (8, _), (9, _), (10, _), (12, _), (13, _), (14, _), (98, _), (285, _)]) (.cons rfl rfl (.cons rfl rfl (.cons rfl rfl (.cons rfl rfl (.cons rfl rfl (.cons rfl rfl (.cons rfl rfl (.cons rfl rfl (.cons rfl rfl (.cons rfl rfl .nil)))))))))) ?_
                refine CJ_else rfl (decide_eq_false k8) ?_
                refine CJ_seq ?_
                refine CJ_region ?_
                refine RJ_q (Op_eql rfl rfl) rfl ?_
                by_cases k9 : ok = 9
                ·skip
                 refine RJ_q (Op_assign rfl) rfl ?_
                 refine RJ_nil ?_
                 refine NJ_then ?_
                 refine CJ_env (E' := [(2, _), (7, _), (8, _), (9, _), (10, _), (12, _), (13, _), (14, _), (293, _)]) (.cons rfl rfl (.cons rfl rfl (.cons rfl rfl (.cons rfl rfl (.cons rfl rfl (.cons rfl rfl (.cons rfl rfl (.cons rfl rfl (.cons rfl rfl .nil))))))))) ?_
                 refine CJ_then rfl (decide_eq_true k9) ?_
                 refine CJ_draw (.q 0 (.q 1 (.q 2 (.q 3 (.q 4 (.e 5 .done)))))) (by kernel_rfl) (by kernel_rfl) (by kernel_rfl) ?_
                 refine SJ_q rfl (want_none rfl) rfl (fun _ _ => Op_move rfl) ?_
                 refine SJ_q rfl (want_none rfl) rfl (fun _ _ => Op_indexArr (o' := 1) rfl rfl Try.underlying46 sz24 (by decide) (by decide) (by rfl)) ?_
                 refine SJ_load rfl (want_none rfl) rfl rfl (load_cell Try.underlying24 rfl pkk (Nth.s Nth.z)) ?_
                 refine SJ_q rfl (want_none rfl) rfl (fun _ _ => Op_fieldAddr (o' := 3) rfl Try.underlying58 rfl sz9 rfl rfl) ?_
                 refine SJ_load rfl (want_none rfl) rfl rfl (load_cell Try.underlying9 rfl pkk (Nth.s (Nth.s (Nth.s Nth.z)))) ?_
                 refine SJ_p (rd' := []) [] rfl (want_none rfl) rfl (Op_call (vs := [_, _, _, _]) Try.func11 rfl rfl (NdUnmark_any g1 N1 j hN1 (by omega) okey 1 1 (by omega)) rfl (.k (e := (Imp.refl _)))) (by kernel_rfl) rfl ?_
                 rintro _ _ ⟨_, ⟨rfl, rfl⟩, rfl⟩
                 refine OS_app1 ?_
                 refine ⟨trivial, ?_⟩
                 refine SJ_done ?_
                 refine NJ_blk ?_
                 refine NJ_blk ?_
                 refine NJ_then ?_
                 refine CJ_env (E' := [(2, _), (7, _), (8, _), (9, _), (10, _), (12, _)]) (.cons rfl rfl (.cons rfl rfl (.cons rfl rfl (.cons rfl rfl (.cons rfl rfl (.cons rfl rfl .nil)))))) ?_
                 refine CJ_region ?_
                 refine RJ_q (Op_move rfl) rfl ?_
                 refine RJ_q (Op_addN (j + 1) rfl rfl (by omega) (by omega)) rfl ?_
                 refine RJ_q (Op_assign rfl) rfl ?_
                 refine RJ_nil ?_
                 have hB : SAll (G) (w0) (w1) (s) (N0) ((unmarkN ⟨okey, 1, 1⟩ N1).2) (rs) (j + 1) := hA.set1 ((hA.n1.unmark ⟨okey, 1, 1⟩).more (Nat.le_succ _)) (unmark4 _ N1)
                 refine NJ_back ⟨j + 1, w0, w1, s, G, N0, (unmarkN ⟨okey, 1, 1⟩ N1).2, rs, ra, rc, la, lc, ⟨by omega, by omega, hB⟩, rfl, rfl, rfl⟩ (by omega) (.cons rfl (by first | rfl | (simp; done)) (.cons rfl (by first | rfl | (simp; done)) (.cons rfl (by first | rfl | (simp; done)) (.cons rfl (by first | rfl | (simp; done)) (.cons rfl (by first | rfl | (simp; done)) (.cons rfl (by first | rfl | (simp; done)) .nil)))))) (.k (e := (.k (e := (.k (e := (.k (e := (.k (e := (.k (e := (.k (e := (.k (e := skk))))))))))))))))
                ·skip
                 refine RJ_q (Op_assign rfl) rfl ?_
                 refine RJ_nil ?_
                 refine NJ_then ?_
                 refine CJ_env (E' := [(2, _), (7, _), (8, _), (9, _), (10, _), (12, _), (13, _), (14, _), (293, _)]) (.cons rfl rfl (.cons rfl rfl (.cons rfl rfl (.cons rfl rfl (.cons rfl rfl (.cons rfl rfl (.cons rfl rfl (.cons rfl rfl (.cons rfl rfl .nil))))))))) ?_
                 refine CJ_else rfl (decide_eq_false k9) ?_
                 refine CJ_skip ?_
                 refine NJ_blk ?_
                 refine NJ_blk ?_
                 refine NJ_then ?_
                 refine CJ_env (E' := [(2, _), (7, _), (8, _), (9, _), (10, _), (12, _)]) (.cons rfl rfl (.cons rfl rfl (.cons rfl rfl (.cons rfl rfl (.cons rfl rfl (.cons rfl rfl .nil)))))) ?_
                 refine CJ_region ?_
                 refine RJ_q (Op_move rfl) rfl ?_
                 refine RJ_q (Op_addN (j + 1) rfl rfl (by omega) (by omega)) rfl ?_
                 refine RJ_q (Op_assign rfl) rfl ?_
                 refine RJ_nil ?_
                 have hB : SAll (G) (w0) (w1) (s) (N0) (N1) (rs) (j + 1) := hA.more
                 refine NJ_back ⟨j + 1, w0, w1, s, G, N0, N1, rs, ra, rc, la, lc, ⟨by omega, by omega, hB⟩, rfl, rfl, rfl⟩ (by omega) (.cons rfl (by first | rfl | (simp; done)) (.cons rfl (by first | rfl | (simp; done)) (.cons rfl (by first | rfl | (simp; done)) (.cons rfl (by first | rfl | (simp; done)) (.cons rfl (by first | rfl | (simp; done)) (.cons rfl (by first | rfl | (simp; done)) .nil)))))) (.k (e := (.k (e := (.k (e := (.k (e := (.k (e := (.k (e := (.k (e := (.k (e := skk))))))))))))))))
      ·skip
       have hw0 : ow % 2 = 0 := by omega
       refine CJ_region ?_
       refine RJ_q (Op_fieldAddr (o' := 1) rfl Try.underlying58 rfl sz3 rfl rfl) rfl ?_
       refine RJ_q (Op_load rfl (load_cell Try.underlying3 rfl pkk (Nth.s Nth.z))) rfl ?_
       refine RJ_q (Op_and1 rfl rfl) rfl ?_
       rw [hw0]
       refine RJ_q (Op_assign rfl) rfl ?_
       refine RJ_nil ?_
       refine NJ_then ?_
       refine CJ_env (E' := [(2, _), (7, _), (8, _), (9, _), (10, _), (12, _), (13, _), (14, _)]) (.cons rfl rfl (.cons rfl rfl (.cons rfl rfl (.cons rfl rfl (.cons rfl rfl (.cons rfl rfl (.cons rfl rfl (.cons rfl rfl .nil)))))))) ?_
       refine CJ_seq ?_
       refine CJ_region ?_
       refine RJ_q (Op_fieldAddr (o' := 0) rfl Try.underlying58 rfl sz3 rfl rfl) rfl ?_
       refine RJ_q (Op_load rfl (load_cell Try.underlying3 rfl pkk Nth.z)) rfl ?_
       refine RJ_nil ?_
       refine NJ_then ?_
       refine CJ_env (E' := [(2, _), (7, _), (8, _), (9, _), (10, _), (12, _), (13, _), (14, _), (98, _)]) (.cons rfl rfl (.cons rfl rfl (.cons rfl rfl (.cons rfl rfl (.cons rfl rfl (.cons rfl rfl (.cons rfl rfl (.cons rfl rfl (.cons rfl rfl .nil))))))))) ?_
       refine CJ_block ?_
       refine CJ_seq ?_
       refine CJ_region ?_
       refine RJ_q (Op_eql rfl rfl) rfl ?_
       by_cases k0 : ok = 0
       ·skip
        refine RJ_q (Op_assign rfl) rfl ?_
        refine RJ_nil ?_
        refine NJ_then ?_
        refine CJ_env (E' := [(2, _), (7, _), (8, _), (9, _), (10, _), (12, _), (13, _), (14, _), (98, _), (99, _)]) (.cons rfl rfl (.cons rfl rfl (.cons rfl rfl (.cons rfl rfl (.cons rfl rfl (.cons rfl rfl (.cons rfl rfl (.cons rfl rfl (.cons rfl rfl (.cons rfl rfl .nil)))))))))) ?_
        refine CJ_then rfl (decide_eq_true k0) ?_
        refine CJ_draw (.q 0 (.q 1 (.q 2 (.q 3 (.q 4 (.q 5 (.q 6 (.q 7 (.q 8 (.q 9 (.q 10 (.q 11 (.q 12 (.q 13 (.q 14 (.q 15 (.q 16 (.e 17 (.e 18 (.q 19 (.q 20 (.e 21 .done)))))))))))))))))))))) (by kernel_rfl) (by kernel_rfl) (by kernel_rfl) ?_
        refine SJ_q rfl (want_none rfl) rfl (fun _ _ => Op_move rfl) ?_
        refine SJ_q rfl (want_none rfl) rfl (fun _ _ => Op_move rfl) ?_
        refine SJ_q rfl (want_none rfl) rfl (fun _ _ => Op_nilCheck rfl) ?_
        refine SJ_q rfl (want_none rfl) rfl (fun _ _ => Op_fieldAddr (o' := 0) rfl Try.underlying50 rfl sz48 rfl rfl) ?_
        refine SJ_load rfl (want_none rfl) rfl rfl (load_cell Try.underlying48 rfl pkk Nth.z) ?_
        refine SJ_q rfl (want_none rfl) rfl (fun _ _ => Op_move rfl) ?_
        refine SJ_q rfl (want_none rfl) rfl (fun _ _ => Op_nilCheck rfl) ?_
        refine SJ_q rfl (want_none rfl) rfl (fun _ _ => Op_fieldAddr (o' := 0) rfl Try.underlying50 rfl sz48 rfl rfl) ?_
        refine SJ_load rfl (want_none rfl) rfl rfl (load_cell Try.underlying48 rfl pkk Nth.z) ?_
        refine SJ_q rfl (want_none rfl) rfl (fun _ _ => Op_len_slice rfl Try.underlying48) ?_
        refine SJ_q rfl (want_none rfl) rfl (fun _ _ => Op_addN (G.length + 1) rfl rfl (by omega) (by omega)) ?_
        refine SJ_q rfl (want_none rfl) rfl (fun _ _ => Op_build (vs := [_, _]) (cells := [_, _]) Try.underlying27 zr27 rfl pl27 (by rfl)) ?_
        refine SJ_q rfl (want_none rfl) rfl (fun _ _ => Op_fieldAddr (o' := 3) rfl Try.underlying58 rfl sz9 rfl rfl) ?_
        refine SJ_load rfl (want_none rfl) rfl rfl (load_cell Try.underlying9 rfl pkk (Nth.s (Nth.s (Nth.s Nth.z)))) ?_
        refine SJ_q rfl (want_none rfl) rfl (fun _ _ => Op_fieldAddr (o' := 4) rfl Try.underlying58 rfl sz9 rfl rfl) ?_
        refine SJ_load rfl (want_none rfl) rfl rfl (load_cell Try.underlying9 rfl pkk (Nth.s (Nth.s (Nth.s (Nth.s Nth.z))))) ?_
        refine SJ_q rfl (want_none rfl) rfl (fun _ _ => Op_build (vs := [_, _, _]) (cells := [_, _, _, _, _, _, _]) Try.underlying55 zr55 rfl pl55 (by rfl)) ?_
        refine SJ_p (rd' := [⟨4, _, _, _⟩]) [4] rfl (want_none rfl) rfl (Op_buildRow (T := EntT) (vs := [_]) [⟨G.length + 1, okey, otx⟩] rfl Try.underlying48 sz55 zr55 rfl rfl rfl rfl rfl (by rfl)) (by kernel_rfl) rfl ?_
        rintro _ _ ⟨g118, rfl, rfl⟩
        refine ⟨⟨(load_cell Try.underlying48 rfl pkk Nth.z), trivial⟩, ?_⟩
        refine SJ_p (rd' := []) [] rfl (want_none rfl) rfl (Op_append (T := EntT) (news := [⟨G.length + 1, okey, otx⟩]) rfl rfl pkk (entsOf_len _) (by simp) (Reads_row pkk) Try.underlying48 sz55 zr55 (by rfl) by55 (by simp [EntT, entsOf_len]; omega) (by simp [maxLen, entsOf_len]; omega)) (by kernel_rfl) rfl ?_
        rintro _ _ ⟨a119, c119, rfl, rfl⟩
        refine ⟨trivial, ?_⟩
        have hE : entsOf G ++ [⟨G.length + 1, okey, otx⟩] = entsOf (G ++ [(okey, otx)]) := (entsOf_app G (okey, otx)).symm
        rw [hE, entsOf_len]
        refine SJ_q rfl (want_none rfl) rfl (fun _ _ => Op_nilCheck rfl) ?_
        refine SJ_q rfl (want_none rfl) rfl (fun _ _ => Op_fieldAddr (o' := 0) rfl Try.underlying50 rfl sz48 rfl rfl) ?_
        refine SJ_d0 (rd' := []) [] rfl (want_none rfl) (Op_store (cs' := #[_]) rfl rfl sz48 (by rfl) (by simp [Value.cells, Value.oneCell']) rpp rfl (free_zero _ _) (by rfl)) (by kernel_rfl) rfl trivial ?_
        refine SJ_done ?_
        refine NJ_blk ?_
        refine NJ_blk ?_
        refine NJ_then ?_
        refine CJ_env (E' := [(2, _), (7, _), (8, _), (9, _), (10, _), (12, _)]) (.cons rfl rfl (.cons rfl rfl (.cons rfl rfl (.cons rfl rfl (.cons rfl rfl (.cons rfl rfl .nil)))))) ?_
        refine CJ_region ?_
        refine RJ_q (Op_move rfl) rfl ?_
        refine RJ_q (Op_addN (j + 1) rfl rfl (by omega) (by omega)) rfl ?_
        refine RJ_q (Op_assign rfl) rfl ?_
        refine RJ_nil ?_
        have hB : SAll (G ++ [(okey, otx)]) (w0) (w1) (s) (N0) (N1) (rs) (j + 1) := hA.app (by omega) (by omega)
        refine NJ_back ⟨j + 1, w0, w1, s, G ++ [(okey, otx)], N0, N1, rs, ra, rc, a119, c119, ⟨by omega, by omega, hB⟩, rfl, rfl, rfl⟩ (by omega) (.cons rfl (by first | rfl | (simp; done)) (.cons rfl (by first | rfl | (simp; done)) (.cons rfl (by first | rfl | (simp; done)) (.cons rfl (by first | rfl | (simp; done)) (.cons rfl (by first | rfl | (simp; done)) (.cons rfl (by first | rfl | (simp; done)) .nil)))))) (.k (e := (.k (e := (.k (e := (.k (e := (.k (e := (.k (e := (.k (e := (.k (e := skk))))))))))))))))
       ·skip
        refine RJ_q (Op_assign rfl) rfl ?_
        refine RJ_nil ?_
        refine NJ_then ?_
        refine CJ_env (E' := [(2, _), (7, _), (8, _), (9, _), (10, _), (12, _), (13, _), (14, _), (98, _), (99, _)]) (.cons rfl rfl (.cons rfl rfl (.cons rfl rfl (.cons rfl rfl (.cons rfl rfl (.cons rfl rfl (.cons rfl rfl (.cons rfl rfl (.cons rfl rfl (.cons rfl rfl .nil)))))))))) ?_
        refine CJ_else rfl (decide_eq_false k0) ?_
        refine CJ_seq ?_
        refine CJ_region ?_
        refine RJ_q (Op_eql rfl rfl) rfl ?_
        by_cases k1 : ok = 1
        ·skip
         refine RJ_q (Op_assign rfl) rfl ?_
         refine RJ_nil ?_
         refine NJ_then ?_
         refine CJ_env (E' := [(2, _), (7, _), (8, _), (9, _), (10, _), (12, _), (13, _), (14, _), (98, _), (122, _)]) (.cons rfl rfl (.cons rfl rfl (.cons rfl rfl (.cons rfl rfl (.cons rfl rfl (.cons rfl rfl (.cons rfl rfl (.cons rfl rfl (.cons rfl rfl (.cons rfl rfl .nil)))))))))) ?_
         refine CJ_then rfl (decide_eq_true k1) ?_
         refine CJ_seq ?_
         refine CJ_draw (.q 0 (.q 1 (.q 2 (.q 3 (.q 4 (.q 5 (.q 6 (.q 7 (.q 8 .done))))))))) (by kernel_rfl) (by kernel_rfl) (by kernel_rfl) ?_
         refine SJ_q rfl (want_none rfl) rfl (fun _ _ => Op_move rfl) ?_
         refine SJ_q rfl (want_none rfl) rfl (fun _ _ => Op_indexArr (o' := 0) rfl rfl Try.underlying51 sz3 (by decide) (by decide) (by rfl)) ?_
         refine SJ_load rfl (want_none rfl) rfl rfl (load_cell Try.underlying3 rfl pkk Nth.z) ?_
         refine SJ_q rfl (want_none rfl) rfl (fun _ _ => Op_move rfl) ?_
         refine SJ_q rfl (want_none rfl) rfl (fun _ _ => Op_nilCheck rfl) ?_
         refine SJ_q rfl (want_none rfl) rfl (fun _ _ => Op_fieldAddr (o' := 0) rfl Try.underlying50 rfl sz48 rfl rfl) ?_
         refine SJ_load rfl (want_none rfl) rfl rfl (load_cell Try.underlying48 rfl pkk Nth.z) ?_
         refine SJ_q rfl (want_none rfl) rfl (fun _ _ => Op_len_slice rfl Try.underlying48) ?_
         refine SJ_q rfl (want_none rfl) rfl (fun _ _ => Op_lss rfl rfl) ?_
         by_cases hlt : (w0 : Int) < G.length
         ·skip
          refine SJ_done ?_
          refine NJ_then ?_
          refine CJ_env (E' := [(2, _), (7, _), (8, _), (9, _), (10, _), (12, _), (14, _), (132, _)]) (.cons rfl rfl (.cons rfl rfl (.cons rfl rfl (.cons rfl rfl (.cons rfl rfl (.cons rfl rfl (.cons rfl rfl (.cons rfl rfl .nil)))))))) ?_
          refine CJ_then rfl (decide_eq_true hlt) ?_
          refine CJ_seq ?_
          refine CJ_region ?_
          refine RJ_q (Op_move rfl) rfl ?_
          refine RJ_q (Op_indexArr (o' := 0) rfl rfl Try.underlying51 sz3 (by decide) (by decide) (by rfl)) rfl ?_
          refine RJ_q (Op_load rfl (load_cell Try.underlying3 rfl pkk Nth.z)) rfl ?_
          refine RJ_q (Op_addN (w0 + 1) rfl rfl (by omega) (by omega)) rfl ?_
          refine RJ_q (Op_indexArr (o' := 0) rfl rfl Try.underlying51 sz3 (by decide) (by decide) (by rfl)) rfl ?_
          refine RJ_d0 (Op_store (cs' := #[_, _]) rfl rfl sz3 (by rfl) (by simp [Value.cells, Value.oneCell']) rpp rfl (free_zero _ _) (by rfl)) ?_
          refine RJ_nil ?_
          refine NJ_then ?_
          refine CJ_env (E' := [(2, _), (7, _), (8, _), (9, _), (10, _), (12, _), (14, _)]) (.cons rfl rfl (.cons rfl rfl (.cons rfl rfl (.cons rfl rfl (.cons rfl rfl (.cons rfl rfl (.cons rfl rfl .nil))))))) ?_
          obtain ⟨e, he⟩ : ∃ e, G[w0]? = some e := ⟨G[w0], List.getElem?_eq_getElem (by omega)⟩
          have hent := entsOf_at he
          refine CJ_know (Row_know (T := EntT) pkk) ?_
          intro hkn
          obtain ⟨lg, rfl⟩ := row_some hkn.2.2 (by intro e; rw [e] at hent; cases hent)
          refine CJ_draw (.q 0 (.q 1 (.q 2 (.q 3 (.q 4 (.q 5 (.q 6 (.q 7 (.q 8 (.q 9 (.q 10 (.q 11 (.q 12 (.q 13 (.q 14 (.q 15 (.q 16 (.e 17 .done)))))))))))))))))) (by kernel_rfl) (by kernel_rfl) (by kernel_rfl) ?_
          refine SJ_q rfl (want_none rfl) rfl (fun _ _ => Op_move rfl) ?_
          refine SJ_q rfl (want_none rfl) rfl (fun _ _ => Op_indexArr (o' := 0) rfl rfl Try.underlying46 sz24 (by decide) (by decide) (by rfl)) ?_
          refine SJ_load rfl (want_none rfl) rfl rfl (load_cell Try.underlying24 rfl pkk Nth.z) ?_
          refine SJ_q rfl (want_none rfl) rfl (fun _ _ => Op_move rfl) ?_
          refine SJ_q rfl (want_none rfl) rfl (fun _ _ => Op_nilCheck rfl) ?_
          refine SJ_q rfl (want_none rfl) rfl (fun _ _ => Op_fieldAddr (o' := 0) rfl Try.underlying50 rfl sz48 rfl rfl) ?_
          refine SJ_load rfl (want_none rfl) rfl rfl (load_cell Try.underlying48 rfl pkk Nth.z) ?_
          refine SJ_q rfl (want_none rfl) rfl (fun _ _ => Op_move rfl) ?_
          refine SJ_q rfl (want_none rfl) rfl (fun _ _ => Op_indexArr (o' := 0) rfl rfl Try.underlying51 sz3 (by decide) (by decide) (by rfl)) ?_
          refine SJ_load rfl (want_none rfl) rfl rfl (load_cell Try.underlying3 rfl pkk Nth.z) ?_
          refine SJ_q rfl (want_none rfl) rfl (fun _ _ => Op_subN (w0) rfl rfl (by omega) (by omega)) ?_
          refine SJ_q rfl (want_none rfl) rfl (fun _ _ => Op_indexAddr (o' := w0 * EntT.sz + 0) rfl rfl Try.underlying48 sz55 (by omega) (by omega) (by simp [EntT])) ?_
          refine SJ_q rfl (want_none rfl) rfl (fun _ _ => Op_fieldAddr (o' := w0 * EntT.sz + 4) rfl Try.underlying55 rfl sz9 rfl rfl) ?_
          refine SJ_load rfl (want_none rfl) rfl rfl (load_row_cell (o := 4) Try.underlying9 rfl pkk hent (Nth.s (Nth.s (Nth.s (Nth.s Nth.z))))) ?_
          refine SJ_q rfl (want_none rfl) rfl (fun _ _ => Op_move rfl) ?_
          refine SJ_q rfl (want_none rfl) rfl (fun _ _ => Op_indexArr (o' := 0) rfl rfl Try.underlying51 sz3 (by decide) (by decide) (by rfl)) ?_
          refine SJ_load rfl (want_none rfl) rfl rfl (load_cell Try.underlying3 rfl pkk Nth.z) ?_
          refine SJ_p (rd' := []) [] rfl (want_none rfl) rfl (Op_call (vs := [_, _, _]) Try.func17 rfl rfl (NdInv_any g0 N0 j hN0 (by omega) e.1 ((w0 : Int) + 1)) rfl (.k (e := (Imp.refl _)))) (by kernel_rfl) rfl ?_
          rintro _ _ ⟨_, ⟨rfl, rfl⟩, rfl⟩
          refine OS_app1 ?_
          refine ⟨trivial, ?_⟩
          refine SJ_done ?_
          refine NJ_blk ?_
          refine NJ_blk ?_
          refine NJ_then ?_
          refine CJ_env (E' := [(2, _), (7, _), (8, _), (9, _), (10, _), (12, _)]) (.cons rfl rfl (.cons rfl rfl (.cons rfl rfl (.cons rfl rfl (.cons rfl rfl (.cons rfl rfl .nil)))))) ?_
          refine CJ_region ?_
          refine RJ_q (Op_move rfl) rfl ?_
          refine RJ_q (Op_addN (j + 1) rfl rfl (by omega) (by omega)) rfl ?_
          refine RJ_q (Op_assign rfl) rfl ?_
          refine RJ_nil ?_
          have hB : SAll (G) (w0 + 1) (w1) (s) (invN e.1 ((w0 : Int) + 1) N0) (N1) (rs) (j + 1) := hA.inv0 he
          refine NJ_back ⟨j + 1, w0 + 1, w1, s, G, invN e.1 ((w0 : Int) + 1) N0, N1, rs, ra, rc, (some lg), lc, ⟨by omega, by omega, hB⟩, rfl, rfl, rfl⟩ (by omega) (.cons rfl (by first | rfl | (simp; done)) (.cons rfl (by first | rfl | (simp; done)) (.cons rfl (by first | rfl | (simp; done)) (.cons rfl (by first | rfl | (simp; done)) (.cons rfl (by first | rfl | (simp; done)) (.cons rfl (by first | rfl | (simp; done)) .nil)))))) (.k (e := (.k (e := (.k (e := (.k (e := (.k (e := (.k (e := (.k (e := (.k (e := skk))))))))))))))))
         ·skip
          refine SJ_done ?_
          refine NJ_then ?_
          refine CJ_env (E' := [(2, _), (7, _), (8, _), (9, _), (10, _), (12, _), (14, _), (132, _)]) (.cons rfl rfl (.cons rfl rfl (.cons rfl rfl (.cons rfl rfl (.cons rfl rfl (.cons rfl rfl (.cons rfl rfl (.cons rfl rfl .nil)))))))) ?_
          refine CJ_else rfl (decide_eq_false hlt) ?_
          refine CJ_skip ?_
          refine NJ_blk ?_
          refine NJ_blk ?_
          refine NJ_then ?_
          refine CJ_env (E' := [(2, _), (7, _), (8, _), (9, _), (10, _), (12, _)]) (.cons rfl rfl (.cons rfl rfl (.cons rfl rfl (.cons rfl rfl (.cons rfl rfl (.cons rfl rfl .nil)))))) ?_
          refine CJ_region ?_
          refine RJ_q (Op_move rfl) rfl ?_
          refine RJ_q (Op_addN (j + 1) rfl rfl (by omega) (by omega)) rfl ?_
          refine RJ_q (Op_assign rfl) rfl ?_
          refine RJ_nil ?_
          have hB : SAll (G) (w0) (w1) (s) (N0) (N1) (rs) (j + 1) := hA.more
          refine NJ_back ⟨j + 1, w0, w1, s, G, N0, N1, rs, ra, rc, la, lc, ⟨by omega, by omega, hB⟩, rfl, rfl, rfl⟩ (by omega) (.cons rfl (by first | rfl | (simp; done)) (.cons rfl (by first | rfl | (simp; done)) (.cons rfl (by first | rfl | (simp; done)) (.cons rfl (by first | rfl | (simp; done)) (.cons rfl (by first | rfl | (simp; done)) (.cons rfl (by first | rfl | (simp; done)) .nil)))))) (.k (e := (.k (e := (.k (e := (.k (e := (.k (e := (.k (e := (.k (e := (.k (e := skk))))))))))))))))
        ·skip
         refine RJ_q (Op_assign rfl) rfl ?_
         refine RJ_nil ?_
         refine NJ_then ?_
         refine CJ_env (E' := [(2, _), (7, _), (8, _), (9, _), (10, _), (12, _), (13, _), (14, _), (98, _), (122, _)]) (.cons rfl rfl (.cons rfl rfl (.cons rfl rfl (.cons rfl rfl (.cons rfl rfl (.cons rfl rfl (.cons rfl rfl (.cons rfl rfl (.cons rfl rfl (.cons rfl rfl .nil)))))))))) ?_
         refine CJ_else rfl (decide_eq_false k1) ?_
         refine CJ_seq ?_
         refine CJ_region ?_
         refine RJ_q (Op_eql rfl rfl) rfl ?_
         by_cases k2 : ok = 2
         ·skip
          refine RJ_q (Op_assign rfl) rfl ?_
          refine RJ_nil ?_
          refine NJ_then ?_
          refine CJ_env (E' := [(2, _), (7, _), (8, _), (9, _), (10, _), (12, _), (13, _), (14, _), (98, _), (156, _)]) (.cons rfl rfl (.cons rfl rfl (.cons rfl rfl (.cons rfl rfl (.cons rfl rfl (.cons rfl rfl (.cons rfl rfl (.cons rfl rfl (.cons rfl rfl (.cons rfl rfl .nil)))))))))) ?_
          refine CJ_then rfl (decide_eq_true k2) ?_
          refine CJ_seq ?_
          refine CJ_draw (.q 0 (.q 1 (.q 2 (.q 3 (.q 4 (.br 5 (.e 6 (.e 7 .done)) (.e 6 (.e 5 (.e 7 .done))))))))) (by kernel_rfl) (by kernel_rfl) (by kernel_rfl) ?_
          refine SJ_q rfl (want_none rfl) rfl (fun _ _ => Op_move rfl) ?_
          refine SJ_q rfl (want_none rfl) rfl (fun _ _ => Op_indexArr (o' := 0) rfl rfl Try.underlying46 sz24 (by decide) (by decide) (by rfl)) ?_
          refine SJ_load rfl (want_none rfl) rfl rfl (load_cell Try.underlying24 rfl pkk Nth.z) ?_
          refine SJ_q rfl (want_none rfl) rfl (fun _ _ => Op_fieldAddr (o' := 3) rfl Try.underlying58 rfl sz9 rfl rfl) ?_
          refine SJ_load rfl (want_none rfl) rfl rfl (load_cell Try.underlying9 rfl pkk (Nth.s (Nth.s (Nth.s Nth.z)))) ?_
          refine SJ_br ?_ ?_
          ·skip
           refine SJ_p (rd' := []) [] rfl (want_none rfl) rfl (Op_call (vs := [_, _]) Try.func8 rfl rfl (NdGet_any g0 N0 j hN0 (by omega) okey) rfl (.k (e := (Imp.refl _)))) (by kernel_rfl) rfl ?_
           rintro _ _ ⟨_, ⟨rfl, rfl⟩, rfl⟩
           refine OS_app1 ?_
           refine ⟨trivial, ?_⟩
           refine SJ_p (rd' := []) [] rfl (want_none rfl) rfl (Op_alloc zr31) (by kernel_rfl) rfl ?_
           rintro _ _ ⟨b15, rfl, rfl⟩
           refine ⟨trivial, ?_⟩
           refine SJ_d0 (rd' := []) [] rfl (want_none rfl) (Op_store (cs' := #[_, _, _, _, _, _, _]) rfl rfl sz31 (by rfl) (by simp [Value.cells, Value.oneCell']) rpp rfl (free_zero _ _) (by rfl)) (by kernel_rfl) rfl trivial ?_
           refine SJ_done ?_
           refine NJ_then ?_
           refine CJ_env (E' := [(2, _), (7, _), (8, _), (9, _), (10, _), (12, _), (13, _), (14, _), (15, _)]) (.cons rfl rfl (.cons rfl rfl (.cons rfl rfl (.cons rfl rfl (.cons rfl rfl (.cons rfl rfl (.cons rfl rfl (.cons rfl rfl (.cons rfl rfl .nil))))))))) ?_
           refine CJ_seq ?_
           refine CJ_seq ?_
           refine CJ_draw (.q 0 (.q 1 (.q 2 (.q 3 (.q 4 (.q 5 (.q 6 (.q 7 (.q 8 (.q 9 (.q 10 (.q 11 (.q 12 (.q 13 (.e 14 (.e 15 (.q 16 (.q 17 .done)))))))))))))))))) (by kernel_rfl) (by kernel_rfl) (by kernel_rfl) ?_
           refine SJ_q rfl (want_none rfl) rfl (fun _ _ => Op_fieldAddr (o' := 0) rfl Try.underlying31 rfl sz3 rfl rfl) ?_
           refine SJ_load rfl (want_none rfl) rfl rfl (load_cell Try.underlying3 rfl pkk Nth.z) ?_
           refine SJ_q rfl (want_none rfl) rfl (fun _ _ => Op_eql rfl rfl) ?_
           by_cases hh : (getN okey N0).1.kind = 1
           ·skip
            obtain ⟨q, ha1, ha2, ha3⟩ := hA.n0.hit hh
            have hmx : (max (getN okey N0).1.val.asOf (w0 : Int)).toNat = max q w0 := by rw [ha1]; omega
            refine SJ_q rfl (want_none rfl) rfl (fun _ _ => Op_move rfl) ?_
            refine SJ_q rfl (want_yes (t := 167) rfl rfl rfl (decide_eq_true hh)) rfl (fun _ _ => Op_fieldAddr (o' := 1) rfl Try.underlying31 rfl sz29 rfl rfl) ?_
            refine SJ_load rfl (want_yes (t := 167) rfl rfl rfl (decide_eq_true hh)) rfl rfl (load_struct (o := 1) (vs := [_, _, _, _]) Try.underlying29 sz29 pkk (by rfl) rfl) ?_
            refine SJ_q rfl (want_yes (t := 167) rfl rfl rfl (decide_eq_true hh)) rfl (fun _ _ => Op_move rfl) ?_
            refine SJ_q rfl (want_yes (t := 167) rfl rfl rfl (decide_eq_true hh)) rfl (fun _ _ => Op_fieldAddr (o' := 3) rfl Try.underlying58 rfl sz9 rfl rfl) ?_
            refine SJ_load rfl (want_yes (t := 167) rfl rfl rfl (decide_eq_true hh)) rfl rfl (load_cell Try.underlying9 rfl pkk (Nth.s (Nth.s (Nth.s Nth.z)))) ?_
            refine SJ_q rfl (want_yes (t := 167) rfl rfl rfl (decide_eq_true hh)) rfl (fun _ _ => Op_fieldAddr (o' := 5) rfl Try.underlying31 rfl sz3 rfl rfl) ?_
            refine SJ_load rfl (want_yes (t := 167) rfl rfl rfl (decide_eq_true hh)) rfl rfl (load_cell Try.underlying3 rfl pkk (Nth.s (Nth.s (Nth.s (Nth.s (Nth.s Nth.z)))))) ?_
            refine SJ_q rfl (want_yes (t := 167) rfl rfl rfl (decide_eq_true hh)) rfl (fun _ _ => Op_move rfl) ?_
            refine SJ_q rfl (want_yes (t := 167) rfl rfl rfl (decide_eq_true hh)) rfl (fun _ _ => Op_indexArr (o' := 0) rfl rfl Try.underlying51 sz3 (by decide) (by decide) (by rfl)) ?_
            refine SJ_load rfl (want_yes (t := 167) rfl rfl rfl (decide_eq_true hh)) rfl rfl (load_cell Try.underlying3 rfl pkk Nth.z) ?_
            refine SJ_d (rd' := [⟨8, _, _, _⟩, ⟨5, _, _, _⟩]) [8, 5] rfl (want_yes (t := 167) rfl rfl rfl (decide_eq_true hh)) rfl ((Op_max rfl rfl).opD) (by kernel_rfl) rfl ⟨(load_cell Try.underlying9 rfl pkk (Nth.s (Nth.s (Nth.s Nth.z)))), ⟨(load_struct (o := 1) (vs := [_, _, _, _]) Try.underlying29 sz29 pkk (by rfl) rfl), trivial⟩⟩ ?_
            refine SJ_p (rd' := [⟨5, _, _, _⟩]) [5] rfl (want_yes (t := 167) rfl rfl rfl (decide_eq_true hh)) rfl (Op_call (vs := [_, _, _]) Try.func18 rfl rfl (At_any b34 la lc G (by omega) okey (max (getN okey N0).1.val.asOf w0)) rfl (.k (e := (.k (e := (Imp.refl _)))))) (by kernel_rfl) rfl ?_
            rintro _ _ ⟨_, ⟨rfl, rfl⟩, rfl⟩
            refine OS_app2 ?_
            refine ⟨⟨(load_struct (o := 1) (vs := [_, _, _, _]) Try.underlying29 sz29 pkk (by rfl) rfl), trivial⟩, ?_⟩
            refine SJ_q rfl (want_yes (t := 167) rfl rfl rfl (decide_eq_true hh)) rfl (fun _ _ => Op_struct_neq rfl rfl (by kernel_rfl) (EqJ_val 9997 (getN okey N0).1.val (atN G okey (max (getN okey N0).1.val.asOf w0).toNat))) ?_
            refine SJ_q rfl (want_none rfl) rfl (fun _ _ => Op_pick_t rfl (decide_eq_true hh) rfl) ?_
            refine SJ_done ?_
            refine NJ_then ?_
            refine CJ_env (E' := [(2, _), (7, _), (8, _), (9, _), (10, _), (12, _), (13, _), (14, _), (15, _), (181, _)]) (.cons rfl rfl (.cons rfl rfl (.cons rfl rfl (.cons rfl rfl (.cons rfl rfl (.cons rfl rfl (.cons rfl rfl (.cons rfl rfl (.cons rfl rfl (.cons rfl rfl .nil)))))))))) ?_
            refine CJ_else rfl (by rw [hmx, ha3]; rfl) ?_
            refine CJ_skip ?_
            refine NJ_then ?_
            refine CJ_env (E' := [(2, _), (7, _), (8, _), (9, _), (10, _), (12, _), (13, _), (14, _), (15, _)]) (.cons rfl rfl (.cons rfl rfl (.cons rfl rfl (.cons rfl rfl (.cons rfl rfl (.cons rfl rfl (.cons rfl rfl (.cons rfl rfl (.cons rfl rfl .nil))))))))) ?_
            refine CJ_seq ?_
            refine CJ_region ?_
            refine RJ_q (Op_fieldAddr (o' := 6) rfl Try.underlying31 rfl sz2 rfl rfl) rfl ?_
            refine RJ_q (Op_load rfl (load_cell Try.underlying2 rfl pkk (Nth.s (Nth.s (Nth.s (Nth.s (Nth.s (Nth.s Nth.z)))))))) rfl ?_
            refine RJ_q (Op_gtr rfl rfl) rfl ?_
            by_cases htk : 0 < (getN okey N0).1.token
            ·skip
             refine RJ_nil ?_
             refine NJ_then ?_
             refine CJ_env (E' := [(2, _), (7, _), (8, _), (9, _), (10, _), (12, _), (13, _), (14, _), (15, _), (184, _)]) (.cons rfl rfl (.cons rfl rfl (.cons rfl rfl (.cons rfl rfl (.cons rfl rfl (.cons rfl rfl (.cons rfl rfl (.cons rfl rfl (.cons rfl rfl (.cons rfl rfl .nil)))))))))) ?_
             refine CJ_then rfl (decide_eq_true htk) ?_
             refine CJ_draw (.q 0 (.q 1 (.q 2 (.q 3 (.q 4 (.q 5 (.q 6 (.q 7 (.q 8 (.q 9 (.q 10 (.q 11 (.q 12 (.q 13 (.q 14 (.q 15 (.q 16 (.q 17 (.q 18 (.e 19 (.q 20 (.e 21 (.e 22 (.q 23 .done)))))))))))))))))))))))) (by kernel_rfl) (by kernel_rfl) (by kernel_rfl) ?_
             refine SJ_q rfl (want_none rfl) rfl (fun _ _ => Op_move rfl) ?_
             refine SJ_q rfl (want_none rfl) rfl (fun _ _ => Op_move rfl) ?_
             refine SJ_q rfl (want_none rfl) rfl (fun _ _ => Op_move rfl) ?_
             refine SJ_q rfl (want_none rfl) rfl (fun _ _ => Op_nilCheck rfl) ?_
             refine SJ_q rfl (want_none rfl) rfl (fun _ _ => Op_fieldAddr (o' := 0) rfl Try.underlying50 rfl sz48 rfl rfl) ?_
             refine SJ_load rfl (want_none rfl) rfl rfl (load_cell Try.underlying48 rfl pkk Nth.z) ?_
             refine SJ_q rfl (want_none rfl) rfl (fun _ _ => Op_len_slice rfl Try.underlying48) ?_
             refine SJ_q rfl (want_none rfl) rfl (fun _ _ => Op_fieldAddr (o' := 3) rfl Try.underlying58 rfl sz9 rfl rfl) ?_
             refine SJ_load rfl (want_none rfl) rfl rfl (load_cell Try.underlying9 rfl pkk (Nth.s (Nth.s (Nth.s Nth.z)))) ?_
             refine SJ_q rfl (want_none rfl) rfl (fun _ _ => Op_fieldAddr (o' := 6) rfl Try.underlying31 rfl sz2 rfl rfl) ?_
             refine SJ_load rfl (want_none rfl) rfl rfl (load_cell Try.underlying2 rfl pkk (Nth.s (Nth.s (Nth.s (Nth.s (Nth.s (Nth.s Nth.z))))))) ?_
             refine SJ_q rfl (want_none rfl) rfl (fun _ _ => Op_move rfl) ?_
             refine SJ_q rfl (want_none rfl) rfl (fun _ _ => Op_fieldAddr (o' := 3) rfl Try.underlying58 rfl sz9 rfl rfl) ?_
             refine SJ_load rfl (want_none rfl) rfl rfl (load_cell Try.underlying9 rfl pkk (Nth.s (Nth.s (Nth.s Nth.z)))) ?_
             refine SJ_q rfl (want_none rfl) rfl (fun _ _ => Op_move rfl) ?_
             refine SJ_q rfl (want_none rfl) rfl (fun _ _ => Op_nilCheck rfl) ?_
             refine SJ_q rfl (want_none rfl) rfl (fun _ _ => Op_fieldAddr (o' := 0) rfl Try.underlying50 rfl sz48 rfl rfl) ?_
             refine SJ_load rfl (want_none rfl) rfl rfl (load_cell Try.underlying48 rfl pkk Nth.z) ?_
             refine SJ_q rfl (want_none rfl) rfl (fun _ _ => Op_len_slice rfl Try.underlying48) ?_
             refine SJ_p (rd' := [⟨10, _, _, _⟩, ⟨8, _, _, _⟩, ⟨5, _, _, _⟩]) [10, 8, 5] rfl (want_none rfl) rfl (Op_call (vs := [_, _, _]) Try.func18 rfl rfl (At_any b34 la lc G (by omega) okey (G.length : Nat)) rfl (.k (e := (.k (e := (Imp.refl _)))))) (by kernel_rfl) rfl ?_
             rintro _ _ ⟨_, ⟨rfl, rfl⟩, rfl⟩
             refine OS_app2 ?_
             refine ⟨⟨(load_cell Try.underlying2 rfl pkk (Nth.s (Nth.s (Nth.s (Nth.s (Nth.s (Nth.s Nth.z))))))), ⟨(load_cell Try.underlying9 rfl pkk (Nth.s (Nth.s (Nth.s Nth.z)))), ⟨(load_cell Try.underlying48 rfl pkk Nth.z), trivial⟩⟩⟩, ?_⟩
             rw [Int.toNat_natCast]
             refine SJ_q rfl (want_none rfl) rfl (fun _ _ => Op_build (vs := [_, _, _, _, _]) (cells := [_, _, _, _, _, _, _, _]) Try.underlying62 zr62 rfl pl62 (by rfl)) ?_
             refine SJ_p (rd' := []) [] rfl (want_none rfl) rfl (Op_buildRow (T := RdT) (vs := [_]) [⟨0, G.length, okey, (getN okey N0).1.token, atN G okey G.length⟩] rfl Try.underlying52 sz62 zr62 rfl rfl rfl rfl rfl (by rfl)) (by kernel_rfl) rfl ?_
             rintro _ _ ⟨g206, rfl, rfl⟩
             refine ⟨trivial, ?_⟩
             refine SJ_p (rd' := []) [] rfl (want_none rfl) rfl (Op_append (T := RdT) (news := [⟨0, G.length, okey, (getN okey N0).1.token, atN G okey G.length⟩]) rfl rfl pkk rfl (by simp) (Reads_row pkk) Try.underlying52 sz62 zr62 (by rfl) by62 (by have := hA.rl; simp [RdT]; omega) (by have := hA.rl; simp [maxLen]; omega)) (by kernel_rfl) rfl ?_
             rintro _ _ ⟨a207, c207, rfl, rfl⟩
             refine ⟨trivial, ?_⟩
             refine SJ_q rfl (want_none rfl) rfl (fun _ _ => Op_assign rfl) ?_
             refine SJ_done ?_
             refine NJ_blk ?_
             refine NJ_blk ?_
             refine NJ_then ?_
             refine CJ_env (E' := [(2, _), (7, _), (8, _), (9, _), (10, _), (12, _)]) (.cons rfl rfl (.cons rfl rfl (.cons rfl rfl (.cons rfl rfl (.cons rfl rfl (.cons rfl rfl .nil)))))) ?_
             refine CJ_region ?_
             refine RJ_q (Op_move rfl) rfl ?_
             refine RJ_q (Op_addN (j + 1) rfl rfl (by omega) (by omega)) rfl ?_
             refine RJ_q (Op_assign rfl) rfl ?_
             refine RJ_nil ?_
             have hB : SAll (G) (w0) (w1) (s) ((getN okey N0).2) (N1) (rs ++ [⟨0, G.length, okey, (getN okey N0).1.token, atN G okey G.length⟩]) (j + 1) := (hA.set0 (hA.n0.get okey)).read hA.rl rfl rfl (by show okey.size ≤ 1000; omega) (.inl ⟨rfl, get_token hA.n0.ok okey⟩)
             refine NJ_back ⟨j + 1, w0, w1, s, G, (getN okey N0).2, N1, rs ++ [⟨0, G.length, okey, (getN okey N0).1.token, atN G okey G.length⟩], a207, c207, la, lc, ⟨by omega, by omega, hB⟩, rfl, rfl, rfl⟩ (by omega) (.cons rfl (by first | rfl | (simp; done)) (.cons rfl (by first | rfl | (simp; done)) (.cons rfl (by first | rfl | (simp; done)) (.cons rfl (by first | rfl | (simp; done)) (.cons rfl (by first | rfl | (simp; done)) (.cons rfl (by first | rfl | (simp; done)) .nil)))))) (.k (e := (.k (e := (.k (e := (.k (e := (.k (e := (.k (e := (.k (e := (.k (e := skk))))))))))))))))
            ·skip
             refine RJ_nil ?_
             refine NJ_then ?_
             refine CJ_env (E' := [(2, _), (7, _), (8, _), (9, _), (10, _), (12, _), (13, _), (14, _), (15, _), (184, _)]) (.cons rfl rfl (.cons rfl rfl (.cons rfl rfl (.cons rfl rfl (.cons rfl rfl (.cons rfl rfl (.cons rfl rfl (.cons rfl rfl (.cons rfl rfl (.cons rfl rfl .nil)))))))))) ?_
             refine CJ_else rfl (decide_eq_false htk) ?_
             refine CJ_skip ?_
             refine NJ_blk ?_
             refine NJ_blk ?_
             refine NJ_then ?_
             refine CJ_env (E' := [(2, _), (7, _), (8, _), (9, _), (10, _), (12, _)]) (.cons rfl rfl (.cons rfl rfl (.cons rfl rfl (.cons rfl rfl (.cons rfl rfl (.cons rfl rfl .nil)))))) ?_
             refine CJ_region ?_
             refine RJ_q (Op_move rfl) rfl ?_
             refine RJ_q (Op_addN (j + 1) rfl rfl (by omega) (by omega)) rfl ?_
             refine RJ_q (Op_assign rfl) rfl ?_
             refine RJ_nil ?_
             have hB : SAll (G) (w0) (w1) (s) ((getN okey N0).2) (N1) (rs) (j + 1) := hA.set0 (hA.n0.get okey)
             refine NJ_back ⟨j + 1, w0, w1, s, G, (getN okey N0).2, N1, rs, ra, rc, la, lc, ⟨by omega, by omega, hB⟩, rfl, rfl, rfl⟩ (by omega) (.cons rfl (by first | rfl | (simp; done)) (.cons rfl (by first | rfl | (simp; done)) (.cons rfl (by first | rfl | (simp; done)) (.cons rfl (by first | rfl | (simp; done)) (.cons rfl (by first | rfl | (simp; done)) (.cons rfl (by first | rfl | (simp; done)) .nil)))))) (.k (e := (.k (e := (.k (e := (.k (e := (.k (e := (.k (e := (.k (e := (.k (e := skk))))))))))))))))
           ·skip
            refine SJ_q rfl (want_none rfl) rfl (fun _ _ => Op_move rfl) ?_
            refine SJ_no (t := 167) false rfl rfl rfl (decide_eq_false hh) (by decide) rfl ?_
            refine SJ_no (t := 167) false rfl rfl rfl (decide_eq_false hh) (by decide) rfl ?_
            refine SJ_no (t := 167) false rfl rfl rfl (decide_eq_false hh) (by decide) rfl ?_
            refine SJ_no (t := 167) false rfl rfl rfl (decide_eq_false hh) (by decide) rfl ?_
            refine SJ_no (t := 167) false rfl rfl rfl (decide_eq_false hh) (by decide) rfl ?_
            refine SJ_no (t := 167) false rfl rfl rfl (decide_eq_false hh) (by decide) rfl ?_
            refine SJ_no (t := 167) false rfl rfl rfl (decide_eq_false hh) (by decide) rfl ?_
            refine SJ_no (t := 167) false rfl rfl rfl (decide_eq_false hh) (by decide) rfl ?_
            refine SJ_no (t := 167) false rfl rfl rfl (decide_eq_false hh) (by decide) rfl ?_
            refine SJ_no (t := 167) false rfl rfl rfl (decide_eq_false hh) (by decide) rfl ?_
            refine SJ_no_e (t := 167) false (rd' := []) [] rfl rfl rfl (decide_eq_false hh) (by decide) rfl (by kernel_rfl) rfl trivial ?_
            refine SJ_no_e (t := 167) false (rd' := []) [] rfl rfl rfl (decide_eq_false hh) (by decide) rfl (by kernel_rfl) rfl trivial ?_
            refine SJ_no (t := 167) false rfl rfl rfl (decide_eq_false hh) (by decide) rfl ?_
            refine SJ_q rfl (want_none rfl) rfl (fun _ _ => Op_pick_f rfl (decide_eq_false hh) rfl) ?_
            refine SJ_done ?_
            refine NJ_then ?_
            refine CJ_env (E' := [(2, _), (7, _), (8, _), (9, _), (10, _), (12, _), (13, _), (14, _), (15, _), (181, _)]) (.cons rfl rfl (.cons rfl rfl (.cons rfl rfl (.cons rfl rfl (.cons rfl rfl (.cons rfl rfl (.cons rfl rfl (.cons rfl rfl (.cons rfl rfl (.cons rfl rfl .nil)))))))))) ?_
            refine CJ_else rfl rfl ?_
            refine CJ_skip ?_
            refine NJ_then ?_
            refine CJ_env (E' := [(2, _), (7, _), (8, _), (9, _), (10, _), (12, _), (13, _), (14, _), (15, _)]) (.cons rfl rfl (.cons rfl rfl (.cons rfl rfl (.cons rfl rfl (.cons rfl rfl (.cons rfl rfl (.cons rfl rfl (.cons rfl rfl (.cons rfl rfl .nil))))))))) ?_
            refine CJ_seq ?_
            refine CJ_region ?_
            refine RJ_q (Op_fieldAddr (o' := 6) rfl Try.underlying31 rfl sz2 rfl rfl) rfl ?_
            refine RJ_q (Op_load rfl (load_cell Try.underlying2 rfl pkk (Nth.s (Nth.s (Nth.s (Nth.s (Nth.s (Nth.s Nth.z)))))))) rfl ?_
            refine RJ_q (Op_gtr rfl rfl) rfl ?_
            by_cases htk : 0 < (getN okey N0).1.token
            ·skip
             refine RJ_nil ?_
             refine NJ_then ?_
             refine CJ_env (E' := [(2, _), (7, _), (8, _), (9, _), (10, _), (12, _), (13, _), (14, _), (15, _), (184, _)]) (.cons rfl rfl (.cons rfl rfl (.cons rfl rfl (.cons rfl rfl (.cons rfl rfl (.cons rfl rfl (.cons rfl rfl (.cons rfl rfl (.cons rfl rfl (.cons rfl rfl .nil)))))))))) ?_
             refine CJ_then rfl (decide_eq_true htk) ?_
             refine CJ_draw (.q 0 (.q 1 (.q 2 (.q 3 (.q 4 (.q 5 (.q 6 (.q 7 (.q 8 (.q 9 (.q 10 (.q 11 (.q 12 (.q 13 (.q 14 (.q 15 (.q 16 (.q 17 (.q 18 (.e 19 (.q 20 (.e 21 (.e 22 (.q 23 .done)))))))))))))))))))))))) (by kernel_rfl) (by kernel_rfl) (by kernel_rfl) ?_
             refine SJ_q rfl (want_none rfl) rfl (fun _ _ => Op_move rfl) ?_
             refine SJ_q rfl (want_none rfl) rfl (fun _ _ => Op_move rfl) ?_
             refine SJ_q rfl (want_none rfl) rfl (fun _ _ => Op_move rfl) ?_
             refine SJ_q rfl (want_none rfl) rfl (fun _ _ => Op_nilCheck rfl) ?_
             refine SJ_q rfl (want_none rfl) rfl (fun _ _ => Op_fieldAddr (o' := 0) rfl Try.underlying50 rfl sz48 rfl rfl) ?_
             refine SJ_load rfl (want_none rfl) rfl rfl (load_cell Try.underlying48 rfl pkk Nth.z) ?_
             refine SJ_q rfl (want_none rfl) rfl (fun _ _ => Op_len_slice rfl Try.underlying48) ?_
             refine SJ_q rfl (want_none rfl) rfl (fun _ _ => Op_fieldAddr (o' := 3) rfl Try.underlying58 rfl sz9 rfl rfl) ?_
             refine SJ_load rfl (want_none rfl) rfl rfl (load_cell Try.underlying9 rfl pkk (Nth.s (Nth.s (Nth.s Nth.z)))) ?_
             refine SJ_q rfl (want_none rfl) rfl (fun _ _ => Op_fieldAddr (o' := 6) rfl Try.underlying31 rfl sz2 rfl rfl) ?_
             refine SJ_load rfl (want_none rfl) rfl rfl (load_cell Try.underlying2 rfl pkk (Nth.s (Nth.s (Nth.s (Nth.s (Nth.s (Nth.s Nth.z))))))) ?_
             refine SJ_q rfl (want_none rfl) rfl (fun _ _ => Op_move rfl) ?_
             refine SJ_q rfl (want_none rfl) rfl (fun _ _ => Op_fieldAddr (o' := 3) rfl Try.underlying58 rfl sz9 rfl rfl) ?_
             refine SJ_load rfl (want_none rfl) rfl rfl (load_cell Try.underlying9 rfl pkk (Nth.s (Nth.s (Nth.s Nth.z)))) ?_
             refine SJ_q rfl (want_none rfl) rfl (fun _ _ => Op_move rfl) ?_
             refine SJ_q rfl (want_none rfl) rfl (fun _ _ => Op_nilCheck rfl) ?_
             refine SJ_q rfl (want_none rfl) rfl (fun _ _ => Op_fieldAddr (o' := 0) rfl Try.underlying50 rfl sz48 rfl rfl) ?_
             refine SJ_load rfl (want_none rfl) rfl rfl (load_cell Try.underlying48 rfl pkk Nth.z) ?_
             refine SJ_q rfl (want_none rfl) rfl (fun _ _ => Op_len_slice rfl Try.underlying48) ?_
             refine SJ_p (rd' := [⟨10, _, _, _⟩, ⟨8, _, _, _⟩, ⟨5, _, _, _⟩]) [10, 8, 5] rfl (want_none rfl) rfl (Op_call (vs := [_, _, _]) Try.func18 rfl rfl (At_any b34 la lc G (by omega) okey (G.length : Nat)) rfl (.k (e := (.k (e := (Imp.refl _)))))) (by kernel_rfl) rfl ?_
             rintro _ _ ⟨_, ⟨rfl, rfl⟩, rfl⟩
             refine OS_app2 ?_
             refine ⟨⟨(load_cell Try.underlying2 rfl pkk (Nth.s (Nth.s (Nth.s (Nth.s (Nth.s (Nth.s Nth.z))))))), ⟨(load_cell Try.underlying9 rfl pkk (Nth.s (Nth.s (Nth.s Nth.z)))), ⟨(load_cell Try.underlying48 rfl pkk Nth.z), trivial⟩⟩⟩, ?_⟩
             rw [Int.toNat_natCast]
             refine SJ_q rfl (want_none rfl) rfl (fun _ _ => Op_build (vs := [_, _, _, _, _]) (cells := [_, _, _, _, _, _, _, _]) Try.underlying62 zr62 rfl pl62 (by rfl)) ?_
             refine SJ_p (rd' := []) [] rfl (want_none rfl) rfl (Op_buildRow (T := RdT) (vs := [_]) [⟨0, G.length, okey, (getN okey N0).1.token, atN G okey G.length⟩] rfl Try.underlying52 sz62 zr62 rfl rfl rfl rfl rfl (by rfl)) (by kernel_rfl) rfl ?_
             rintro _ _ ⟨g206, rfl, rfl⟩
             refine ⟨trivial, ?_⟩
             refine SJ_p (rd' := []) [] rfl (want_none rfl) rfl (Op_append (T := RdT) (news := [⟨0, G.length, okey, (getN okey N0).1.token, atN G okey G.length⟩]) rfl rfl pkk rfl (by simp) (Reads_row pkk) Try.underlying52 sz62 zr62 (by rfl) by62 (by have := hA.rl; simp [RdT]; omega) (by have := hA.rl; simp [maxLen]; omega)) (by kernel_rfl) rfl ?_
             rintro _ _ ⟨a207, c207, rfl, rfl⟩
             refine ⟨trivial, ?_⟩
             refine SJ_q rfl (want_none rfl) rfl (fun _ _ => Op_assign rfl) ?_
             refine SJ_done ?_
             refine NJ_blk ?_
             refine NJ_blk ?_
             refine NJ_then ?_
             refine CJ_env (E' := [(2, _), (7, _), (8, _), (9, _), (10, _), (12, _)]) (.cons rfl rfl (.cons rfl rfl (.cons rfl rfl (.cons rfl rfl (.cons rfl rfl (.cons rfl rfl .nil)))))) ?_
             refine CJ_region ?_
             refine RJ_q (Op_move rfl) rfl ?_
             refine RJ_q (Op_addN (j + 1) rfl rfl (by omega) (by omega)) rfl ?_
             refine RJ_q (Op_assign rfl) rfl ?_
             refine RJ_nil ?_
             have hB : SAll (G) (w0) (w1) (s) ((getN okey N0).2) (N1) (rs ++ [⟨0, G.length, okey, (getN okey N0).1.token, atN G okey G.length⟩]) (j + 1) := (hA.set0 (hA.n0.get okey)).read hA.rl rfl rfl (by show okey.size ≤ 1000; omega) (.inl ⟨rfl, get_token hA.n0.ok okey⟩)
             refine NJ_back ⟨j + 1, w0, w1, s, G, (getN okey N0).2, N1, rs ++ [⟨0, G.length, okey, (getN okey N0).1.token, atN G okey G.length⟩], a207, c207, la, lc, ⟨by omega, by omega, hB⟩, rfl, rfl, rfl⟩ (by omega) (.cons rfl (by first | rfl | (simp; done)) (.cons rfl (by first | rfl | (simp; done)) (.cons rfl (by first | rfl | (simp; done)) (.cons rfl (by first | rfl | (simp; done)) (.cons rfl (by first | rfl | (simp; done)) (.cons rfl (by first | rfl | (simp; done)) .nil)))))) (.k (e := (.k (e := (.k (e := (.k (e := (.k (e := (.k (e := (.k (e := (.k (e := skk))))))))))))))))
            ·skip
             refine RJ_nil ?_
             refine NJ_then ?_
             refine CJ_env (E' := [(2, _), (7, _), (8, _), (9, _), (10, _), (12, _), (13, _), (14, _), (15, _), (184, _)]) (.cons rfl rfl (.cons rfl rfl (.cons rfl rfl (.cons rfl rfl (.cons rfl rfl (.cons rfl rfl (.cons rfl rfl (.cons rfl rfl (.cons rfl rfl (.cons rfl rfl .nil)))))))))) ?_
             refine CJ_else rfl (decide_eq_false htk) ?_
             refine CJ_skip ?_
             refine NJ_blk ?_
             refine NJ_blk ?_
             refine NJ_then ?_
             refine CJ_env (E' := [(2, _), (7, _), (8, _), (9, _), (10, _), (12, _)]) (.cons rfl rfl (.cons rfl rfl (.cons rfl rfl (.cons rfl rfl (.cons rfl rfl (.cons rfl rfl .nil)))))) ?_
             refine CJ_region ?_
             refine RJ_q (Op_move rfl) rfl ?_
             refine RJ_q (Op_addN (j + 1) rfl rfl (by omega) (by omega)) rfl ?_
             refine RJ_q (Op_assign rfl) rfl ?_
             refine RJ_nil ?_
             have hB : SAll (G) (w0) (w1) (s) ((getN okey N0).2) (N1) (rs) (j + 1) := hA.set0 (hA.n0.get okey)
             refine NJ_back ⟨j + 1, w0, w1, s, G, (getN okey N0).2, N1, rs, ra, rc, la, lc, ⟨by omega, by omega, hB⟩, rfl, rfl, rfl⟩ (by omega) (.cons rfl (by first | rfl | (simp; done)) (.cons rfl (by first | rfl | (simp; done)) (.cons rfl (by first | rfl | (simp; done)) (.cons rfl (by first | rfl | (simp; done)) (.cons rfl (by first | rfl | (simp; done)) (.cons rfl (by first | rfl | (simp; done)) .nil)))))) (.k (e := (.k (e := (.k (e := (.k (e := (.k (e := (.k (e := (.k (e := (.k (e := skk))))))))))))))))
          ·skip
           refine SJ_p (rd' := [⟨4, _, _, _⟩, ⟨2, _, _, _⟩]) [4, 2] rfl (want_none rfl) rfl (Op_alloc zr31) (by kernel_rfl) rfl ?_
           rintro _ _ ⟨b15, rfl, rfl⟩
           refine ⟨⟨(load_cell Try.underlying9 rfl pkk (Nth.s (Nth.s (Nth.s Nth.z)))), ⟨(load_cell Try.underlying24 rfl pkk Nth.z), trivial⟩⟩, ?_⟩
           refine SJ_p (rd' := []) [] rfl (want_none rfl) rfl (Op_call (vs := [_, _]) Try.func8 rfl rfl (NdGet_any g0 N0 j hN0 (by omega) okey) rfl (.k (e := (Imp.refl _)))) (by kernel_rfl) rfl ?_
           rintro _ _ ⟨_, ⟨rfl, rfl⟩, rfl⟩
           refine OS_app1 ?_
           refine ⟨trivial, ?_⟩
           refine SJ_d0 (rd' := []) [] rfl (want_none rfl) (Op_store (cs' := #[_, _, _, _, _, _, _]) rfl rfl sz31 (by rfl) (by simp [Value.cells, Value.oneCell']) rpp rfl (free_zero _ _) (by rfl)) (by kernel_rfl) rfl trivial ?_
           refine SJ_done ?_
           refine NJ_then ?_
           refine CJ_env (E' := [(2, _), (7, _), (8, _), (9, _), (10, _), (12, _), (13, _), (14, _), (15, _)]) (.cons rfl rfl (.cons rfl rfl (.cons rfl rfl (.cons rfl rfl (.cons rfl rfl (.cons rfl rfl (.cons rfl rfl (.cons rfl rfl (.cons rfl rfl .nil))))))))) ?_
           refine CJ_seq ?_
           refine CJ_seq ?_
           refine CJ_draw (.q 0 (.q 1 (.q 2 (.q 3 (.q 4 (.q 5 (.q 6 (.q 7 (.q 8 (.q 9 (.q 10 (.q 11 (.q 12 (.q 13 (.e 14 (.e 15 (.q 16 (.q 17 .done)))))))))))))))))) (by kernel_rfl) (by kernel_rfl) (by kernel_rfl) ?_
           refine SJ_q rfl (want_none rfl) rfl (fun _ _ => Op_fieldAddr (o' := 0) rfl Try.underlying31 rfl sz3 rfl rfl) ?_
           refine SJ_load rfl (want_none rfl) rfl rfl (load_cell Try.underlying3 rfl pkk Nth.z) ?_
           refine SJ_q rfl (want_none rfl) rfl (fun _ _ => Op_eql rfl rfl) ?_
           by_cases hh : (getN okey N0).1.kind = 1
           ·skip
            obtain ⟨q, ha1, ha2, ha3⟩ := hA.n0.hit hh
            have hmx : (max (getN okey N0).1.val.asOf (w0 : Int)).toNat = max q w0 := by rw [ha1]; omega
            refine SJ_q rfl (want_none rfl) rfl (fun _ _ => Op_move rfl) ?_
            refine SJ_q rfl (want_yes (t := 167) rfl rfl rfl (decide_eq_true hh)) rfl (fun _ _ => Op_fieldAddr (o' := 1) rfl Try.underlying31 rfl sz29 rfl rfl) ?_
            refine SJ_load rfl (want_yes (t := 167) rfl rfl rfl (decide_eq_true hh)) rfl rfl (load_struct (o := 1) (vs := [_, _, _, _]) Try.underlying29 sz29 pkk (by rfl) rfl) ?_
            refine SJ_q rfl (want_yes (t := 167) rfl rfl rfl (decide_eq_true hh)) rfl (fun _ _ => Op_move rfl) ?_
            refine SJ_q rfl (want_yes (t := 167) rfl rfl rfl (decide_eq_true hh)) rfl (fun _ _ => Op_fieldAddr (o' := 3) rfl Try.underlying58 rfl sz9 rfl rfl) ?_
            refine SJ_load rfl (want_yes (t := 167) rfl rfl rfl (decide_eq_true hh)) rfl rfl (load_cell Try.underlying9 rfl pkk (Nth.s (Nth.s (Nth.s Nth.z)))) ?_
            refine SJ_q rfl (want_yes (t := 167) rfl rfl rfl (decide_eq_true hh)) rfl (fun _ _ => Op_fieldAddr (o' := 5) rfl Try.underlying31 rfl sz3 rfl rfl) ?_
            refine SJ_load rfl (want_yes (t := 167) rfl rfl rfl (decide_eq_true hh)) rfl rfl (load_cell Try.underlying3 rfl pkk (Nth.s (Nth.s (Nth.s (Nth.s (Nth.s Nth.z)))))) ?_
            refine SJ_q rfl (want_yes (t := 167) rfl rfl rfl (decide_eq_true hh)) rfl (fun _ _ => Op_move rfl) ?_
            refine SJ_q rfl (want_yes (t := 167) rfl rfl rfl (decide_eq_true hh)) rfl (fun _ _ => Op_indexArr (o' := 0) rfl rfl Try.underlying51 sz3 (by decide) (by decide) (by rfl)) ?_
            refine SJ_load rfl (want_yes (t := 167) rfl rfl rfl (decide_eq_true hh)) rfl rfl (load_cell Try.underlying3 rfl pkk Nth.z) ?_
            refine SJ_d (rd' := [⟨8, _, _, _⟩, ⟨5, _, _, _⟩]) [8, 5] rfl (want_yes (t := 167) rfl rfl rfl (decide_eq_true hh)) rfl ((Op_max rfl rfl).opD) (by kernel_rfl) rfl ⟨(load_cell Try.underlying9 rfl pkk (Nth.s (Nth.s (Nth.s Nth.z)))), ⟨(load_struct (o := 1) (vs := [_, _, _, _]) Try.underlying29 sz29 pkk (by rfl) rfl), trivial⟩⟩ ?_
            refine SJ_p (rd' := [⟨5, _, _, _⟩]) [5] rfl (want_yes (t := 167) rfl rfl rfl (decide_eq_true hh)) rfl (Op_call (vs := [_, _, _]) Try.func18 rfl rfl (At_any b34 la lc G (by omega) okey (max (getN okey N0).1.val.asOf w0)) rfl (.k (e := (.k (e := (Imp.refl _)))))) (by kernel_rfl) rfl ?_
            rintro _ _ ⟨_, ⟨rfl, rfl⟩, rfl⟩
            refine OS_app2 ?_
            refine ⟨⟨(load_struct (o := 1) (vs := [_, _, _, _]) Try.underlying29 sz29 pkk (by rfl) rfl), trivial⟩, ?_⟩
            refine SJ_q rfl (want_yes (t := 167) rfl rfl rfl (decide_eq_true hh)) rfl (fun _ _ => Op_struct_neq rfl rfl (by kernel_rfl) (EqJ_val 9997 (getN okey N0).1.val (atN G okey (max (getN okey N0).1.val.asOf w0).toNat))) ?_
            refine SJ_q rfl (want_none rfl) rfl (fun _ _ => Op_pick_t rfl (decide_eq_true hh) rfl) ?_
            refine SJ_done ?_
            refine NJ_then ?_
            refine CJ_env (E' := [(2, _), (7, _), (8, _), (9, _), (10, _), (12, _), (13, _), (14, _), (15, _), (181, _)]) (.cons rfl rfl (.cons rfl rfl (.cons rfl rfl (.cons rfl rfl (.cons rfl rfl (.cons rfl rfl (.cons rfl rfl (.cons rfl rfl (.cons rfl rfl (.cons rfl rfl .nil)))))))))) ?_
            refine CJ_else rfl (by rw [hmx, ha3]; rfl) ?_
            refine CJ_skip ?_
            refine NJ_then ?_
            refine CJ_env (E' := [(2, _), (7, _), (8, _), (9, _), (10, _), (12, _), (13, _), (14, _), (15, _)]) (.cons rfl rfl (.cons rfl rfl (.cons rfl rfl (.cons rfl rfl (.cons rfl rfl (.cons rfl rfl (.cons rfl rfl (.cons rfl rfl (.cons rfl rfl .nil))))))))) ?_
            refine CJ_seq ?_
            refine CJ_region ?_
            refine RJ_q (Op_fieldAddr (o' := 6) rfl Try.underlying31 rfl sz2 rfl rfl) rfl ?_
            refine RJ_q (Op_load rfl (load_cell Try.underlying2 rfl pkk (Nth.s (Nth.s (Nth.s (Nth.s (Nth.s (Nth.s Nth.z)))))))) rfl ?_
            refine RJ_q (Op_gtr rfl rfl) rfl ?_
            by_cases htk : 0 < (getN okey N0).1.token
            ·skip
             refine RJ_nil ?_
             refine NJ_then ?_
             refine CJ_env (E' := [(2, _), (7, _), (8, _), (9, _), (10, _), (12, _), (13, _), (14, _), (15, _), (184, _)]) (.cons rfl rfl (.cons rfl rfl (.cons rfl rfl (.cons rfl rfl (.cons rfl rfl (.cons rfl rfl (.cons rfl rfl (.cons rfl rfl (.cons rfl rfl (.cons rfl rfl .nil)))))))))) ?_
             refine CJ_then rfl (decide_eq_true htk) ?_
             refine CJ_draw (.q 0 (.q 1 (.q 2 (.q 3 (.q 4 (.q 5 (.q 6 (.q 7 (.q 8 (.q 9 (.q 10 (.q 11 (.q 12 (.q 13 (.q 14 (.q 15 (.q 16 (.q 17 (.q 18 (.e 19 (.q 20 (.e 21 (.e 22 (.q 23 .done)))))))))))))))))))))))) (by kernel_rfl) (by kernel_rfl) (by kernel_rfl) ?_
             refine SJ_q rfl (want_none rfl) rfl (fun _ _ => Op_move rfl) ?_
             refine SJ_q rfl (want_none rfl) rfl (fun _ _ => Op_move rfl) ?_
             refine SJ_q rfl (want_none rfl) rfl (fun _ _ => Op_move rfl) ?_
             refine SJ_q rfl (want_none rfl) rfl (fun _ _ => Op_nilCheck rfl) ?_
             refine SJ_q rfl (want_none rfl) rfl (fun _ _ => Op_fieldAddr (o' := 0) rfl Try.underlying50 rfl sz48 rfl rfl) ?_
             refine SJ_load rfl (want_none rfl) rfl rfl (load_cell Try.underlying48 rfl pkk Nth.z) ?_
             refine SJ_q rfl (want_none rfl) rfl (fun _ _ => Op_len_slice rfl Try.underlying48) ?_
             refine SJ_q rfl (want_none rfl) rfl (fun _ _ => Op_fieldAddr (o' := 3) rfl Try.underlying58 rfl sz9 rfl rfl) ?_
             refine SJ_load rfl (want_none rfl) rfl rfl (load_cell Try.underlying9 rfl pkk (Nth.s (Nth.s (Nth.s Nth.z)))) ?_
             refine SJ_q rfl (want_none rfl) rfl (fun _ _ => Op_fieldAddr (o' := 6) rfl Try.underlying31 rfl sz2 rfl rfl) ?_
             refine SJ_load rfl (want_none rfl) rfl rfl (load_cell Try.underlying2 rfl pkk (Nth.s (Nth.s (Nth.s (Nth.s (Nth.s (Nth.s Nth.z))))))) ?_
             refine SJ_q rfl (want_none rfl) rfl (fun _ _ => Op_move rfl) ?_
             refine SJ_q rfl (want_none rfl) rfl (fun _ _ => Op_fieldAddr (o' := 3) rfl Try.underlying58 rfl sz9 rfl rfl) ?_
             refine SJ_load rfl (want_none rfl) rfl rfl (load_cell Try.underlying9 rfl pkk (Nth.s (Nth.s (Nth.s Nth.z)))) ?_
             refine SJ_q rfl (want_none rfl) rfl (fun _ _ => Op_move rfl) ?_
             refine SJ_q rfl (want_none rfl) rfl (fun _ _ => Op_nilCheck rfl) ?_
             refine SJ_q rfl (want_none rfl) rfl (fun _ _ => Op_fieldAddr (o' := 0) rfl Try.underlying50 rfl sz48 rfl rfl) ?_
             refine SJ_load rfl (want_none rfl) rfl rfl (load_cell Try.underlying48 rfl pkk Nth.z) ?_
             refine SJ_q rfl (want_none rfl) rfl (fun _ _ => Op_len_slice rfl Try.underlying48) ?_
             refine SJ_p (rd' := [⟨10, _, _, _⟩, ⟨8, _, _, _⟩, ⟨5, _, _, _⟩]) [10, 8, 5] rfl (want_none rfl) rfl (Op_call (vs := [_, _, _]) Try.func18 rfl rfl (At_any b34 la lc G (by omega) okey (G.length : Nat)) rfl (.k (e := (.k (e := (Imp.refl _)))))) (by kernel_rfl) rfl ?_
             rintro _ _ ⟨_, ⟨rfl, rfl⟩, rfl⟩
             refine OS_app2 ?_
             refine ⟨⟨(load_cell Try.underlying2 rfl pkk (Nth.s (Nth.s (Nth.s (Nth.s (Nth.s (Nth.s Nth.z))))))), ⟨(load_cell Try.underlying9 rfl pkk (Nth.s (Nth.s (Nth.s Nth.z)))), ⟨(load_cell Try.underlying48 rfl pkk Nth.z), trivial⟩⟩⟩, ?_⟩
             rw [Int.toNat_natCast]
             refine SJ_q rfl (want_none rfl) rfl (fun _ _ => Op_build (vs := [_, _, _, _, _]) (cells := [_, _, _, _, _, _, _, _]) Try.underlying62 zr62 rfl pl62 (by rfl)) ?_
             refine SJ_p (rd' := []) [] rfl (want_none rfl) rfl (Op_buildRow (T := RdT) (vs := [_]) [⟨0, G.length, okey, (getN okey N0).1.token, atN G okey G.length⟩] rfl Try.underlying52 sz62 zr62 rfl rfl rfl rfl rfl (by rfl)) (by kernel_rfl) rfl ?_
             rintro _ _ ⟨g206, rfl, rfl⟩
             refine ⟨trivial, ?_⟩
             refine SJ_p (rd' := []) [] rfl (want_none rfl) rfl (Op_append (T := RdT) (news := [⟨0, G.length, okey, (getN okey N0).1.token, atN G okey G.length⟩]) rfl rfl pkk rfl (by simp) (Reads_row pkk) Try.underlying52 sz62 zr62 (by rfl) by62 (by have := hA.rl; simp [RdT]; omega) (by have := hA.rl; simp [maxLen]; omega)) (by kernel_rfl) rfl ?_
             rintro _ _ ⟨a207, c207, rfl, rfl⟩
             refine ⟨trivial, ?_⟩
             refine SJ_q rfl (want_none rfl) rfl (fun _ _ => Op_assign rfl) ?_
             refine SJ_done ?_
             refine NJ_blk ?_
             refine NJ_blk ?_
             refine NJ_then ?_
             refine CJ_env (E' := [(2, _), (7, _), (8, _), (9, _), (10, _), (12, _)]) (.cons rfl rfl (.cons rfl rfl (.cons rfl rfl (.cons rfl rfl (.cons rfl rfl (.cons rfl rfl .nil)))))) ?_
             refine CJ_region ?_
             refine RJ_q (Op_move rfl) rfl ?_
             refine RJ_q (Op_addN (j + 1) rfl rfl (by omega) (by omega)) rfl ?_
             refine RJ_q (Op_assign rfl) rfl ?_
             refine RJ_nil ?_
             have hB : SAll (G) (w0) (w1) (s) ((getN okey N0).2) (N1) (rs ++ [⟨0, G.length, okey, (getN okey N0).1.token, atN G okey G.length⟩]) (j + 1) := (hA.set0 (hA.n0.get okey)).read hA.rl rfl rfl (by show okey.size ≤ 1000; omega) (.inl ⟨rfl, get_token hA.n0.ok okey⟩)
             refine NJ_back ⟨j + 1, w0, w1, s, G, (getN okey N0).2, N1, rs ++ [⟨0, G.length, okey, (getN okey N0).1.token, atN G okey G.length⟩], a207, c207, la, lc, ⟨by omega, by omega, hB⟩, rfl, rfl, rfl⟩ (by omega) (.cons rfl (by first | rfl | (simp; done)) (.cons rfl (by first | rfl | (simp; done)) (.cons rfl (by first | rfl | (simp; done)) (.cons rfl (by first | rfl | (simp; done)) (.cons rfl (by first | rfl | (simp; done)) (.cons rfl (by first | rfl | (simp; done)) .nil)))))) (.k (e := (.k (e := (.k (e := (.k (e := (.k (e := (.k (e := (.k (e := (.k (e := skk))))))))))))))))
            ·skip
             refine RJ_nil ?_
             refine NJ_then ?_
             refine CJ_env (E' := [(2, _), (7, _), (8, _), (9, _), (10, _), (12, _), (13, _), (14, _), (15, _), (184, _)]) (.cons rfl rfl (.cons rfl rfl (.cons rfl rfl (.cons rfl rfl (.cons rfl rfl (.cons rfl rfl (.cons rfl rfl (.cons rfl rfl (.cons rfl rfl (.cons rfl rfl .nil)))))))))) ?_
             refine CJ_else rfl (decide_eq_false htk) ?_
             refine CJ_skip ?_
             refine NJ_blk ?_
             refine NJ_blk ?_
             refine NJ_then ?_
             refine CJ_env (E' := [(2, _), (7, _), (8, _), (9, _), (10, _), (12, _)]) (.cons rfl rfl (.cons rfl rfl (.cons rfl rfl (.cons rfl rfl (.cons rfl rfl (.cons rfl rfl .nil)))))) ?_
             refine CJ_region ?_
             refine RJ_q (Op_move rfl) rfl ?_
             refine RJ_q (Op_addN (j + 1) rfl rfl (by omega) (by omega)) rfl ?_
             refine RJ_q (Op_assign rfl) rfl ?_
             refine RJ_nil ?_
             have hB : SAll (G) (w0) (w1) (s) ((getN okey N0).2) (N1) (rs) (j + 1) := hA.set0 (hA.n0.get okey)
             refine NJ_back ⟨j + 1, w0, w1, s, G, (getN okey N0).2, N1, rs, ra, rc, la, lc, ⟨by omega, by omega, hB⟩, rfl, rfl, rfl⟩ (by omega) (.cons rfl (by first | rfl | (simp; done)) (.cons rfl (by first | rfl | (simp; done)) (.cons rfl (by first | rfl | (simp; done)) (.cons rfl (by first | rfl | (simp; done)) (.cons rfl (by first | rfl | (simp; done)) (.cons rfl (by first | rfl | (simp; done)) .nil)))))) (.k (e := (.k (e := (.k (e := (.k (e := (.k (e := (.k (e := (.k (e := (.k (e := skk))))))))))))))))
           ·skip
            refine SJ_q rfl (want_none rfl) rfl (fun _ _ => Op_move rfl) ?_
            refine SJ_no (t := 167) false rfl rfl rfl (decide_eq_false hh) (by decide) rfl ?_
            refine SJ_no (t := 167) false rfl rfl rfl (decide_eq_false hh) (by decide) rfl ?_
            refine SJ_no (t := 167) false rfl rfl rfl (decide_eq_false hh) (by decide) rfl ?_
            refine SJ_no (t := 167) false rfl rfl rfl (decide_eq_false hh) (by decide) rfl ?_
            refine SJ_no (t := 167) false rfl rfl rfl (decide_eq_false hh) (by decide) rfl ?_
            refine SJ_no (t := 167) false rfl rfl rfl (decide_eq_false hh) (by decide) rfl ?_
            refine SJ_no (t := 167) false rfl rfl rfl (decide_eq_false hh) (by decide) rfl ?_
            refine SJ_no (t := 167) false rfl rfl rfl (decide_eq_false hh) (by decide) rfl ?_
            refine SJ_no (t := 167) false rfl rfl rfl (decide_eq_false hh) (by decide) rfl ?_
            refine SJ_no (t := 167) false rfl rfl rfl (decide_eq_false hh) (by decide) rfl ?_
            refine SJ_no_e (t := 167) false (rd' := []) [] rfl rfl rfl (decide_eq_false hh) (by decide) rfl (by kernel_rfl) rfl trivial ?_
            refine SJ_no_e (t := 167) false (rd' := []) [] rfl rfl rfl (decide_eq_false hh) (by decide) rfl (by kernel_rfl) rfl trivial ?_
            refine SJ_no (t := 167) false rfl rfl rfl (decide_eq_false hh) (by decide) rfl ?_
            refine SJ_q rfl (want_none rfl) rfl (fun _ _ => Op_pick_f rfl (decide_eq_false hh) rfl) ?_
            refine SJ_done ?_
            refine NJ_then ?_
            refine CJ_env (E' := [(2, _), (7, _), (8, _), (9, _), (10, _), (12, _), (13, _), (14, _), (15, _), (181, _)]) (.cons rfl rfl (.cons rfl rfl (.cons rfl rfl (.cons rfl rfl (.cons rfl rfl (.cons rfl rfl (.cons rfl rfl (.cons rfl rfl (.cons rfl rfl (.cons rfl rfl .nil)))))))))) ?_
            refine CJ_else rfl rfl ?_
            refine CJ_skip ?_
            refine NJ_then ?_
            refine CJ_env (E' := [(2, _), (7, _), (8, _), (9, _), (10, _), (12, _), (13, _), (14, _), (15, _)]) (.cons rfl rfl (.cons rfl rfl (.cons rfl rfl (.cons rfl rfl (.cons rfl rfl (.cons rfl rfl (.cons rfl rfl (.cons rfl rfl (.cons rfl rfl .nil))))))))) ?_
            refine CJ_seq ?_
            refine CJ_region ?_
            refine RJ_q (Op_fieldAddr (o' := 6) rfl Try.underlying31 rfl sz2 rfl rfl) rfl ?_
            refine RJ_q (Op_load rfl (load_cell Try.underlying2 rfl pkk (Nth.s (Nth.s (Nth.s (Nth.s (Nth.s (Nth.s Nth.z)))))))) rfl ?_
            refine RJ_q (Op_gtr rfl rfl) rfl ?_
            by_cases htk : 0 < (getN okey N0).1.token
            ·skip
             refine RJ_nil ?_
             refine NJ_then ?_
             refine CJ_env (E' := [(2, _), (7, _), (8, _), (9, _), (10, _), (12, _), (13, _), (14, _), (15, _), (184, _)]) (.cons rfl rfl (.cons rfl rfl (.cons rfl rfl (.cons rfl rfl (.cons rfl rfl (.cons rfl rfl (.cons rfl rfl (.cons rfl rfl (.cons rfl rfl (.cons rfl rfl .nil)))))))))) ?_
             refine CJ_then rfl (decide_eq_true htk) ?_
             refine CJ_draw (.q 0 (.q 1 (.q 2 (.q 3 (.q 4 (.q 5 (.q 6 (.q 7 (.q 8 (.q 9 (.q 10 (.q 11 (.q 12 (.q 13 (.q 14 (.q 15 (.q 16 (.q 17 (.q 18 (.e 19 (.q 20 (.e 21 (.e 22 (.q 23 .done)))))))))))))))))))))))) (by kernel_rfl) (by kernel_rfl) (by kernel_rfl) ?_
             refine SJ_q rfl (want_none rfl) rfl (fun _ _ => Op_move rfl) ?_
             refine SJ_q rfl (want_none rfl) rfl (fun _ _ => Op_move rfl) ?_
             refine SJ_q rfl (want_none rfl) rfl (fun _ _ => Op_move rfl) ?_
             refine SJ_q rfl (want_none rfl) rfl (fun _ _ => Op_nilCheck rfl) ?_
             refine SJ_q rfl (want_none rfl) rfl (fun _ _ => Op_fieldAddr (o' := 0) rfl Try.underlying50 rfl sz48 rfl rfl) ?_
             refine SJ_load rfl (want_none rfl) rfl rfl (load_cell Try.underlying48 rfl pkk Nth.z) ?_
             refine SJ_q rfl (want_none rfl) rfl (fun _ _ => Op_len_slice rfl Try.underlying48) ?_
             refine SJ_q rfl (want_none rfl) rfl (fun _ _ => Op_fieldAddr (o' := 3) rfl Try.underlying58 rfl sz9 rfl rfl) ?_
             refine SJ_load rfl (want_none rfl) rfl rfl (load_cell Try.underlying9 rfl pkk (Nth.s (Nth.s (Nth.s Nth.z)))) ?_
             refine SJ_q rfl (want_none rfl) rfl (fun _ _ => Op_fieldAddr (o' := 6) rfl Try.underlying31 rfl sz2 rfl rfl) ?_
             refine SJ_load rfl (want_none rfl) rfl rfl (load_cell Try.underlying2 rfl pkk (Nth.s (Nth.s (Nth.s (Nth.s (Nth.s (Nth.s Nth.z))))))) ?_
             refine SJ_q rfl (want_none rfl) rfl (fun _ _ => Op_move rfl) ?_
             refine SJ_q rfl (want_none rfl) rfl (fun _ _ => Op_fieldAddr (o' := 3) rfl Try.underlying58 rfl sz9 rfl rfl) ?_
             refine SJ_load rfl (want_none rfl) rfl rfl (load_cell Try.underlying9 rfl pkk (Nth.s (Nth.s (Nth.s Nth.z)))) ?_
             refine SJ_q rfl (want_none rfl) rfl (fun _ _ => Op_move rfl) ?_
             refine SJ_q rfl (want_none rfl) rfl (fun _ _ => Op_nilCheck rfl) ?_
             refine SJ_q rfl (want_none rfl) rfl (fun _ _ => Op_fieldAddr (o' := 0) rfl Try.underlying50 rfl sz48 rfl rfl) ?_
             refine SJ_load rfl (want_none rfl) rfl rfl (load_cell Try.underlying48 rfl pkk Nth.z) ?_
             refine SJ_q rfl (want_none rfl) rfl (fun _ _ => Op_len_slice rfl Try.underlying48) ?_
             refine SJ_p (rd' := [⟨10, _, _, _⟩, ⟨8, _, _, _⟩, ⟨5, _, _, _⟩]) [10, 8, 5] rfl (want_none rfl) rfl (Op_call (vs := [_, _, _]) Try.func18 rfl rfl (At_any b34 la lc G (by omega) okey (G.length : Nat)) rfl (.k (e := (.k (e := (Imp.refl _)))))) (by kernel_rfl) rfl ?_
             rintro _ _ ⟨_, ⟨rfl, rfl⟩, rfl⟩
             refine OS_app2 ?_
             refine ⟨⟨(load_cell Try.underlying2 rfl pkk (Nth.s (Nth.s (Nth.s (Nth.s (Nth.s (Nth.s Nth.z))))))), ⟨(load_cell Try.underlying9 rfl pkk (Nth.s (Nth.s (Nth.s Nth.z)))), ⟨(load_cell Try.underlying48 rfl pkk Nth.z), trivial⟩⟩⟩, ?_⟩
             rw [Int.toNat_natCast]
             refine SJ_q rfl (want_none rfl) rfl (fun _ _ => Op_build (vs := [_, _, _, _, _]) (cells := [_, _, _, _, _, _, _, _]) Try.underlying62 zr62 rfl pl62 (by rfl)) ?_
             refine SJ_p (rd' := []) [] rfl (want_none rfl) rfl (Op_buildRow (T := RdT) (vs := [_]) [⟨0, G.length, okey, (getN okey N0).1.token, atN G okey G.length⟩] rfl Try.underlying52 sz62 zr62 rfl rfl rfl rfl rfl (by rfl)) (by kernel_rfl) rfl ?_
             rintro _ _ ⟨g206, rfl, rfl⟩
             refine ⟨trivial, ?_⟩
             refine SJ_p (rd' := []) [] rfl (want_none rfl) rfl (Op_append (T := RdT) (news := [⟨0, G.length, okey, (getN okey N0).1.token, atN G okey G.length⟩]) rfl rfl pkk rfl (by simp) (Reads_row pkk) Try.underlying52 sz62 zr62 (by rfl) by62 (by have := hA.rl; simp [RdT]; omega) (by have := hA.rl; simp [maxLen]; omega)) (by kernel_rfl) rfl ?_
             rintro _ _ ⟨a207, c207, rfl, rfl⟩
             refine ⟨trivial, ?_⟩
             refine SJ_q rfl (want_none rfl) rfl (fun _ _ => Op_assign rfl) ?_
             refine SJ_done ?_
             refine NJ_blk ?_
             refine NJ_blk ?_
             refine NJ_then ?_
             refine CJ_env (E' := [(2, _), (7, _), (8, _), (9, _), (10, _), (12, _)]) (.cons rfl rfl (.cons rfl rfl (.cons rfl rfl (.cons rfl rfl (.cons rfl rfl (.cons rfl rfl .nil)))))) ?_
             refine CJ_region ?_
             refine RJ_q (Op_move rfl) rfl ?_
             refine RJ_q (Op_addN (j + 1) rfl rfl (by omega) (by omega)) rfl ?_
             refine RJ_q (Op_assign rfl) rfl ?_
             refine RJ_nil ?_
             have hB : SAll (G) (w0) (w1) (s) ((getN okey N0).2) (N1) (rs ++ [⟨0, G.length, okey, (getN okey N0).1.token, atN G okey G.length⟩]) (j + 1) := (hA.set0 (hA.n0.get okey)).read hA.rl rfl rfl (by show okey.size ≤ 1000; omega) (.inl ⟨rfl, get_token hA.n0.ok okey⟩)
             refine NJ_back ⟨j + 1, w0, w1, s, G, (getN okey N0).2, N1, rs ++ [⟨0, G.length, okey, (getN okey N0).1.token, atN G okey G.length⟩], a207, c207, la, lc, ⟨by omega, by omega, hB⟩, rfl, rfl, rfl⟩ (by omega) (.cons rfl (by first | rfl | (simp; done)) (.cons rfl (by first | rfl | (simp; done)) (.cons rfl (by first | rfl | (simp; done)) (.cons rfl (by first | rfl | (simp; done)) (.cons rfl (by first | rfl | (simp; done)) (.cons rfl (by first | rfl | (simp; done)) .nil)))))) (.k (e := (.k (e := (.k (e := (.k (e := (.k (e := (.k (e := (.k (e := (.k (e := skk))))))))))))))))
            ·skip
             refine RJ_nil ?_
             refine NJ_then ?_
             refine CJ_env (E' := [(2, _), (7, _), (8, _), (9, _), (10, _), (12, _), (13, _), (14, _), (15, _), (184, _)]) (.cons rfl rfl (.cons rfl rfl (.cons rfl rfl (.cons rfl rfl (.cons rfl rfl (.cons rfl rfl (.cons rfl rfl (.cons rfl rfl (.cons rfl rfl (.cons rfl rfl .nil)))))))))) ?_
             refine CJ_else rfl (decide_eq_false htk) ?_
             refine CJ_skip ?_
             refine NJ_blk ?_
             refine NJ_blk ?_
             refine NJ_then ?_
             refine CJ_env (E' := [(2, _), (7, _), (8, _), (9, _), (10, _), (12, _)]) (.cons rfl rfl (.cons rfl rfl (.cons rfl rfl (.cons rfl rfl (.cons rfl rfl (.cons rfl rfl .nil)))))) ?_
             refine CJ_region ?_
             refine RJ_q (Op_move rfl) rfl ?_
             refine RJ_q (Op_addN (j + 1) rfl rfl (by omega) (by omega)) rfl ?_
             refine RJ_q (Op_assign rfl) rfl ?_
             refine RJ_nil ?_
             have hB : SAll (G) (w0) (w1) (s) ((getN okey N0).2) (N1) (rs) (j + 1) := hA.set0 (hA.n0.get okey)
             refine NJ_back ⟨j + 1, w0, w1, s, G, (getN okey N0).2, N1, rs, ra, rc, la, lc, ⟨by omega, by omega, hB⟩, rfl, rfl, rfl⟩ (by omega) (.cons rfl (by first | rfl | (simp; done)) (.cons rfl (by first | rfl | (simp; done)) (.cons rfl (by first | rfl | (simp; done)) (.cons rfl (by first | rfl | (simp; done)) (.cons rfl (by first | rfl | (simp; done)) (.cons rfl (by first | rfl | (simp; done)) .nil)))))) (.k (e := (.k (e := (.k (e := (.k (e := (.k (e := (.k (e := (.k (e := (.k (e := skk))))))))))))))))
         ·skip
          refine RJ_q (Op_assign rfl) rfl ?_
          refine RJ_nil ?_
          refine NJ_then ?_
          refine CJ_env (E' := [(2, _), (7, _), (8, _), (9, _), (10, _), (12, _), (13, _), (14, _), (98, _), (156, _)]) (.cons rfl rfl (.cons rfl rfl (.cons rfl rfl (.cons rfl rfl (.cons rfl rfl (.cons rfl rfl (.cons rfl rfl (.cons rfl rfl (.cons rfl rfl (.cons rfl rfl .nil)))))))))) ?_
          refine CJ_else rfl (decide_eq_false k2) ?_
          refine CJ_seq ?_
          refine CJ_region ?_
          refine RJ_q (Op_eql rfl rfl) rfl ?_
          by_cases k3 : ok = 3
          ·skip
           refine RJ_q (Op_assign rfl) rfl ?_
           refine RJ_nil ?_
           refine NJ_then ?_
           refine CJ_env (E' := [(2, _), (7, _), (8, _), (9, _), (10, _), (12, _), (13, _), (14, _), (98, _), (208, _)]) (.cons rfl rfl (.cons rfl rfl (.cons rfl rfl (.cons rfl rfl (.cons rfl rfl (.cons rfl rfl (.cons rfl rfl (.cons rfl rfl (.cons rfl rfl (.cons rfl rfl .nil)))))))))) ?_
           refine CJ_then rfl (decide_eq_true k3) ?_
           refine CJ_seq ?_
           refine CJ_region ?_
           refine RJ_q (Op_move rfl) rfl ?_
           refine RJ_q (Op_len_slice rfl Try.underlying52) rfl ?_
           refine RJ_q (Op_gtr rfl rfl) rfl ?_
           by_cases hr : 0 < (rs.length : Int)
           ·skip
            refine RJ_nil ?_
            refine NJ_then ?_
            refine CJ_env (E' := [(2, _), (7, _), (8, _), (9, _), (10, _), (12, _), (13, _), (212, _)]) (.cons rfl rfl (.cons rfl rfl (.cons rfl rfl (.cons rfl rfl (.cons rfl rfl (.cons rfl rfl (.cons rfl rfl (.cons rfl rfl .nil)))))))) ?_
            refine CJ_then rfl (decide_eq_true hr) ?_
            refine CJ_seq ?_
            refine CJ_know (Row_know (T := RdT) pkk) ?_
            intro hkn
            obtain ⟨rg, rfl⟩ := row_some hkn.2.2 (by intro e; rw [e] at hr; simp at hr)
            refine CJ_region ?_
            refine RJ_q (Op_move rfl) rfl ?_
            refine RJ_q (Op_fieldAddr (o' := 2) rfl Try.underlying58 rfl sz3 rfl rfl) rfl ?_
            refine RJ_q (Op_load rfl (load_cell Try.underlying3 rfl pkk (Nth.s (Nth.s Nth.z)))) rfl ?_
            refine RJ_q (Op_convInt rfl (by rw [Try.underlying3]; rfl) Try.underlying63) rfl ?_
            refine RJ_q (Op_move rfl) rfl ?_
            refine RJ_q (Op_len_slice rfl Try.underlying52) rfl ?_
            refine RJ_q (Op_convInt rfl (by rw [Try.underlying3]; rfl) Try.underlying63) rfl ?_
            refine RJ_q (Op_rem rfl rfl (wrap_len (by omega) (by have := hA.rl; omega))) rfl ?_
            obtain ⟨q, hq, hqe⟩ := pick_idx oi (n := rs.length) (by omega) (by have := hA.rl; omega)
            rw [hqe]
            obtain ⟨r, hrq⟩ : ∃ r, rs[q]? = some r := ⟨rs[q], List.getElem?_eq_getElem hq⟩
            have hg := hA.rg r (List.mem_of_getElem? hrq)
            have hrt : r.val.tx.size ≤ 1000 := by rw [hg.vl]; exact atN_tx hA.ts _ _
            refine RJ_q (Op_convInt64 rfl (by rw [Try.underlying63]; rfl) Try.underlying3 (by have := hA.rl; omega)) rfl ?_
            refine RJ_q (Op_indexAddr (o' := q * RdT.sz + 0) rfl rfl Try.underlying52 sz62 (by omega) (by omega) (by simp [RdT])) rfl ?_
            refine RJ_q (Op_load rfl (load_row (o := 0) (vs := [_, _, _, _, _, _, _, _]) Try.underlying62 sz62 pkk hrq rfl (by rfl))) rfl ?_
            refine RJ_p rfl (Op_alloc zr62) ?_
            rintro _ _ ⟨b16, rfl, rfl⟩
            refine RJ_d0 (Op_store (cs' := #[_, _, _, _, _, _, _, _]) rfl rfl sz62 (by rfl) (by simp [Value.cells, Value.oneCell']) rpp rfl (free_zero _ _) (by rfl)) ?_
            refine RJ_nil ?_
            refine NJ_then ?_
            refine CJ_env (E' := [(2, _), (7, _), (8, _), (9, _), (10, _), (12, _), (16, _)]) (.cons rfl rfl (.cons rfl rfl (.cons rfl rfl (.cons rfl rfl (.cons rfl rfl (.cons rfl rfl (.cons rfl rfl .nil))))))) ?_
            by_cases hrw : r.who = 1
            ·skip
             rw [hrw]
             refine CJ_draw (.q 0 (.q 1 (.q 2 (.q 3 (.q 4 (.q 5 (.q 6 (.q 7 (.q 8 (.q 9 (.q 10 (.q 11 (.e 12 .done))))))))))))) (by kernel_rfl) (by kernel_rfl) (by kernel_rfl) ?_
             refine SJ_q rfl (want_none rfl) rfl (fun _ _ => Op_fieldAddr (o' := 0) rfl Try.underlying62 rfl sz3 rfl rfl) ?_
             refine SJ_load rfl (want_none rfl) rfl rfl (load_cell Try.underlying3 rfl pkk Nth.z) ?_
             refine SJ_q rfl (want_none rfl) rfl (fun _ _ => Op_indexArr (o' := 1) rfl rfl Try.underlying46 sz24 (by decide) (by decide) (by rfl)) ?_
             refine SJ_load rfl (want_none rfl) rfl rfl (load_cell Try.underlying24 rfl pkk (Nth.s Nth.z)) ?_
             refine SJ_q rfl (want_none rfl) rfl (fun _ _ => Op_fieldAddr (o' := 2) rfl Try.underlying62 rfl sz9 rfl rfl) ?_
             refine SJ_load rfl (want_none rfl) rfl rfl (load_cell Try.underlying9 rfl pkk (Nth.s (Nth.s Nth.z))) ?_
             refine SJ_q rfl (want_none rfl) rfl (fun _ _ => Op_fieldAddr (o' := 3) rfl Try.underlying62 rfl sz2 rfl rfl) ?_
             refine SJ_load rfl (want_none rfl) rfl rfl (load_cell Try.underlying2 rfl pkk (Nth.s (Nth.s (Nth.s Nth.z)))) ?_
             refine SJ_q rfl (want_none rfl) rfl (fun _ _ => Op_fieldAddr (o' := 4) rfl Try.underlying62 rfl sz29 rfl rfl) ?_
             refine SJ_load rfl (want_none rfl) rfl rfl (load_struct (o := 4) (vs := [_, _, _, _]) Try.underlying29 sz29 pkk (by rfl) rfl) ?_
             refine SJ_q rfl (want_none rfl) rfl (fun _ _ => Op_fieldAddr (o' := 1) rfl Try.underlying62 rfl sz3 rfl rfl) ?_
             refine SJ_load rfl (want_none rfl) rfl rfl (load_cell Try.underlying3 rfl pkk (Nth.s Nth.z)) ?_
             refine SJ_p (rd' := []) [] rfl (want_none rfl) rfl (Op_call (vs := [_, _, _, _, _]) Try.func9 rfl rfl (NdFill_any g1 N1 j hN1 (by omega) r.key r.token (valAt r.val r.asOf) (by have := hg.ks; omega) (by show r.val.tx.size ≤ 10000; omega)) rfl (.k (e := (Imp.refl _)))) (by kernel_rfl) rfl ?_
             rintro _ _ ⟨_, ⟨rfl, rfl⟩, rfl⟩
             refine OS_app1 ?_
             refine ⟨trivial, ?_⟩
             refine SJ_done ?_
             refine NJ_blk ?_
             refine NJ_blk ?_
             refine NJ_then ?_
             refine CJ_env (E' := [(2, _), (7, _), (8, _), (9, _), (10, _), (12, _)]) (.cons rfl rfl (.cons rfl rfl (.cons rfl rfl (.cons rfl rfl (.cons rfl rfl (.cons rfl rfl .nil)))))) ?_
             refine CJ_region ?_
             refine RJ_q (Op_move rfl) rfl ?_
             refine RJ_q (Op_addN (j + 1) rfl rfl (by omega) (by omega)) rfl ?_
             refine RJ_q (Op_assign rfl) rfl ?_
             refine RJ_nil ?_
             have hB : SAll (G) (w0) (w1) (s) (N0) ((fillN r.key r.token (valAt r.val r.asOf) N1).2) (rs) (j + 1) := hA.set1 (hA.n1.fill (List.mem_of_getElem? hrq) hrw hg) (fill4 _ _ _ N1)
             refine NJ_back ⟨j + 1, w0, w1, s, G, N0, (fillN r.key r.token (valAt r.val r.asOf) N1).2, rs, (some rg), rc, la, lc, ⟨by omega, by omega, hB⟩, rfl, rfl, rfl⟩ (by omega) (.cons rfl (by first | rfl | (simp; done)) (.cons rfl (by first | rfl | (simp; done)) (.cons rfl (by first | rfl | (simp; done)) (.cons rfl (by first | rfl | (simp; done)) (.cons rfl (by first | rfl | (simp; done)) (.cons rfl (by first | rfl | (simp; done)) .nil)))))) (.k (e := (.k (e := (.k (e := (.k (e := (.k (e := (.k (e := (.k (e := (.k (e := skk))))))))))))))))
            ·skip
             have hrw0 : r.who = 0 := by rcases hg.wh with x | x; exact x; exact absurd x hrw
             rw [hrw0]
             refine CJ_draw (.q 0 (.q 1 (.q 2 (.q 3 (.q 4 (.q 5 (.q 6 (.q 7 (.q 8 (.q 9 (.q 10 (.q 11 (.e 12 .done))))))))))))) (by kernel_rfl) (by kernel_rfl) (by kernel_rfl) ?_
             refine SJ_q rfl (want_none rfl) rfl (fun _ _ => Op_fieldAddr (o' := 0) rfl Try.underlying62 rfl sz3 rfl rfl) ?_
             refine SJ_load rfl (want_none rfl) rfl rfl (load_cell Try.underlying3 rfl pkk Nth.z) ?_
             refine SJ_q rfl (want_none rfl) rfl (fun _ _ => Op_indexArr (o' := 0) rfl rfl Try.underlying46 sz24 (by decide) (by decide) (by rfl)) ?_
             refine SJ_load rfl (want_none rfl) rfl rfl (load_cell Try.underlying24 rfl pkk Nth.z) ?_
             refine SJ_q rfl (want_none rfl) rfl (fun _ _ => Op_fieldAddr (o' := 2) rfl Try.underlying62 rfl sz9 rfl rfl) ?_
             refine SJ_load rfl (want_none rfl) rfl rfl (load_cell Try.underlying9 rfl pkk (Nth.s (Nth.s Nth.z))) ?_
             refine SJ_q rfl (want_none rfl) rfl (fun _ _ => Op_fieldAddr (o' := 3) rfl Try.underlying62 rfl sz2 rfl rfl) ?_
             refine SJ_load rfl (want_none rfl) rfl rfl (load_cell Try.underlying2 rfl pkk (Nth.s (Nth.s (Nth.s Nth.z)))) ?_
             refine SJ_q rfl (want_none rfl) rfl (fun _ _ => Op_fieldAddr (o' := 4) rfl Try.underlying62 rfl sz29 rfl rfl) ?_
             refine SJ_load rfl (want_none rfl) rfl rfl (load_struct (o := 4) (vs := [_, _, _, _]) Try.underlying29 sz29 pkk (by rfl) rfl) ?_
             refine SJ_q rfl (want_none rfl) rfl (fun _ _ => Op_fieldAddr (o' := 1) rfl Try.underlying62 rfl sz3 rfl rfl) ?_
             refine SJ_load rfl (want_none rfl) rfl rfl (load_cell Try.underlying3 rfl pkk (Nth.s Nth.z)) ?_
             refine SJ_p (rd' := []) [] rfl (want_none rfl) rfl (Op_call (vs := [_, _, _, _, _]) Try.func9 rfl rfl (NdFill_any g0 N0 j hN0 (by omega) r.key r.token (valAt r.val r.asOf) (by have := hg.ks; omega) (by show r.val.tx.size ≤ 10000; omega)) rfl (.k (e := (Imp.refl _)))) (by kernel_rfl) rfl ?_
             rintro _ _ ⟨_, ⟨rfl, rfl⟩, rfl⟩
             refine OS_app1 ?_
             refine ⟨trivial, ?_⟩
             refine SJ_done ?_
             refine NJ_blk ?_
             refine NJ_blk ?_
             refine NJ_then ?_
             refine CJ_env (E' := [(2, _), (7, _), (8, _), (9, _), (10, _), (12, _)]) (.cons rfl rfl (.cons rfl rfl (.cons rfl rfl (.cons rfl rfl (.cons rfl rfl (.cons rfl rfl .nil)))))) ?_
             refine CJ_region ?_
             refine RJ_q (Op_move rfl) rfl ?_
             refine RJ_q (Op_addN (j + 1) rfl rfl (by omega) (by omega)) rfl ?_
             refine RJ_q (Op_assign rfl) rfl ?_
             refine RJ_nil ?_
             have hB : SAll (G) (w0) (w1) (s) ((fillN r.key r.token (valAt r.val r.asOf) N0).2) (N1) (rs) (j + 1) := hA.set0 (hA.n0.fill (List.mem_of_getElem? hrq) hrw0 hg)
             refine NJ_back ⟨j + 1, w0, w1, s, G, (fillN r.key r.token (valAt r.val r.asOf) N0).2, N1, rs, (some rg), rc, la, lc, ⟨by omega, by omega, hB⟩, rfl, rfl, rfl⟩ (by omega) (.cons rfl (by first | rfl | (simp; done)) (.cons rfl (by first | rfl | (simp; done)) (.cons rfl (by first | rfl | (simp; done)) (.cons rfl (by first | rfl | (simp; done)) (.cons rfl (by first | rfl | (simp; done)) (.cons rfl (by first | rfl | (simp; done)) .nil)))))) (.k (e := (.k (e := (.k (e := (.k (e := (.k (e := (.k (e := (.k (e := (.k (e := skk))))))))))))))))
           ·skip
            refine RJ_nil ?_
            refine NJ_then ?_
            refine CJ_env (E' := [(2, _), (7, _), (8, _), (9, _), (10, _), (12, _), (13, _), (212, _)]) (.cons rfl rfl (.cons rfl rfl (.cons rfl rfl (.cons rfl rfl (.cons rfl rfl (.cons rfl rfl (.cons rfl rfl (.cons rfl rfl .nil)))))))) ?_
            refine CJ_else rfl (decide_eq_false hr) ?_
            refine CJ_skip ?_
            refine NJ_blk ?_
            refine NJ_blk ?_
            refine NJ_then ?_
            refine CJ_env (E' := [(2, _), (7, _), (8, _), (9, _), (10, _), (12, _)]) (.cons rfl rfl (.cons rfl rfl (.cons rfl rfl (.cons rfl rfl (.cons rfl rfl (.cons rfl rfl .nil)))))) ?_
            refine CJ_region ?_
            refine RJ_q (Op_move rfl) rfl ?_
            refine RJ_q (Op_addN (j + 1) rfl rfl (by omega) (by omega)) rfl ?_
            refine RJ_q (Op_assign rfl) rfl ?_
            refine RJ_nil ?_
            have hB : SAll (G) (w0) (w1) (s) (N0) (N1) (rs) (j + 1) := hA.more
            refine NJ_back ⟨j + 1, w0, w1, s, G, N0, N1, rs, ra, rc, la, lc, ⟨by omega, by omega, hB⟩, rfl, rfl, rfl⟩ (by omega) (.cons rfl (by first | rfl | (simp; done)) (.cons rfl (by first | rfl | (simp; done)) (.cons rfl (by first | rfl | (simp; done)) (.cons rfl (by first | rfl | (simp; done)) (.cons rfl (by first | rfl | (simp; done)) (.cons rfl (by first | rfl | (simp; done)) .nil)))))) (.k (e := (.k (e := (.k (e := (.k (e := (.k (e := (.k (e := (.k (e := (.k (e := skk))))))))))))))))
          ·skip
           refine RJ_q (Op_assign rfl) rfl ?_
           refine RJ_nil ?_
           refine NJ_then ?_
           refine CJ_env (E' := [(2, _), (7, _), (8, _), (9, _), (10, _), (12, _), (13, _), (14, _), (98, _), (208, _)]) (.cons rfl rfl (.cons rfl rfl (.cons rfl rfl (.cons rfl rfl (.cons rfl rfl (.cons rfl rfl (.cons rfl rfl (.cons rfl rfl (.cons rfl rfl (.cons rfl rfl .nil)))))))))) ?_
           refine CJ_else rfl (decide_eq_false k3) ?_
           refine CJ_seq ?_
           refine CJ_region ?_
           refine RJ_q (Op_eql rfl rfl) rfl ?_
           by_cases k4 : ok = 4
           ·skip
            refine RJ_q (Op_assign rfl) rfl ?_
            refine RJ_nil ?_
            refine NJ_then ?_
            refine CJ_env (E' := [(2, _), (7, _), (8, _), (9, _), (10, _), (12, _), (13, _), (14, _), (98, _), (237, _)]) (.cons rfl rfl (.cons rfl rfl (.cons rfl rfl (.cons rfl rfl (.cons rfl rfl (.cons rfl rfl (.cons rfl rfl (.cons rfl rfl (.cons rfl rfl (.cons rfl rfl .nil)))))))))) ?_
            refine CJ_then rfl (decide_eq_true k4) ?_
            refine CJ_seq ?_
            refine CJ_region ?_
            refine RJ_q (Op_indexArr (o' := 0) rfl rfl Try.underlying46 sz24 (by decide) (by decide) (by rfl)) rfl ?_
            refine RJ_q (Op_load rfl (load_cell Try.underlying24 rfl pkk Nth.z)) rfl ?_
            refine RJ_q (Op_fieldAddr (o' := 3) rfl Try.underlying58 rfl sz9 rfl rfl) rfl ?_
            refine RJ_q (Op_load rfl (load_cell Try.underlying9 rfl pkk (Nth.s (Nth.s (Nth.s Nth.z))))) rfl ?_
            refine RJ_p rfl (Op_call (vs := [_, _]) Try.func12 rfl rfl (NdPeek_any g0 N0 okey) rfl (.k (e := (Imp.refl _)))) ?_
            rintro _ _ ⟨_, ⟨rfl, rfl⟩, rfl⟩
            refine RJ_app1 ?_
            refine RJ_q (Op_move rfl) rfl ?_
            refine RJ_q (Op_extract rfl rfl) rfl ?_
            refine RJ_q (Op_extract rfl rfl) rfl ?_
            refine RJ_q (Op_extract rfl rfl) rfl ?_
            by_cases hp : (peekN okey N0).2 = true
            ·skip
             obtain ⟨q, hq1, hq2, hq3⟩ := hA.n0.peek hp
             have hw0l := hA.n0.wl
             have hpt : (peekN okey N0).1.tx.size ≤ 1000 := by rw [hq3]; exact atN_tx hA.ts _ _
             have hwarm := hA.n1.warm hA.cd (key := okey) (a := max q w0) (v := valAt (peekN okey N0).1 (max (peekN okey N0).1.asOf w0)) (by omega) (by omega) (by rw [hq1, hq3, show max (q : Int) (w0 : Int) = ((max q w0 : Nat) : Int) by omega]; rfl)
             refine RJ_p rfl (Op_alloc zr29) ?_
             rintro _ _ ⟨b17, rfl, rfl⟩
             refine RJ_d0 (Op_store (cs' := #[_, _, _, _]) rfl rfl sz29 (by rfl) (by simp [Value.cells, Value.oneCell']) rpp rfl (free_zero _ _) (by rfl)) ?_
             refine RJ_q (Op_assign rfl) rfl ?_
             refine RJ_q (Op_assign rfl) rfl ?_
             refine RJ_nil ?_
             refine NJ_then ?_
             refine CJ_env (E' := [(2, _), (7, _), (8, _), (9, _), (10, _), (12, _), (13, _), (17, _), (18, _), (19, _)]) (.cons rfl rfl (.cons rfl rfl (.cons rfl rfl (.cons rfl rfl (.cons rfl rfl (.cons rfl rfl (.cons rfl rfl (.cons rfl rfl (.cons rfl rfl (.cons rfl rfl .nil)))))))))) ?_
             refine CJ_seq ?_
             refine CJ_region ?_
             refine RJ_q (Op_move rfl) rfl ?_
             refine RJ_nil ?_
             refine NJ_then ?_
             refine CJ_env (E' := [(2, _), (7, _), (8, _), (9, _), (10, _), (12, _), (13, _), (17, _), (18, _), (248, _)]) (.cons rfl rfl (.cons rfl rfl (.cons rfl rfl (.cons rfl rfl (.cons rfl rfl (.cons rfl rfl (.cons rfl rfl (.cons rfl rfl (.cons rfl rfl (.cons rfl rfl .nil)))))))))) ?_
             refine CJ_then rfl hp ?_
             refine CJ_region ?_
             refine RJ_q (Op_indexArr (o' := 1) rfl rfl Try.underlying46 sz24 (by decide) (by decide) (by rfl)) rfl ?_
             refine RJ_q (Op_load rfl (load_cell Try.underlying24 rfl pkk (Nth.s Nth.z))) rfl ?_
             refine RJ_q (Op_fieldAddr (o' := 3) rfl Try.underlying58 rfl sz9 rfl rfl) rfl ?_
             refine RJ_q (Op_load rfl (load_cell Try.underlying9 rfl pkk (Nth.s (Nth.s (Nth.s Nth.z))))) rfl ?_
             refine RJ_q (Op_load rfl (load_struct (o := 0) (vs := [_, _, _, _]) Try.underlying29 sz29 pkk (by rfl) rfl)) rfl ?_
             refine RJ_q (Op_move rfl) rfl ?_
             refine RJ_q (Op_indexArr (o' := 0) rfl rfl Try.underlying51 sz3 (by decide) (by decide) (by rfl)) rfl ?_
             refine RJ_q (Op_load rfl (load_cell Try.underlying3 rfl pkk Nth.z)) rfl ?_
             refine RJ_q (Op_max rfl rfl) rfl ?_
             refine RJ_p rfl (Op_call (vs := [_, _, _, _]) Try.func19 rfl rfl (NdWarm_any g1 N1 j hN1 (by omega) okey (valAt (peekN okey N0).1 (max (peekN okey N0).1.asOf w0)) (by omega) (by show (peekN okey N0).1.tx.size ≤ 10000; omega)) rfl (.k (e := (Imp.refl _)))) ?_
             rintro _ _ ⟨_, ⟨rfl, rfl⟩, rfl⟩
             refine RJ_app1 ?_
             refine RJ_nil ?_
             refine NJ_blk ?_
             refine NJ_blk ?_
             refine NJ_then ?_
             refine CJ_env (E' := [(2, _), (7, _), (8, _), (9, _), (10, _), (12, _)]) (.cons rfl rfl (.cons rfl rfl (.cons rfl rfl (.cons rfl rfl (.cons rfl rfl (.cons rfl rfl .nil)))))) ?_
             refine CJ_region ?_
             refine RJ_q (Op_move rfl) rfl ?_
             refine RJ_q (Op_addN (j + 1) rfl rfl (by omega) (by omega)) rfl ?_
             refine RJ_q (Op_assign rfl) rfl ?_
             refine RJ_nil ?_
             have hB : SAll (G) (w0) (w1) (s) (N0) ((warmN okey (valAt (peekN okey N0).1 (max (peekN okey N0).1.asOf w0)) N1).2) (rs) (j + 1) := hA.set1 hwarm (warm4 _ _ N1)
             refine NJ_back ⟨j + 1, w0, w1, s, G, N0, (warmN okey (valAt (peekN okey N0).1 (max (peekN okey N0).1.asOf w0)) N1).2, rs, ra, rc, la, lc, ⟨by omega, by omega, hB⟩, rfl, rfl, rfl⟩ (by omega) (.cons rfl (by first | rfl | (simp; done)) (.cons rfl (by first | rfl | (simp; done)) (.cons rfl (by first | rfl | (simp; done)) (.cons rfl (by first | rfl | (simp; done)) (.cons rfl (by first | rfl | (simp; done)) (.cons rfl (by first | rfl | (simp; done)) .nil)))))) (.k (e := (.k (e := (.k (e := (.k (e := (.k (e := (.k (e := (.k (e := (.k (e := skk))))))))))))))))
            ·skip
             refine RJ_p rfl (Op_alloc zr29) ?_
             rintro _ _ ⟨b17, rfl, rfl⟩
             refine RJ_d0 (Op_store (cs' := #[_, _, _, _]) rfl rfl sz29 (by rfl) (by simp [Value.cells, Value.oneCell']) rpp rfl (free_zero _ _) (by rfl)) ?_
             refine RJ_q (Op_assign rfl) rfl ?_
             refine RJ_q (Op_assign rfl) rfl ?_
             refine RJ_nil ?_
             refine NJ_then ?_
             refine CJ_env (E' := [(2, _), (7, _), (8, _), (9, _), (10, _), (12, _), (13, _), (17, _), (18, _), (19, _)]) (.cons rfl rfl (.cons rfl rfl (.cons rfl rfl (.cons rfl rfl (.cons rfl rfl (.cons rfl rfl (.cons rfl rfl (.cons rfl rfl (.cons rfl rfl (.cons rfl rfl .nil)))))))))) ?_
             refine CJ_seq ?_
             refine CJ_region ?_
             refine RJ_q (Op_move rfl) rfl ?_
             refine RJ_nil ?_
             refine NJ_then ?_
             refine CJ_env (E' := [(2, _), (7, _), (8, _), (9, _), (10, _), (12, _), (13, _), (17, _), (18, _), (248, _)]) (.cons rfl rfl (.cons rfl rfl (.cons rfl rfl (.cons rfl rfl (.cons rfl rfl (.cons rfl rfl (.cons rfl rfl (.cons rfl rfl (.cons rfl rfl (.cons rfl rfl .nil)))))))))) ?_
             refine CJ_else rfl (by simpa using hp) ?_
             refine CJ_skip ?_
             refine NJ_blk ?_
             refine NJ_blk ?_
             refine NJ_then ?_
             refine CJ_env (E' := [(2, _), (7, _), (8, _), (9, _), (10, _), (12, _)]) (.cons rfl rfl (.cons rfl rfl (.cons rfl rfl (.cons rfl rfl (.cons rfl rfl (.cons rfl rfl .nil)))))) ?_
             refine CJ_region ?_
             refine RJ_q (Op_move rfl) rfl ?_
             refine RJ_q (Op_addN (j + 1) rfl rfl (by omega) (by omega)) rfl ?_
             refine RJ_q (Op_assign rfl) rfl ?_
             refine RJ_nil ?_
             have hB : SAll (G) (w0) (w1) (s) (N0) (N1) (rs) (j + 1) := hA.more
             refine NJ_back ⟨j + 1, w0, w1, s, G, N0, N1, rs, ra, rc, la, lc, ⟨by omega, by omega, hB⟩, rfl, rfl, rfl⟩ (by omega) (.cons rfl (by first | rfl | (simp; done)) (.cons rfl (by first | rfl | (simp; done)) (.cons rfl (by first | rfl | (simp; done)) (.cons rfl (by first | rfl | (simp; done)) (.cons rfl (by first | rfl | (simp; done)) (.cons rfl (by first | rfl | (simp; done)) .nil)))))) (.k (e := (.k (e := (.k (e := (.k (e := (.k (e := (.k (e := (.k (e := (.k (e := skk))))))))))))))))
           ·skip
            refine RJ_q (Op_assign rfl) rfl ?_
            refine RJ_nil ?_
            refine NJ_then ?_
            refine CJ_env (E' := [(2, _), (7, _), (8, _), (9, _), (10, _), (12, _), (13, _), (14, _), (98, _), (237, _)]) (.cons rfl rfl (.cons rfl rfl (.cons rfl rfl (.cons rfl rfl (.cons rfl rfl (.cons rfl rfl (.cons rfl rfl (.cons rfl rfl (.cons rfl rfl (.cons rfl rfl .nil)))))))))) ?_
            refine CJ_else rfl (decide_eq_false k4) ?_
            refine CJ_seq ?_
            refine CJ_region ?_
            refine RJ_q (Op_eql rfl rfl) rfl ?_
            by_cases k5 : ok = 5
            ·skip
             refine RJ_q (Op_assign rfl) rfl ?_
             refine RJ_nil ?_
             refine NJ_then ?_
             refine CJ_env (E' := [(2, _), (7, _), (8, _), (9, _), (10, _), (12, _), (13, _), (14, _), (98, _), (259, _)]) (.cons rfl rfl (.cons rfl rfl (.cons rfl rfl (.cons rfl rfl (.cons rfl rfl (.cons rfl rfl (.cons rfl rfl (.cons rfl rfl (.cons rfl rfl (.cons rfl rfl .nil)))))))))) ?_
             refine CJ_then rfl (decide_eq_true k5) ?_
             refine CJ_region ?_
             refine RJ_q (Op_indexArr (o' := 1) rfl rfl Try.underlying46 sz24 (by decide) (by decide) (by rfl)) rfl ?_
             refine RJ_q (Op_load rfl (load_cell Try.underlying24 rfl pkk (Nth.s Nth.z))) rfl ?_
             refine RJ_q (Op_indexArr (o' := 0) rfl rfl Try.underlying51 sz3 (by decide) (by decide) (by rfl)) rfl ?_
             refine RJ_q (Op_load rfl (load_cell Try.underlying3 rfl pkk Nth.z)) rfl ?_
             refine RJ_p rfl (Op_call (vs := [_, _]) Try.func20 rfl rfl (NdPass_any g1 N1 j hN1 (by omega) w0) rfl (.k (e := (Imp.refl _)))) ?_
             rintro _ _ ⟨_, ⟨rfl, rfl⟩, rfl⟩
             refine RJ_app1 ?_
             refine RJ_nil ?_
             refine NJ_blk ?_
             refine NJ_blk ?_
             refine NJ_then ?_
             refine CJ_env (E' := [(2, _), (7, _), (8, _), (9, _), (10, _), (12, _)]) (.cons rfl rfl (.cons rfl rfl (.cons rfl rfl (.cons rfl rfl (.cons rfl rfl (.cons rfl rfl .nil)))))) ?_
             refine CJ_region ?_
             refine RJ_q (Op_move rfl) rfl ?_
             refine RJ_q (Op_addN (j + 1) rfl rfl (by omega) (by omega)) rfl ?_
             refine RJ_q (Op_assign rfl) rfl ?_
             refine RJ_nil ?_
             have hB : SAll (G) (w0) (w1) (s) (N0) (passN w0 N1) (rs) (j + 1) := hA.pass1
             refine NJ_back ⟨j + 1, w0, w1, s, G, N0, passN w0 N1, rs, ra, rc, la, lc, ⟨by omega, by omega, hB⟩, rfl, rfl, rfl⟩ (by omega) (.cons rfl (by first | rfl | (simp; done)) (.cons rfl (by first | rfl | (simp; done)) (.cons rfl (by first | rfl | (simp; done)) (.cons rfl (by first | rfl | (simp; done)) (.cons rfl (by first | rfl | (simp; done)) (.cons rfl (by first | rfl | (simp; done)) .nil)))))) (.k (e := (.k (e := (.k (e := (.k (e := (.k (e := (.k (e := (.k (e := (.k (e := skk))))))))))))))))
            ·skip
             refine RJ_q (Op_assign rfl) rfl ?_
             refine RJ_nil ?_
             refine NJ_then ?_
             refine CJ_env (E' := [(2, _), (7, _), (8, _), (9, _), (10, _), (12, _), (13, _), (14, _), (98, _), (259, _)]) (.cons rfl rfl (.cons rfl rfl (.cons rfl rfl (.cons rfl rfl (.cons rfl rfl (.cons rfl rfl (.cons rfl rfl (.cons rfl rfl (.cons rfl rfl (.cons rfl rfl .nil)))))))))) ?_
             refine CJ_else rfl (decide_eq_false k5) ?_
             refine CJ_seq ?_
             refine CJ_region ?_
             refine RJ_q (Op_eql rfl rfl) rfl ?_
             by_cases k6 : ok = 6
             ·skip
              refine RJ_q (Op_assign rfl) rfl ?_
              refine RJ_nil ?_
              refine NJ_then ?_
              refine CJ_env (E' := [(2, _), (7, _), (8, _), (9, _), (10, _), (12, _), (13, _), (14, _), (98, _), (266, _)]) (.cons rfl rfl (.cons rfl rfl (.cons rfl rfl (.cons rfl rfl (.cons rfl rfl (.cons rfl rfl (.cons rfl rfl (.cons rfl rfl (.cons rfl rfl (.cons rfl rfl .nil)))))))))) ?_
              refine CJ_then rfl (decide_eq_true k6) ?_
              refine CJ_region ?_
              refine RJ_q (Op_move rfl) rfl ?_
              refine RJ_q (Op_indexArr (o' := 0) rfl rfl Try.underlying46 sz24 (by decide) (by decide) (by rfl)) rfl ?_
              refine RJ_q (Op_load rfl (load_cell Try.underlying24 rfl pkk Nth.z)) rfl ?_
              refine RJ_p rfl (Op_call (vs := [_]) Try.func21 rfl rfl (NdTick_any g0 N0 j hN0 (by omega)) rfl (.k (e := (Imp.refl _)))) ?_
              rintro _ _ ⟨_, ⟨rfl, rfl⟩, rfl⟩
              refine RJ_app1 ?_
              refine RJ_nil ?_
              refine NJ_blk ?_
              refine NJ_blk ?_
              refine NJ_then ?_
              refine CJ_env (E' := [(2, _), (7, _), (8, _), (9, _), (10, _), (12, _)]) (.cons rfl rfl (.cons rfl rfl (.cons rfl rfl (.cons rfl rfl (.cons rfl rfl (.cons rfl rfl .nil)))))) ?_
              refine CJ_region ?_
              refine RJ_q (Op_move rfl) rfl ?_
              refine RJ_q (Op_addN (j + 1) rfl rfl (by omega) (by omega)) rfl ?_
              refine RJ_q (Op_assign rfl) rfl ?_
              refine RJ_nil ?_
              have hB : SAll (G) (w0) (w1) (s) (tickN N0) (N1) (rs) (j + 1) := hA.set0 ((hA.n0.tick).more (Nat.le_succ _))
              refine NJ_back ⟨j + 1, w0, w1, s, G, tickN N0, N1, rs, ra, rc, la, lc, ⟨by omega, by omega, hB⟩, rfl, rfl, rfl⟩ (by omega) (.cons rfl (by first | rfl | (simp; done)) (.cons rfl (by first | rfl | (simp; done)) (.cons rfl (by first | rfl | (simp; done)) (.cons rfl (by first | rfl | (simp; done)) (.cons rfl (by first | rfl | (simp; done)) (.cons rfl (by first | rfl | (simp; done)) .nil)))))) (.k (e := (.k (e := (.k (e := (.k (e := (.k (e := (.k (e := (.k (e := (.k (e := skk))))))))))))))))
             ·skip
              refine RJ_q (Op_assign rfl) rfl ?_
              refine RJ_nil ?_
              refine NJ_then ?_
              refine CJ_env (E' := [(2, _), (7, _), (8, _), (9, _), (10, _), (12, _), (13, _), (14, _), (98, _), (266, _)]) (.cons rfl rfl (.cons rfl rfl (.cons rfl rfl (.cons rfl rfl (.cons rfl rfl (.cons rfl rfl (.cons rfl rfl (.cons rfl rfl (.cons rfl rfl (.cons rfl rfl .nil)))))))))) ?_
              refine CJ_else rfl (decide_eq_false k6) ?_
              refine CJ_seq ?_
              refine CJ_region ?_
              refine RJ_q (Op_eql rfl rfl) rfl ?_
              by_cases k7 : ok = 7
              ·skip
               refine RJ_q (Op_assign rfl) rfl ?_
               refine RJ_nil ?_
               refine NJ_then ?_
               refine CJ_env (E' := [(2, _), (7, _), (8, _), (9, _), (10, _), (12, _), (13, _), (14, _), (98, _), (272, _)]) (.cons rfl rfl (.cons rfl rfl (.cons rfl rfl (.cons rfl rfl (.cons rfl rfl (.cons rfl rfl (.cons rfl rfl (.cons rfl rfl (.cons rfl rfl (.cons rfl rfl .nil)))))))))) ?_
               refine CJ_then rfl (decide_eq_true k7) ?_
               refine CJ_seq ?_
               refine CJ_region ?_
               refine RJ_q (Op_move rfl) rfl ?_
               refine RJ_q (Op_indexArr (o' := 0) rfl rfl Try.underlying46 sz24 (by decide) (by decide) (by rfl)) rfl ?_
               refine RJ_q (Op_load rfl (load_cell Try.underlying24 rfl pkk Nth.z)) rfl ?_
               refine RJ_p rfl (Op_call (vs := [_]) Try.func13 rfl rfl (NdFlush_any g0 N0 j hN0 (by omega)) rfl (.k (e := (Imp.refl _)))) ?_
               rintro _ _ ⟨_, ⟨rfl, rfl⟩, rfl⟩
               refine RJ_app1 ?_
               refine RJ_nil ?_
               refine NJ_then ?_
               refine CJ_env (E' := [(2, _), (7, _), (8, _), (9, _), (10, _), (12, _), (14, _)]) (.cons rfl rfl (.cons rfl rfl (.cons rfl rfl (.cons rfl rfl (.cons rfl rfl (.cons rfl rfl (.cons rfl rfl .nil))))))) ?_
               refine CJ_seq ?_
               refine CJ_region ?_
               refine RJ_q (Op_move rfl) rfl ?_
               refine RJ_q (Op_eql rfl rfl) rfl ?_
               refine RJ_nil ?_
               refine NJ_then ?_
               refine CJ_env (E' := [(2, _), (7, _), (8, _), (9, _), (10, _), (12, _), (279, _)]) (.cons rfl rfl (.cons rfl rfl (.cons rfl rfl (.cons rfl rfl (.cons rfl rfl (.cons rfl rfl (.cons rfl rfl .nil))))))) ?_
               refine CJ_else rfl (by rfl) ?_
               refine CJ_skip ?_
               refine NJ_blk ?_
               refine NJ_blk ?_
               refine NJ_then ?_
               refine CJ_env (E' := [(2, _), (7, _), (8, _), (9, _), (10, _), (12, _)]) (.cons rfl rfl (.cons rfl rfl (.cons rfl rfl (.cons rfl rfl (.cons rfl rfl (.cons rfl rfl .nil)))))) ?_
               refine CJ_region ?_
               refine RJ_q (Op_move rfl) rfl ?_
               refine RJ_q (Op_addN (j + 1) rfl rfl (by omega) (by omega)) rfl ?_
               refine RJ_q (Op_assign rfl) rfl ?_
               refine RJ_nil ?_
               have hB : SAll (G) (w0) (w1) (s) (flushN N0) (N1) (rs) (j + 1) := hA.set0 ((hA.n0.flush).more (Nat.le_succ _))
               refine NJ_back ⟨j + 1, w0, w1, s, G, flushN N0, N1, rs, ra, rc, la, lc, ⟨by omega, by omega, hB⟩, rfl, rfl, rfl⟩ (by omega) (.cons rfl (by first | rfl | (simp; done)) (.cons rfl (by first | rfl | (simp; done)) (.cons rfl (by first | rfl | (simp; done)) (.cons rfl (by first | rfl | (simp; done)) (.cons rfl (by first | rfl | (simp; done)) (.cons rfl (by first | rfl | (simp; done)) .nil)))))) (.k (e := (.k (e := (.k (e := (.k (e := (.k (e := (.k (e := (.k (e := (.k (e := skk))))))))))))))))
              ·skip
               refine RJ_q (Op_assign rfl) rfl ?_
               refine RJ_nil ?_
               refine NJ_then ?_
               refine CJ_env (E' := [(2, _), (7, _), (8, _), (9, _), (10, _), (12, _), (13, _), (14, _), (98, _), (272, _)]) (.cons rfl rfl (.cons rfl rfl (.cons rfl rfl (.cons rfl rfl (.cons rfl rfl (.cons rfl rfl (.cons rfl rfl (.cons rfl rfl (.cons rfl rfl (.cons rfl rfl .nil)))))))))) ?_
               refine CJ_else rfl (decide_eq_false k7) ?_
               refine CJ_seq ?_
               refine CJ_region ?_
               refine RJ_q (Op_eql rfl rfl) rfl ?_
               by_cases k8 : ok = 8
               ·skip
                refine RJ_q (Op_assign rfl) rfl ?_
                refine RJ_nil ?_
                refine NJ_then ?_
                refine CJ_env (E' := [(2, _), (7, _), (8, _), (9, _), (10, _), (12, _), (13, _), (14, _), (98, _), (285, _)]) (.cons rfl rfl (.cons rfl rfl (.cons rfl rfl (.cons rfl rfl (.cons rfl rfl (.cons rfl rfl (.cons rfl rfl (.cons rfl rfl (.cons rfl rfl (.cons rfl rfl .nil)))))))))) ?_
                refine CJ_then rfl (decide_eq_true k8) ?_
                refine CJ_draw (.q 0 (.q 1 (.q 2 (.q 3 (.q 4 (.e 5 .done)))))) (by kernel_rfl) (by kernel_rfl) (by kernel_rfl) ?_
                refine SJ_q rfl (want_none rfl) rfl (fun _ _ => Op_move rfl) ?_
                refine SJ_q rfl (want_none rfl) rfl (fun _ _ => Op_indexArr (o' := 0) rfl rfl Try.underlying46 sz24 (by decide) (by decide) (by rfl)) ?_
                refine SJ_load rfl (want_none rfl) rfl rfl (load_cell Try.underlying24 rfl pkk Nth.z) ?_
                refine SJ_q rfl (want_none rfl) rfl (fun _ _ => Op_fieldAddr (o' := 3) rfl Try.underlying58 rfl sz9 rfl rfl) ?_
                refine SJ_load rfl (want_none rfl) rfl rfl (load_cell Try.underlying9 rfl pkk (Nth.s (Nth.s (Nth.s Nth.z)))) ?_
                refine SJ_p (rd' := []) [] rfl (want_none rfl) rfl (Op_call (vs := [_, _, _, _]) Try.func10 rfl rfl (NdMark_any g0 N0 j hN0 (by omega) okey 1 1 (by omega)) rfl (.k (e := (Imp.refl _)))) (by kernel_rfl) rfl ?_
                rintro _ _ ⟨_, ⟨rfl, rfl⟩, rfl⟩
                refine OS_app1 ?_
                refine ⟨trivial, ?_⟩
                refine SJ_done ?_
                refine NJ_blk ?_
                refine NJ_blk ?_
                refine NJ_then ?_
                refine CJ_env (E' := [(2, _), (7, _), (8, _), (9, _), (10, _), (12, _)]) (.cons rfl rfl (.cons rfl rfl (.cons rfl rfl (.cons rfl rfl (.cons rfl rfl (.cons rfl rfl .nil)))))) ?_
                refine CJ_region ?_
                refine RJ_q (Op_move rfl) rfl ?_
                refine RJ_q (Op_addN (j + 1) rfl rfl (by omega) (by omega)) rfl ?_
                refine RJ_q (Op_assign rfl) rfl ?_
                refine RJ_nil ?_
                have hB : SAll (G) (w0) (w1) (s) ((markN ⟨okey, 1, 1⟩ N0).2) (N1) (rs) (j + 1) := hA.set0 ((hA.n0.mark ⟨okey, 1, 1⟩).more (Nat.le_succ _))
                refine NJ_back ⟨j + 1, w0, w1, s, G, (markN ⟨okey, 1, 1⟩ N0).2, N1, rs, ra, rc, la, lc, ⟨by omega, by omega, hB⟩, rfl, rfl, rfl⟩ (by omega) (.cons rfl (by first | rfl | (simp; done)) (.cons rfl (by first | rfl | (simp; done)) (.cons rfl (by first | rfl | (simp; done)) (.cons rfl (by first | rfl | (simp; done)) (.cons rfl (by first | rfl | (simp; done)) (.cons rfl (by first | rfl | (simp; done)) .nil)))))) (.k (e := (.k (e := (.k (e := (.k (e := (.k (e := (.k (e := (.k (e := (.k (e := skk))))))))))))))))
               ·skip
                refine RJ_q (Op_assign rfl) rfl ?_
                refine RJ_nil ?_
                refine NJ_then ?_
                refine CJ_env (E' := [(2, _), (7, _), (8, _), (9, _), (10, _), (12, _), (13, _), (14, _), (98, _), (285, _)]) (.cons rfl rfl (.cons rfl rfl (.cons rfl rfl (.cons rfl rfl (.cons rfl rfl (.cons rfl rfl (.cons rfl rfl (.cons rfl rfl (.cons rfl rfl (.cons rfl rfl .nil)))))))))) ?_
                refine CJ_else rfl (decide_eq_false k8) ?_
                refine CJ_seq ?_
                refine CJ_region ?_
                refine RJ_q (Op_eql rfl rfl) rfl ?_
                by_cases k9 : ok = 9
                ·skip
                 refine RJ_q (Op_assign rfl) rfl ?_
                 refine RJ_nil ?_
                 refine NJ_then ?_
                 refine CJ_env (E' := [(2, _), (7, _), (8, _), (9, _), (10, _), (12, _), (13, _), (14, _), (293, _)]) (.cons rfl rfl (.cons rfl rfl (.cons rfl rfl (.cons rfl rfl (.cons rfl rfl (.cons rfl rfl (.cons rfl rfl (.cons rfl rfl (.cons rfl rfl .nil))))))))) ?_
                 refine CJ_then rfl (decide_eq_true k9) ?_
                 refine CJ_draw (.q 0 (.q 1 (.q 2 (.q 3 (.q 4 (.e 5 .done)))))) (by kernel_rfl) (by kernel_rfl) (by kernel_rfl) ?_
                 refine SJ_q rfl (want_none rfl) rfl (fun _ _ => Op_move rfl) ?_
                 refine SJ_q rfl (want_none rfl) rfl (fun _ _ => Op_indexArr (o' := 0) rfl rfl Try.underlying46 sz24 (by decide) (by decide) (by rfl)) ?_
                 refine SJ_load rfl (want_none rfl) rfl rfl (load_cell Try.underlying24 rfl pkk Nth.z) ?_
                 refine SJ_q rfl (want_none rfl) rfl (fun _ _ => Op_fieldAddr (o' := 3) rfl Try.underlying58 rfl sz9 rfl rfl) ?_
                 refine SJ_load rfl (want_none rfl) rfl rfl (load_cell Try.underlying9 rfl pkk (Nth.s (Nth.s (Nth.s Nth.z)))) ?_
                 refine SJ_p (rd' := []) [] rfl (want_none rfl) rfl (Op_call (vs := [_, _, _, _]) Try.func11 rfl rfl (NdUnmark_any g0 N0 j hN0 (by omega) okey 1 1 (by omega)) rfl (.k (e := (Imp.refl _)))) (by kernel_rfl) rfl ?_
                 rintro _ _ ⟨_, ⟨rfl, rfl⟩, rfl⟩
                 refine OS_app1 ?_
                 refine ⟨trivial, ?_⟩
                 refine SJ_done ?_
                 refine NJ_blk ?_
                 refine NJ_blk ?_
                 refine NJ_then ?_
                 refine CJ_env (E' := [(2, _), (7, _), (8, _), (9, _), (10, _), (12, _)]) (.cons rfl rfl (.cons rfl rfl (.cons rfl rfl (.cons rfl rfl (.cons rfl rfl (.cons rfl rfl .nil)))))) ?_
                 refine CJ_region ?_
                 refine RJ_q (Op_move rfl) rfl ?_
                 refine RJ_q (Op_addN (j + 1) rfl rfl (by omega) (by omega)) rfl ?_
                 refine RJ_q (Op_assign rfl) rfl ?_
                 refine RJ_nil ?_
                 have hB : SAll (G) (w0) (w1) (s) ((unmarkN ⟨okey, 1, 1⟩ N0).2) (N1) (rs) (j + 1) := hA.set0 ((hA.n0.unmark ⟨okey, 1, 1⟩).more (Nat.le_succ _))
                 refine NJ_back ⟨j + 1, w0, w1, s, G, (unmarkN ⟨okey, 1, 1⟩ N0).2, N1, rs, ra, rc, la, lc, ⟨by omega, by omega, hB⟩, rfl, rfl, rfl⟩ (by omega) (.cons rfl (by first | rfl | (simp; done)) (.cons rfl (by first | rfl | (simp; done)) (.cons rfl (by first | rfl | (simp; done)) (.cons rfl (by first | rfl | (simp; done)) (.cons rfl (by first | rfl | (simp; done)) (.cons rfl (by first | rfl | (simp; done)) .nil)))))) (.k (e := (.k (e := (.k (e := (.k (e := (.k (e := (.k (e := (.k (e := (.k (e := skk))))))))))))))))
                ·skip
                 refine RJ_q (Op_assign rfl) rfl ?_
                 refine RJ_nil ?_
                 refine NJ_then ?_
                 refine CJ_env (E' := [(2, _), (7, _), (8, _), (9, _), (10, _), (12, _), (13, _), (14, _), (293, _)]) (.cons rfl rfl (.cons rfl rfl (.cons rfl rfl (.cons rfl rfl (.cons rfl rfl (.cons rfl rfl (.cons rfl rfl (.cons rfl rfl (.cons rfl rfl .nil))))))))) ?_
                 refine CJ_else rfl (decide_eq_false k9) ?_
                 refine CJ_skip ?_
                 refine NJ_blk ?_
                 refine NJ_blk ?_
                 refine NJ_then ?_
                 refine CJ_env (E' := [(2, _), (7, _), (8, _), (9, _), (10, _), (12, _)]) (.cons rfl rfl (.cons rfl rfl (.cons rfl rfl (.cons rfl rfl (.cons rfl rfl (.cons rfl rfl .nil)))))) ?_
                 refine CJ_region ?_
                 refine RJ_q (Op_move rfl) rfl ?_
                 refine RJ_q (Op_addN (j + 1) rfl rfl (by omega) (by omega)) rfl ?_
                 refine RJ_q (Op_assign rfl) rfl ?_
                 refine RJ_nil ?_
                 have hB : SAll (G) (w0) (w1) (s) (N0) (N1) (rs) (j + 1) := hA.more
                 refine NJ_back ⟨j + 1, w0, w1, s, G, N0, N1, rs, ra, rc, la, lc, ⟨by omega, by omega, hB⟩, rfl, rfl, rfl⟩ (by omega) (.cons rfl (by first | rfl | (simp; done)) (.cons rfl (by first | rfl | (simp; done)) (.cons rfl (by first | rfl | (simp; done)) (.cons rfl (by first | rfl | (simp; done)) (.cons rfl (by first | rfl | (simp; done)) (.cons rfl (by first | rfl | (simp; done)) .nil)))))) (.k (e := (.k (e := (.k (e := (.k (e := (.k (e := (.k (e := (.k (e := (.k (e := skk))))))))))))))))
   ·skip
    refine RJ_q (Op_pick_t rfl (decide_eq_true hj) rfl) rfl ?_
    refine RJ_nil ?_
    refine NJ_then ?_
    refine CJ_env (E' := [(2, _), (7, _), (8, _), (9, _), (10, _), (12, _), (77, _)]) (.cons rfl rfl (.cons rfl rfl (.cons rfl rfl (.cons rfl rfl (.cons rfl rfl (.cons rfl rfl (.cons rfl rfl .nil))))))) ?_
    refine CJ_else rfl (decide_eq_false hj2) ?_
    refine CJ_exit ?_
    refine NJ_then_x ?_
    refine NJ_then_x ?_
    refine NJ_blk_hit ?_
    refine NJ_then ?_
    refine CJ_env (E' := [(7, _), (8, _), (9, _)]) (.cons rfl rfl (.cons rfl rfl (.cons rfl rfl .nil))) ?_
    refine CJ_seq ?_
    refine CJ_seq ?_
    refine CJ_region ?_
    refine RJ_q (Op_assign rfl) rfl ?_
    refine RJ_nil ?_
    refine NJ_then ?_
    refine CJ_env (E' := [(7, _), (8, _), (9, _), (20, _)]) (.cons rfl rfl (.cons rfl rfl (.cons rfl rfl (.cons rfl rfl .nil)))) ?_
    refine CJ_block ?_
    refine CJ_loop (fun E H m => ∃ (z : Nat) (la : Option Nat), (z ≤ 2) ∧ E = [(7, .pointer (some ⟨b7, 0, none⟩)), (8, .pointer (some ⟨b34, 0, none⟩)), (9, .pointer (some ⟨b9, 0, none⟩)), (20, .int .i64 (z : Nat))] ∧ H = [pt b7 (.cells #[.pointer (some ⟨g0, 0, none⟩), .pointer (some ⟨g1, 0, none⟩)] 46 (0, 0)), NodeP g0 N0, NodeP g1 N1, LogC b34 la (G).length lc, Row EntT la lc (entsOf (G)), pt b9 (.cells #[.int .i64 w0, .int .i64 w1] 51 (0, 0)), Row RdT ra rc rs, old W] ++ R ∧ m = 2 - z) (E' := [(7, .pointer (some ⟨b7, 0, none⟩)), (8, .pointer (some ⟨b34, 0, none⟩)), (9, .pointer (some ⟨b9, 0, none⟩)), (20, .int .i64 (0 : Nat))]) (H' := [pt b7 (.cells #[.pointer (some ⟨g0, 0, none⟩), .pointer (some ⟨g1, 0, none⟩)] 46 (0, 0)), NodeP g0 N0, NodeP g1 N1, LogC b34 la (G).length lc, Row EntT la lc (entsOf (G)), pt b9 (.cells #[.int .i64 w0, .int .i64 w1] 51 (0, 0)), Row RdT ra rc rs, old W] ++ R) (m := 2 - 0) ⟨0, la, by omega, rfl, rfl, rfl⟩ (.cons rfl rfl (.cons rfl rfl (.cons rfl rfl (.cons rfl rfl .nil)))) (.k (e := (.k (e := (.k (e := (.k (e := (.k (e := (.k (e := (.k (e := (.k (e := skk)))))))))))))))) ?_
    rintro _ _ _ ⟨z, la, hz2, rfl, rfl, rfl⟩
    refine CJ_app8 ?_
    refine CJ_seq ?_
    refine CJ_seq ?_
    refine CJ_region ?_
    refine RJ_q (Op_move rfl) rfl ?_
    refine RJ_q (Op_lss rfl rfl) rfl ?_
    by_cases hz : (z : Int) < 2
    ·skip
     refine RJ_nil ?_
     refine NJ_then ?_
     refine CJ_env (E' := [(7, _), (8, _), (9, _), (20, _), (302, _)]) (.cons rfl rfl (.cons rfl rfl (.cons rfl rfl (.cons rfl rfl (.cons rfl rfl .nil))))) ?_
     refine CJ_then rfl (decide_eq_true hz) ?_
     refine CJ_skip ?_
     refine NJ_then ?_
     refine CJ_env (E' := [(7, _), (8, _), (9, _), (20, _)]) (.cons rfl rfl (.cons rfl rfl (.cons rfl rfl (.cons rfl rfl .nil)))) ?_
     refine CJ_seq ?_
     refine CJ_block ?_
     refine CJ_seq ?_
     by_cases z0 : z = 0
     ·skip
      subst z0
      refine CJ_region ?_
      refine RJ_q (Op_move rfl) rfl ?_
      refine RJ_q (Op_nilCheck rfl) rfl ?_
      refine RJ_q (Op_fieldAddr (o' := 0) rfl Try.underlying50 rfl sz48 rfl rfl) rfl ?_
      refine RJ_q (Op_load rfl (load_cell Try.underlying48 rfl pkk Nth.z)) rfl ?_
      refine RJ_q (Op_len_slice rfl Try.underlying48) rfl ?_
      refine RJ_q (Op_move rfl) rfl ?_
      refine RJ_nil ?_
      refine NJ_then ?_
      refine CJ_env (E' := [(7, _), (8, _), (9, _), (20, _), (309, _), (310, _)]) (.cons rfl rfl (.cons rfl rfl (.cons rfl rfl (.cons rfl rfl (.cons rfl rfl (.cons rfl rfl .nil)))))) ?_
      refine CJ_block ?_
      refine CJ_loop (fun E H m => ∃ (p : Nat) (la : Option Nat), (p ≤ G.length) ∧ E = [(7, .pointer (some ⟨b7, 0, none⟩)), (8, .pointer (some ⟨b34, 0, none⟩)), (9, .pointer (some ⟨b9, 0, none⟩)), (20, .int .i64 (0 : Nat)), (309, .int .i64 (G.length : Nat)), (310, .int .i64 (p : Nat))] ∧ H = [pt b7 (.cells #[.pointer (some ⟨g0, 0, none⟩), .pointer (some ⟨g1, 0, none⟩)] 46 (0, 0)), NodeP g0 N0, NodeP g1 N1, LogC b34 la (G).length lc, Row EntT la lc (entsOf (G)), pt b9 (.cells #[.int .i64 w0, .int .i64 w1] 51 (0, 0)), Row RdT ra rc rs, old W] ++ R ∧ m = G.length - p) (E' := [(7, .pointer (some ⟨b7, 0, none⟩)), (8, .pointer (some ⟨b34, 0, none⟩)), (9, .pointer (some ⟨b9, 0, none⟩)), (20, .int .i64 (0 : Nat)), (309, .int .i64 (G.length : Nat)), (310, .int .i64 (0 : Nat))]) (H' := [pt b7 (.cells #[.pointer (some ⟨g0, 0, none⟩), .pointer (some ⟨g1, 0, none⟩)] 46 (0, 0)), NodeP g0 N0, NodeP g1 N1, LogC b34 la (G).length lc, Row EntT la lc (entsOf (G)), pt b9 (.cells #[.int .i64 w0, .int .i64 w1] 51 (0, 0)), Row RdT ra rc rs, old W] ++ R) (m := G.length - 0) ⟨0, la, by omega, rfl, rfl, rfl⟩ (.cons rfl rfl (.cons rfl rfl (.cons rfl rfl (.cons rfl rfl (.cons rfl rfl (.cons rfl rfl .nil)))))) (.k (e := (.k (e := (.k (e := (.k (e := (.k (e := (.k (e := (.k (e := (.k (e := skk)))))))))))))))) ?_
      rintro _ _ _ ⟨p, la, hp0, rfl, rfl, rfl⟩
      refine CJ_app8 ?_
      refine CJ_seq ?_
      refine CJ_region ?_
      refine RJ_q (Op_lss rfl rfl) rfl ?_
      by_cases hp1 : (p : Int) < G.length
      ·skip
       refine RJ_nil ?_
       refine NJ_then ?_
       refine CJ_env (E' := [(7, _), (8, _), (9, _), (20, _), (309, _), (310, _), (311, _)]) (.cons rfl rfl (.cons rfl rfl (.cons rfl rfl (.cons rfl rfl (.cons rfl rfl (.cons rfl rfl (.cons rfl rfl .nil))))))) ?_
       refine CJ_seq ?_
       refine CJ_then rfl (decide_eq_true hp1) ?_
       refine CJ_skip ?_
       refine NJ_then ?_
       refine CJ_env (E' := [(7, _), (8, _), (9, _), (20, _), (309, _), (310, _)]) (.cons rfl rfl (.cons rfl rfl (.cons rfl rfl (.cons rfl rfl (.cons rfl rfl (.cons rfl rfl .nil)))))) ?_
       refine CJ_seq ?_
       refine CJ_block ?_
       refine CJ_seq ?_
       refine CJ_region ?_
       refine RJ_q (Op_move rfl) rfl ?_
       refine RJ_q (Op_assign rfl) rfl ?_
       refine RJ_nil ?_
       refine NJ_then ?_
       refine CJ_env (E' := [(7, _), (8, _), (9, _), (20, _), (21, _), (309, _), (310, _)]) (.cons rfl rfl (.cons rfl rfl (.cons rfl rfl (.cons rfl rfl (.cons rfl rfl (.cons rfl rfl (.cons rfl rfl .nil))))))) ?_
       refine CJ_seq ?_
       obtain ⟨e, he⟩ : ∃ e, G[p]? = some e := ⟨G[p], List.getElem?_eq_getElem (by omega)⟩
       have hent := entsOf_at he
       refine CJ_know (Row_know (T := EntT) pkk) ?_
       intro hkn
       obtain ⟨lg, rfl⟩ := row_some hkn.2.2 (by intro e; rw [e] at hent; cases hent)
       refine CJ_region ?_
       refine RJ_q (Op_move rfl) rfl ?_
       refine RJ_q (Op_nilCheck rfl) rfl ?_
       refine RJ_q (Op_fieldAddr (o' := 0) rfl Try.underlying50 rfl sz48 rfl rfl) rfl ?_
       refine RJ_q (Op_load rfl (load_cell Try.underlying48 rfl pkk Nth.z)) rfl ?_
       refine RJ_q (Op_move rfl) rfl ?_
       refine RJ_q (Op_indexAddr (o' := p * EntT.sz + 0) rfl rfl Try.underlying48 sz55 (by omega) (by omega) (by simp [EntT])) rfl ?_
       refine RJ_q (Op_fieldAddr (o' := p * EntT.sz + 4) rfl Try.underlying55 rfl sz9 rfl rfl) rfl ?_
       refine RJ_q (Op_load rfl (load_row_cell (o := 4) Try.underlying9 rfl pkk hent (Nth.s (Nth.s (Nth.s (Nth.s Nth.z)))))) rfl ?_
       refine RJ_q (Op_assign rfl) rfl ?_
       refine RJ_nil ?_
       refine NJ_then ?_
       refine CJ_env (E' := [(7, _), (8, _), (9, _), (20, _), (22, _), (309, _), (310, _)]) (.cons rfl rfl (.cons rfl rfl (.cons rfl rfl (.cons rfl rfl (.cons rfl rfl (.cons rfl rfl (.cons rfl rfl .nil))))))) ?_
       refine CJ_seq ?_
       refine CJ_region ?_
       refine RJ_q (Op_move rfl) rfl ?_
       refine RJ_q (Op_indexArr (o' := 0) rfl rfl Try.underlying46 sz24 (by decide) (by decide) (by rfl)) rfl ?_
       refine RJ_q (Op_load rfl (load_cell Try.underlying24 rfl pkk Nth.z)) rfl ?_
       refine RJ_q (Op_move rfl) rfl ?_
       refine RJ_p rfl (Op_call (vs := [_, _]) Try.func12 rfl rfl (NdPeek_any g0 N0 e.1) rfl (.k (e := (Imp.refl _)))) ?_
       rintro _ _ ⟨_, ⟨rfl, rfl⟩, rfl⟩
       refine RJ_app1 ?_
       refine RJ_q (Op_move rfl) rfl ?_
       refine RJ_q (Op_extract rfl rfl) rfl ?_
       refine RJ_q (Op_extract rfl rfl) rfl ?_
       refine RJ_q (Op_extract rfl rfl) rfl ?_
       by_cases hp : (peekN e.1 N0).2 = true
       ·skip
        obtain ⟨q, hq1, hq2, hq3⟩ := hA.n0.peek hp
        have hmx : (max (peekN e.1 N0).1.asOf (w0 : Int)).toNat = max q w0 := by rw [hq1]; omega
        refine RJ_p rfl (Op_alloc zr29) ?_
        rintro _ _ ⟨b23, rfl, rfl⟩
        refine RJ_d0 (Op_store (cs' := #[_, _, _, _]) rfl rfl sz29 (by rfl) (by simp [Value.cells, Value.oneCell']) rpp rfl (free_zero _ _) (by rfl)) ?_
        refine RJ_q (Op_assign rfl) rfl ?_
        refine RJ_q (Op_assign rfl) rfl ?_
        refine RJ_nil ?_
        refine NJ_then ?_
        refine CJ_env (E' := [(7, _), (8, _), (9, _), (20, _), (22, _), (23, _), (24, _), (25, _), (309, _), (310, _)]) (.cons rfl rfl (.cons rfl rfl (.cons rfl rfl (.cons rfl rfl (.cons rfl rfl (.cons rfl rfl (.cons rfl rfl (.cons rfl rfl (.cons rfl rfl (.cons rfl rfl .nil)))))))))) ?_
        refine CJ_seq ?_
        refine CJ_draw (.q 0 (.q 1 (.q 2 (.q 3 (.q 4 (.q 5 (.q 6 (.q 7 (.q 8 (.e 9 (.e 10 (.q 11 (.q 12 .done))))))))))))) (by kernel_rfl) (by kernel_rfl) (by kernel_rfl) ?_
        refine SJ_q rfl (want_none rfl) rfl (fun _ _ => Op_move rfl) ?_
        refine SJ_q rfl (want_none rfl) rfl (fun _ _ => Op_move rfl) ?_
        refine SJ_load rfl (want_yes (t := 331) rfl rfl rfl hp) rfl rfl (load_struct (o := 0) (vs := [_, _, _, _]) Try.underlying29 sz29 pkk (by rfl) rfl) ?_
        refine SJ_q rfl (want_yes (t := 331) rfl rfl rfl hp) rfl (fun _ _ => Op_move rfl) ?_
        refine SJ_q rfl (want_yes (t := 331) rfl rfl rfl hp) rfl (fun _ _ => Op_move rfl) ?_
        refine SJ_q rfl (want_yes (t := 331) rfl rfl rfl hp) rfl (fun _ _ => Op_move rfl) ?_
        refine SJ_q rfl (want_yes (t := 331) rfl rfl rfl hp) rfl (fun _ _ => Op_move rfl) ?_
        refine SJ_q rfl (want_yes (t := 331) rfl rfl rfl hp) rfl (fun _ _ => Op_indexArr (o' := 0) rfl rfl Try.underlying51 sz3 (by decide) (by decide) (by rfl)) ?_
        refine SJ_load rfl (want_yes (t := 331) rfl rfl rfl hp) rfl rfl (load_cell Try.underlying3 rfl pkk Nth.z) ?_
        refine SJ_d (rd' := [⟨2, _, _, _⟩]) [2] rfl (want_yes (t := 331) rfl rfl rfl hp) rfl ((Op_max rfl rfl).opD) (by kernel_rfl) rfl ⟨(load_struct (o := 0) (vs := [_, _, _, _]) Try.underlying29 sz29 pkk (by rfl) rfl), trivial⟩ ?_
        refine SJ_p (rd' := [⟨2, _, _, _⟩]) [2] rfl (want_yes (t := 331) rfl rfl rfl hp) rfl (Op_call (vs := [_, _, _]) Try.func18 rfl rfl (At_any b34 (some lg) lc G (by omega) e.1 (max (peekN e.1 N0).1.asOf w0)) rfl (.k (e := (.k (e := (Imp.refl _)))))) (by kernel_rfl) rfl ?_
        rintro _ _ ⟨_, ⟨rfl, rfl⟩, rfl⟩
        refine OS_app2 ?_
        refine ⟨⟨(load_struct (o := 0) (vs := [_, _, _, _]) Try.underlying29 sz29 pkk (by rfl) rfl), trivial⟩, ?_⟩
        refine SJ_q rfl (want_yes (t := 331) rfl rfl rfl hp) rfl (fun _ _ => Op_struct_neq rfl rfl (by kernel_rfl) (EqJ_val 9997 (peekN e.1 N0).1 (atN G e.1 (max (peekN e.1 N0).1.asOf w0).toNat))) ?_
        refine SJ_q rfl (want_none rfl) rfl (fun _ _ => Op_pick_t rfl hp rfl) ?_
        refine SJ_done ?_
        refine NJ_then ?_
        refine CJ_env (E' := [(7, _), (8, _), (9, _), (20, _), (309, _), (310, _), (342, _)]) (.cons rfl rfl (.cons rfl rfl (.cons rfl rfl (.cons rfl rfl (.cons rfl rfl (.cons rfl rfl (.cons rfl rfl .nil))))))) ?_
        refine CJ_else rfl (by rw [hmx, hq3, sameV_at]; rfl) ?_
        refine CJ_skip ?_
        refine NJ_blk ?_
        refine NJ_then ?_
        refine CJ_env (E' := [(7, _), (8, _), (9, _), (20, _), (309, _), (310, _)]) (.cons rfl rfl (.cons rfl rfl (.cons rfl rfl (.cons rfl rfl (.cons rfl rfl (.cons rfl rfl .nil)))))) ?_
        refine CJ_region ?_
        refine RJ_q (Op_addN (p + 1) rfl rfl (by omega) (by omega)) rfl ?_
        refine RJ_q (Op_move rfl) rfl ?_
        refine RJ_nil ?_
        refine NJ_back ⟨p + 1, some lg, by omega, rfl, rfl, rfl⟩ (by omega) (.cons rfl (by first | rfl | (simp; done)) (.cons rfl (by first | rfl | (simp; done)) (.cons rfl (by first | rfl | (simp; done)) (.cons rfl (by first | rfl | (simp; done)) (.cons rfl (by first | rfl | (simp; done)) (.cons rfl (by first | rfl | (simp; done)) .nil)))))) (.k (e := (.k (e := (.k (e := (.k (e := (.k (e := (.k (e := (.k (e := (.k (e := skk))))))))))))))))
       ·skip
        refine RJ_p rfl (Op_alloc zr29) ?_
        rintro _ _ ⟨b23, rfl, rfl⟩
        refine RJ_d0 (Op_store (cs' := #[_, _, _, _]) rfl rfl sz29 (by rfl) (by simp [Value.cells, Value.oneCell']) rpp rfl (free_zero _ _) (by rfl)) ?_
        refine RJ_q (Op_assign rfl) rfl ?_
        refine RJ_q (Op_assign rfl) rfl ?_
        refine RJ_nil ?_
        refine NJ_then ?_
        refine CJ_env (E' := [(7, _), (8, _), (9, _), (20, _), (22, _), (23, _), (24, _), (25, _), (309, _), (310, _)]) (.cons rfl rfl (.cons rfl rfl (.cons rfl rfl (.cons rfl rfl (.cons rfl rfl (.cons rfl rfl (.cons rfl rfl (.cons rfl rfl (.cons rfl rfl (.cons rfl rfl .nil)))))))))) ?_
        refine CJ_seq ?_
        refine CJ_draw (.q 0 (.q 1 (.q 2 (.q 3 (.q 4 (.q 5 (.q 6 (.q 7 (.q 8 (.e 9 (.e 10 (.q 11 (.q 12 .done))))))))))))) (by kernel_rfl) (by kernel_rfl) (by kernel_rfl) ?_
        refine SJ_q rfl (want_none rfl) rfl (fun _ _ => Op_move rfl) ?_
        refine SJ_q rfl (want_none rfl) rfl (fun _ _ => Op_move rfl) ?_
        refine SJ_no (t := 331) false rfl rfl rfl (by simpa using hp) (by decide) rfl ?_
        refine SJ_no (t := 331) false rfl rfl rfl (by simpa using hp) (by decide) rfl ?_
        refine SJ_no (t := 331) false rfl rfl rfl (by simpa using hp) (by decide) rfl ?_
        refine SJ_no (t := 331) false rfl rfl rfl (by simpa using hp) (by decide) rfl ?_
        refine SJ_no (t := 331) false rfl rfl rfl (by simpa using hp) (by decide) rfl ?_
        refine SJ_no (t := 331) false rfl rfl rfl (by simpa using hp) (by decide) rfl ?_
        refine SJ_no (t := 331) false rfl rfl rfl (by simpa using hp) (by decide) rfl ?_
        refine SJ_no_e (t := 331) false (rd' := []) [] rfl rfl rfl (by simpa using hp) (by decide) rfl (by kernel_rfl) rfl trivial ?_
        refine SJ_no_e (t := 331) false (rd' := []) [] rfl rfl rfl (by simpa using hp) (by decide) rfl (by kernel_rfl) rfl trivial ?_
        refine SJ_no (t := 331) false rfl rfl rfl (by simpa using hp) (by decide) rfl ?_
        refine SJ_q rfl (want_none rfl) rfl (fun _ _ => Op_pick_f rfl (by simpa using hp) rfl) ?_
        refine SJ_done ?_
        refine NJ_then ?_
        refine CJ_env (E' := [(7, _), (8, _), (9, _), (20, _), (309, _), (310, _), (342, _)]) (.cons rfl rfl (.cons rfl rfl (.cons rfl rfl (.cons rfl rfl (.cons rfl rfl (.cons rfl rfl (.cons rfl rfl .nil))))))) ?_
        refine CJ_else rfl rfl ?_
        refine CJ_skip ?_
        refine NJ_blk ?_
        refine NJ_then ?_
        refine CJ_env (E' := [(7, _), (8, _), (9, _), (20, _), (309, _), (310, _)]) (.cons rfl rfl (.cons rfl rfl (.cons rfl rfl (.cons rfl rfl (.cons rfl rfl (.cons rfl rfl .nil)))))) ?_
        refine CJ_region ?_
        refine RJ_q (Op_addN (p + 1) rfl rfl (by omega) (by omega)) rfl ?_
        refine RJ_q (Op_move rfl) rfl ?_
        refine RJ_nil ?_
        refine NJ_back ⟨p + 1, some lg, by omega, rfl, rfl, rfl⟩ (by omega) (.cons rfl (by first | rfl | (simp; done)) (.cons rfl (by first | rfl | (simp; done)) (.cons rfl (by first | rfl | (simp; done)) (.cons rfl (by first | rfl | (simp; done)) (.cons rfl (by first | rfl | (simp; done)) (.cons rfl (by first | rfl | (simp; done)) .nil)))))) (.k (e := (.k (e := (.k (e := (.k (e := (.k (e := (.k (e := (.k (e := (.k (e := skk))))))))))))))))
      ·skip
       refine RJ_nil ?_
       refine NJ_then ?_
       refine CJ_env (E' := [(7, _), (8, _), (9, _), (20, _), (309, _), (310, _), (311, _)]) (.cons rfl rfl (.cons rfl rfl (.cons rfl rfl (.cons rfl rfl (.cons rfl rfl (.cons rfl rfl (.cons rfl rfl .nil))))))) ?_
       refine CJ_seq ?_
       refine CJ_else rfl (decide_eq_false hp1) ?_
       refine CJ_exit ?_
       refine NJ_then_x ?_
       refine NJ_then_x ?_
       refine NJ_blk_hit ?_
       refine NJ_blk ?_
       refine NJ_then ?_
       refine CJ_env (E' := [(7, _), (8, _), (9, _), (20, _)]) (.cons rfl rfl (.cons rfl rfl (.cons rfl rfl (.cons rfl rfl .nil)))) ?_
       refine CJ_region ?_
       refine RJ_q (Op_move rfl) rfl ?_
       refine RJ_q (Op_addN (1) rfl rfl (by omega) (by omega)) rfl ?_
       refine RJ_q (Op_assign rfl) rfl ?_
       refine RJ_nil ?_
       refine NJ_back ⟨1, _, by omega, rfl, rfl, rfl⟩ (by omega) (.cons rfl (by first | rfl | (simp; done)) (.cons rfl (by first | rfl | (simp; done)) (.cons rfl (by first | rfl | (simp; done)) (.cons rfl (by first | rfl | (simp; done)) .nil)))) (.k (e := (.k (e := (.k (e := (.k (e := (.k (e := (.k (e := (.k (e := (.k (e := skk))))))))))))))))
     ·skip
      obtain rfl : z = 1 := by omega
      refine CJ_region ?_
      refine RJ_q (Op_move rfl) rfl ?_
      refine RJ_q (Op_nilCheck rfl) rfl ?_
      refine RJ_q (Op_fieldAddr (o' := 0) rfl Try.underlying50 rfl sz48 rfl rfl) rfl ?_
      refine RJ_q (Op_load rfl (load_cell Try.underlying48 rfl pkk Nth.z)) rfl ?_
      refine RJ_q (Op_len_slice rfl Try.underlying48) rfl ?_
      refine RJ_q (Op_move rfl) rfl ?_
      refine RJ_nil ?_
      refine NJ_then ?_
      refine CJ_env (E' := [(7, _), (8, _), (9, _), (20, _), (309, _), (310, _)]) (.cons rfl rfl (.cons rfl rfl (.cons rfl rfl (.cons rfl rfl (.cons rfl rfl (.cons rfl rfl .nil)))))) ?_
      refine CJ_block ?_
      refine CJ_loop (fun E H m => ∃ (p : Nat) (la : Option Nat), (p ≤ G.length) ∧ E = [(7, .pointer (some ⟨b7, 0, none⟩)), (8, .pointer (some ⟨b34, 0, none⟩)), (9, .pointer (some ⟨b9, 0, none⟩)), (20, .int .i64 (1 : Nat)), (309, .int .i64 (G.length : Nat)), (310, .int .i64 (p : Nat))] ∧ H = [pt b7 (.cells #[.pointer (some ⟨g0, 0, none⟩), .pointer (some ⟨g1, 0, none⟩)] 46 (0, 0)), NodeP g0 N0, NodeP g1 N1, LogC b34 la (G).length lc, Row EntT la lc (entsOf (G)), pt b9 (.cells #[.int .i64 w0, .int .i64 w1] 51 (0, 0)), Row RdT ra rc rs, old W] ++ R ∧ m = G.length - p) (E' := [(7, .pointer (some ⟨b7, 0, none⟩)), (8, .pointer (some ⟨b34, 0, none⟩)), (9, .pointer (some ⟨b9, 0, none⟩)), (20, .int .i64 (1 : Nat)), (309, .int .i64 (G.length : Nat)), (310, .int .i64 (0 : Nat))]) (H' := [pt b7 (.cells #[.pointer (some ⟨g0, 0, none⟩), .pointer (some ⟨g1, 0, none⟩)] 46 (0, 0)), NodeP g0 N0, NodeP g1 N1, LogC b34 la (G).length lc, Row EntT la lc (entsOf (G)), pt b9 (.cells #[.int .i64 w0, .int .i64 w1] 51 (0, 0)), Row RdT ra rc rs, old W] ++ R) (m := G.length - 0) ⟨0, la, by omega, rfl, rfl, rfl⟩ (.cons rfl rfl (.cons rfl rfl (.cons rfl rfl (.cons rfl rfl (.cons rfl rfl (.cons rfl rfl .nil)))))) (.k (e := (.k (e := (.k (e := (.k (e := (.k (e := (.k (e := (.k (e := (.k (e := skk)))))))))))))))) ?_
      rintro _ _ _ ⟨p, la, hp0, rfl, rfl, rfl⟩
      refine CJ_app8 ?_
      refine CJ_seq ?_
      refine CJ_region ?_
      refine RJ_q (Op_lss rfl rfl) rfl ?_
      by_cases hp1 : (p : Int) < G.length
      ·skip
       refine RJ_nil ?_
       refine NJ_then ?_
       refine CJ_env (E' := [(7, _), (8, _), (9, _), (20, _), (309, _), (310, _), (311, _)]) (.cons rfl rfl (.cons rfl rfl (.cons rfl rfl (.cons rfl rfl (.cons rfl rfl (.cons rfl rfl (.cons rfl rfl .nil))))))) ?_
       refine CJ_seq ?_
       refine CJ_then rfl (decide_eq_true hp1) ?_
       refine CJ_skip ?_
       refine NJ_then ?_
       refine CJ_env (E' := [(7, _), (8, _), (9, _), (20, _), (309, _), (310, _)]) (.cons rfl rfl (.cons rfl rfl (.cons rfl rfl (.cons rfl rfl (.cons rfl rfl (.cons rfl rfl .nil)))))) ?_
       refine CJ_seq ?_
       refine CJ_block ?_
       refine CJ_seq ?_
       refine CJ_region ?_
       refine RJ_q (Op_move rfl) rfl ?_
       refine RJ_q (Op_assign rfl) rfl ?_
       refine RJ_nil ?_
       refine NJ_then ?_
       refine CJ_env (E' := [(7, _), (8, _), (9, _), (20, _), (21, _), (309, _), (310, _)]) (.cons rfl rfl (.cons rfl rfl (.cons rfl rfl (.cons rfl rfl (.cons rfl rfl (.cons rfl rfl (.cons rfl rfl .nil))))))) ?_
       refine CJ_seq ?_
       obtain ⟨e, he⟩ : ∃ e, G[p]? = some e := ⟨G[p], List.getElem?_eq_getElem (by omega)⟩
       have hent := entsOf_at he
       refine CJ_know (Row_know (T := EntT) pkk) ?_
       intro hkn
       obtain ⟨lg, rfl⟩ := row_some hkn.2.2 (by intro e; rw [e] at hent; cases hent)
       refine CJ_region ?_
       refine RJ_q (Op_move rfl) rfl ?_
       refine RJ_q (Op_nilCheck rfl) rfl ?_
       refine RJ_q (Op_fieldAddr (o' := 0) rfl Try.underlying50 rfl sz48 rfl rfl) rfl ?_
       refine RJ_q (Op_load rfl (load_cell Try.underlying48 rfl pkk Nth.z)) rfl ?_
       refine RJ_q (Op_move rfl) rfl ?_
       refine RJ_q (Op_indexAddr (o' := p * EntT.sz + 0) rfl rfl Try.underlying48 sz55 (by omega) (by omega) (by simp [EntT])) rfl ?_
       refine RJ_q (Op_fieldAddr (o' := p * EntT.sz + 4) rfl Try.underlying55 rfl sz9 rfl rfl) rfl ?_
       refine RJ_q (Op_load rfl (load_row_cell (o := 4) Try.underlying9 rfl pkk hent (Nth.s (Nth.s (Nth.s (Nth.s Nth.z)))))) rfl ?_
       refine RJ_q (Op_assign rfl) rfl ?_
       refine RJ_nil ?_
       refine NJ_then ?_
       refine CJ_env (E' := [(7, _), (8, _), (9, _), (20, _), (22, _), (309, _), (310, _)]) (.cons rfl rfl (.cons rfl rfl (.cons rfl rfl (.cons rfl rfl (.cons rfl rfl (.cons rfl rfl (.cons rfl rfl .nil))))))) ?_
       refine CJ_seq ?_
       refine CJ_region ?_
       refine RJ_q (Op_move rfl) rfl ?_
       refine RJ_q (Op_indexArr (o' := 1) rfl rfl Try.underlying46 sz24 (by decide) (by decide) (by rfl)) rfl ?_
       refine RJ_q (Op_load rfl (load_cell Try.underlying24 rfl pkk (Nth.s Nth.z))) rfl ?_
       refine RJ_q (Op_move rfl) rfl ?_
       refine RJ_p rfl (Op_call (vs := [_, _]) Try.func12 rfl rfl (NdPeek_any g1 N1 e.1) rfl (.k (e := (Imp.refl _)))) ?_
       rintro _ _ ⟨_, ⟨rfl, rfl⟩, rfl⟩
       refine RJ_app1 ?_
       refine RJ_q (Op_move rfl) rfl ?_
       refine RJ_q (Op_extract rfl rfl) rfl ?_
       refine RJ_q (Op_extract rfl rfl) rfl ?_
       refine RJ_q (Op_extract rfl rfl) rfl ?_
       by_cases hp : (peekN e.1 N1).2 = true
       ·skip
        obtain ⟨q, hq1, hq2, hq3⟩ := hA.n1.peek hp
        have hmx : (max (peekN e.1 N1).1.asOf (w1 : Int)).toNat = max q w1 := by rw [hq1]; omega
        refine RJ_p rfl (Op_alloc zr29) ?_
        rintro _ _ ⟨b23, rfl, rfl⟩
        refine RJ_d0 (Op_store (cs' := #[_, _, _, _]) rfl rfl sz29 (by rfl) (by simp [Value.cells, Value.oneCell']) rpp rfl (free_zero _ _) (by rfl)) ?_
        refine RJ_q (Op_assign rfl) rfl ?_
        refine RJ_q (Op_assign rfl) rfl ?_
        refine RJ_nil ?_
        refine NJ_then ?_
        refine CJ_env (E' := [(7, _), (8, _), (9, _), (20, _), (22, _), (23, _), (24, _), (25, _), (309, _), (310, _)]) (.cons rfl rfl (.cons rfl rfl (.cons rfl rfl (.cons rfl rfl (.cons rfl rfl (.cons rfl rfl (.cons rfl rfl (.cons rfl rfl (.cons rfl rfl (.cons rfl rfl .nil)))))))))) ?_
        refine CJ_seq ?_
        refine CJ_draw (.q 0 (.q 1 (.q 2 (.q 3 (.q 4 (.q 5 (.q 6 (.q 7 (.q 8 (.e 9 (.e 10 (.q 11 (.q 12 .done))))))))))))) (by kernel_rfl) (by kernel_rfl) (by kernel_rfl) ?_
        refine SJ_q rfl (want_none rfl) rfl (fun _ _ => Op_move rfl) ?_
        refine SJ_q rfl (want_none rfl) rfl (fun _ _ => Op_move rfl) ?_
        refine SJ_load rfl (want_yes (t := 331) rfl rfl rfl hp) rfl rfl (load_struct (o := 0) (vs := [_, _, _, _]) Try.underlying29 sz29 pkk (by rfl) rfl) ?_
        refine SJ_q rfl (want_yes (t := 331) rfl rfl rfl hp) rfl (fun _ _ => Op_move rfl) ?_
        refine SJ_q rfl (want_yes (t := 331) rfl rfl rfl hp) rfl (fun _ _ => Op_move rfl) ?_
        refine SJ_q rfl (want_yes (t := 331) rfl rfl rfl hp) rfl (fun _ _ => Op_move rfl) ?_
        refine SJ_q rfl (want_yes (t := 331) rfl rfl rfl hp) rfl (fun _ _ => Op_move rfl) ?_
        refine SJ_q rfl (want_yes (t := 331) rfl rfl rfl hp) rfl (fun _ _ => Op_indexArr (o' := 1) rfl rfl Try.underlying51 sz3 (by decide) (by decide) (by rfl)) ?_
        refine SJ_load rfl (want_yes (t := 331) rfl rfl rfl hp) rfl rfl (load_cell Try.underlying3 rfl pkk (Nth.s Nth.z)) ?_
        refine SJ_d (rd' := [⟨2, _, _, _⟩]) [2] rfl (want_yes (t := 331) rfl rfl rfl hp) rfl ((Op_max rfl rfl).opD) (by kernel_rfl) rfl ⟨(load_struct (o := 0) (vs := [_, _, _, _]) Try.underlying29 sz29 pkk (by rfl) rfl), trivial⟩ ?_
        refine SJ_p (rd' := [⟨2, _, _, _⟩]) [2] rfl (want_yes (t := 331) rfl rfl rfl hp) rfl (Op_call (vs := [_, _, _]) Try.func18 rfl rfl (At_any b34 (some lg) lc G (by omega) e.1 (max (peekN e.1 N1).1.asOf w1)) rfl (.k (e := (.k (e := (Imp.refl _)))))) (by kernel_rfl) rfl ?_
        rintro _ _ ⟨_, ⟨rfl, rfl⟩, rfl⟩
        refine OS_app2 ?_
        refine ⟨⟨(load_struct (o := 0) (vs := [_, _, _, _]) Try.underlying29 sz29 pkk (by rfl) rfl), trivial⟩, ?_⟩
        refine SJ_q rfl (want_yes (t := 331) rfl rfl rfl hp) rfl (fun _ _ => Op_struct_neq rfl rfl (by kernel_rfl) (EqJ_val 9997 (peekN e.1 N1).1 (atN G e.1 (max (peekN e.1 N1).1.asOf w1).toNat))) ?_
        refine SJ_q rfl (want_none rfl) rfl (fun _ _ => Op_pick_t rfl hp rfl) ?_
        refine SJ_done ?_
        refine NJ_then ?_
        refine CJ_env (E' := [(7, _), (8, _), (9, _), (20, _), (309, _), (310, _), (342, _)]) (.cons rfl rfl (.cons rfl rfl (.cons rfl rfl (.cons rfl rfl (.cons rfl rfl (.cons rfl rfl (.cons rfl rfl .nil))))))) ?_
        refine CJ_else rfl (by rw [hmx, hq3, sameV_at]; rfl) ?_
        refine CJ_skip ?_
        refine NJ_blk ?_
        refine NJ_then ?_
        refine CJ_env (E' := [(7, _), (8, _), (9, _), (20, _), (309, _), (310, _)]) (.cons rfl rfl (.cons rfl rfl (.cons rfl rfl (.cons rfl rfl (.cons rfl rfl (.cons rfl rfl .nil)))))) ?_
        refine CJ_region ?_
        refine RJ_q (Op_addN (p + 1) rfl rfl (by omega) (by omega)) rfl ?_
        refine RJ_q (Op_move rfl) rfl ?_
        refine RJ_nil ?_
        refine NJ_back ⟨p + 1, some lg, by omega, rfl, rfl, rfl⟩ (by omega) (.cons rfl (by first | rfl | (simp; done)) (.cons rfl (by first | rfl | (simp; done)) (.cons rfl (by first | rfl | (simp; done)) (.cons rfl (by first | rfl | (simp; done)) (.cons rfl (by first | rfl | (simp; done)) (.cons rfl (by first | rfl | (simp; done)) .nil)))))) (.k (e := (.k (e := (.k (e := (.k (e := (.k (e := (.k (e := (.k (e := (.k (e := skk))))))))))))))))
       ·skip
        refine RJ_p rfl (Op_alloc zr29) ?_
        rintro _ _ ⟨b23, rfl, rfl⟩
        refine RJ_d0 (Op_store (cs' := #[_, _, _, _]) rfl rfl sz29 (by rfl) (by simp [Value.cells, Value.oneCell']) rpp rfl (free_zero _ _) (by rfl)) ?_
        refine RJ_q (Op_assign rfl) rfl ?_
        refine RJ_q (Op_assign rfl) rfl ?_
        refine RJ_nil ?_
        refine NJ_then ?_
        refine CJ_env (E' := [(7, _), (8, _), (9, _), (20, _), (22, _), (23, _), (24, _), (25, _), (309, _), (310, _)]) (.cons rfl rfl (.cons rfl rfl (.cons rfl rfl (.cons rfl rfl (.cons rfl rfl (.cons rfl rfl (.cons rfl rfl (.cons rfl rfl (.cons rfl rfl (.cons rfl rfl .nil)))))))))) ?_
        refine CJ_seq ?_
        refine CJ_draw (.q 0 (.q 1 (.q 2 (.q 3 (.q 4 (.q 5 (.q 6 (.q 7 (.q 8 (.e 9 (.e 10 (.q 11 (.q 12 .done))))))))))))) (by kernel_rfl) (by kernel_rfl) (by kernel_rfl) ?_
        refine SJ_q rfl (want_none rfl) rfl (fun _ _ => Op_move rfl) ?_
        refine SJ_q rfl (want_none rfl) rfl (fun _ _ => Op_move rfl) ?_
        refine SJ_no (t := 331) false rfl rfl rfl (by simpa using hp) (by decide) rfl ?_
        refine SJ_no (t := 331) false rfl rfl rfl (by simpa using hp) (by decide) rfl ?_
        refine SJ_no (t := 331) false rfl rfl rfl (by simpa using hp) (by decide) rfl ?_
        refine SJ_no (t := 331) false rfl rfl rfl (by simpa using hp) (by decide) rfl ?_
        refine SJ_no (t := 331) false rfl rfl rfl (by simpa using hp) (by decide) rfl ?_
        refine SJ_no (t := 331) false rfl rfl rfl (by simpa using hp) (by decide) rfl ?_
        refine SJ_no (t := 331) false rfl rfl rfl (by simpa using hp) (by decide) rfl ?_
        refine SJ_no_e (t := 331) false (rd' := []) [] rfl rfl rfl (by simpa using hp) (by decide) rfl (by kernel_rfl) rfl trivial ?_
        refine SJ_no_e (t := 331) false (rd' := []) [] rfl rfl rfl (by simpa using hp) (by decide) rfl (by kernel_rfl) rfl trivial ?_
        refine SJ_no (t := 331) false rfl rfl rfl (by simpa using hp) (by decide) rfl ?_
        refine SJ_q rfl (want_none rfl) rfl (fun _ _ => Op_pick_f rfl (by simpa using hp) rfl) ?_
        refine SJ_done ?_
        refine NJ_then ?_
        refine CJ_env (E' := [(7, _), (8, _), (9, _), (20, _), (309, _), (310, _), (342, _)]) (.cons rfl rfl (.cons rfl rfl (.cons rfl rfl (.cons rfl rfl (.cons rfl rfl (.cons rfl rfl (.cons rfl rfl .nil))))))) ?_
        refine CJ_else rfl rfl ?_
        refine CJ_skip ?_
        refine NJ_blk ?_
        refine NJ_then ?_
        refine CJ_env (E' := [(7, _), (8, _), (9, _), (20, _), (309, _), (310, _)]) (.cons rfl rfl (.cons rfl rfl (.cons rfl rfl (.cons rfl rfl (.cons rfl rfl (.cons rfl rfl .nil)))))) ?_
        refine CJ_region ?_
        refine RJ_q (Op_addN (p + 1) rfl rfl (by omega) (by omega)) rfl ?_
        refine RJ_q (Op_move rfl) rfl ?_
        refine RJ_nil ?_
        refine NJ_back ⟨p + 1, some lg, by omega, rfl, rfl, rfl⟩ (by omega) (.cons rfl (by first | rfl | (simp; done)) (.cons rfl (by first | rfl | (simp; done)) (.cons rfl (by first | rfl | (simp; done)) (.cons rfl (by first | rfl | (simp; done)) (.cons rfl (by first | rfl | (simp; done)) (.cons rfl (by first | rfl | (simp; done)) .nil)))))) (.k (e := (.k (e := (.k (e := (.k (e := (.k (e := (.k (e := (.k (e := (.k (e := skk))))))))))))))))
      ·skip
       refine RJ_nil ?_
       refine NJ_then ?_
       refine CJ_env (E' := [(7, _), (8, _), (9, _), (20, _), (309, _), (310, _), (311, _)]) (.cons rfl rfl (.cons rfl rfl (.cons rfl rfl (.cons rfl rfl (.cons rfl rfl (.cons rfl rfl (.cons rfl rfl .nil))))))) ?_
       refine CJ_seq ?_
       refine CJ_else rfl (decide_eq_false hp1) ?_
       refine CJ_exit ?_
       refine NJ_then_x ?_
       refine NJ_then_x ?_
       refine NJ_blk_hit ?_
       refine NJ_blk ?_
       refine NJ_then ?_
       refine CJ_env (E' := [(7, _), (8, _), (9, _), (20, _)]) (.cons rfl rfl (.cons rfl rfl (.cons rfl rfl (.cons rfl rfl .nil)))) ?_
       refine CJ_region ?_
       refine RJ_q (Op_move rfl) rfl ?_
       refine RJ_q (Op_addN (2) rfl rfl (by omega) (by omega)) rfl ?_
       refine RJ_q (Op_assign rfl) rfl ?_
       refine RJ_nil ?_
       refine NJ_back ⟨2, _, by omega, rfl, rfl, rfl⟩ (by omega) (.cons rfl (by first | rfl | (simp; done)) (.cons rfl (by first | rfl | (simp; done)) (.cons rfl (by first | rfl | (simp; done)) (.cons rfl (by first | rfl | (simp; done)) .nil)))) (.k (e := (.k (e := (.k (e := (.k (e := (.k (e := (.k (e := (.k (e := (.k (e := skk))))))))))))))))
    ·skip
     refine RJ_nil ?_
     refine NJ_then ?_
     refine CJ_env (E' := [(7, _), (8, _), (9, _), (20, _), (302, _)]) (.cons rfl rfl (.cons rfl rfl (.cons rfl rfl (.cons rfl rfl (.cons rfl rfl .nil))))) ?_
     refine CJ_else rfl (decide_eq_false hz) ?_
     refine CJ_exit ?_
     refine NJ_then_x ?_
     refine NJ_then_x ?_
     refine NJ_blk_hit ?_
     refine NJ_then ?_
     refine CJ_env (E' := []) .nil ?_
     refine CJ_seq ?_
     refine CJ_region ?_
     refine RJ_q (Op_assign rfl) rfl ?_
     refine RJ_nil ?_
     refine NJ_then ?_
     refine CJ_env (E' := [(6, _)]) (.cons rfl rfl .nil) ?_
     refine CJ_ret ?_
     refine NJ_ret (.inl rfl) Try.results5 (ResJ_tmp rfl ResJ_nil) ⟨rfl, rfl⟩ (.k (e := skk))
  ·skip
   refine RJ_q (Op_move rfl) rfl ?_
   refine RJ_no (t := 74) false rfl rfl (decide_eq_false hj) (by decide) rfl ?_
   refine RJ_no (t := 74) false rfl rfl (decide_eq_false hj) (by decide) rfl ?_
   refine RJ_q (Op_pick_f rfl (decide_eq_false hj) rfl) rfl ?_
   refine RJ_nil ?_
   refine NJ_then ?_
   refine CJ_env (E' := [(2, _), (7, _), (8, _), (9, _), (10, _), (12, _), (77, _)]) (.cons rfl rfl (.cons rfl rfl (.cons rfl rfl (.cons rfl rfl (.cons rfl rfl (.cons rfl rfl (.cons rfl rfl .nil))))))) ?_
   refine CJ_else rfl rfl ?_
   refine CJ_exit ?_
   refine NJ_then_x ?_
   refine NJ_then_x ?_
   refine NJ_blk_hit ?_
   refine NJ_then ?_
   refine CJ_env (E' := [(7, _), (8, _), (9, _)]) (.cons rfl rfl (.cons rfl rfl (.cons rfl rfl .nil))) ?_
   refine CJ_seq ?_
   refine CJ_seq ?_
   refine CJ_region ?_
   refine RJ_q (Op_assign rfl) rfl ?_
   refine RJ_nil ?_
   refine NJ_then ?_
   refine CJ_env (E' := [(7, _), (8, _), (9, _), (20, _)]) (.cons rfl rfl (.cons rfl rfl (.cons rfl rfl (.cons rfl rfl .nil)))) ?_
   refine CJ_block ?_
   refine CJ_loop (fun E H m => ∃ (z : Nat) (la : Option Nat), (z ≤ 2) ∧ E = [(7, .pointer (some ⟨b7, 0, none⟩)), (8, .pointer (some ⟨b34, 0, none⟩)), (9, .pointer (some ⟨b9, 0, none⟩)), (20, .int .i64 (z : Nat))] ∧ H = [pt b7 (.cells #[.pointer (some ⟨g0, 0, none⟩), .pointer (some ⟨g1, 0, none⟩)] 46 (0, 0)), NodeP g0 N0, NodeP g1 N1, LogC b34 la (G).length lc, Row EntT la lc (entsOf (G)), pt b9 (.cells #[.int .i64 w0, .int .i64 w1] 51 (0, 0)), Row RdT ra rc rs, old W] ++ R ∧ m = 2 - z) (E' := [(7, .pointer (some ⟨b7, 0, none⟩)), (8, .pointer (some ⟨b34, 0, none⟩)), (9, .pointer (some ⟨b9, 0, none⟩)), (20, .int .i64 (0 : Nat))]) (H' := [pt b7 (.cells #[.pointer (some ⟨g0, 0, none⟩), .pointer (some ⟨g1, 0, none⟩)] 46 (0, 0)), NodeP g0 N0, NodeP g1 N1, LogC b34 la (G).length lc, Row EntT la lc (entsOf (G)), pt b9 (.cells #[.int .i64 w0, .int .i64 w1] 51 (0, 0)), Row RdT ra rc rs, old W] ++ R) (m := 2 - 0) ⟨0, la, by omega, rfl, rfl, rfl⟩ (.cons rfl rfl (.cons rfl rfl (.cons rfl rfl (.cons rfl rfl .nil)))) (.k (e := (.k (e := (.k (e := (.k (e := (.k (e := (.k (e := (.k (e := (.k (e := skk)))))))))))))))) ?_
   rintro _ _ _ ⟨z, la, hz2, rfl, rfl, rfl⟩
   refine CJ_app8 ?_
   refine CJ_seq ?_
   refine CJ_seq ?_
   refine CJ_region ?_
   refine RJ_q (Op_move rfl) rfl ?_
   refine RJ_q (Op_lss rfl rfl) rfl ?_
   by_cases hz : (z : Int) < 2
   ·skip
    refine RJ_nil ?_
    refine NJ_then ?_
    refine CJ_env (E' := [(7, _), (8, _), (9, _), (20, _), (302, _)]) (.cons rfl rfl (.cons rfl rfl (.cons rfl rfl (.cons rfl rfl (.cons rfl rfl .nil))))) ?_
    refine CJ_then rfl (decide_eq_true hz) ?_
    refine CJ_skip ?_
    refine NJ_then ?_
    refine CJ_env (E' := [(7, _), (8, _), (9, _), (20, _)]) (.cons rfl rfl (.cons rfl rfl (.cons rfl rfl (.cons rfl rfl .nil)))) ?_
    refine CJ_seq ?_
    refine CJ_block ?_
    refine CJ_seq ?_
    by_cases z0 : z = 0
    ·skip
     subst z0
     refine CJ_region ?_
     refine RJ_q (Op_move rfl) rfl ?_
     refine RJ_q (Op_nilCheck rfl) rfl ?_
     refine RJ_q (Op_fieldAddr (o' := 0) rfl Try.underlying50 rfl sz48 rfl rfl) rfl ?_
     refine RJ_q (Op_load rfl (load_cell Try.underlying48 rfl pkk Nth.z)) rfl ?_
     refine RJ_q (Op_len_slice rfl Try.underlying48) rfl ?_
     refine RJ_q (Op_move rfl) rfl ?_
     refine RJ_nil ?_
     refine NJ_then ?_
     refine CJ_env (E' := [(7, _), (8, _), (9, _), (20, _), (309, _), (310, _)]) (.cons rfl rfl (.cons rfl rfl (.cons rfl rfl (.cons rfl rfl (.cons rfl rfl (.cons rfl rfl .nil)))))) ?_
     refine CJ_block ?_
     refine CJ_loop (fun E H m => ∃ (p : Nat) (la : Option Nat), (p ≤ G.length) ∧ E = [(7, .pointer (some ⟨b7, 0, none⟩)), (8, .pointer (some ⟨b34, 0, none⟩)), (9, .pointer (some ⟨b9, 0, none⟩)), (20, .int .i64 (0 : Nat)), (309, .int .i64 (G.length : Nat)), (310, .int .i64 (p : Nat))] ∧ H = [pt b7 (.cells #[.pointer (some ⟨g0, 0, none⟩), .pointer (some ⟨g1, 0, none⟩)] 46 (0, 0)), NodeP g0 N0, NodeP g1 N1, LogC b34 la (G).length lc, Row EntT la lc (entsOf (G)), pt b9 (.cells #[.int .i64 w0, .int .i64 w1] 51 (0, 0)), Row RdT ra rc rs, old W] ++ R ∧ m = G.length - p) (E' := [(7, .pointer (some ⟨b7, 0, none⟩)), (8, .pointer (some ⟨b34, 0, none⟩)), (9, .pointer (some ⟨b9, 0, none⟩)), (20, .int .i64 (0 : Nat)), (309, .int .i64 (G.length : Nat)), (310, .int .i64 (0 : Nat))]) (H' := [pt b7 (.cells #[.pointer (some ⟨g0, 0, none⟩), .pointer (some ⟨g1, 0, none⟩)] 46 (0, 0)), NodeP g0 N0, NodeP g1 N1, LogC b34 la (G).length lc, Row EntT la lc (entsOf (G)), pt b9 (.cells #[.int .i64 w0, .int .i64 w1] 51 (0, 0)), Row RdT ra rc rs, old W] ++ R) (m := G.length - 0) ⟨0, la, by omega, rfl, rfl, rfl⟩ (.cons rfl rfl (.cons rfl rfl (.cons rfl rfl (.cons rfl rfl (.cons rfl rfl (.cons rfl rfl .nil)))))) (.k (e := (.k (e := (.k (e := (.k (e := (.k (e := (.k (e := (.k (e := (.k (e := skk)))))))))))))))) ?_
     rintro _ _ _ ⟨p, la, hp0, rfl, rfl, rfl⟩
     refine CJ_app8 ?_
     refine CJ_seq ?_
     refine CJ_region ?_
     refine RJ_q (Op_lss rfl rfl) rfl ?_
     by_cases hp1 : (p : Int) < G.length
     ·skip
      refine RJ_nil ?_
      refine NJ_then ?_
      refine CJ_env (E' := [(7, _), (8, _), (9, _), (20, _), (309, _), (310, _), (311, _)]) (.cons rfl rfl (.cons rfl rfl (.cons rfl rfl (.cons rfl rfl (.cons rfl rfl (.cons rfl rfl (.cons rfl rfl .nil))))))) ?_
      refine CJ_seq ?_
      refine CJ_then rfl (decide_eq_true hp1) ?_
      refine CJ_skip ?_
      refine NJ_then ?_
      refine CJ_env (E' := [(7, _), (8, _), (9, _), (20, _), (309, _), (310, _)]) (.cons rfl rfl (.cons rfl rfl (.cons rfl rfl (.cons rfl rfl (.cons rfl rfl (.cons rfl rfl .nil)))))) ?_
      refine CJ_seq ?_
      refine CJ_block ?_
      refine CJ_seq ?_
      refine CJ_region ?_
      refine RJ_q (Op_move rfl) rfl ?_
      refine RJ_q (Op_assign rfl) rfl ?_
      refine RJ_nil ?_
      refine NJ_then ?_
      refine CJ_env (E' := [(7, _), (8, _), (9, _), (20, _), (21, _), (309, _), (310, _)]) (.cons rfl rfl (.cons rfl rfl (.cons rfl rfl (.cons rfl rfl (.cons rfl rfl (.cons rfl rfl (.cons rfl rfl .nil))))))) ?_
      refine CJ_seq ?_
      obtain ⟨e, he⟩ : ∃ e, G[p]? = some e := ⟨G[p], List.getElem?_eq_getElem (by omega)⟩
      have hent := entsOf_at he
      refine CJ_know (Row_know (T := EntT) pkk) ?_
      intro hkn
      obtain ⟨lg, rfl⟩ := row_some hkn.2.2 (by intro e; rw [e] at hent; cases hent)
      refine CJ_region ?_
      refine RJ_q (Op_move rfl) rfl ?_
      refine RJ_q (Op_nilCheck rfl) rfl ?_
      refine RJ_q (Op_fieldAddr (o' := 0) rfl Try.underlying50 rfl sz48 rfl rfl) rfl ?_
      refine RJ_q (Op_load rfl (load_cell Try.underlying48 rfl pkk Nth.z)) rfl ?_
      refine RJ_q (Op_move rfl) rfl ?_
      refine RJ_q (Op_indexAddr (o' := p * EntT.sz + 0) rfl rfl Try.underlying48 sz55 (by omega) (by omega) (by simp [EntT])) rfl ?_
      refine RJ_q (Op_fieldAddr (o' := p * EntT.sz + 4) rfl Try.underlying55 rfl sz9 rfl rfl) rfl ?_
      refine RJ_q (Op_load rfl (load_row_cell (o := 4) Try.underlying9 rfl pkk hent (Nth.s (Nth.s (Nth.s (Nth.s Nth.z)))))) rfl ?_
      refine RJ_q (Op_assign rfl) rfl ?_
      refine RJ_nil ?_
      refine NJ_then ?_
      refine CJ_env (E' := [(7, _), (8, _), (9, _), (20, _), (22, _), (309, _), (310, _)]) (.cons rfl rfl (.cons rfl rfl (.cons rfl rfl (.cons rfl rfl (.cons rfl rfl (.cons rfl rfl (.cons rfl rfl .nil))))))) ?_
      refine CJ_seq ?_
      refine CJ_region ?_
      refine RJ_q (Op_move rfl) rfl ?_
      refine RJ_q (Op_indexArr (o' := 0) rfl rfl Try.underlying46 sz24 (by decide) (by decide) (by rfl)) rfl ?_
      refine RJ_q (Op_load rfl (load_cell Try.underlying24 rfl pkk Nth.z)) rfl ?_
      refine RJ_q (Op_move rfl) rfl ?_
      refine RJ_p rfl (Op_call (vs := [_, _]) Try.func12 rfl rfl (NdPeek_any g0 N0 e.1) rfl (.k (e := (Imp.refl _)))) ?_
      rintro _ _ ⟨_, ⟨rfl, rfl⟩, rfl⟩
      refine RJ_app1 ?_
      refine RJ_q (Op_move rfl) rfl ?_
      refine RJ_q (Op_extract rfl rfl) rfl ?_
      refine RJ_q (Op_extract rfl rfl) rfl ?_
      refine RJ_q (Op_extract rfl rfl) rfl ?_
      by_cases hp : (peekN e.1 N0).2 = true
      ·skip
       obtain ⟨q, hq1, hq2, hq3⟩ := hA.n0.peek hp
       have hmx : (max (peekN e.1 N0).1.asOf (w0 : Int)).toNat = max q w0 := by rw [hq1]; omega
       refine RJ_p rfl (Op_alloc zr29) ?_
       rintro _ _ ⟨b23, rfl, rfl⟩
       refine RJ_d0 (Op_store (cs' := #[_, _, _, _]) rfl rfl sz29 (by rfl) (by simp [Value.cells, Value.oneCell']) rpp rfl (free_zero _ _) (by rfl)) ?_
       refine RJ_q (Op_assign rfl) rfl ?_
       refine RJ_q (Op_assign rfl) rfl ?_
       refine RJ_nil ?_
       refine NJ_then ?_
       refine CJ_env (E' := [(7, _), (8, _), (9, _), (20, _), (22, _), (23, _), (24, _), (25, _), (309, _), (310, _)]) (.cons rfl rfl (.cons rfl rfl (.cons rfl rfl (.cons rfl rfl (.cons rfl rfl (.cons rfl rfl (.cons rfl rfl (.cons rfl rfl (.cons rfl rfl (.cons rfl rfl .nil)))))))))) ?_
       refine CJ_seq ?_
       refine CJ_draw (.q 0 (.q 1 (.q 2 (.q 3 (.q 4 (.q 5 (.q 6 (.q 7 (.q 8 (.e 9 (.e 10 (.q 11 (.q 12 .done))))))))))))) (by kernel_rfl) (by kernel_rfl) (by kernel_rfl) ?_
       refine SJ_q rfl (want_none rfl) rfl (fun _ _ => Op_move rfl) ?_
       refine SJ_q rfl (want_none rfl) rfl (fun _ _ => Op_move rfl) ?_
       refine SJ_load rfl (want_yes (t := 331) rfl rfl rfl hp) rfl rfl (load_struct (o := 0) (vs := [_, _, _, _]) Try.underlying29 sz29 pkk (by rfl) rfl) ?_
       refine SJ_q rfl (want_yes (t := 331) rfl rfl rfl hp) rfl (fun _ _ => Op_move rfl) ?_
       refine SJ_q rfl (want_yes (t := 331) rfl rfl rfl hp) rfl (fun _ _ => Op_move rfl) ?_
       refine SJ_q rfl (want_yes (t := 331) rfl rfl rfl hp) rfl (fun _ _ => Op_move rfl) ?_
       refine SJ_q rfl (want_yes (t := 331) rfl rfl rfl hp) rfl (fun _ _ => Op_move rfl) ?_
       refine SJ_q rfl (want_yes (t := 331) rfl rfl rfl hp) rfl (fun _ _ => Op_indexArr (o' := 0) rfl rfl Try.underlying51 sz3 (by decide) (by decide) (by rfl)) ?_
       refine SJ_load rfl (want_yes (t := 331) rfl rfl rfl hp) rfl rfl (load_cell Try.underlying3 rfl pkk Nth.z) ?_
       refine SJ_d (rd' := [⟨2, _, _, _⟩]) [2] rfl (want_yes (t := 331) rfl rfl rfl hp) rfl ((Op_max rfl rfl).opD) (by kernel_rfl) rfl ⟨(load_struct (o := 0) (vs := [_, _, _, _]) Try.underlying29 sz29 pkk (by rfl) rfl), trivial⟩ ?_
       refine SJ_p (rd' := [⟨2, _, _, _⟩]) [2] rfl (want_yes (t := 331) rfl rfl rfl hp) rfl (Op_call (vs := [_, _, _]) Try.func18 rfl rfl (At_any b34 (some lg) lc G (by omega) e.1 (max (peekN e.1 N0).1.asOf w0)) rfl (.k (e := (.k (e := (Imp.refl _)))))) (by kernel_rfl) rfl ?_
       rintro _ _ ⟨_, ⟨rfl, rfl⟩, rfl⟩
       refine OS_app2 ?_
       refine ⟨⟨(load_struct (o := 0) (vs := [_, _, _, _]) Try.underlying29 sz29 pkk (by rfl) rfl), trivial⟩, ?_⟩
       refine SJ_q rfl (want_yes (t := 331) rfl rfl rfl hp) rfl (fun _ _ => Op_struct_neq rfl rfl (by kernel_rfl) (EqJ_val 9997 (peekN e.1 N0).1 (atN G e.1 (max (peekN e.1 N0).1.asOf w0).toNat))) ?_
       refine SJ_q rfl (want_none rfl) rfl (fun _ _ => Op_pick_t rfl hp rfl) ?_
       refine SJ_done ?_
       refine NJ_then ?_
       refine CJ_env (E' := [(7, _), (8, _), (9, _), (20, _), (309, _), (310, _), (342, _)]) (.cons rfl rfl (.cons rfl rfl (.cons rfl rfl (.cons rfl rfl (.cons rfl rfl (.cons rfl rfl (.cons rfl rfl .nil))))))) ?_
       refine CJ_else rfl (by rw [hmx, hq3, sameV_at]; rfl) ?_
       refine CJ_skip ?_
       refine NJ_blk ?_
       refine NJ_then ?_
       refine CJ_env (E' := [(7, _), (8, _), (9, _), (20, _), (309, _), (310, _)]) (.cons rfl rfl (.cons rfl rfl (.cons rfl rfl (.cons rfl rfl (.cons rfl rfl (.cons rfl rfl .nil)))))) ?_
       refine CJ_region ?_
       refine RJ_q (Op_addN (p + 1) rfl rfl (by omega) (by omega)) rfl ?_
       refine RJ_q (Op_move rfl) rfl ?_
       refine RJ_nil ?_
       refine NJ_back ⟨p + 1, some lg, by omega, rfl, rfl, rfl⟩ (by omega) (.cons rfl (by first | rfl | (simp; done)) (.cons rfl (by first | rfl | (simp; done)) (.cons rfl (by first | rfl | (simp; done)) (.cons rfl (by first | rfl | (simp; done)) (.cons rfl (by first | rfl | (simp; done)) (.cons rfl (by first | rfl | (simp; done)) .nil)))))) (.k (e := (.k (e := (.k (e := (.k (e := (.k (e := (.k (e := (.k (e := (.k (e := skk))))))))))))))))
      ·skip
       refine RJ_p rfl (Op_alloc zr29) ?_
       rintro _ _ ⟨b23, rfl, rfl⟩
       refine RJ_d0 (Op_store (cs' := #[_, _, _, _]) rfl rfl sz29 (by rfl) (by simp [Value.cells, Value.oneCell']) rpp rfl (free_zero _ _) (by rfl)) ?_
       refine RJ_q (Op_assign rfl) rfl ?_
       refine RJ_q (Op_assign rfl) rfl ?_
       refine RJ_nil ?_
       refine NJ_then ?_
       refine CJ_env (E' := [(7, _), (8, _), (9, _), (20, _), (22, _), (23, _), (24, _), (25, _), (309, _), (310, _)]) (.cons rfl rfl (.cons rfl rfl (.cons rfl rfl (.cons rfl rfl (.cons rfl rfl (.cons rfl rfl (.cons rfl rfl (.cons rfl rfl (.cons rfl rfl (.cons rfl rfl .nil)))))))))) ?_
       refine CJ_seq ?_
       refine CJ_draw (.q 0 (.q 1 (.q 2 (.q 3 (.q 4 (.q 5 (.q 6 (.q 7 (.q 8 (.e 9 (.e 10 (.q 11 (.q 12 .done))))))))))))) (by kernel_rfl) (by kernel_rfl) (by kernel_rfl) ?_
       refine SJ_q rfl (want_none rfl) rfl (fun _ _ => Op_move rfl) ?_
       refine SJ_q rfl (want_none rfl) rfl (fun _ _ => Op_move rfl) ?_
       refine SJ_no (t := 331) false rfl rfl rfl (by simpa using hp) (by decide) rfl ?_
       refine SJ_no (t := 331) false rfl rfl rfl (by simpa using hp) (by decide) rfl ?_
       refine SJ_no (t := 331) false rfl rfl rfl (by simpa using hp) (by decide) rfl ?_
       refine SJ_no (t := 331) false rfl rfl rfl (by simpa using hp) (by decide) rfl ?_
       refine SJ_no (t := 331) false rfl rfl rfl (by simpa using hp) (by decide) rfl ?_
       refine SJ_no (t := 331) false rfl rfl rfl (by simpa using hp) (by decide) rfl ?_
       refine SJ_no (t := 331) false rfl rfl rfl (by simpa using hp) (by decide) rfl ?_
       refine SJ_no_e (t := 331) false (rd' := []) [] rfl rfl rfl (by simpa using hp) (by decide) rfl (by kernel_rfl) rfl trivial ?_
       refine SJ_no_e (t := 331) false (rd' := []) [] rfl rfl rfl (by simpa using hp) (by decide) rfl (by kernel_rfl) rfl trivial ?_
       refine SJ_no (t := 331) false rfl rfl rfl (by simpa using hp) (by decide) rfl ?_
       refine SJ_q rfl (want_none rfl) rfl (fun _ _ => Op_pick_f rfl (by simpa using hp) rfl) ?_
       refine SJ_done ?_
       refine NJ_then ?_
       refine CJ_env (E' := [(7, _), (8, _), (9, _), (20, _), (309, _), (310, _), (342, _)]) (.cons rfl rfl (.cons rfl rfl (.cons rfl rfl (.cons rfl rfl (.cons rfl rfl (.cons rfl rfl (.cons rfl rfl .nil))))))) ?_
       refine CJ_else rfl rfl ?_
       refine CJ_skip ?_
       refine NJ_blk ?_
       refine NJ_then ?_
       refine CJ_env (E' := [(7, _), (8, _), (9, _), (20, _), (309, _), (310, _)]) (.cons rfl rfl (.cons rfl rfl (.cons rfl rfl (.cons rfl rfl (.cons rfl rfl (.cons rfl rfl .nil)))))) ?_
       refine CJ_region ?_
       refine RJ_q (Op_addN (p + 1) rfl rfl (by omega) (by omega)) rfl ?_
       refine RJ_q (Op_move rfl) rfl ?_
       refine RJ_nil ?_
       refine NJ_back ⟨p + 1, some lg, by omega, rfl, rfl, rfl⟩ (by omega) (.cons rfl (by first | rfl | (simp; done)) (.cons rfl (by first | rfl | (simp; done)) (.cons rfl (by first | rfl | (simp; done)) (.cons rfl (by first | rfl | (simp; done)) (.cons rfl (by first | rfl | (simp; done)) (.cons rfl (by first | rfl | (simp; done)) .nil)))))) (.k (e := (.k (e := (.k (e := (.k (e := (.k (e := (.k (e := (.k (e := (.k (e := skk))))))))))))))))
     ·skip
      refine RJ_nil ?_
      refine NJ_then ?_
      refine CJ_env (E' := [(7, _), (8, _), (9, _), (20, _), (309, _), (310, _), (311, _)]) (.cons rfl rfl (.cons rfl rfl (.cons rfl rfl (.cons rfl rfl (.cons rfl rfl (.cons rfl rfl (.cons rfl rfl .nil))))))) ?_
      refine CJ_seq ?_
      refine CJ_else rfl (decide_eq_false hp1) ?_
      refine CJ_exit ?_
      refine NJ_then_x ?_
      refine NJ_then_x ?_
      refine NJ_blk_hit ?_
      refine NJ_blk ?_
      refine NJ_then ?_
      refine CJ_env (E' := [(7, _), (8, _), (9, _), (20, _)]) (.cons rfl rfl (.cons rfl rfl (.cons rfl rfl (.cons rfl rfl .nil)))) ?_
      refine CJ_region ?_
      refine RJ_q (Op_move rfl) rfl ?_
      refine RJ_q (Op_addN (1) rfl rfl (by omega) (by omega)) rfl ?_
      refine RJ_q (Op_assign rfl) rfl ?_
      refine RJ_nil ?_
      refine NJ_back ⟨1, _, by omega, rfl, rfl, rfl⟩ (by omega) (.cons rfl (by first | rfl | (simp; done)) (.cons rfl (by first | rfl | (simp; done)) (.cons rfl (by first | rfl | (simp; done)) (.cons rfl (by first | rfl | (simp; done)) .nil)))) (.k (e := (.k (e := (.k (e := (.k (e := (.k (e := (.k (e := (.k (e := (.k (e := skk))))))))))))))))
    ·skip
     obtain rfl : z = 1 := by omega
     refine CJ_region ?_
     refine RJ_q (Op_move rfl) rfl ?_
     refine RJ_q (Op_nilCheck rfl) rfl ?_
     refine RJ_q (Op_fieldAddr (o' := 0) rfl Try.underlying50 rfl sz48 rfl rfl) rfl ?_
     refine RJ_q (Op_load rfl (load_cell Try.underlying48 rfl pkk Nth.z)) rfl ?_
     refine RJ_q (Op_len_slice rfl Try.underlying48) rfl ?_
     refine RJ_q (Op_move rfl) rfl ?_
     refine RJ_nil ?_
     refine NJ_then ?_
     refine CJ_env (E' := [(7, _), (8, _), (9, _), (20, _), (309, _), (310, _)]) (.cons rfl rfl (.cons rfl rfl (.cons rfl rfl (.cons rfl rfl (.cons rfl rfl (.cons rfl rfl .nil)))))) ?_
     refine CJ_block ?_
     refine CJ_loop (fun E H m => ∃ (p : Nat) (la : Option Nat), (p ≤ G.length) ∧ E = [(7, .pointer (some ⟨b7, 0, none⟩)), (8, .pointer (some ⟨b34, 0, none⟩)), (9, .pointer (some ⟨b9, 0, none⟩)), (20, .int .i64 (1 : Nat)), (309, .int .i64 (G.length : Nat)), (310, .int .i64 (p : Nat))] ∧ H = [pt b7 (.cells #[.pointer (some ⟨g0, 0, none⟩), .pointer (some ⟨g1, 0, none⟩)] 46 (0, 0)), NodeP g0 N0, NodeP g1 N1, LogC b34 la (G).length lc, Row EntT la lc (entsOf (G)), pt b9 (.cells #[.int .i64 w0, .int .i64 w1] 51 (0, 0)), Row RdT ra rc rs, old W] ++ R ∧ m = G.length - p) (E' := [(7, .pointer (some ⟨b7, 0, none⟩)), (8, .pointer (some ⟨b34, 0, none⟩)), (9, .pointer (some ⟨b9, 0, none⟩)), (20, .int .i64 (1 : Nat)), (309, .int .i64 (G.length : Nat)), (310, .int .i64 (0 : Nat))]) (H' := [pt b7 (.cells #[.pointer (some ⟨g0, 0, none⟩), .pointer (some ⟨g1, 0, none⟩)] 46 (0, 0)), NodeP g0 N0, NodeP g1 N1, LogC b34 la (G).length lc, Row EntT la lc (entsOf (G)), pt b9 (.cells #[.int .i64 w0, .int .i64 w1] 51 (0, 0)), Row RdT ra rc rs, old W] ++ R) (m := G.length - 0) ⟨0, la, by omega, rfl, rfl, rfl⟩ (.cons rfl rfl (.cons rfl rfl (.cons rfl rfl (.cons rfl rfl (.cons rfl rfl (.cons rfl rfl .nil)))))) (.k (e := (.k (e := (.k (e := (.k (e := (.k (e := (.k (e := (.k (e := (.k (e := skk)))))))))))))))) ?_
     rintro _ _ _ ⟨p, la, hp0, rfl, rfl, rfl⟩
     refine CJ_app8 ?_
     refine CJ_seq ?_
     refine CJ_region ?_
     refine RJ_q (Op_lss rfl rfl) rfl ?_
     by_cases hp1 : (p : Int) < G.length
     ·skip
      refine RJ_nil ?_
      refine NJ_then ?_
      refine CJ_env (E' := [(7, _), (8, _), (9, _), (20, _), (309, _), (310, _), (311, _)]) (.cons rfl rfl (.cons rfl rfl (.cons rfl rfl (.cons rfl rfl (.cons rfl rfl (.cons rfl rfl (.cons rfl rfl .nil))))))) ?_
      refine CJ_seq ?_
      refine CJ_then rfl (decide_eq_true hp1) ?_
      refine CJ_skip ?_
      refine NJ_then ?_
      refine CJ_env (E' := [(7, _), (8, _), (9, _), (20, _), (309, _), (310, _)]) (.cons rfl rfl (.cons rfl rfl (.cons rfl rfl (.cons rfl rfl (.cons rfl rfl (.cons rfl rfl .nil)))))) ?_
      refine CJ_seq ?_
      refine CJ_block ?_
      refine CJ_seq ?_
      refine CJ_region ?_
      refine RJ_q (Op_move rfl) rfl ?_
      refine RJ_q (Op_assign rfl) rfl ?_
      refine RJ_nil ?_
      refine NJ_then ?_
      refine CJ_env (E' := [(7, _), (8, _), (9, _), (20, _), (21, _), (309, _), (310, _)]) (.cons rfl rfl (.cons rfl rfl (.cons rfl rfl (.cons rfl rfl (.cons rfl rfl (.cons rfl rfl (.cons rfl rfl .nil))))))) ?_
      refine CJ_seq ?_
      obtain ⟨e, he⟩ : ∃ e, G[p]? = some e := ⟨G[p], List.getElem?_eq_getElem (by omega)⟩
      have hent := entsOf_at he
      refine CJ_know (Row_know (T := EntT) pkk) ?_
      intro hkn
      obtain ⟨lg, rfl⟩ := row_some hkn.2.2 (by intro e; rw [e] at hent; cases hent)
      refine CJ_region ?_
      refine RJ_q (Op_move rfl) rfl ?_
      refine RJ_q (Op_nilCheck rfl) rfl ?_
      refine RJ_q (Op_fieldAddr (o' := 0) rfl Try.underlying50 rfl sz48 rfl rfl) rfl ?_
      refine RJ_q (Op_load rfl (load_cell Try.underlying48 rfl pkk Nth.z)) rfl ?_
      refine RJ_q (Op_move rfl) rfl ?_
      refine RJ_q (Op_indexAddr (o' := p * EntT.sz + 0) rfl rfl Try.underlying48 sz55 (by omega) (by omega) (by simp [EntT])) rfl ?_
      refine RJ_q (Op_fieldAddr (o' := p * EntT.sz + 4) rfl Try.underlying55 rfl sz9 rfl rfl) rfl ?_
      refine RJ_q (Op_load rfl (load_row_cell (o := 4) Try.underlying9 rfl pkk hent (Nth.s (Nth.s (Nth.s (Nth.s Nth.z)))))) rfl ?_
      refine RJ_q (Op_assign rfl) rfl ?_
      refine RJ_nil ?_
      refine NJ_then ?_
      refine CJ_env (E' := [(7, _), (8, _), (9, _), (20, _), (22, _), (309, _), (310, _)]) (.cons rfl rfl (.cons rfl rfl (.cons rfl rfl (.cons rfl rfl (.cons rfl rfl (.cons rfl rfl (.cons rfl rfl .nil))))))) ?_
      refine CJ_seq ?_
      refine CJ_region ?_
      refine RJ_q (Op_move rfl) rfl ?_
      refine RJ_q (Op_indexArr (o' := 1) rfl rfl Try.underlying46 sz24 (by decide) (by decide) (by rfl)) rfl ?_
      refine RJ_q (Op_load rfl (load_cell Try.underlying24 rfl pkk (Nth.s Nth.z))) rfl ?_
      refine RJ_q (Op_move rfl) rfl ?_
      refine RJ_p rfl (Op_call (vs := [_, _]) Try.func12 rfl rfl (NdPeek_any g1 N1 e.1) rfl (.k (e := (Imp.refl _)))) ?_
      rintro _ _ ⟨_, ⟨rfl, rfl⟩, rfl⟩
      refine RJ_app1 ?_
      refine RJ_q (Op_move rfl) rfl ?_
      refine RJ_q (Op_extract rfl rfl) rfl ?_
      refine RJ_q (Op_extract rfl rfl) rfl ?_
      refine RJ_q (Op_extract rfl rfl) rfl ?_
      by_cases hp : (peekN e.1 N1).2 = true
      ·skip
       obtain ⟨q, hq1, hq2, hq3⟩ := hA.n1.peek hp
       have hmx : (max (peekN e.1 N1).1.asOf (w1 : Int)).toNat = max q w1 := by rw [hq1]; omega
       refine RJ_p rfl (Op_alloc zr29) ?_
       rintro _ _ ⟨b23, rfl, rfl⟩
       refine RJ_d0 (Op_store (cs' := #[_, _, _, _]) rfl rfl sz29 (by rfl) (by simp [Value.cells, Value.oneCell']) rpp rfl (free_zero _ _) (by rfl)) ?_
       refine RJ_q (Op_assign rfl) rfl ?_
       refine RJ_q (Op_assign rfl) rfl ?_
       refine RJ_nil ?_
       refine NJ_then ?_
       refine CJ_env (E' := [(7, _), (8, _), (9, _), (20, _), (22, _), (23, _), (24, _), (25, _), (309, _), (310, _)]) (.cons rfl rfl (.cons rfl rfl (.cons rfl rfl (.cons rfl rfl (.cons rfl rfl (.cons rfl rfl (.cons rfl rfl (.cons rfl rfl (.cons rfl rfl (.cons rfl rfl .nil)))))))))) ?_
       refine CJ_seq ?_
       refine CJ_draw (.q 0 (.q 1 (.q 2 (.q 3 (.q 4 (.q 5 (.q 6 (.q 7 (.q 8 (.e 9 (.e 10 (.q 11 (.q 12 .done))))))))))))) (by kernel_rfl) (by kernel_rfl) (by kernel_rfl) ?_
       refine SJ_q rfl (want_none rfl) rfl (fun _ _ => Op_move rfl) ?_
       refine SJ_q rfl (want_none rfl) rfl (fun _ _ => Op_move rfl) ?_
       refine SJ_load rfl (want_yes (t := 331) rfl rfl rfl hp) rfl rfl (load_struct (o := 0) (vs := [_, _, _, _]) Try.underlying29 sz29 pkk (by rfl) rfl) ?_
       refine SJ_q rfl (want_yes (t := 331) rfl rfl rfl hp) rfl (fun _ _ => Op_move rfl) ?_
       refine SJ_q rfl (want_yes (t := 331) rfl rfl rfl hp) rfl (fun _ _ => Op_move rfl) ?_
       refine SJ_q rfl (want_yes (t := 331) rfl rfl rfl hp) rfl (fun _ _ => Op_move rfl) ?_
       refine SJ_q rfl (want_yes (t := 331) rfl rfl rfl hp) rfl (fun _ _ => Op_move rfl) ?_
       refine SJ_q rfl (want_yes (t := 331) rfl rfl rfl hp) rfl (fun _ _ => Op_indexArr (o' := 1) rfl rfl Try.underlying51 sz3 (by decide) (by decide) (by rfl)) ?_
       refine SJ_load rfl (want_yes (t := 331) rfl rfl rfl hp) rfl rfl (load_cell Try.underlying3 rfl pkk (Nth.s Nth.z)) ?_
       refine SJ_d (rd' := [⟨2, _, _, _⟩]) [2] rfl (want_yes (t := 331) rfl rfl rfl hp) rfl ((Op_max rfl rfl).opD) (by kernel_rfl) rfl ⟨(load_struct (o := 0) (vs := [_, _, _, _]) Try.underlying29 sz29 pkk (by rfl) rfl), trivial⟩ ?_
       refine SJ_p (rd' := [⟨2, _, _, _⟩]) [2] rfl (want_yes (t := 331) rfl rfl rfl hp) rfl (Op_call (vs := [_, _, _]) Try.func18 rfl rfl (At_any b34 (some lg) lc G (by omega) e.1 (max (peekN e.1 N1).1.asOf w1)) rfl (.k (e := (.k (e := (Imp.refl _)))))) (by kernel_rfl) rfl ?_
       rintro _ _ ⟨_, ⟨rfl, rfl⟩, rfl⟩
       refine OS_app2 ?_
       refine ⟨⟨(load_struct (o := 0) (vs := [_, _, _, _]) Try.underlying29 sz29 pkk (by rfl) rfl), trivial⟩, ?_⟩
       refine SJ_q rfl (want_yes (t := 331) rfl rfl rfl hp) rfl (fun _ _ => Op_struct_neq rfl rfl (by kernel_rfl) (EqJ_val 9997 (peekN e.1 N1).1 (atN G e.1 (max (peekN e.1 N1).1.asOf w1).toNat))) ?_
       refine SJ_q rfl (want_none rfl) rfl (fun _ _ => Op_pick_t rfl hp rfl) ?_
       refine SJ_done ?_
       refine NJ_then ?_
       refine CJ_env (E' := [(7, _), (8, _), (9, _), (20, _), (309, _), (310, _), (342, _)]) (.cons rfl rfl (.cons rfl rfl (.cons rfl rfl (.cons rfl rfl (.cons rfl rfl (.cons rfl rfl (.cons rfl rfl .nil))))))) ?_
       refine CJ_else rfl (by rw [hmx, hq3, sameV_at]; rfl) ?_
       refine CJ_skip ?_
       refine NJ_blk ?_
       refine NJ_then ?_
       refine CJ_env (E' := [(7, _), (8, _), (9, _), (20, _), (309, _), (310, _)]) (.cons rfl rfl (.cons rfl rfl (.cons rfl rfl (.cons rfl rfl (.cons rfl rfl (.cons rfl rfl .nil)))))) ?_
       refine CJ_region ?_
       refine RJ_q (Op_addN (p + 1) rfl rfl (by omega) (by omega)) rfl ?_
       refine RJ_q (Op_move rfl) rfl ?_
       refine RJ_nil ?_
       refine NJ_back ⟨p + 1, some lg, by omega, rfl, rfl, rfl⟩ (by omega) (.cons rfl (by first | rfl | (simp; done)) (.cons rfl (by first | rfl | (simp; done)) (.cons rfl (by first | rfl | (simp; done)) (.cons rfl (by first | rfl | (simp; done)) (.cons rfl (by first | rfl | (simp; done)) (.cons rfl (by first | rfl | (simp; done)) .nil)))))) (.k (e := (.k (e := (.k (e := (.k (e := (.k (e := (.k (e := (.k (e := (.k (e := skk))))))))))))))))
      ·skip
       refine RJ_p rfl (Op_alloc zr29) ?_
       rintro _ _ ⟨b23, rfl, rfl⟩
       refine RJ_d0 (Op_store (cs' := #[_, _, _, _]) rfl rfl sz29 (by rfl) (by simp [Value.cells, Value.oneCell']) rpp rfl (free_zero _ _) (by rfl)) ?_
       refine RJ_q (Op_assign rfl) rfl ?_
       refine RJ_q (Op_assign rfl) rfl ?_
       refine RJ_nil ?_
       refine NJ_then ?_
       refine CJ_env (E' := [(7, _), (8, _), (9, _), (20, _), (22, _), (23, _), (24, _), (25, _), (309, _), (310, _)]) (.cons rfl rfl (.cons rfl rfl (.cons rfl rfl (.cons rfl rfl (.cons rfl rfl (.cons rfl rfl (.cons rfl rfl (.cons rfl rfl (.cons rfl rfl (.cons rfl rfl .nil)))))))))) ?_
       refine CJ_seq ?_
       refine CJ_draw (.q 0 (.q 1 (.q 2 (.q 3 (.q 4 (.q 5 (.q 6 (.q 7 (.q 8 (.e 9 (.e 10 (.q 11 (.q 12 .done))))))))))))) (by kernel_rfl) (by kernel_rfl) (by kernel_rfl) ?_
       refine SJ_q rfl (want_none rfl) rfl (fun _ _ => Op_move rfl) ?_
       refine SJ_q rfl (want_none rfl) rfl (fun _ _ => Op_move rfl) ?_
       refine SJ_no (t := 331) false rfl rfl rfl (by simpa using hp) (by decide) rfl ?_
       refine SJ_no (t := 331) false rfl rfl rfl (by simpa using hp) (by decide) rfl ?_
       refine SJ_no (t := 331) false rfl rfl rfl (by simpa using hp) (by decide) rfl ?_
       refine SJ_no (t := 331) false rfl rfl rfl (by simpa using hp) (by decide) rfl ?_
       refine SJ_no (t := 331) false rfl rfl rfl (by simpa using hp) (by decide) rfl ?_
       refine SJ_no (t := 331) false rfl rfl rfl (by simpa using hp) (by decide) rfl ?_
       refine SJ_no (t := 331) false rfl rfl rfl (by simpa using hp) (by decide) rfl ?_
       refine SJ_no_e (t := 331) false (rd' := []) [] rfl rfl rfl (by simpa using hp) (by decide) rfl (by kernel_rfl) rfl trivial ?_
       refine SJ_no_e (t := 331) false (rd' := []) [] rfl rfl rfl (by simpa using hp) (by decide) rfl (by kernel_rfl) rfl trivial ?_
       refine SJ_no (t := 331) false rfl rfl rfl (by simpa using hp) (by decide) rfl ?_
       refine SJ_q rfl (want_none rfl) rfl (fun _ _ => Op_pick_f rfl (by simpa using hp) rfl) ?_
       refine SJ_done ?_
       refine NJ_then ?_
       refine CJ_env (E' := [(7, _), (8, _), (9, _), (20, _), (309, _), (310, _), (342, _)]) (.cons rfl rfl (.cons rfl rfl (.cons rfl rfl (.cons rfl rfl (.cons rfl rfl (.cons rfl rfl (.cons rfl rfl .nil))))))) ?_
       refine CJ_else rfl rfl ?_
       refine CJ_skip ?_
       refine NJ_blk ?_
       refine NJ_then ?_
       refine CJ_env (E' := [(7, _), (8, _), (9, _), (20, _), (309, _), (310, _)]) (.cons rfl rfl (.cons rfl rfl (.cons rfl rfl (.cons rfl rfl (.cons rfl rfl (.cons rfl rfl .nil)))))) ?_
       refine CJ_region ?_
       refine RJ_q (Op_addN (p + 1) rfl rfl (by omega) (by omega)) rfl ?_
       refine RJ_q (Op_move rfl) rfl ?_
       refine RJ_nil ?_
       refine NJ_back ⟨p + 1, some lg, by omega, rfl, rfl, rfl⟩ (by omega) (.cons rfl (by first | rfl | (simp; done)) (.cons rfl (by first | rfl | (simp; done)) (.cons rfl (by first | rfl | (simp; done)) (.cons rfl (by first | rfl | (simp; done)) (.cons rfl (by first | rfl | (simp; done)) (.cons rfl (by first | rfl | (simp; done)) .nil)))))) (.k (e := (.k (e := (.k (e := (.k (e := (.k (e := (.k (e := (.k (e := (.k (e := skk))))))))))))))))
     ·skip
      refine RJ_nil ?_
      refine NJ_then ?_
      refine CJ_env (E' := [(7, _), (8, _), (9, _), (20, _), (309, _), (310, _), (311, _)]) (.cons rfl rfl (.cons rfl rfl (.cons rfl rfl (.cons rfl rfl (.cons rfl rfl (.cons rfl rfl (.cons rfl rfl .nil))))))) ?_
      refine CJ_seq ?_
      refine CJ_else rfl (decide_eq_false hp1) ?_
      refine CJ_exit ?_
      refine NJ_then_x ?_
      refine NJ_then_x ?_
      refine NJ_blk_hit ?_
      refine NJ_blk ?_
      refine NJ_then ?_
      refine CJ_env (E' := [(7, _), (8, _), (9, _), (20, _)]) (.cons rfl rfl (.cons rfl rfl (.cons rfl rfl (.cons rfl rfl .nil)))) ?_
      refine CJ_region ?_
      refine RJ_q (Op_move rfl) rfl ?_
      refine RJ_q (Op_addN (2) rfl rfl (by omega) (by omega)) rfl ?_
      refine RJ_q (Op_assign rfl) rfl ?_
      refine RJ_nil ?_
      refine NJ_back ⟨2, _, by omega, rfl, rfl, rfl⟩ (by omega) (.cons rfl (by first | rfl | (simp; done)) (.cons rfl (by first | rfl | (simp; done)) (.cons rfl (by first | rfl | (simp; done)) (.cons rfl (by first | rfl | (simp; done)) .nil)))) (.k (e := (.k (e := (.k (e := (.k (e := (.k (e := (.k (e := (.k (e := (.k (e := skk))))))))))))))))
   ·skip
    refine RJ_nil ?_
    refine NJ_then ?_
    refine CJ_env (E' := [(7, _), (8, _), (9, _), (20, _), (302, _)]) (.cons rfl rfl (.cons rfl rfl (.cons rfl rfl (.cons rfl rfl (.cons rfl rfl .nil))))) ?_
    refine CJ_else rfl (decide_eq_false hz) ?_
    refine CJ_exit ?_
    refine NJ_then_x ?_
    refine NJ_then_x ?_
    refine NJ_blk_hit ?_
    refine NJ_then ?_
    refine CJ_env (E' := []) .nil ?_
    refine CJ_seq ?_
    refine CJ_region ?_
    refine RJ_q (Op_assign rfl) rfl ?_
    refine RJ_nil ?_
    refine NJ_then ?_
    refine CJ_env (E' := [(6, _)]) (.cons rfl rfl .nil) ?_
    refine CJ_ret ?_
    refine NJ_ret (.inl rfl) Try.results5 (ResJ_tmp rfl ResJ_nil) ⟨rfl, rfl⟩ (.k (e := skk))
end Go.Proofs.Ytgakbdofjlhoeaa.SL
