/- Contracts of the log. -/
import Derived.Test.Ytgakbdofjlhoeaas21NsD
import Derived.Test.Ytgakbdofjlhoeaas21Fb
namespace Go.Proofs.Ytgakbdofjlhoeaa.SL
open Go Go.RowKit
set_option maxRecDepth 20000 in
theorem At_any (g : Nat) (la : Option Nat) (lc : Nat) (G : GLog) (hG : G.length ≤ 1000000) (key : ByteArray) (index : Int) : Spec Try.prog 18 #[.pointer (some ⟨g, 0, none⟩), .string key, .int .i64 index] [LogC g la G.length lc, Row EntT la lc (entsOf G)] (fun v C => v = valV (atN G key index.toNat) ∧ C = [LogC g la G.length lc, Row EntT la lc (entsOf G)]) := by
 refine Spec_intro (n := 52) (args := [.pointer (some ⟨g, 0, none⟩), .string key, .int .i64 index]) Try.func18 rfl rfl rfl fun s R => ?_
 refine CJ_app2 ?_
 refine CJ_env (E' := [(0, _), (1, _), (2, _)]) (.cons rfl rfl (.cons rfl rfl (.cons rfl rfl .nil))) ?_
 refine CJ_seq ?_
 refine CJ_region ?_
 refine RJ_p rfl (Op_alloc zr29) ?_
 rintro _ _ ⟨b6, rfl, rfl⟩
 refine RJ_nil ?_
 refine NJ_then ?_
 refine CJ_env (E' := [(0, _), (1, _), (2, _), (6, _)]) (.cons rfl rfl (.cons rfl rfl (.cons rfl rfl (.cons rfl rfl .nil)))) ?_
 refine CJ_seq ?_
 refine CJ_region ?_
 refine RJ_q (Op_build (vs := []) (cells := [_, _, _, _]) Try.underlying29 zr29 rfl pl29 (by rfl)) rfl ?_
 refine RJ_p rfl (Op_alloc zr29) ?_
 rintro _ _ ⟨b7, rfl, rfl⟩
 refine RJ_d0 (Op_store (cs' := #[_, _, _, _]) rfl rfl sz29 (by rfl) (by simp [Value.cells, Value.oneCell']) rpp rfl (free_zero _ _) (by rfl)) ?_
 refine RJ_nil ?_
 refine NJ_then ?_
 refine CJ_env (E' := [(0, _), (1, _), (2, _), (6, _), (7, _)]) (.cons rfl rfl (.cons rfl rfl (.cons rfl rfl (.cons rfl rfl (.cons rfl rfl .nil))))) ?_
 refine CJ_seq ?_
 refine CJ_seq ?_
 refine CJ_region ?_
 refine RJ_q (Op_assign rfl) rfl ?_
 refine RJ_nil ?_
 refine NJ_then ?_
 refine CJ_env (E' := [(0, _), (1, _), (2, _), (6, _), (7, _), (8, _)]) (.cons rfl rfl (.cons rfl rfl (.cons rfl rfl (.cons rfl rfl (.cons rfl rfl (.cons rfl rfl .nil)))))) ?_
 refine CJ_block ?_
 refine CJ_loop (fun E H m => ∃ (i : Nat), (i ≤ index.toNat ∧ i ≤ G.length) ∧ E = [(0, .pointer (some ⟨g, 0, none⟩)), (1, .string key), (2, .int .i64 index), (6, .pointer (some ⟨b6, 0, none⟩)), (7, .pointer (some ⟨b7, 0, none⟩)), (8, .int .i64 (i : Nat))] ∧ H = [pt b7 (.cells #[.int .i64 (atN G key i).ep, .int .i64 (atN G key i).ix, .bool (atN G key i).th, .string (atN G key i).tx] 29 (0, 0)), pt b6 (.cells #[.int .i64 0, .int .i64 0, .bool false, .string ⟨#[]⟩] 29 (0, 0)), LogC g la G.length lc, Row EntT la lc (entsOf G)] ++ R ∧ m = G.length - i) (E' := [(0, .pointer (some ⟨g, 0, none⟩)), (1, .string key), (2, .int .i64 index), (6, .pointer (some ⟨b6, 0, none⟩)), (7, .pointer (some ⟨b7, 0, none⟩)), (8, .int .i64 (0 : Nat))]) (H' := [pt b7 (.cells #[.int .i64 (atN G key 0).ep, .int .i64 (atN G key 0).ix, .bool (atN G key 0).th, .string (atN G key 0).tx] 29 (0, 0)), pt b6 (.cells #[.int .i64 0, .int .i64 0, .bool false, .string ⟨#[]⟩] 29 (0, 0)), LogC g la G.length lc, Row EntT la lc (entsOf G)] ++ R) (m := G.length - 0) ⟨0, ⟨by omega, by omega⟩, rfl, rfl, rfl⟩ (.cons rfl rfl (.cons rfl rfl (.cons rfl rfl (.cons rfl rfl (.cons rfl rfl (.cons rfl rfl .nil)))))) (.k (e := (.k (e := (.k (e := (.k (e := skk)))))))) ?_
 rintro _ _ _ ⟨i, ⟨hi1, hi2⟩, rfl, rfl, rfl⟩
 refine CJ_app4 ?_
 refine CJ_seq ?_
 refine CJ_seq ?_
 refine CJ_region ?_
 refine RJ_q (Op_move rfl) rfl ?_
 refine RJ_q (Op_move rfl) rfl ?_
 refine RJ_q (Op_lss rfl rfl) rfl ?_
 by_cases h1 : (i : Int) < index
 ·skip
  refine RJ_q (Op_move rfl) rfl ?_
  refine RJ_yes (t := 13) rfl rfl (decide_eq_true h1) ?_
  refine RJ_q (Op_move rfl) rfl ?_
  refine RJ_yes (t := 13) rfl rfl (decide_eq_true h1) ?_
  refine RJ_q (Op_move rfl) rfl ?_
  refine RJ_yes (t := 13) rfl rfl (decide_eq_true h1) ?_
  refine RJ_q (Op_nilCheck rfl) rfl ?_
  refine RJ_yes (t := 13) rfl rfl (decide_eq_true h1) ?_
  refine RJ_q (Op_fieldAddr (o' := 0) rfl Try.underlying50 rfl sz48 rfl rfl) rfl ?_
  refine RJ_yes (t := 13) rfl rfl (decide_eq_true h1) ?_
  refine RJ_q (Op_load rfl (load_cell Try.underlying48 rfl pkk Nth.z)) rfl ?_
  refine RJ_yes (t := 13) rfl rfl (decide_eq_true h1) ?_
  refine RJ_q (Op_len_slice rfl Try.underlying48) rfl ?_
  refine RJ_yes (t := 13) rfl rfl (decide_eq_true h1) ?_
  refine RJ_q (Op_lss rfl rfl) rfl ?_
  by_cases h2 : (i : Int) < G.length
  ·skip
   refine RJ_q (Op_pick_t rfl (decide_eq_true h1) rfl) rfl ?_
   refine RJ_nil ?_
   refine NJ_then ?_
   refine CJ_env (E' := [(0, _), (1, _), (2, _), (6, _), (7, _), (8, _), (21, _)]) (.cons rfl rfl (.cons rfl rfl (.cons rfl rfl (.cons rfl rfl (.cons rfl rfl (.cons rfl rfl (.cons rfl rfl .nil))))))) ?_
   refine CJ_then rfl (decide_eq_true h2) ?_
   refine CJ_skip ?_
   refine NJ_then ?_
   refine CJ_env (E' := [(0, _), (1, _), (2, _), (6, _), (7, _), (8, _)]) (.cons rfl rfl (.cons rfl rfl (.cons rfl rfl (.cons rfl rfl (.cons rfl rfl (.cons rfl rfl .nil)))))) ?_
   refine CJ_seq ?_
   refine CJ_block ?_
   refine CJ_seq ?_
   obtain ⟨e, he⟩ : ∃ e, G[i]? = some e := ⟨G[i], List.getElem?_eq_getElem (by omega)⟩
   have hent := entsOf_at he
   refine CJ_know (Row_know (T := EntT) pkk) ?_
   intro hkn
   obtain ⟨lg, rfl⟩ := row_some hkn.2.2 (by intro e; rw [e] at hent; cases hent)
   refine CJ_region ?_
   refine RJ_q (Op_move rfl) rfl ?_
   refine RJ_q (Op_nilCheck rfl) rfl ?_
   refine RJ_q (Op_fieldAddr (o' := 0) rfl Try.underlying50 rfl sz48 rfl rfl) rfl ?_
   refine RJ_q (Op_load rfl (load_cell Try.underlying48 rfl pkk Nth.z)) rfl ?_
   refine RJ_q (Op_move rfl) rfl ?_
   refine RJ_q (Op_indexAddr (o' := i * EntT.sz + 0) rfl rfl Try.underlying48 sz55 (by omega) (by omega) (by simp [EntT])) rfl ?_
   refine RJ_q (Op_fieldAddr (o' := i * EntT.sz + 4) rfl Try.underlying55 rfl sz9 rfl rfl) rfl ?_
   refine RJ_q (Op_load rfl (load_row_cell (o := 4) Try.underlying9 rfl pkk hent (Nth.s (Nth.s (Nth.s (Nth.s Nth.z)))))) rfl ?_
   refine RJ_q (Op_move rfl) rfl ?_
   refine RJ_q (Op_str_eql rfl rfl) rfl ?_
   by_cases hk : e.1 = key
   ·skip
    have hat : atN G key (i + 1) = ⟨1, ((i + 1 : Nat) : Int), true, e.2, 0⟩ := by simp [atN, he, hk]
    refine RJ_nil ?_
    refine NJ_then ?_
    refine CJ_env (E' := [(0, _), (1, _), (2, _), (6, _), (7, _), (8, _), (33, _)]) (.cons rfl rfl (.cons rfl rfl (.cons rfl rfl (.cons rfl rfl (.cons rfl rfl (.cons rfl rfl (.cons rfl rfl .nil))))))) ?_
    refine CJ_then rfl (decide_eq_true hk) ?_
    refine CJ_draw (.q 0 (.q 1 (.q 2 (.q 3 (.q 4 (.q 5 (.q 6 (.q 7 (.q 8 (.q 9 (.q 10 (.q 11 (.q 12 (.q 13 (.q 14 (.q 15 (.q 16 (.e 17 .done)))))))))))))))))) (by kernel_rfl) (by kernel_rfl) (by kernel_rfl) ?_
    refine SJ_q rfl (want_none rfl) rfl (fun _ _ => Op_move rfl) ?_
    refine SJ_q rfl (want_none rfl) rfl (fun _ _ => Op_nilCheck rfl) ?_
    refine SJ_q rfl (want_none rfl) rfl (fun _ _ => Op_fieldAddr (o' := 0) rfl Try.underlying50 rfl sz48 rfl rfl) ?_
    refine SJ_load rfl (want_none rfl) rfl rfl (load_cell Try.underlying48 rfl pkk Nth.z) ?_
    refine SJ_q rfl (want_none rfl) rfl (fun _ _ => Op_move rfl) ?_
    refine SJ_q rfl (want_none rfl) rfl (fun _ _ => Op_indexAddr (o' := i * EntT.sz + 0) rfl rfl Try.underlying48 sz55 (by omega) (by omega) (by simp [EntT])) ?_
    refine SJ_q rfl (want_none rfl) rfl (fun _ _ => Op_fieldAddr (o' := i * EntT.sz + 0) rfl Try.underlying55 rfl sz27 rfl rfl) ?_
    refine SJ_load rfl (want_none rfl) rfl rfl (load_row (o := 0) (vs := [_, _]) Try.underlying27 sz27 pkk hent rfl (by rfl)) ?_
    refine SJ_q rfl (want_none rfl) rfl (fun _ _ => Op_move rfl) ?_
    refine SJ_q rfl (want_none rfl) rfl (fun _ _ => Op_nilCheck rfl) ?_
    refine SJ_q rfl (want_none rfl) rfl (fun _ _ => Op_fieldAddr (o' := 0) rfl Try.underlying50 rfl sz48 rfl rfl) ?_
    refine SJ_load rfl (want_none rfl) rfl rfl (load_cell Try.underlying48 rfl pkk Nth.z) ?_
    refine SJ_q rfl (want_none rfl) rfl (fun _ _ => Op_move rfl) ?_
    refine SJ_q rfl (want_none rfl) rfl (fun _ _ => Op_indexAddr (o' := i * EntT.sz + 0) rfl rfl Try.underlying48 sz55 (by omega) (by omega) (by simp [EntT])) ?_
    refine SJ_q rfl (want_none rfl) rfl (fun _ _ => Op_fieldAddr (o' := i * EntT.sz + 6) rfl Try.underlying55 rfl sz9 rfl rfl) ?_
    refine SJ_load rfl (want_none rfl) rfl rfl (load_row_cell (o := 6) Try.underlying9 rfl pkk hent (Nth.s (Nth.s (Nth.s (Nth.s (Nth.s (Nth.s Nth.z))))))) ?_
    refine SJ_q rfl (want_none rfl) rfl (fun _ _ => Op_build (vs := [_, _, _]) (cells := [_, _, _, _]) Try.underlying29 zr29 rfl pl29 (by rfl)) ?_
    refine SJ_d0 (rd' := []) [] rfl (want_none rfl) (Op_store (cs' := #[_, _, _, _]) rfl rfl sz29 (by rfl) (by simp [Value.cells, Value.oneCell']) rpp rfl (free_zero _ _) (by rfl)) (by kernel_rfl) rfl trivial ?_
    refine SJ_done ?_
    refine NJ_blk ?_
    refine NJ_then ?_
    refine CJ_env (E' := [(0, _), (1, _), (2, _), (6, _), (7, _), (8, _)]) (.cons rfl rfl (.cons rfl rfl (.cons rfl rfl (.cons rfl rfl (.cons rfl rfl (.cons rfl rfl .nil)))))) ?_
    refine CJ_region ?_
    refine RJ_q (Op_move rfl) rfl ?_
    refine RJ_q (Op_addN (i + 1) rfl rfl (by omega) (by omega)) rfl ?_
    refine RJ_q (Op_assign rfl) rfl ?_
    refine RJ_nil ?_
    refine NJ_back ⟨i + 1, ⟨by omega, by omega⟩, rfl, rfl, rfl⟩ (by omega) (.cons rfl (by first | rfl | (simp; done)) (.cons rfl (by first | rfl | (simp; done)) (.cons rfl (by first | rfl | (simp; done)) (.cons rfl (by first | rfl | (simp; done)) (.cons rfl (by first | rfl | (simp; done)) (.cons rfl (by first | rfl | (simp; done)) .nil)))))) (by rw [hat]; exact (.k (e := (.k (e := (.k (e := (.k (e := skk)))))))))
   ·skip
    have hat : atN G key (i + 1) = atN G key i := by simp [atN, he, hk]
    refine RJ_nil ?_
    refine NJ_then ?_
    refine CJ_env (E' := [(0, _), (1, _), (2, _), (6, _), (7, _), (8, _), (33, _)]) (.cons rfl rfl (.cons rfl rfl (.cons rfl rfl (.cons rfl rfl (.cons rfl rfl (.cons rfl rfl (.cons rfl rfl .nil))))))) ?_
    refine CJ_else rfl (decide_eq_false hk) ?_
    refine CJ_skip ?_
    refine NJ_blk ?_
    refine NJ_then ?_
    refine CJ_env (E' := [(0, _), (1, _), (2, _), (6, _), (7, _), (8, _)]) (.cons rfl rfl (.cons rfl rfl (.cons rfl rfl (.cons rfl rfl (.cons rfl rfl (.cons rfl rfl .nil)))))) ?_
    refine CJ_region ?_
    refine RJ_q (Op_move rfl) rfl ?_
    refine RJ_q (Op_addN (i + 1) rfl rfl (by omega) (by omega)) rfl ?_
    refine RJ_q (Op_assign rfl) rfl ?_
    refine RJ_nil ?_
    refine NJ_back ⟨i + 1, ⟨by omega, by omega⟩, rfl, rfl, rfl⟩ (by omega) (.cons rfl (by first | rfl | (simp; done)) (.cons rfl (by first | rfl | (simp; done)) (.cons rfl (by first | rfl | (simp; done)) (.cons rfl (by first | rfl | (simp; done)) (.cons rfl (by first | rfl | (simp; done)) (.cons rfl (by first | rfl | (simp; done)) .nil)))))) (by rw [hat]; exact (.k (e := (.k (e := (.k (e := (.k (e := skk)))))))))
  ·skip
   refine RJ_q (Op_pick_t rfl (decide_eq_true h1) rfl) rfl ?_
   refine RJ_nil ?_
   refine NJ_then ?_
   refine CJ_env (E' := [(0, _), (1, _), (2, _), (6, _), (7, _), (8, _), (21, _)]) (.cons rfl rfl (.cons rfl rfl (.cons rfl rfl (.cons rfl rfl (.cons rfl rfl (.cons rfl rfl (.cons rfl rfl .nil))))))) ?_
   refine CJ_else rfl (decide_eq_false h2) ?_
   refine CJ_exit ?_
   refine NJ_then_x ?_
   refine NJ_then_x ?_
   refine NJ_blk_hit ?_
   refine NJ_then ?_
   refine CJ_env (E' := [(6, _), (7, _)]) (.cons rfl rfl (.cons rfl rfl .nil)) ?_
   refine CJ_seq ?_
   refine CJ_region ?_
   refine RJ_q (Op_load rfl (load_struct (o := 0) (vs := [_, _, _, _]) Try.underlying29 sz29 pkk (by rfl) rfl)) rfl ?_
   refine RJ_d0 (Op_store (cs' := #[_, _, _, _]) rfl rfl sz29 (by rfl) (by simp [Value.cells, Value.oneCell']) rpp rfl (free_zero _ _) (by rfl)) ?_
   refine RJ_nil ?_
   refine NJ_then ?_
   refine CJ_env (E' := [(6, _)]) (.cons rfl rfl .nil) ?_
   refine CJ_ret ?_
   have hfin : atN G key index.toNat = atN G key i := by rw [atN_end G key (show G.length ≤ index.toNat by omega), show i = G.length by omega]
   rw [hfin]
   refine NJ_ret (.inl rfl) Try.results18 (ResJ_cell rfl (load_struct (o := 0) (vs := [_, _, _, _]) Try.underlying29 sz29 pkk (by rfl) rfl) ResJ_nil) ⟨rfl, rfl⟩ (.k (e := (.k (e := skk))))
 ·skip
  refine RJ_q (Op_move rfl) rfl ?_
  refine RJ_no (t := 13) false rfl rfl (decide_eq_false h1) (by decide) rfl ?_
  refine RJ_no (t := 13) false rfl rfl (decide_eq_false h1) (by decide) rfl ?_
  refine RJ_no (t := 13) false rfl rfl (decide_eq_false h1) (by decide) rfl ?_
  refine RJ_no (t := 13) false rfl rfl (decide_eq_false h1) (by decide) rfl ?_
  refine RJ_no (t := 13) false rfl rfl (decide_eq_false h1) (by decide) rfl ?_
  refine RJ_no (t := 13) false rfl rfl (decide_eq_false h1) (by decide) rfl ?_
  refine RJ_no (t := 13) false rfl rfl (decide_eq_false h1) (by decide) rfl ?_
  refine RJ_q (Op_pick_f rfl (decide_eq_false h1) rfl) rfl ?_
  refine RJ_nil ?_
  refine NJ_then ?_
  refine CJ_env (E' := [(0, _), (1, _), (2, _), (6, _), (7, _), (8, _), (21, _)]) (.cons rfl rfl (.cons rfl rfl (.cons rfl rfl (.cons rfl rfl (.cons rfl rfl (.cons rfl rfl (.cons rfl rfl .nil))))))) ?_
  refine CJ_else rfl rfl ?_
  refine CJ_exit ?_
  refine NJ_then_x ?_
  refine NJ_then_x ?_
  refine NJ_blk_hit ?_
  refine NJ_then ?_
  refine CJ_env (E' := [(6, _), (7, _)]) (.cons rfl rfl (.cons rfl rfl .nil)) ?_
  refine CJ_seq ?_
  refine CJ_region ?_
  refine RJ_q (Op_load rfl (load_struct (o := 0) (vs := [_, _, _, _]) Try.underlying29 sz29 pkk (by rfl) rfl)) rfl ?_
  refine RJ_d0 (Op_store (cs' := #[_, _, _, _]) rfl rfl sz29 (by rfl) (by simp [Value.cells, Value.oneCell']) rpp rfl (free_zero _ _) (by rfl)) ?_
  refine RJ_nil ?_
  refine NJ_then ?_
  refine CJ_env (E' := [(6, _)]) (.cons rfl rfl .nil) ?_
  refine CJ_ret ?_
  have hfin : atN G key index.toNat = atN G key i := by rw [show index.toNat = i by omega]
  rw [hfin]
  refine NJ_ret (.inl rfl) Try.results18 (ResJ_cell rfl (load_struct (o := 0) (vs := [_, _, _, _]) Try.underlying29 sz29 pkk (by rfl) rfl) ResJ_nil) ⟨rfl, rfl⟩ (.k (e := (.k (e := skk))))
end Go.Proofs.Ytgakbdofjlhoeaa.SL
