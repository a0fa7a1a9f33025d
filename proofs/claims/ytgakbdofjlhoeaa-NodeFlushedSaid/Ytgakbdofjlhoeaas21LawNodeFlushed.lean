/- NodeFlushed: whatever is handed in, the call returns true and leaves its arguments as they were.
No condition of this text's own: the row's alone. -/
import Derived.Test.YtgakbdofjlhoeaaRows
import Derived.Test.Ytgakbdofjlhoeaas21NfW
import Derived.Test.YtgakbdofjlhoeaaSLI
namespace Go.Proofs.Ytgakbdofjlhoeaa.SL.LNodeFlushed
open Go Go.RowKit Go.ChangeShapes Go.WideShapes Go.ChangeAt Go.Proofs.Ytgakbdofjlhoeaa.SL

theorem own : ownKnob Try.prog.godebug = none := by kernel_rfl
theorem laidOut : laidOutB Try.prog = true := by kernel_rfl

theorem int_wf {n : Int} (h : (Lit.int .i64 n).wf = true) : -9223372036854775808 ≤ n ∧ n ≤ 9223372036854775807 := by
  simp only [Lit.wf, Bool.and_eq_true, decide_eq_true_eq] at h
  have e1 : IntKind.i64.min = -9223372036854775808 := by decide
  have e2 : IntKind.i64.max = 9223372036854775807 := by decide
  omega
theorem u8_wf {n : Int} (h : (Lit.int .u8 n).wf = true) : 0 ≤ n ∧ n < 256 := by
  simp only [Lit.wf, Bool.and_eq_true, decide_eq_true_eq] at h
  have e1 : IntKind.u8.min = 0 := rfl
  have e2 : IntKind.u8.max = 255 := by decide
  omega
theorem strs_read {H : Type} {enc : TypeId × Value → H} {W : World} {a : Option Addr} {len cap : Nat} {d : DataW H} {p : List MemPlace} (h : DataW.Trod enc Try.prog W 0 (fun _ => true) true 22 (.slice a len cap) d p) :
    ∃ xs : List ByteArray, xs.length = len ∧ StrsAt W a xs ∧ len ≤ 9223372036854775807 := by
  obtain ⟨fuel, hf⟩ := h
  obtain ⟨hm, hle, hel⟩ := elem_read (P := Try.prog) Try.underlying22 hf (fun _ => rfl)
  have hC : Try.prog.cellsOf 9 = 1 := by kernel_rfl
  obtain ⟨xs, hl, hxs⟩ := list_of (fun i (b : ByteArray) => ∃ p, a = some p ∧ W.cell? (p.add (i * 1)) = some (.string b)) len fun i hi => by
    obtain ⟨q, cs, m, y, ha, hcl, hcell, htr⟩ := hel i hi
    rw [hC] at hcl hcell
    obtain ⟨c, rfl⟩ : ∃ c, cs = [c] := by
      match cs, hcl with
      | [c], _ => exact ⟨c, rfl⟩
    obtain ⟨b, rfl, _⟩ := str_read Try.underlying9 htr
    refine ⟨b, q, ha, ?_⟩
    have := hcell 0 _ rfl
    simpa [Addr.add] using this
  exact ⟨xs, hl, fun i b hb => hxs i b hb, by unfold maxLen at hm; omega⟩

theorem walk (W : World) (al : Option Addr) (cl : Nat) (l : List ByteArray) (sl : StrsAt W al l) (ll : l.length ≤ 9223372036854775807) (mk : Int) (hmk : 0 ≤ mk ∧ mk < 256) :
    Calls Try.prog 4 #[.slice al l.length cl, .int .u8 mk] W fun e w' => e = .returned (.bool true) ∧ Below W.heap.size W w' :=
  (NodeFlushed_any W al cl l mk sl ll hmk W W [] (by simpa using Sat_old W)).mono fun e w' ⟨v, C, ⟨hv, hC⟩, he, hs⟩ => by
    subst hv hC
    exact ⟨he, old_below hs .here⟩

set_option maxRecDepth 100000 in
theorem lifted (os : Os) (started : os.Started) (H : Type) (enc : TypeId × Value → H) :
    ReturnsInHanded {} Try.checked os 4 .any (Rows.nodeFlushedSpec.pre6 enc Try.prog Try.f4 Rows.nodeFlushedRow.domain false) (Rows.nodeFlushedSpec.post enc Try.prog Try.f4 false true false false) := by
  refine returnsInHanded_of_change (C := Try.checked) own started (by kernel_rfl) Try.func4
    (ChangeSpec.witness6 (enc := enc) (C := Try.checked) false ⟨#[], #[.slice none 0 0, .int .u8 0], []⟩ 8 (by kernel_rfl) (by kernel_rfl) (by kernel_rfl) (by kernel_rfl)) ?_
  intro W base args ds gs before hval0 hW hcnd _
  have hval : ∀ (j : Nat) t v, Try.f4.params[j]? = some t → args[j]? = some v → Value.okWide Try.prog W .any base t v := hval0
  have hW' := hW
  obtain ⟨p, q, hA0, hV, rfl, hfz, hnd⟩ := hW
  have hA : DataW.TrodAll enc Try.prog W 0 (fun _ => true) true Try.f4.params.toList args.toList ds p := hA0
  rw [Try.params4] at hA hval
  obtain ⟨v0, vs0, d0, ds0, p0, q0, hargs, rfl, rfl, h0, r0⟩ := trodAll_cons hA
  obtain ⟨v1, vs1, d1, ds1, p1, q1, rfl, rfl, rfl, h1, r1⟩ := trodAll_cons r0
  obtain ⟨rfl, rfl, rfl⟩ := trodAll_nil r1
  obtain rfl : args = #[v0, v1] := by cases args; simp_all
  obtain ⟨rfl, rfl⟩ := trodVars_none hV
  obtain ⟨al, lenl, cl, rfl⟩ := okWide_slice Try.underlying22 (hval 0 22 v0 rfl rfl)
  have k0 := h0
  have lt0 : ∀ x ∈ p0, x.block < W.heap.size := by obtain ⟨m, hm⟩ := k0; exact DataW.trod_lt m _ _ _ hm
  obtain ⟨l, rfl, sl, ll⟩ := strs_read h0
  obtain ⟨mk, rfl, rfl, rfl, wmk⟩ := open_int Try.underlying5 (hval 1 5 v1 rfl rfl) h1
  clear hA0 hval0
  refine (walk W al cl l sl ll mk (u8_wf wmk)).mono fun e W' ⟨he, bel⟩ => ?_
  subst he
  exact ⟨_, rfl, _, _, _, [], _, [], hW', trodAll_mk1 (shut_bool Try.underlying4 _), (trodAll_cons_mk (Below.trod laidOut (by kernel_rfl) (of_decide_eq_true (by kernel_rfl)) k0 bel lt0) (trodAll_cons_mk (shut_int Try.underlying5 wmk) trodAll_mk0)), rfl, bel.frame _, fun h => by cases h⟩

theorem over : Rows.nodeFlushedRow.holds Try.pinned (OpenSpec.ofChange Rows.nodeFlushedSpec) :=
  OpenClaim.holds_of_wide 4 Try.f4 rfl rfl rfl rfl rfl rfl rfl ⟨rfl, rfl, rfl, rfl, rfl⟩ rfl rfl rfl rfl rfl (by kernel_rfl) Try.func4 (by kernel_rfl)
    (of_decide_eq_true (by kernel_rfl)) (by unfold Func.isWrapper; first | (rw [if_pos (by decide +kernel)]; kernel_rfl) | (rw [if_neg (by decide +kernel)]; exact ⟨rfl, rfl⟩))
    (fun os started H enc _ => lifted os started H enc)
end Go.Proofs.Ytgakbdofjlhoeaa.SL.LNodeFlushed
namespace Go.Proofs.Ytgakbdofjlhoeaa
/-- The row. -/
theorem nodeFlushed_holds : Rows.NodeFlushedSaid := SL.LNodeFlushed.over
#print axioms nodeFlushed_holds
end Go.Proofs.Ytgakbdofjlhoeaa
