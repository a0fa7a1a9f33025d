/- NodeMarked: whatever is handed in, the call returns true and leaves its arguments as they were.
No condition of this text's own: the row's alone. -/
import Derived.Test.YtgakbdofjlhoeaaRows
import Derived.Test.Ytgakbdofjlhoeaas21NlW
import Derived.Test.YtgakbdofjlhoeaaSLI
import Derived.ChangeMaps5
namespace Go.Proofs.Ytgakbdofjlhoeaa.SL.LNodeMarked
open Go Go.RowKit Go.ChangeShapes Go.WideShapes Go.ChangeAt Go.Proofs.Ytgakbdofjlhoeaa.SL

theorem own : ownKnob Try.prog.godebug = none := by kernel_rfl
theorem laidOut : laidOutB Try.prog = true := by kernel_rfl

theorem int_wf {n : Int} (h : (Lit.int .i64 n).wf = true) : -9223372036854775808 ≤ n ∧ n ≤ 9223372036854775807 := by
  simp only [Lit.wf, Bool.and_eq_true, decide_eq_true_eq] at h
  have e1 : IntKind.i64.min = -9223372036854775808 := by decide
  have e2 : IntKind.i64.max = 9223372036854775807 := by decide
  omega
theorem strs_read {H : Type} {enc : TypeId × Value → H} {W : World} {a : Option Addr} {len cap : Nat} {d : DataW H} {p : List MemPlace} (h : DataW.Trod enc Try.prog W 0 (fun _ => true) true 22 (.slice a len cap) d p) :
    ∃ xs : List ByteArray, xs.length = len ∧ StrsAt W a xs ∧ len ≤ 9223372036854775807 := by
  obtain ⟨fuel, hf⟩ := h
  obtain ⟨hm, hle, hel⟩ := elem_read (P := Try.prog) Try.underlying22 hf (fun _ => rfl)
  have hC : Try.prog.cellsOf 9 = 1 := by kernel_rfl
  obtain ⟨xs, hl, hxs⟩ := list_of (fun i (b : ByteArray) => ∃ p, a = some p ∧ W.cell? (p.add (i * 1)) = some (.string b)) len fun i hi => by
    obtain ⟨q, cs, m, y, ha, hcl, hcell, htr⟩ := hel i hi
    rw [hC] at hcl hcell
    obtain ⟨c, rfl⟩ : ∃ c, cs = [c] := by
      match cs, hcl with
      | [c], _ => exact ⟨c, rfl⟩
    obtain ⟨b, rfl, _⟩ := str_read Try.underlying9 htr
    refine ⟨b, q, ha, ?_⟩
    have := hcell 0 _ rfl
    simpa [Addr.add] using this
  exact ⟨xs, hl, fun i b hb => hxs i b hb, by unfold maxLen at hm; omega⟩

theorem walk (W : World) (key : ByteArray) (al : Option Addr) (cl : Nat) (l : List ByteArray) (sl : StrsAt W al l) (ll : l.length ≤ 9223372036854775807) (ses : Int) (hses : -9223372036854775808 ≤ ses ∧ ses ≤ 9223372036854775807) :
    Calls Try.prog 3 #[.string key, .slice al l.length cl, .int .i64 ses] W fun e w' => e = .returned (.bool true) ∧ Below W.heap.size W w' :=
  (NodeMarked_any W key al cl l ses sl ll W W [] (by simpa using Sat_old W)).mono fun e w' ⟨v, C, ⟨hv, hC⟩, he, hs⟩ => by
    subst hv hC
    exact ⟨he, old_below hs .here⟩

set_option maxRecDepth 100000 in
theorem lifted (os : Os) (started : os.Started) (H : Type) (enc : TypeId × Value → H) :
    ReturnsInHanded {} Try.checked os 3 .any (Rows.nodeMarkedSpec.pre6 enc Try.prog Try.f3 Rows.nodeMarkedRow.domain false) (Rows.nodeMarkedSpec.post enc Try.prog Try.f3 false true false false) := by
  refine returnsInHanded_of_change (C := Try.checked) own started (by kernel_rfl) Try.func3
    (ChangeSpec.witness6 (enc := enc) (C := Try.checked) false ⟨#[], #[.string ⟨#[]⟩, .slice none 0 0, .int .i64 0], []⟩ 8 (by kernel_rfl) (by kernel_rfl) (by kernel_rfl) (by kernel_rfl)) ?_
  intro W base args ds gs before hval0 hW hcnd _
  have hval : ∀ (j : Nat) t v, Try.f3.params[j]? = some t → args[j]? = some v → Value.okWide Try.prog W .any base t v := hval0
  have hW' := hW
  obtain ⟨p, q, hA0, hV, rfl, hfz, hnd⟩ := hW
  have hA : DataW.TrodAll enc Try.prog W 0 (fun _ => true) true Try.f3.params.toList args.toList ds p := hA0
  rw [Try.params3] at hA hval
  obtain ⟨v0, vs0, d0, ds0, p0, q0, hargs, rfl, rfl, h0, r0⟩ := trodAll_cons hA
  obtain ⟨v1, vs1, d1, ds1, p1, q1, rfl, rfl, rfl, h1, r1⟩ := trodAll_cons r0
  obtain ⟨v2, vs2, d2, ds2, p2, q2, rfl, rfl, rfl, h2, r2⟩ := trodAll_cons r1
  obtain ⟨rfl, rfl, rfl⟩ := trodAll_nil r2
  obtain rfl : args = #[v0, v1, v2] := by cases args; simp_all
  obtain ⟨rfl, rfl⟩ := trodVars_none hV
  obtain ⟨key, rfl, rfl, rfl, wkey⟩ := Go.ChangeMaps.open_string Try.underlying9 (hval 0 9 v0 rfl rfl) h0
  obtain ⟨al, lenl, cl, rfl⟩ := okWide_slice Try.underlying22 (hval 1 22 v1 rfl rfl)
  have k1 := h1
  have lt1 : ∀ x ∈ p1, x.block < W.heap.size := by obtain ⟨m, hm⟩ := k1; exact DataW.trod_lt m _ _ _ hm
  obtain ⟨l, rfl, sl, ll⟩ := strs_read h1
  obtain ⟨ses, rfl, rfl, rfl, wses⟩ := open_int Try.underlying3 (hval 2 3 v2 rfl rfl) h2
  clear hA0 hval0
  refine (walk W key al cl l sl ll ses (int_wf wses)).mono fun e W' ⟨he, bel⟩ => ?_
  subst he
  exact ⟨_, rfl, _, _, _, [], _, [], hW', trodAll_mk1 (shut_bool Try.underlying4 _), (trodAll_cons_mk (Go.ChangeMaps.shut_string Try.underlying9 wkey) (trodAll_cons_mk (Below.trod laidOut (by kernel_rfl) (of_decide_eq_true (by kernel_rfl)) k1 bel lt1) (trodAll_cons_mk (shut_int Try.underlying3 wses) trodAll_mk0))), rfl, bel.frame _, fun h => by cases h⟩

theorem over : Rows.nodeMarkedRow.holds Try.pinned (OpenSpec.ofChange Rows.nodeMarkedSpec) :=
  OpenClaim.holds_of_wide 3 Try.f3 rfl rfl rfl rfl rfl rfl rfl ⟨rfl, rfl, rfl, rfl, rfl⟩ rfl rfl rfl rfl rfl (by kernel_rfl) Try.func3 (by kernel_rfl)
    (of_decide_eq_true (by kernel_rfl)) (by unfold Func.isWrapper; first | (rw [if_pos (by decide +kernel)]; kernel_rfl) | (rw [if_neg (by decide +kernel)]; exact ⟨rfl, rfl⟩))
    (fun os started H enc _ => lifted os started H enc)
end Go.Proofs.Ytgakbdofjlhoeaa.SL.LNodeMarked
namespace Go.Proofs.Ytgakbdofjlhoeaa
/-- The row. -/
theorem nodeMarked_holds : Rows.NodeMarkedSaid := SL.LNodeMarked.over
#print axioms nodeMarked_holds
end Go.Proofs.Ytgakbdofjlhoeaa
