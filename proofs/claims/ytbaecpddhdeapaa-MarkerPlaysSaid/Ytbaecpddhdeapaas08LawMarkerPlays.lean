/- MarkerPlays: whatever is handed in, the call returns true and leaves its arguments as they were.
No condition of this text's own: the row's alone. -/
import Derived.Test.YtbaecpddhdeapaaRows
import Derived.Test.Ytbaecpddhdeapaas08MlP
import Derived.Test.YtbaecpddhdeapaaSLI
namespace Go.Proofs.Ytbaecpddhdeapaa.SL.LMarkerPlays
open Go Go.RowKit Go.ChangeShapes Go.WideShapes Go.ChangeAt Go.Proofs.Ytbaecpddhdeapaa.SL

theorem own : ownKnob Try.prog.godebug = none := by kernel_rfl
theorem laidOut : laidOutB Try.prog = true := by kernel_rfl

theorem int_wf {n : Int} (h : (Lit.int .i64 n).wf = true) : -9223372036854775808 ≤ n ∧ n ≤ 9223372036854775807 := by
  simp only [Lit.wf, Bool.and_eq_true, decide_eq_true_eq] at h
  have e1 : IntKind.i64.min = -9223372036854775808 := by decide
  have e2 : IntKind.i64.max = 9223372036854775807 := by decide
  omega
set_option maxRecDepth 100000 in
theorem script_read {H : Type} {enc : TypeId × Value → H} {W : World} {a : Option Addr} {len cap : Nat} {d : DataW H} {p : List MemPlace} (h : DataW.Trod enc Try.prog W 0 (fun _ => true) true 22 (.slice a len cap) d p) :
    ∃ ops : List OpM, ops.length = len ∧ OpsAt W a ops ∧ len ≤ 9223372036854775807 := by
  obtain ⟨fuel, hf⟩ := h
  obtain ⟨hm, hle, hel⟩ := elem_read (P := Try.prog) Try.underlying22 hf (fun _ => rfl)
  have hC : Try.prog.cellsOf 29 = 4 := by kernel_rfl
  obtain ⟨ops, hl, hops⟩ := list_of (fun i (o : OpM) => ∃ p, a = some p ∧ (∀ j v, o.enc[j]? = some v → W.cell? ((p.add (i * 4)).add j) = some v)) len fun i hi => by
    obtain ⟨q, cs, m, y, ha, hcl, hcell, htr⟩ := hel i hi
    rw [hC] at hcl hcell
    have hone : Go.Deep.oneCellFields Try.prog _ = true := (by kernel_rfl : Go.Deep.oneCellFields Try.prog (match Try.prog.underlying 29 with | some (.struct fs) => fs | _ => #[]) = true)
    have fr := @field_read H enc Try.prog W 0 (fun _ => true) true 29 _ m cs y Try.underlying29 hone hC htr
    obtain ⟨v0, m0, y0, c0, t0⟩ := fr (j := 0) rfl
    obtain ⟨n0, rfl, w0⟩ := int_read Try.underlying3 t0
    obtain ⟨v1, m1, y1, c1, t1⟩ := fr (j := 1) rfl
    obtain ⟨n1, rfl, _⟩ := str_read Try.underlying9 t1
    obtain ⟨v2, m2, y2, c2, t2⟩ := fr (j := 2) rfl
    obtain ⟨n2, rfl, w2⟩ := int_read Try.underlying3 t2
    obtain ⟨v3, m3, y3, c3, t3⟩ := fr (j := 3) rfl
    obtain ⟨n3, rfl, w3⟩ := int_read Try.underlying3 t3
    refine ⟨⟨n0, n1, n2, n3⟩, q, ha, fun j v hj => hcell j v ?_⟩
    match j, hj with
    | 0, hj => simp [OpM.enc] at hj; rw [c0, hj]
    | 1, hj => simp [OpM.enc] at hj; rw [c1, hj]
    | 2, hj => simp [OpM.enc] at hj; rw [c2, hj]
    | 3, hj => simp [OpM.enc] at hj; rw [c3, hj]
    | j + 4, hj => simp [OpM.enc] at hj
  exact ⟨ops, hl, fun i o ho => hops i o ho, by unfold maxLen at hm; omega⟩

theorem walk (W : World) (lim : Int) (hlim : -9223372036854775808 ≤ lim ∧ lim ≤ 9223372036854775807) (aops : Option Addr) (cops : Nat) (ops : List OpM) (sops : OpsAt W aops ops) (lops : ops.length ≤ 9223372036854775807) :
    Calls Try.prog 6 #[.int .i64 lim, .slice aops ops.length cops] W fun e w' => e = .returned (.bool true) ∧ Below W.heap.size W w' :=
  (MarkerPlays_any W lim aops cops ops sops lops W W [] (by simpa using Sat_old W)).mono fun e w' ⟨v, C, ⟨hv, hC⟩, he, hs⟩ => by
    subst hv hC
    exact ⟨he, old_below hs .here⟩

set_option maxRecDepth 100000 in
theorem lifted (os : Os) (started : os.Started) (H : Type) (enc : TypeId × Value → H) :
    ReturnsInHanded {} Try.checked os 6 .any (Rows.markerPlaysSpec.pre6 enc Try.prog Try.f6 Rows.markerPlaysRow.domain false) (Rows.markerPlaysSpec.post enc Try.prog Try.f6 false true false false) := by
  refine returnsInHanded_of_change (C := Try.checked) own started (by kernel_rfl) Try.func6
    (ChangeSpec.witness6 (enc := enc) (C := Try.checked) false ⟨#[], #[.int .i64 0, .slice none 0 0], []⟩ 8 (by kernel_rfl) (by kernel_rfl) (by kernel_rfl) (by kernel_rfl)) ?_
  intro W base args ds gs before hval0 hW hcnd _
  have hval : ∀ (j : Nat) t v, Try.f6.params[j]? = some t → args[j]? = some v → Value.okWide Try.prog W .any base t v := hval0
  have hW' := hW
  obtain ⟨p, q, hA0, hV, rfl, hfz, hnd⟩ := hW
  have hA : DataW.TrodAll enc Try.prog W 0 (fun _ => true) true Try.f6.params.toList args.toList ds p := hA0
  rw [Try.params6] at hA hval
  obtain ⟨v0, vs0, d0, ds0, p0, q0, hargs, rfl, rfl, h0, r0⟩ := trodAll_cons hA
  obtain ⟨v1, vs1, d1, ds1, p1, q1, rfl, rfl, rfl, h1, r1⟩ := trodAll_cons r0
  obtain ⟨rfl, rfl, rfl⟩ := trodAll_nil r1
  obtain rfl : args = #[v0, v1] := by cases args; simp_all
  obtain ⟨rfl, rfl⟩ := trodVars_none hV
  obtain ⟨lim, rfl, rfl, rfl, wlim⟩ := open_int Try.underlying3 (hval 0 3 v0 rfl rfl) h0
  obtain ⟨aops, lenops, cops, rfl⟩ := okWide_slice Try.underlying22 (hval 1 22 v1 rfl rfl)
  have k1 := h1
  have lt1 : ∀ x ∈ p1, x.block < W.heap.size := by obtain ⟨m, hm⟩ := k1; exact DataW.trod_lt m _ _ _ hm
  obtain ⟨ops, rfl, sops, lops⟩ := script_read h1
  clear hA0 hval0
  refine (walk W lim (int_wf wlim) aops cops ops sops lops).mono fun e W' ⟨he, bel⟩ => ?_
  subst he
  exact ⟨_, rfl, _, _, _, [], _, [], hW', trodAll_mk1 (shut_bool Try.underlying4 _), (trodAll_cons_mk (shut_int Try.underlying3 wlim) (trodAll_cons_mk (Below.trod laidOut (by kernel_rfl) (of_decide_eq_true (by kernel_rfl)) k1 bel lt1) trodAll_mk0)), rfl, bel.frame _, fun h => by cases h⟩

theorem over : Rows.markerPlaysRow.holds Try.pinned (OpenSpec.ofChange Rows.markerPlaysSpec) :=
  OpenClaim.holds_of_wide 6 Try.f6 rfl rfl rfl rfl rfl rfl rfl ⟨rfl, rfl, rfl, rfl, rfl⟩ rfl rfl rfl rfl rfl (by kernel_rfl) Try.func6 (by kernel_rfl)
    (of_decide_eq_true (by kernel_rfl)) (by unfold Func.isWrapper; first | (rw [if_pos (by decide +kernel)]; kernel_rfl) | (rw [if_neg (by decide +kernel)]; exact ⟨rfl, rfl⟩))
    (fun os started H enc _ => lifted os started H enc)
end Go.Proofs.Ytbaecpddhdeapaa.SL.LMarkerPlays
namespace Go.Proofs.Ytbaecpddhdeapaa
/-- The row. -/
theorem markerPlays_holds : Rows.MarkerPlaysSaid := SL.LMarkerPlays.over
#print axioms markerPlays_holds
end Go.Proofs.Ytbaecpddhdeapaa
