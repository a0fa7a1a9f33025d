/- From a row's readings of its arguments to what lies in memory, and back: for laws. -/
import Derived.Test.YtbaecpddhdeapaaSLH
import Derived.ProofKit
import Derived.OpenShut
import Derived.ShutString
import Derived.ChangeOld
import Derived.Below
import Derived.SizedLaws
import Derived.Deep.Slices
import Derived.Deep.Fields
namespace Go.Proofs.Ytbaecpddhdeapaa.SL
open Go Go.RowKit Go.ChangeShapes Go.WideShapes

theorem list_of {α : Type} (φ : Nat → α → Prop) : ∀ (n : Nat), (∀ i, i < n → ∃ x, φ i x) → ∃ l : List α, l.length = n ∧ ∀ i x, l[i]? = some x → φ i x
  | 0, _ => ⟨[], rfl, fun i x h => by simp at h⟩
  | n + 1, h => by
    obtain ⟨l, hl, hx⟩ := list_of φ n fun i hi => h i (by omega)
    obtain ⟨x, hn⟩ := h n (by omega)
    refine ⟨l ++ [x], by simp [hl], fun i y hi => ?_⟩
    rcases Nat.lt_or_ge i l.length with hlt | hge
    · rw [List.getElem?_append_left hlt] at hi; exact hx i y hi
    · rw [List.getElem?_append_right hge] at hi
      have h0 : i - l.length = 0 := by
        have := (List.getElem?_eq_some_iff.1 hi).1
        simp at this; omega
      rw [h0] at hi
      simp at hi
      subst hi
      have : i = n := by omega
      subst this; exact hn

section
variable {H : Type} {enc : TypeId × Value → H} {P : Program} {w : World} {base : Nat} {spare : Nat → Bool} {held : Bool}

/-- A field of one cell, in an element that was read. -/
theorem field_read {e : TypeId} {fs : Array Field} {fuel : Nat} {cs : List Value} {x : DataW H × List MemPlace} (he : P.underlying e = some (.struct fs)) (hone : Go.Deep.oneCellFields P fs = true) (hC : P.cellsOf e = fs.size)
    (hx : DataW.trod enc P w base spare held fuel e cs = some x) {j : Nat} {f : Field} (hf : fs[j]? = some f) : ∃ v m y, cs[j]? = some v ∧ DataW.trod enc P w base spare held m f.type [v] = some y := by
  obtain ⟨xs, m, _, _, hlen, hxl, hall⟩ := DataW.trod_struct he hx
  obtain ⟨ho, hc⟩ := Go.Deep.hone_of hone j f hf
  have hj : j < xs.length := by rw [hxl]; exact (Array.getElem?_eq_some_iff.1 hf).1
  have h1 := hall j f hf
  rw [ho, hc, List.getElem?_eq_getElem hj] at h1
  have hjl : j < cs.length := by rw [hlen, hC, ← hxl]; exact hj
  have hcs : cs[j]? = some cs[j] := List.getElem?_eq_getElem hjl
  have hd : (cs.drop j).take 1 = [cs[j]] := by rw [List.drop_eq_getElem_cons hjl]; rfl
  rw [hd] at h1
  exact ⟨cs[j], m, _, hcs, h1⟩

/-- An element of a slice that was read. -/
theorem elem_read {t e : TypeId} {fuel : Nat} {a : Option Addr} {len cap : Nat} {x : DataW H × List MemPlace} (ht : P.underlying t = some (.slice e)) (hx : DataW.trod enc P w base spare held fuel t [.slice a len cap] = some x) (hsp : ∀ k, spare k = true) :
    cap ≤ maxLen ∧ len ≤ cap ∧ ∀ i, i < len → ∃ p cs m y, a = some p ∧ cs.length = P.cellsOf e ∧ (∀ j v, cs[j]? = some v → w.cell? ((p.add (i * P.cellsOf e)).add j) = some v) ∧ DataW.trod enc P w base spare held m e cs = some y := by
  rcases Go.Deep.open_slice ht hx with ⟨h0, _⟩ | ⟨b, len', cap', m, n, D, Pl, hcs, _, hle, hm, hmm, _, hi⟩
  · simp only [List.cons.injEq, Value.slice.injEq, and_true] at h0
    obtain ⟨rfl, rfl, rfl⟩ := h0
    exact ⟨Nat.zero_le _, Nat.le_refl _, fun i h => absurd h (Nat.not_lt_zero _)⟩
  · simp only [List.cons.injEq, Value.slice.injEq, and_true] at hcs
    obtain ⟨rfl, rfl, rfl⟩ := hcs
    refine ⟨hm, hle, fun i h => ?_⟩
    rw [hsp] at hmm
    simp only [if_true] at hmm
    obtain ⟨cs, hc, htr⟩ := hi i (by omega)
    obtain ⟨_, hl, hcell⟩ := World.cells?_some hc
    refine ⟨b, cs, n, _, rfl, hl, fun j v hj => ?_, htr⟩
    have hjl : j < P.cellsOf e := by rw [← hl]; exact (List.getElem?_eq_some_iff.1 hj).1
    rw [hcell j hjl, hj]

theorem int_read {t : TypeId} {k : IntKind} {fuel : Nat} {v : Value} {x : DataW H × List MemPlace} (ht : P.underlying t = some (.int k)) (h : DataW.trod enc P w base spare held fuel t [v] = some x) : ∃ n, v = .int k n ∧ (Lit.int k n).wf = true := by
  obtain ⟨n, hn, _, hw⟩ := DataW.trod_int ht h
  simp at hn
  exact ⟨n, hn, hw⟩
theorem str_read {t : TypeId} {fuel : Nat} {v : Value} {x : DataW H × List MemPlace} (ht : P.underlying t = some .string) (h : DataW.trod enc P w base spare held fuel t [v] = some x) : ∃ b : ByteArray, v = .string b ∧ b.size ≤ maxLen := by
  obtain ⟨b, hb, _, hw⟩ := DataW.trod_string ht h
  simp at hb
  exact ⟨b, hb, hw⟩
theorem u8_read {t : TypeId} {fuel : Nat} {v : Value} {x : DataW H × List MemPlace} (ht : P.underlying t = some (.int .u8)) (h : DataW.trod enc P w base spare held fuel t [v] = some x) : ∃ c : UInt8, v = .int .u8 c.toNat := by
  obtain ⟨n, rfl, hw⟩ := int_read ht h
  have h2 : 0 ≤ n ∧ n < 256 := by
    simp [Lit.wf] at hw
    have e1 : IntKind.u8.min = 0 := rfl
    have e2 : IntKind.u8.max = 255 := by decide
    omega
  refine ⟨UInt8.ofNat n.toNat, ?_⟩
  have : (UInt8.ofNat n.toNat).toNat = n.toNat := by
    rw [UInt8.toNat_ofNat']
    omega
  rw [this]
  congr 1
  omega
/-- A slice of bytes that was read. -/
theorem bytes_read {t e : TypeId} {fuel : Nat} {v : Value} {x : DataW H × List MemPlace} (ht : P.underlying t = some (.slice e)) (he : P.underlying e = some (.int .u8)) (hc : P.cellsOf e = 1) (h : DataW.trod enc P w base spare held fuel t [v] = some x) (hsp : ∀ k, spare k = true) :
    ∃ (a : Option Addr) (cap : Nat) (bs : List UInt8), v = .slice a bs.length cap ∧ match a with
      | some a => ∀ j u, (bs.map fun b => Value.int .u8 b.toNat)[j]? = some u → w.cell? (a.add j) = some u
      | none => (bs.map fun b => Value.int .u8 b.toNat) = [] := by
  rcases open_ints ht he hc h with ⟨h0, _⟩ | ⟨a, len, cap, zs, h0, _, hle, _, hz, _, hcell, hwf⟩
  · simp at h0
    subst h0
    exact ⟨none, 0, [], rfl, rfl⟩
  · simp at h0
    subst h0
    rw [hsp] at hz
    simp only [if_true] at hz
    let bs : List UInt8 := (zs.take len).map fun n => UInt8.ofNat n.toNat
    have hbl : bs.length = len := by simp [bs]; omega
    refine ⟨some a, cap, bs, by rw [hbl], fun j u hj => ?_⟩
    have hjl : j < len := by have := (List.getElem?_eq_some_iff.1 hj).1; simp at this; omega
    have hz0 : j < zs.length := by omega
    have h1 := hcell j hz0
    rw [h1]
    have hzd : zs.getD j 0 = zs[j] := by rw [List.getD_eq_getElem?_getD, List.getElem?_eq_getElem hz0]; rfl
    have hw := hwf zs[j] (List.getElem_mem hz0)
    have h2 : 0 ≤ zs[j] ∧ zs[j] < 256 := by
      simp [Lit.wf] at hw
      have e1 : IntKind.u8.min = 0 := rfl
      have e2 : IntKind.u8.max = 255 := by decide
      omega
    have hu : u = .int .u8 (UInt8.ofNat zs[j].toNat).toNat := by
      rw [List.getElem?_map] at hj
      have : bs[j]? = some (UInt8.ofNat zs[j].toNat) := by
        simp only [bs, List.getElem?_map, List.getElem?_take_of_lt hjl, List.getElem?_eq_getElem hz0, Option.map_some]
      rw [this] at hj
      simpa using hj.symm
    rw [hu, hzd, UInt8.toNat_ofNat']
    congr 2
    omega
end
end Go.Proofs.Ytbaecpddhdeapaa.SL
