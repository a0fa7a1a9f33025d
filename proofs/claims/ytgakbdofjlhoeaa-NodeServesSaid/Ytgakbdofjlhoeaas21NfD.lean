/- NodeFlushed: what holds on the way. -/
import Derived.Test.Ytgakbdofjlhoeaas21Fb
import Derived.Test.Ytgakbdofjlhoeaas21NlW
namespace Go.Proofs.Ytgakbdofjlhoeaa.SL
open Go Go.RowKit

def I64T : Ty Int := { e := 2, sz := 1, bytes := 8, enc := fun n => [.int .i64 n], len := fun _ => rfl, one := fun x u h => by simp at h; subst h; rfl, pos := by decide }
theorem row_some {α : Type} {a : Option Nat} {cap : Nat} {xs : List α} (h : a = none → cap = 0 ∧ xs = []) (hx : xs ≠ []) : ∃ g, a = some g := by
  cases a with
  | none => exact absurd (h rfl).2 hx
  | some g => exact ⟨g, rfl⟩
structure FInv (m8 : Int) (k i : Nat) (rm : Int) (N : NodeS) : Prop where
  ok : NOk k N
  ml : (N.marks.length : Int) = min (i : Int) m8
  ms : ∀ x ∈ N.marks, x.ses < i
  rr : N.room = 100000
  kp : N.kept = rm
  r0 : 0 ≤ rm
  r1 : rm ≤ 1032 * (N.marks.length : Int)
theorem FInv.more {m8 : Int} {k k' i : Nat} {rm : Int} {N : NodeS} (h : FInv m8 k i rm N) (hk : k ≤ k') : FInv m8 k' i rm N := { h with ok := h.ok.more hk }
theorem get_keeps (b : ByteArray) (N : NodeS) : (getN b N).2.marks = N.marks ∧ (getN b N).2.room = N.room ∧ (getN b N).2.kept = N.kept := by
  unfold getN
  split
  · exact ⟨rfl, rfl, rfl⟩
  · split <;> exact ⟨rfl, rfl, rfl⟩
theorem put_keeps (b : ByteArray) (v : ItemV) (N : NodeS) : (putN b v N).2.marks = N.marks ∧ (putN b v N).2.room = N.room ∧ (putN b v N).2.kept = N.kept := by
  unfold putN
  split
  · split <;> exact ⟨rfl, rfl, rfl⟩
  · exact ⟨rfl, rfl, rfl⟩
theorem fill_keeps (b : ByteArray) (t : Int) (v : ItemV) (N : NodeS) : (fillN b t v N).2.marks = N.marks ∧ (fillN b t v N).2.room = N.room ∧ (fillN b t v N).2.kept = N.kept := by
  unfold fillN
  split
  · exact put_keeps b v _
  · exact ⟨rfl, rfl, rfl⟩
theorem FInv.get {m8 : Int} {k i : Nat} {rm : Int} {N : NodeS} (h : FInv m8 k i rm N) (b : ByteArray) : FInv m8 (k + 1) i rm (getN b N).2 := by
  obtain ⟨e1, e2, e3⟩ := get_keeps b N
  exact ⟨h.ok.get b, by rw [e1]; exact h.ml, by rw [e1]; exact h.ms, by rw [e2]; exact h.rr, by rw [e3]; exact h.kp, h.r0, by rw [e1]; exact h.r1⟩
theorem FInv.fill {m8 : Int} {k i : Nat} {rm : Int} {N : NodeS} (h : FInv m8 k i rm N) (b : ByteArray) (t : Int) (v : ItemV) : FInv m8 (k + 1) i rm (fillN b t v N).2 := by
  obtain ⟨e1, e2, e3⟩ := fill_keeps b t v N
  exact ⟨h.ok.fill b t v, by rw [e1]; exact h.ml, by rw [e1]; exact h.ms, by rw [e2]; exact h.rr, by rw [e3]; exact h.kp, h.r0, by rw [e1]; exact h.r1⟩
theorem FInv.skip {m8 : Int} {k i : Nat} {rm : Int} {N : NodeS} (h : FInv m8 k i rm N) (hm : ¬ (i : Int) < m8) : FInv m8 k (i + 1) rm N :=
  { h with ml := by have := h.ml; omega, ms := fun x hx => by have := h.ms x hx; omega }
theorem FInv.mark {m8 : Int} {k i : Nat} {rm : Int} {N : NodeS} (h : FInv m8 k i rm N) (hm : (i : Int) < m8) (h8 : m8 ≤ 7) {b : ByteArray} (hb : b.size ≤ 1000) :
    (markN ⟨b, i, 1⟩ N).1 = true ∧ FInv m8 k (i + 1) (rm + over b) (markN ⟨b, i, 1⟩ N).2 := by
  have ho := h.ok.mark ⟨b, i, 1⟩
  have hml := h.ml; have hr1 := h.r1; have hr0 := h.r0; have hrr := h.rr; have hkp := h.kp
  have hin : ¬ (⟨b, i, 1⟩ : Mark) ∈ N.marks := fun hx => by have := h.ms _ hx; simp at this
  have hfull : ¬ (32 : Int) ≤ (N.marks.length : Int) := by omega
  have hres : ¬ (over b < 0 ∨ N.room - N.kept < over b) := by unfold over; omega
  have e1 : (resR N.items N.room N.kept (over b)).2.1 = true := by unfold resR; rw [if_neg hres]
  have e2 : (resR N.items N.room N.kept (over b)).2.2.2 = N.kept + over b := by unfold resR; rw [if_neg hres]
  unfold markN at ho ⊢
  rw [if_neg hin, if_neg hfull, if_pos e1] at ho ⊢
  refine ⟨rfl, ho, ?_, fun x hx => ?_, h.rr, by simp only; rw [e2, h.kp], by unfold over; omega, ?_⟩
  · simp only [List.length_append, List.length_singleton]; omega
  · rcases List.mem_append.1 hx with hx | hx
    · have := h.ms x hx; omega
    · simp at hx; subst hx; simp only; omega
  · simp only [List.length_append, List.length_singleton]; unfold over; omega
theorem fStart {m8 : Int} (h : 0 ≤ m8) : FInv m8 0 0 0 (newN 100000 0) := ⟨mNo0, by show (0 : Int) = min ((0 : Nat) : Int) m8; omega, by simp [newN], rfl, rfl, by omega, by simp [newN]⟩
theorem fill_none {N : NodeS} (h : N.lease = []) (b : ByteArray) (t : Int) (v : ItemV) : fillN b t v N = (false, N) := by
  have hu : ¬ (useR b t N.lease).1 = true := by rw [h]; simp [useR, aget]
  unfold fillN; rw [if_neg hu]
theorem tmod8 {n : Int} (h : 0 ≤ n) : n.tmod 8 = n % 8 := Int.tmod_eq_emod_of_nonneg h
theorem tmod2 (i : Nat) : (i : Int).tmod 2 = (i : Int) % 2 := Int.tmod_eq_emod_of_nonneg (by omega)
end Go.Proofs.Ytgakbdofjlhoeaa.SL
