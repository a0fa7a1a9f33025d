/- The data of package marker: markers in memory. -/
import Derived.Test.YtbaecpddhdeapaaSLR
import Derived.Test.YtbaecpddhdeapaaProg
namespace Go.Proofs.Ytbaecpddhdeapaa.SL
open Go Go.RowKit

structure Mark where
  key : ByteArray
  ses : Int
  req : Int
instance : DecidableEq Mark := fun a b => decidable_of_iff (a.key = b.key ∧ a.ses = b.ses ∧ a.req = b.req) (by cases a; cases b; simp)
def markV (x : Mark) : Value := .agg #[.string x.key, .int .i64 x.ses, .int .i64 x.req]
theorem markV_inj (a b : Mark) (h : markV a = markV b) : a = b := by
  cases a; cases b
  simp only [markV, Value.agg.injEq, Array.mk.injEq, List.cons.injEq, Value.string.injEq, Value.int.injEq, true_and, and_true] at h
  simp [h.1, h.2.1, h.2.2]
theorem ba_bits (a : ByteArray) : (a == a) = true := by rw [ba_beq]; simp
theorem markV_bits (k : Mark) : Instr.sameBits 10000 (markV k) (markV k) = true := by
  show Instr.sameBits (9999 + 1) (.agg #[.string k.key, .int .i64 k.ses, .int .i64 k.req]) (.agg #[.string k.key, .int .i64 k.ses, .int .i64 k.req]) = true
  simp [Instr.sameBits, ba_bits]
def KM : KTy Mark := { kt := 34, enc := markV, bits := markV_bits, inj := markV_inj }
theorem EqJ_mark (a b : Mark) : EqJ Try.prog 10000 34 (markV a) (markV b) (decide (a = b)) :=
  (EqJ_struct Try.underlying34 (by kernel_rfl) (.cons rfl (PartJ_cell Try.underlying9 rfl .z) (PartJ_cell Try.underlying9 rfl .z) (EqJ_str Try.underlying9)
    (.cons rfl (PartJ_cell Try.underlying3 rfl (.s .z)) (PartJ_cell Try.underlying3 rfl (.s .z)) (EqJ_int Try.underlying3)
      (.cons rfl (PartJ_cell Try.underlying3 rfl (.s (.s .z))) (PartJ_cell Try.underlying3 rfl (.s (.s .z))) (EqJ_int Try.underlying3) .nil)))).to (by
    cases a; cases b
    rw [Bool.eq_iff_iff]
    simp)
theorem ChkJ_mark (b : Bool) (k : Mark) : ChkJ Try.prog b 10000 34 (markV k) :=
  ChkJ_struct Try.underlying34 (.cons (PartJ_cell Try.underlying9 rfl .z) (ChkJ_str Try.underlying9)
    (.cons (PartJ_cell Try.underlying3 rfl (.s .z)) (ChkJ_int Try.underlying3) (.cons (PartJ_cell Try.underlying3 rfl (.s (.s .z))) (ChkJ_int Try.underlying3) .nil)))
theorem KM_ok : KOk Try.prog KM := KOk_struct Try.underlying34 ChkJ_mark EqJ_mark

abbrev MkC (g m : Nat) (limit : Int) : HP := pt g (.cells #[.int .i64 limit, .map (some m)] 53 (0, 0))
def encM (L : List Mark) : List (Mark × Value) := L.map fun x => (x, .bool true)
/-- A table of markers. -/
def MarksP (g : Nat) (limit : Int) (L : List Mark) : HP := fun h => ∃ m, stars [MkC g m limit, Mp KM m (encM L)] h
theorem MarksP_opens (g : Nat) (limit : Int) (L : List Mark) : Opens (MarksP g limit L) fun l => ∃ m, l = [MkC g m limit, Mp KM m (encM L)] := by
  rintro h ⟨m, hs⟩
  exact ⟨_, ⟨m, rfl⟩, hs⟩
theorem MarksP_close {g m : Nat} {limit : Int} {L : List Mark} : Imp [MkC g m limit, Mp KM m (encM L)] [MarksP g limit L] := fun h hh =>
  ⟨h, fun _ _ x => x, sep_emp ⟨m, hh⟩⟩
theorem encM_len (L : List Mark) : (encM L).length = L.length := by simp [encM]
theorem encM_keys (L : List Mark) : (encM L).map (·.1) = L := by simp [encM, Function.comp_def]
theorem encM_get (x : Mark) : ∀ L : List Mark, mget x (encM L) = if x ∈ L then some (.bool true) else none
  | [] => by simp [encM, mget]
  | y :: l => by
    have ih := encM_get x l
    simp only [encM, List.map_cons, mget] at ih ⊢
    by_cases h : x = y
    · simp [h]
    · simp [h, ih]
theorem encM_at (x : Mark) (L : List Mark) : (mget x (encM L)).getD (.bool false) = .bool (decide (x ∈ L)) := by
  rw [encM_get]; by_cases h : x ∈ L <;> simp [h]
theorem encM_del (x : Mark) : ∀ L : List Mark, mdel x (encM L) = encM (L.erase x)
  | [] => rfl
  | y :: l => by
    have ih := encM_del x l
    simp only [encM, List.map_cons, mdel] at ih ⊢
    by_cases h : x = y
    · subst h; simp
    · rw [if_neg h, List.erase_cons_tail (by simpa using Ne.symm h), ih]; rfl
theorem encM_put (x : Mark) : ∀ L : List Mark, mput x (.bool true) (encM L) = encM (if x ∈ L then L else L ++ [x])
  | [] => by simp [encM, mput]
  | y :: l => by
    have ih := encM_put x l
    simp only [encM, List.map_cons, mput] at ih ⊢
    by_cases h : x = y
    · subst h; simp
    · rw [if_neg h, ih]
      by_cases h2 : x ∈ l
      · simp [h2]
      · simp [h, h2]
/-- Set: is it well, and what it leaves. -/
def setR (x : Mark) (limit : Int) (L : List Mark) : Bool × List Mark :=
  if x ∈ L then (true, L) else if limit ≤ (L.length : Int) then (false, L) else (true, L ++ [x])
def hasR (key : ByteArray) (L : List Mark) : Bool := L.any fun x => decide (x.key = key)
theorem hasR_erase {key : ByteArray} : ∀ {todo : List Mark} {j : Nat} {k : Mark}, todo[j]? = some k → ¬ k.key = key → hasR key (todo.eraseIdx j) = hasR key todo
  | [], _, _, h, _ => by simp at h
  | x :: l, 0, k, h, hk => by simp at h; subst h; simp [hasR, hk]
  | x :: l, j + 1, k, h, hk => by
    have ih := hasR_erase (key := key) (todo := l) (j := j) (k := k) (by simpa using h) hk
    simp only [hasR, List.eraseIdx_cons_succ, List.any_cons] at ih ⊢
    rw [ih]
theorem hasR_yes {key : ByteArray} {todo : List Mark} {j : Nat} {k : Mark} (h : todo[j]? = some k) (hk : k.key = key) : hasR key todo = true := by
  unfold hasR
  rw [List.any_eq_true]
  exact ⟨k, List.mem_of_getElem? h, by simpa using hk⟩
end Go.Proofs.Ytbaecpddhdeapaa.SL
