/- The law of package lru: its data, and the contracts in one form for both sides. -/
import Derived.Test.Ytknddpcjmenmaaas06LrZ
import Derived.Test.Ytknddpcjmenmaaas06RfY
namespace Go.Proofs.Ytknddpcjmenmaaa.SL
open Go Go.RowKit

theorem RGetUse_any (g : Nat) (L : List It) (room kept : Int) (key : ByteArray) (t : It) (h : findK key L = some t) (hl : L.length ≤ 1000000) :
    Spec Try.prog 11 #[.pointer (some ⟨g, 0, none⟩), .string key, .bool true] [RCacheP g L room kept] fun v C => v = .tuple #[.int .i64 t.val, .bool true] ∧ C = [RCacheP g (t :: dropK key L) room kept] := by
  obtain ⟨A, B, rfl, rfl, hA⟩ := foundI h
  rw [drop_at hA]
  exact RGet_use g A B t room kept hA hl
theorem RGetSee_any (g : Nat) (L : List It) (room kept : Int) (key : ByteArray) (t : It) (h : findK key L = some t) (hl : L.length ≤ 1000000) :
    Spec Try.prog 11 #[.pointer (some ⟨g, 0, none⟩), .string key, .bool false] [RCacheP g L room kept] fun v C => v = .tuple #[.int .i64 t.val, .bool true] ∧ C = [RCacheP g L room kept] := by
  obtain ⟨A, B, rfl, rfl, hA⟩ := foundI h
  exact RGet_see g A B t room kept hA hl
theorem RUsed_any (g : Nat) (L : List It) (room kept : Int) (hI : LOk L room kept) : Spec Try.prog 20 #[.pointer (some ⟨g, 0, none⟩)] [RCacheP g L room kept] fun v C => v = .int .i64 (szs L + kept) ∧ C = [RCacheP g L room kept] := by
  refine Spec.opens (RCacheP_opens _ _ _ _) ?_
  rintro _ ⟨a, cap, rfl⟩
  refine (RUsed_raw g L room kept a cap hI).conv (F := []) (by simpa using Imp.refl _) ?_
  rintro v C ⟨h1, rfl⟩
  exact ⟨_, ⟨h1, rfl⟩, by simpa using RCacheP_close rfl⟩
theorem RCacheP_new (g : Nat) (room : Int) (R : List HP) : Imp (pt g (.cells #[.slice none 0 0, .int .i64 room, .int .i64 0] 29 (0, 0)) :: R) (RCacheP g [] room 0 :: R) :=
  .trans (Row_none ThT).imp_add (.swap (C := [RfC g none ([] : List It).length 0 room 0, Row ThT none 0 []]) (.cons (by first | ((repeat (first | with_reducible exact .here | apply Pick.there)); done) | ((repeat (first | exact .here | apply Pick.there)); done)) (.cons (by first | ((repeat (first | with_reducible exact .here | apply Pick.there)); done) | ((repeat (first | exact .here | apply Pick.there)); done)) (Imp.refl _))) (RCacheP_close (L := []) rfl) (.refl _))

structure OpG where
  k : Int
  key : ByteArray
  size : Int
  n : Int
def OpG.enc (o : OpG) : List Value := [.int .i64 o.k, .string o.key, .int .i64 o.size, .int .i64 o.n]
/-- The script as it lies in the world W. -/
def ScriptAt (W : World) (a : Option Addr) (ops : List OpG) : Prop := ∀ i o, ops[i]? = some o → ∃ p, a = some p ∧ (∀ j v, o.enc[j]? = some v → W.cell? ((p.add (i * 4)).add j) = some v) ∧ (-9223372036854775808 ≤ o.size ∧ o.size ≤ 9223372036854775807)

theorem pa1 : putR [] 10 0 ⟨⟨#[97]⟩, 1, 4⟩ = ([], true, [⟨⟨#[97]⟩, 1, 4⟩]) := by rfl
theorem pa2 : putR [⟨⟨#[97]⟩, 1, 4⟩] 10 0 ⟨⟨#[98]⟩, 2, 4⟩ = ([], true, [⟨⟨#[98]⟩, 2, 4⟩, ⟨⟨#[97]⟩, 1, 4⟩]) := by rfl
theorem pa3 : findK ⟨#[97]⟩ [⟨⟨#[98]⟩, 2, 4⟩, ⟨⟨#[97]⟩, 1, 4⟩] = some ⟨⟨#[97]⟩, 1, 4⟩ := by rfl
theorem pa4 : dropK ⟨#[97]⟩ [⟨⟨#[98]⟩, 2, 4⟩, ⟨⟨#[97]⟩, 1, 4⟩] = [⟨⟨#[98]⟩, 2, 4⟩] := by rfl
theorem pa5 : putR [⟨⟨#[97]⟩, 1, 4⟩, ⟨⟨#[98]⟩, 2, 4⟩] 10 0 ⟨⟨#[99]⟩, 3, 4⟩ = ([⟨#[98]⟩], true, [⟨⟨#[99]⟩, 3, 4⟩, ⟨⟨#[97]⟩, 1, 4⟩]) := by rfl
theorem pa6 : getR [⟨⟨#[98]⟩, 2, 4⟩, ⟨⟨#[97]⟩, 1, 4⟩] ⟨#[97]⟩ = [⟨⟨#[97]⟩, 1, 4⟩, ⟨⟨#[98]⟩, 2, 4⟩] := by rfl
theorem la0 : LOk [] 10 0 := .nil (by decide) (by decide) (by decide)
theorem la1 : LOk [⟨⟨#[97]⟩, 1, 4⟩] 10 0 := by have := la0.put ⟨⟨#[97]⟩, 1, 4⟩; rwa [pa1] at this
theorem la2 : LOk [⟨⟨#[98]⟩, 2, 4⟩, ⟨⟨#[97]⟩, 1, 4⟩] 10 0 := by have := la1.put ⟨⟨#[98]⟩, 2, 4⟩; rwa [pa2] at this
theorem la3 : LOk [⟨⟨#[97]⟩, 1, 4⟩, ⟨⟨#[98]⟩, 2, 4⟩] 10 0 := by have := la2.get ⟨#[97]⟩; rwa [pa6] at this
theorem la4 : LOk [⟨⟨#[99]⟩, 3, 4⟩, ⟨⟨#[97]⟩, 1, 4⟩] 10 0 := by have := la3.put ⟨⟨#[99]⟩, 3, 4⟩; rwa [pa5] at this
end Go.Proofs.Ytknddpcjmenmaaa.SL
